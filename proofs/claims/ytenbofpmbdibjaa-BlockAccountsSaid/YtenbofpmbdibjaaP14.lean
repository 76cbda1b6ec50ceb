/- What Go functions of the program come to: a Lean function and its contract for each. Written by a program of this session over the kit's printer, some contracts by hand. -/
import Derived.Test.YtenbofpmbdibjaaP0
namespace Go.Proofs.Ytenbofpmbdibjaa.P
open Go.RowKit Go.Proofs.YtenbofpmbdibjaaW.PrintWords Go.Proofs.YtenbofpmbdibjaaW.PrintLast Go.Proofs.YtenbofpmbdibjaaW.PrintMore
attribute [local go_sem] max2_int min2_int max_two min_two max_three min_three max_four min_four str_leq str_gtr str_geq   -- for this text's walks alone
set_option linter.unusedVariables false
set_option linter.unusedSimpArgs false

/-! ### block_parts: function 24 -/
mutual
def block_parts.j0 : Nat → Int → Bool → Bool → Bool → ByteArray → List (S54) → Option ((List (S54)) × Bool)
  | 0, _, _, _, _, _, _ => none
  | k + 1, x1, x2, x8, x210000, x210001, x210002 => block_parts.l0 k x1 x2 x8 x210002 (x210002.length : Int) 0 x210000 x210001 x210002
def block_parts.l0 : Nat → Int → Bool → Bool → List (S54) → Int → Int → Bool → ByteArray → List (S54) → Option ((List (S54)) × Bool)
  | 0, _, _, _, _, _, _, _, _, _ => none
  | k + 1, x1, x2, x8, x21, x22, x23, x210000, x210001, x210002 => if x23 < x22 then (if 0 ≤ x23 then (if x23 < (x21.length : Int) then (if x8 = true then (if x2 = true then (block_parts.l0 k x1 x2 (((rd_T54 x21 x23).f0) == (x23 == (wrap64 (x1 - 1)))) x21 x22 (wrap64 (x23 + 1)) x210000 x210001 x210002) else (block_parts.l0 k x1 x2 (((rd_T54 x21 x23).f0) == false) x21 x22 (wrap64 (x23 + 1)) x210000 x210001 x210002)) else (block_parts.l0 k x1 x2 false x21 x22 (wrap64 (x23 + 1)) x210000 x210001 x210002)) else (none)) else (none)) else (some (x210002, x8))
end
def block_parts.f (k : Nat) (a0_0 : Bool) (a0_1 : ByteArray) (l0_2 : List (S54)) (a1 : Int) (a2 : Bool) : Option ((List (S54)) × Bool) := if a0_0 = true then (block_parts.j0 k a1 a2 ((l0_2.length : Int) == a1) a0_0 a0_1 l0_2) else (block_parts.j0 k a1 a2 false a0_0 a0_1 l0_2)
theorem block_parts.mono_l : ∀ k, (∀ y0 y1 y2 y3 y4 y5, LeO (block_parts.j0 k y0 y1 y2 y3 y4 y5) (block_parts.j0 (k + 1) y0 y1 y2 y3 y4 y5)) ∧ (∀ y0 y1 y2 y3 y4 y5 y6 y7 y8, LeO (block_parts.l0 k y0 y1 y2 y3 y4 y5 y6 y7 y8) (block_parts.l0 (k + 1) y0 y1 y2 y3 y4 y5 y6 y7 y8))
  | 0 => ⟨fun _ _ _ _ _ _ r h => by simp [block_parts.j0] at h, fun _ _ _ _ _ _ _ _ _ r h => by simp [block_parts.l0] at h⟩
  | k + 1 => by
    obtain ⟨ih0, ih1⟩ := block_parts.mono_l k
    refine ⟨?_, ?_⟩
    · intro y0 y1 y2 y3 y4 y5
      unfold block_parts.j0
      repeat' first
      | (with_reducible exact ih0 _ _ _ _ _ _)
      | (with_reducible exact ih1 _ _ _ _ _ _ _ _ _)
      | (with_reducible exact LeO.refl _)
      | (with_reducible exact LeO.none _)
      | (with_reducible refine LeO.ite ?_ ?_)
      | (with_reducible refine LeO.bind ?_ (fun _ => ?_))
      | exact ih0 _ _ _ _ _ _
      | exact ih1 _ _ _ _ _ _ _ _ _
      | exact LeO.none _
      | refine LeO.ite ?_ ?_
      | refine LeO.bind ?_ (fun _ => ?_)
    · intro y0 y1 y2 y3 y4 y5 y6 y7 y8
      unfold block_parts.l0
      repeat' first
      | (with_reducible exact ih0 _ _ _ _ _ _)
      | (with_reducible exact ih1 _ _ _ _ _ _ _ _ _)
      | (with_reducible exact LeO.refl _)
      | (with_reducible exact LeO.none _)
      | (with_reducible refine LeO.ite ?_ ?_)
      | (with_reducible refine LeO.bind ?_ (fun _ => ?_))
      | exact ih0 _ _ _ _ _ _
      | exact ih1 _ _ _ _ _ _ _ _ _
      | exact LeO.none _
      | refine LeO.ite ?_ ?_
      | refine LeO.bind ?_ (fun _ => ?_)
theorem block_parts.mono : ∀ a0 a1 a2 a3 a4 k, LeO (block_parts.f k a0 a1 a2 a3 a4) (block_parts.f (k + 1) a0 a1 a2 a3 a4) := by
  intro a0 a1 a2 a3 a4 k
  obtain ⟨ih0, ih1⟩ := block_parts.mono_l k
  unfold block_parts.f
  repeat' first
      | (with_reducible exact ih0 _ _ _ _ _ _)
      | (with_reducible exact ih1 _ _ _ _ _ _ _ _ _)
      | (with_reducible exact LeO.refl _)
      | (with_reducible exact LeO.none _)
      | (with_reducible refine LeO.ite ?_ ?_)
      | (with_reducible refine LeO.bind ?_ (fun _ => ?_))
      | exact ih0 _ _ _ _ _ _
      | exact ih1 _ _ _ _ _ _ _ _ _
      | exact LeO.none _
      | refine LeO.ite ?_ ?_
      | refine LeO.bind ?_ (fun _ => ?_)
set_option maxHeartbeats 8000000 in
set_option maxRecDepth 100000 in
theorem block_parts.calls (k : Nat) (a0_0 : Bool) (a0_1 : ByteArray) (P0_2_ : Nat → Prop) (A0_2 : Option Addr) (c0_2 : Nat) (l0_2 : List (S54)) (a1 : Int) (a2 : Bool) (r1 : List (S54)) (r2 : Bool) (w : World) (hs0_2 : Kd.V k54 54 w w.heap.size (fun k_ => P0_2_ k_) (.slice A0_2 l0_2.length c0_2) l0_2) (h : block_parts.f k a0_0 a0_1 l0_2 a1 a2 = some (r1, r2)) :
    Calls Try.prog 24 #[.agg #[.bool a0_0, .string a0_1, .slice A0_2 l0_2.length c0_2], .int .i64 a1, .bool a2] w fun e w' => ∃ v0_ : Value, e = .returned (.tuple #[v0_, .bool r2]) ∧ Kd.V k54 54 w' w.heap.size (fun k_ => (P0_2_ k_ ∨ w.heap.size ≤ k_)) v0_ r1 ∧ Below w.heap.size w w' := by
  have hu54 := Try.underlying54
  have HO0_2 := Aside0.mk (show Kd.V k54 54 w w.heap.size (fun k_ => (P0_2_ k_ ∨ w.heap.size ≤ k_)) (.slice A0_2 l0_2.length c0_2) l0_2 from Kd.V_mono hs0_2 (fun k_ hk => .inl hk))
  have HB := Aside0.mk (Below.refl w.heap.size w)
  have H : (if a0_0 = true then (block_parts.j0 k a1 a2 ((l0_2.length : Int) == a1) a0_0 a0_1 l0_2) else (block_parts.j0 k a1 a2 false a0_0 a0_1 l0_2)) = some (r1, r2) := h
  clear h
  have HC4 := Aside0.mk H
  clear H
  go_enter Try.func24, Try.ntmps24
  go_upto_region 1 with (first | ((with_reducible refine gate_dst (N := 3) rfl ?_); (try (refine gate_guard (by rfl) ?_; dsimp only)); refine box_event ?hg (N := 3) ?hd (cs := #[.bool a0_0, .string a0_1, .slice A0_2 l0_2.length c0_2]) (t := 54) ?hr ?_; (case hd => rfl); (case hg => rfl); (case hr => first | (go_simp; done) | (go_simp; rfl)); intro gb209 hg w5 hbox hb; have n0_ := Aside0.mk (Kd.V_below (Kd.V_elderB (by (with_reducible repeat (first | apply Kd.V_alloc | apply Kd.V_drewN | apply Kd.V_drew)); exact HO0_2.out) gb209 (Nat.le_of_eq hg.symm)) hb); have n1_ := Aside0.mk (below_step (by repeat (first | (with_reducible first | exact HB.out | apply below_alloc | apply pw_below_drewN | apply below_drew1) | exact HB.out)) hb); have n2_ := Aside0.mk (hbox); have n3_ := Aside0.mk ((by rw [hg]; exact (below_size (by repeat (first | (with_reducible first | exact HB.out | apply below_alloc | apply pw_below_drewN | apply below_drew1) | exact HB.out))) : w.heap.size ≤ gb209)); have n4_ := Aside0.mk ((by rw [hg]; exact (below_size (by repeat (first | (with_reducible first | exact HB.out | apply below_alloc | apply pw_below_drewN | apply below_drew1) | exact HB.out))) : w.heap.size ≤ gb209)); clear HO0_2; clear HB; have HO0_2 := n0_; have HB := n1_; have BK209 := n2_; have GW209 := n3_; have GE209 := n4_; clear n0_ n1_ n2_ n3_ n4_; clear hb hbox hg))
  (try simp only [Act.put, List.setIfInBounds_toArray, List.set_cons_zero, List.set_cons_succ])
  go_cut [8] (fun v8 wc => ∃ (kq : Nat) (x8_3 : Bool), v8 = .bool x8_3 ∧ Aside0 (block_parts.j0 kq a1 a2 x8_3 a0_0 a0_1 l0_2 = some (r1, r2)) ∧ Aside0 (kq ≤ k) ∧ Aside0 (Kd.V k54 54 wc w.heap.size (fun k_ => (P0_2_ k_ ∨ w.heap.size ≤ k_) ∧ k_ ≠ gb209) (.slice A0_2 l0_2.length c0_2) l0_2) ∧ Aside0 (wc.heap[gb209]? = some (.cells #[.bool a0_0, .string a0_1, (.slice A0_2 l0_2.length c0_2)] 54 (0, 0))) ∧ Aside0 (Below w.heap.size w wc))
  case first =>
    have H := HC4.out
    clear HC4
    by_cases c6 : a0_0 = true
    · subst c6
      have H1 : (block_parts.j0 k a1 a2 ((l0_2.length : Int) == a1) true a0_1 l0_2) = some (r1, r2) := by rw [if_pos rfl] at H; exact H
      clear H
      have H := H1
      clear H1
      have H' := Aside0.mk H
      clear H
      have hcz7_0 : w5.cell? ⟨gb209, 0, none⟩ = some (.bool true) := (blk_cell BK209.out 0).trans rfl
      have hcz7_1 : w5.cell? ⟨gb209, 1, none⟩ = some (.string a0_1) := (blk_cell BK209.out 1).trans rfl
      have hcz7_2 : w5.cell? ⟨gb209, 2, none⟩ = some (.slice A0_2 l0_2.length c0_2) := (blk_cell BK209.out 2).trans rfl
      have hfz7_0 := blk_frozen BK209.out 0
      have hfz7_1 := blk_frozen BK209.out 1
      have hfz7_2 := blk_frozen BK209.out 2
      go_wp2
      go_meet
      case rel => exact ⟨_, (((l0_2.length : Int) == a1)), (by first | rfl | (simp; done) | (simp [*]; done)), H', ⟨by first | omega | exact Nat.le_refl _⟩, ⟨by (with_reducible repeat (first | apply Kd.V_alloc | apply Kd.V_drewN | apply Kd.V_drew)); exact HO0_2.out⟩, ⟨by (with_reducible repeat (first | refine blk_drewN ?_ _ | refine blk_drew ?_ | refine blk_alloc ?_ _)); exact BK209.out⟩, ⟨by repeat (first | (with_reducible first | exact HB.out | apply below_alloc | apply pw_below_drewN | apply below_drew1 | refine below_set ?_ GE209.out) | exact HB.out)⟩⟩
    · replace c6 := Bool.eq_false_iff.mpr c6
      subst c6
      have H1 : (block_parts.j0 k a1 a2 false false a0_1 l0_2) = some (r1, r2) := by rw [if_neg (show ¬ (false = true) by decide)] at H; exact H
      clear H
      have H := H1
      clear H1
      have H' := Aside0.mk H
      clear H
      have hcz8_0 : w5.cell? ⟨gb209, 0, none⟩ = some (.bool false) := (blk_cell BK209.out 0).trans rfl
      have hcz8_1 : w5.cell? ⟨gb209, 1, none⟩ = some (.string a0_1) := (blk_cell BK209.out 1).trans rfl
      have hcz8_2 : w5.cell? ⟨gb209, 2, none⟩ = some (.slice A0_2 l0_2.length c0_2) := (blk_cell BK209.out 2).trans rfl
      have hfz8_0 := blk_frozen BK209.out 0
      have hfz8_1 := blk_frozen BK209.out 1
      have hfz8_2 := blk_frozen BK209.out 2
      go_wp2
      go_meet
      case rel => exact ⟨_, (false), (by first | rfl | (simp; done) | (simp [*]; done)), H', ⟨by first | omega | exact Nat.le_refl _⟩, ⟨by (with_reducible repeat (first | apply Kd.V_alloc | apply Kd.V_drewN | apply Kd.V_drew)); exact HO0_2.out⟩, ⟨by (with_reducible repeat (first | refine blk_drewN ?_ _ | refine blk_drew ?_ | refine blk_alloc ?_ _)); exact BK209.out⟩, ⟨by repeat (first | (with_reducible first | exact HB.out | apply below_alloc | apply pw_below_drewN | apply below_drew1 | refine below_set ?_ GE209.out) | exact HB.out)⟩⟩
  case rest =>
    clear HC4
    try clear c2
    try clear p2
    try clear c6
    try clear hcz7_0
    try clear hcz7_1
    try clear hcz7_2
    try clear hcz8_0
    try clear hcz8_1
    try clear hcz8_2
    try clear hfz7_0
    try clear hfz7_1
    try clear hfz7_2
    try clear hfz8_0
    try clear hfz8_1
    try clear hfz8_2
    obtain ⟨kq, x8_3, rfl, HA, HJ3, HO_210002, BK209, HB⟩ := hcut
    cases kq with
    | zero => exact absurd HA.out (by simp [block_parts.j0])
    | succ kj3 =>
      have H := HA.out
      clear HA
      simp only [block_parts.j0] at H
      have H' := Aside0.mk H
      clear H
      have hcz9_0 : wc.cell? ⟨gb209, 0, none⟩ = some (.bool a0_0) := (blk_cell BK209.out 0).trans rfl
      have hcz9_1 : wc.cell? ⟨gb209, 1, none⟩ = some (.string a0_1) := (blk_cell BK209.out 1).trans rfl
      have hcz9_2 : wc.cell? ⟨gb209, 2, none⟩ = some (.slice A0_2 l0_2.length c0_2) := (blk_cell BK209.out 2).trans rfl
      have hfz9_0 := blk_frozen BK209.out 0
      have hfz9_1 := blk_frozen BK209.out 1
      have hfz9_2 := blk_frozen BK209.out 2
      go_wp2
      go_loopg [8, 23] kj3 (fun kq v8 v23 w' => ∃ (x8_2 : Bool) (x23_2 : Int), v8 = .bool x8_2 ∧ v23 = .int .i64 x23_2 ∧ Aside0 (block_parts.l0 kq a1 a2 x8_2 l0_2 (l0_2.length : Int) x23_2 a0_0 a0_1 l0_2 = some (r1, r2)) ∧ Aside0 (kq ≤ kj3) ∧ Aside0 (Kd.V k54 54 w' w.heap.size (fun k_ => (P0_2_ k_ ∨ w.heap.size ≤ k_) ∧ k_ ≠ gb209) (.slice A0_2 l0_2.length c0_2) l0_2) ∧ Aside0 (Kd.V k54 54 w' w.heap.size (fun k_ => (P0_2_ k_ ∨ w.heap.size ≤ k_) ∧ k_ ≠ gb209) (.slice A0_2 l0_2.length c0_2) l0_2) ∧ Aside0 (w'.heap[gb209]? = some (.cells #[.bool a0_0, .string a0_1, (.slice A0_2 l0_2.length c0_2)] 54 (0, 0))) ∧ Aside0 (Below w.heap.size w w'))
      case atStart => exact ⟨(x8_3), (0), (by first | rfl | (simp; done) | (simp [*]; done)), (by first | rfl | (simp; done) | (simp [*]; done)), H', ⟨Nat.le_refl _⟩, ⟨by (with_reducible repeat (first | apply Kd.V_alloc | apply Kd.V_drewN | apply Kd.V_drew)); exact HO_210002.out⟩, ⟨by (with_reducible repeat (first | apply Kd.V_alloc | apply Kd.V_drewN | apply Kd.V_drew)); exact HO_210002.out⟩, ⟨by (with_reducible repeat (first | refine blk_drewN ?_ _ | refine blk_drew ?_ | refine blk_alloc ?_ _)); exact BK209.out⟩, ⟨by repeat (first | (with_reducible first | exact HB.out | apply below_alloc | apply pw_below_drewN | apply below_drew1 | refine below_set ?_ GE209.out) | exact HB.out)⟩⟩
      case round =>
        clear H'
        try clear c2
        try clear p2
        try clear c6
        try clear hcz7_0
        try clear hcz7_1
        try clear hcz7_2
        try clear hcz8_0
        try clear hcz8_1
        try clear hcz8_2
        try clear hcz9_0
        try clear hcz9_1
        try clear hcz9_2
        try clear hfz7_0
        try clear hfz7_1
        try clear hfz7_2
        try clear hfz8_0
        try clear hfz8_1
        try clear hfz8_2
        try clear hfz9_0
        try clear hfz9_1
        try clear hfz9_2
        try clear p2
        obtain ⟨x8_2, x23_2, rfl, rfl, HA, HK2, HO_21, HO_210002, BK209, HB⟩ := hrel
        cases gk with
        | zero => exact absurd HA.out (by simp [block_parts.l0])
        | succ k2 =>
          have H := HA.out
          clear HA
          simp only [block_parts.l0] at H
          by_cases c10 : x23_2 < (l0_2.length : Int)
          · rw [if_pos c10] at H
            have c10b0 : decide (x23_2 < (l0_2.length : Int)) = true := decide_eq_true c10
            clear c10
            by_cases c11 : 0 ≤ x23_2
            · rw [if_pos c11] at H
              have c11b0 : decide (0 ≤ x23_2) = true := decide_eq_true c11
              clear c11
              by_cases c12 : x23_2 < (l0_2.length : Int)
              · rw [if_pos c12] at H
                have c12b0 : decide (x23_2 < (l0_2.length : Int)) = true := decide_eq_true c12
                clear c12
                by_cases c13 : x8_2 = true
                · subst c13
                  have H1 : (if a2 = true then (block_parts.l0 k2 a1 a2 (((rd_T54 l0_2 x23_2).f0) == (x23_2 == (wrap64 (a1 - 1)))) l0_2 (l0_2.length : Int) (wrap64 (x23_2 + 1)) a0_0 a0_1 l0_2) else (block_parts.l0 k2 a1 a2 (((rd_T54 l0_2 x23_2).f0) == false) l0_2 (l0_2.length : Int) (wrap64 (x23_2 + 1)) a0_0 a0_1 l0_2)) = some (r1, r2) := by rw [if_pos rfl] at H; exact H
                  clear H
                  have H := H1
                  clear H1
                  by_cases c14 : a2 = true
                  · subst c14
                    have H1 : (block_parts.l0 k2 a1 true (((rd_T54 l0_2 x23_2).f0) == (x23_2 == (wrap64 (a1 - 1)))) l0_2 (l0_2.length : Int) (wrap64 (x23_2 + 1)) a0_0 a0_1 l0_2) = some (r1, r2) := by rw [if_pos rfl] at H; exact H
                    clear H
                    have H := H1
                    clear H1
                    have H' := Aside0.mk H
                    clear H
                    have p210 : 0 ≤ (x23_2 : Int) := of_decide_eq_true (by first | (with_reducible assumption) | assumption)
                    have q210 : x23_2 < (l0_2.length : Int) := of_decide_eq_true (by first | (with_reducible assumption) | assumption)
                    obtain ⟨ad210, A210_2, c210_2, e210, hx210_0, hx210_1, hx210_2, hl210_2, hi210_2⟩ := at_T54 (Kd.V_reads' HO_21.out).2.2 x23_2 p210 q210
                    cases e210
                    obtain ⟨ce210, hce210, hMe210, hcc210⟩ := Kd.V_get HO_21.out z54 x23_2 p210 (by first | exact q210 | exact of_decide_eq_true (by first | (with_reducible assumption) | assumption) | (have e_ := (Kd.V_reads' HO_21.out).1; omega))
                    obtain ⟨ua210_2, uc210_2, rfl, ul210_2, ge210_2⟩ := k54_openF hMe210
                    have hv210_2 := hcc210 2 _ rfl
                    rw [add_field _ _ 2 (by omega)] at hv210_2
                    replace hv210_2 := Option.some.inj (hv210_2.symm.trans hx210_2)
                    injection hv210_2 with hva_ hvn_ hvc_
                    rw [hva_] at ge210_2
                    rw [hvc_] at ul210_2
                    have HL210_2 := Aside0.mk (show Kd.V k54 54 _ w.heap.size _ _ ((rd_T54 l0_2 x23_2).f2) from Kd.V_mk ul210_2 ge210_2)
                    clear hva_ hvn_ hvc_ ge210_2 ul210_2
                    clear hcc210 hce210
                    have HR210_2 := Aside0.mk hi210_2
                    have HC210_2 := Aside0.mk hl210_2
                    clear hi210_2 hl210_2
                    replace p210 := eq_true p210
                    replace q210 := eq_true q210
                    go_wp2_with (first | ((with_reducible refine gate_dst (N := 10) rfl ?_); (try (refine gate_guard (by rfl) ?_; dsimp only)); refine box_event ?hg (N := 10) ?hd (cs := #[.bool false, .string (⟨#[]⟩ : ByteArray), .slice none 0 0]) (t := 54) ?hr ?_; (case hd => rfl); (case hg => rfl); (case hr => first | (go_simp; done) | (go_simp; rfl)); intro gb211 hg w15 hbox hb; have n0_ := Aside0.mk (Kd.V_below (Kd.V_elderB (by (with_reducible repeat (first | apply Kd.V_alloc | apply Kd.V_drewN | apply Kd.V_drew)); exact HO_21.out) gb211 (Nat.le_of_eq hg.symm)) hb); have n1_ := Aside0.mk (Kd.V_below (Kd.V_elderB (by (with_reducible repeat (first | apply Kd.V_alloc | apply Kd.V_drewN | apply Kd.V_drew)); exact HO_210002.out) gb211 (Nat.le_of_eq hg.symm)) hb); have n2_ := Aside0.mk (Kd.V_below (Kd.V_elderB (by (with_reducible repeat (first | apply Kd.V_alloc | apply Kd.V_drewN | apply Kd.V_drew)); exact HL210_2.out) gb211 (Nat.le_of_eq hg.symm)) hb); have n3_ := Aside0.mk (blk_below (g := gb209) (o := .cells #[.bool a0_0, .string a0_1, .slice (some ad210) l0_2.length c0_2] 54 (0, 0)) (by (with_reducible repeat (first | refine blk_drewN ?_ _ | refine blk_drew ?_ | refine blk_alloc ?_ _)); exact BK209.out) hb); have n4_ := Aside0.mk (Kd.C_below (by repeat (first | (with_reducible exact HR210_2.out) | (with_reducible refine Kd.C_alloc ?_ _) | (with_reducible refine Kd.C_drewN ?_ _) | (with_reducible refine Kd.C_drew ?_) | exact HR210_2.out)) hb); have n5_ := Aside0.mk (below_step (by repeat (first | (with_reducible first | exact HB.out | apply below_alloc | apply pw_below_drewN | apply below_drew1 | refine below_set ?_ GE209.out) | exact HB.out)) hb); have n6_ := Aside0.mk (hbox); have n7_ := Aside0.mk ((by rw [hg]; exact (below_size (by repeat (first | (with_reducible first | exact HB.out | apply below_alloc | apply pw_below_drewN | apply below_drew1 | refine below_set ?_ GE209.out) | exact HB.out))) : w.heap.size ≤ gb211)); have n8_ := Aside0.mk ((by rw [hg]; exact (below_size (by repeat (first | (with_reducible first | exact HB.out | apply below_alloc | apply pw_below_drewN | apply below_drew1 | refine below_set ?_ GE209.out) | exact HB.out))) : w.heap.size ≤ gb211)); have n9_ := Aside0.mk ((by rw [hg]; exact Nat.ne_of_lt (blk_lt (g := gb209) (o := .cells #[.bool a0_0, .string a0_1, .slice (some ad210) l0_2.length c0_2] 54 (0, 0)) (by (with_reducible repeat (first | refine blk_drewN ?_ _ | refine blk_drew ?_ | refine blk_alloc ?_ _)); exact BK209.out)) : gb209 ≠ gb211)); have n10_ := Aside0.mk ((by rw [hg]; exact Nat.ne_of_gt (blk_lt (g := gb209) (o := .cells #[.bool a0_0, .string a0_1, .slice (some ad210) l0_2.length c0_2] 54 (0, 0)) (by (with_reducible repeat (first | refine blk_drewN ?_ _ | refine blk_drew ?_ | refine blk_alloc ?_ _)); exact BK209.out)) : gb211 ≠ gb209)); clear HO_21; clear HO_210002; clear HL210_2; clear BK209; clear HR210_2; clear HB; have HO_21 := n0_; have HO_210002 := n1_; have HL210_2 := n2_; have BK209 := n3_; have HR210_2 := n4_; have HB := n5_; have BK211 := n6_; have GW211 := n7_; have GE211 := n8_; have NB209_211 := n9_; have NB211_209 := n10_; clear n0_ n1_ n2_ n3_ n4_ n5_ n6_ n7_ n8_ n9_ n10_; clear hb hbox hg; have hnb16 := NB211_209.out; have hnc16 := NB209_211.out; have hcz17_0 : w15.cell? ⟨gb211, 0, none⟩ = some (.bool false) := (blk_cell BK211.out 0).trans rfl; have hcz17_1 : w15.cell? ⟨gb211, 1, none⟩ = some (.string (⟨#[]⟩ : ByteArray)) := (blk_cell BK211.out 1).trans rfl; have hcz17_2 : w15.cell? ⟨gb211, 2, none⟩ = some (.slice none 0 0) := (blk_cell BK211.out 2).trans rfl; have hfz17_0 := blk_frozen BK211.out 0; have hfz17_1 := blk_frozen BK211.out 1; have hfz17_2 := blk_frozen BK211.out 2))
                    go_roundg k2
                    case measure => have := HJ3.out; have := HK2.out; omega
                    case rel => exact ⟨((((rd_T54 l0_2 x23_2).f0) == (x23_2 == (wrap64 (a1 - 1))))), (wrap64 (x23_2 + 1)), (by first | rfl | (simp; done) | (simp [*]; done)), (by first | rfl | (simp; done) | (simp [*]; done)), H', ⟨by have := HJ3.out; have := HK2.out; omega⟩, ⟨by (with_reducible repeat (first | apply Kd.V_alloc | apply Kd.V_drewN | apply Kd.V_drew)); exact Kd.V_mono (Kd.V_far (p := ⟨gb211, 2, none⟩) (Kd.V_far (p := ⟨gb211, 1, none⟩) (Kd.V_far (p := ⟨gb211, 0, none⟩) (Kd.V_mono HO_21.out (fun k_ hk => (⟨hk, hk.2⟩ : _ ∧ k_ ≠ gb211))) (fun _ hk => hk.2) (.bool ((rd_T54 l0_2 x23_2).f0))) (fun _ hk => hk.2) (.string ((rd_T54 l0_2 x23_2).f1))) (fun _ hk => hk.2) (.slice A210_2 ((rd_T54 l0_2 x23_2).f2).length c210_2)) (fun _ hk => ⟨hk.1.1.1, hk.1.1.2⟩)⟩, ⟨by (with_reducible repeat (first | apply Kd.V_alloc | apply Kd.V_drewN | apply Kd.V_drew)); exact Kd.V_mono (Kd.V_far (p := ⟨gb211, 2, none⟩) (Kd.V_far (p := ⟨gb211, 1, none⟩) (Kd.V_far (p := ⟨gb211, 0, none⟩) (Kd.V_mono HO_210002.out (fun k_ hk => (⟨hk, hk.2⟩ : _ ∧ k_ ≠ gb211))) (fun _ hk => hk.2) (.bool ((rd_T54 l0_2 x23_2).f0))) (fun _ hk => hk.2) (.string ((rd_T54 l0_2 x23_2).f1))) (fun _ hk => hk.2) (.slice A210_2 ((rd_T54 l0_2 x23_2).f2).length c210_2)) (fun _ hk => ⟨hk.1.1.1, hk.1.1.2⟩)⟩, ⟨by (with_reducible repeat (first | refine blk_drewN ?_ _ | refine blk_drew ?_ | refine blk_alloc ?_ _)); refine blk_far ?_ NB209_211.out _; (with_reducible repeat (first | refine blk_drewN ?_ _ | refine blk_drew ?_ | refine blk_alloc ?_ _)); refine blk_far ?_ NB209_211.out _; (with_reducible repeat (first | refine blk_drewN ?_ _ | refine blk_drew ?_ | refine blk_alloc ?_ _)); refine blk_far ?_ NB209_211.out _; (with_reducible repeat (first | refine blk_drewN ?_ _ | refine blk_drew ?_ | refine blk_alloc ?_ _)); exact BK209.out⟩, ⟨by repeat (first | (with_reducible first | exact HB.out | apply below_alloc | apply pw_below_drewN | apply below_drew1 | refine below_set ?_ GE209.out | refine below_set ?_ GE211.out) | exact HB.out)⟩⟩
                  · replace c14 := Bool.eq_false_iff.mpr c14
                    subst c14
                    have H1 : (block_parts.l0 k2 a1 false (((rd_T54 l0_2 x23_2).f0) == false) l0_2 (l0_2.length : Int) (wrap64 (x23_2 + 1)) a0_0 a0_1 l0_2) = some (r1, r2) := by rw [if_neg (show ¬ (false = true) by decide)] at H; exact H
                    clear H
                    have H := H1
                    clear H1
                    have H' := Aside0.mk H
                    clear H
                    have p210 : 0 ≤ (x23_2 : Int) := of_decide_eq_true (by first | (with_reducible assumption) | assumption)
                    have q210 : x23_2 < (l0_2.length : Int) := of_decide_eq_true (by first | (with_reducible assumption) | assumption)
                    obtain ⟨ad210, A210_2, c210_2, e210, hx210_0, hx210_1, hx210_2, hl210_2, hi210_2⟩ := at_T54 (Kd.V_reads' HO_21.out).2.2 x23_2 p210 q210
                    cases e210
                    obtain ⟨ce210, hce210, hMe210, hcc210⟩ := Kd.V_get HO_21.out z54 x23_2 p210 (by first | exact q210 | exact of_decide_eq_true (by first | (with_reducible assumption) | assumption) | (have e_ := (Kd.V_reads' HO_21.out).1; omega))
                    obtain ⟨ua210_2, uc210_2, rfl, ul210_2, ge210_2⟩ := k54_openF hMe210
                    have hv210_2 := hcc210 2 _ rfl
                    rw [add_field _ _ 2 (by omega)] at hv210_2
                    replace hv210_2 := Option.some.inj (hv210_2.symm.trans hx210_2)
                    injection hv210_2 with hva_ hvn_ hvc_
                    rw [hva_] at ge210_2
                    rw [hvc_] at ul210_2
                    have HL210_2 := Aside0.mk (show Kd.V k54 54 _ w.heap.size _ _ ((rd_T54 l0_2 x23_2).f2) from Kd.V_mk ul210_2 ge210_2)
                    clear hva_ hvn_ hvc_ ge210_2 ul210_2
                    clear hcc210 hce210
                    have HR210_2 := Aside0.mk hi210_2
                    have HC210_2 := Aside0.mk hl210_2
                    clear hi210_2 hl210_2
                    replace p210 := eq_true p210
                    replace q210 := eq_true q210
                    go_wp2_with (first | ((with_reducible refine gate_dst (N := 10) rfl ?_); (try (refine gate_guard (by rfl) ?_; dsimp only)); refine box_event ?hg (N := 10) ?hd (cs := #[.bool false, .string (⟨#[]⟩ : ByteArray), .slice none 0 0]) (t := 54) ?hr ?_; (case hd => rfl); (case hg => rfl); (case hr => first | (go_simp; done) | (go_simp; rfl)); intro gb211 hg w18 hbox hb; have n0_ := Aside0.mk (Kd.V_below (Kd.V_elderB (by (with_reducible repeat (first | apply Kd.V_alloc | apply Kd.V_drewN | apply Kd.V_drew)); exact HO_21.out) gb211 (Nat.le_of_eq hg.symm)) hb); have n1_ := Aside0.mk (Kd.V_below (Kd.V_elderB (by (with_reducible repeat (first | apply Kd.V_alloc | apply Kd.V_drewN | apply Kd.V_drew)); exact HO_210002.out) gb211 (Nat.le_of_eq hg.symm)) hb); have n2_ := Aside0.mk (Kd.V_below (Kd.V_elderB (by (with_reducible repeat (first | apply Kd.V_alloc | apply Kd.V_drewN | apply Kd.V_drew)); exact HL210_2.out) gb211 (Nat.le_of_eq hg.symm)) hb); have n3_ := Aside0.mk (blk_below (g := gb209) (o := .cells #[.bool a0_0, .string a0_1, .slice (some ad210) l0_2.length c0_2] 54 (0, 0)) (by (with_reducible repeat (first | refine blk_drewN ?_ _ | refine blk_drew ?_ | refine blk_alloc ?_ _)); exact BK209.out) hb); have n4_ := Aside0.mk (Kd.C_below (by repeat (first | (with_reducible exact HR210_2.out) | (with_reducible refine Kd.C_alloc ?_ _) | (with_reducible refine Kd.C_drewN ?_ _) | (with_reducible refine Kd.C_drew ?_) | exact HR210_2.out)) hb); have n5_ := Aside0.mk (below_step (by repeat (first | (with_reducible first | exact HB.out | apply below_alloc | apply pw_below_drewN | apply below_drew1 | refine below_set ?_ GE209.out) | exact HB.out)) hb); have n6_ := Aside0.mk (hbox); have n7_ := Aside0.mk ((by rw [hg]; exact (below_size (by repeat (first | (with_reducible first | exact HB.out | apply below_alloc | apply pw_below_drewN | apply below_drew1 | refine below_set ?_ GE209.out) | exact HB.out))) : w.heap.size ≤ gb211)); have n8_ := Aside0.mk ((by rw [hg]; exact (below_size (by repeat (first | (with_reducible first | exact HB.out | apply below_alloc | apply pw_below_drewN | apply below_drew1 | refine below_set ?_ GE209.out) | exact HB.out))) : w.heap.size ≤ gb211)); have n9_ := Aside0.mk ((by rw [hg]; exact Nat.ne_of_lt (blk_lt (g := gb209) (o := .cells #[.bool a0_0, .string a0_1, .slice (some ad210) l0_2.length c0_2] 54 (0, 0)) (by (with_reducible repeat (first | refine blk_drewN ?_ _ | refine blk_drew ?_ | refine blk_alloc ?_ _)); exact BK209.out)) : gb209 ≠ gb211)); have n10_ := Aside0.mk ((by rw [hg]; exact Nat.ne_of_gt (blk_lt (g := gb209) (o := .cells #[.bool a0_0, .string a0_1, .slice (some ad210) l0_2.length c0_2] 54 (0, 0)) (by (with_reducible repeat (first | refine blk_drewN ?_ _ | refine blk_drew ?_ | refine blk_alloc ?_ _)); exact BK209.out)) : gb211 ≠ gb209)); clear HO_21; clear HO_210002; clear HL210_2; clear BK209; clear HR210_2; clear HB; have HO_21 := n0_; have HO_210002 := n1_; have HL210_2 := n2_; have BK209 := n3_; have HR210_2 := n4_; have HB := n5_; have BK211 := n6_; have GW211 := n7_; have GE211 := n8_; have NB209_211 := n9_; have NB211_209 := n10_; clear n0_ n1_ n2_ n3_ n4_ n5_ n6_ n7_ n8_ n9_ n10_; clear hb hbox hg; have hnb19 := NB211_209.out; have hnc19 := NB209_211.out; have hcz20_0 : w18.cell? ⟨gb211, 0, none⟩ = some (.bool false) := (blk_cell BK211.out 0).trans rfl; have hcz20_1 : w18.cell? ⟨gb211, 1, none⟩ = some (.string (⟨#[]⟩ : ByteArray)) := (blk_cell BK211.out 1).trans rfl; have hcz20_2 : w18.cell? ⟨gb211, 2, none⟩ = some (.slice none 0 0) := (blk_cell BK211.out 2).trans rfl; have hfz20_0 := blk_frozen BK211.out 0; have hfz20_1 := blk_frozen BK211.out 1; have hfz20_2 := blk_frozen BK211.out 2))
                    go_roundg k2
                    case measure => have := HJ3.out; have := HK2.out; omega
                    case rel => exact ⟨((((rd_T54 l0_2 x23_2).f0) == false)), (wrap64 (x23_2 + 1)), (by first | rfl | (simp; done) | (simp [*]; done)), (by first | rfl | (simp; done) | (simp [*]; done)), H', ⟨by have := HJ3.out; have := HK2.out; omega⟩, ⟨by (with_reducible repeat (first | apply Kd.V_alloc | apply Kd.V_drewN | apply Kd.V_drew)); exact Kd.V_mono (Kd.V_far (p := ⟨gb211, 2, none⟩) (Kd.V_far (p := ⟨gb211, 1, none⟩) (Kd.V_far (p := ⟨gb211, 0, none⟩) (Kd.V_mono HO_21.out (fun k_ hk => (⟨hk, hk.2⟩ : _ ∧ k_ ≠ gb211))) (fun _ hk => hk.2) (.bool ((rd_T54 l0_2 x23_2).f0))) (fun _ hk => hk.2) (.string ((rd_T54 l0_2 x23_2).f1))) (fun _ hk => hk.2) (.slice A210_2 ((rd_T54 l0_2 x23_2).f2).length c210_2)) (fun _ hk => ⟨hk.1.1.1, hk.1.1.2⟩)⟩, ⟨by (with_reducible repeat (first | apply Kd.V_alloc | apply Kd.V_drewN | apply Kd.V_drew)); exact Kd.V_mono (Kd.V_far (p := ⟨gb211, 2, none⟩) (Kd.V_far (p := ⟨gb211, 1, none⟩) (Kd.V_far (p := ⟨gb211, 0, none⟩) (Kd.V_mono HO_210002.out (fun k_ hk => (⟨hk, hk.2⟩ : _ ∧ k_ ≠ gb211))) (fun _ hk => hk.2) (.bool ((rd_T54 l0_2 x23_2).f0))) (fun _ hk => hk.2) (.string ((rd_T54 l0_2 x23_2).f1))) (fun _ hk => hk.2) (.slice A210_2 ((rd_T54 l0_2 x23_2).f2).length c210_2)) (fun _ hk => ⟨hk.1.1.1, hk.1.1.2⟩)⟩, ⟨by (with_reducible repeat (first | refine blk_drewN ?_ _ | refine blk_drew ?_ | refine blk_alloc ?_ _)); refine blk_far ?_ NB209_211.out _; (with_reducible repeat (first | refine blk_drewN ?_ _ | refine blk_drew ?_ | refine blk_alloc ?_ _)); refine blk_far ?_ NB209_211.out _; (with_reducible repeat (first | refine blk_drewN ?_ _ | refine blk_drew ?_ | refine blk_alloc ?_ _)); refine blk_far ?_ NB209_211.out _; (with_reducible repeat (first | refine blk_drewN ?_ _ | refine blk_drew ?_ | refine blk_alloc ?_ _)); exact BK209.out⟩, ⟨by repeat (first | (with_reducible first | exact HB.out | apply below_alloc | apply pw_below_drewN | apply below_drew1 | refine below_set ?_ GE209.out | refine below_set ?_ GE211.out) | exact HB.out)⟩⟩
                · replace c13 := Bool.eq_false_iff.mpr c13
                  subst c13
                  have H1 : (block_parts.l0 k2 a1 a2 false l0_2 (l0_2.length : Int) (wrap64 (x23_2 + 1)) a0_0 a0_1 l0_2) = some (r1, r2) := by rw [if_neg (show ¬ (false = true) by decide)] at H; exact H
                  clear H
                  have H := H1
                  clear H1
                  have H' := Aside0.mk H
                  clear H
                  have p210 : 0 ≤ (x23_2 : Int) := of_decide_eq_true (by first | (with_reducible assumption) | assumption)
                  have q210 : x23_2 < (l0_2.length : Int) := of_decide_eq_true (by first | (with_reducible assumption) | assumption)
                  obtain ⟨ad210, A210_2, c210_2, e210, hx210_0, hx210_1, hx210_2, hl210_2, hi210_2⟩ := at_T54 (Kd.V_reads' HO_21.out).2.2 x23_2 p210 q210
                  cases e210
                  obtain ⟨ce210, hce210, hMe210, hcc210⟩ := Kd.V_get HO_21.out z54 x23_2 p210 (by first | exact q210 | exact of_decide_eq_true (by first | (with_reducible assumption) | assumption) | (have e_ := (Kd.V_reads' HO_21.out).1; omega))
                  obtain ⟨ua210_2, uc210_2, rfl, ul210_2, ge210_2⟩ := k54_openF hMe210
                  have hv210_2 := hcc210 2 _ rfl
                  rw [add_field _ _ 2 (by omega)] at hv210_2
                  replace hv210_2 := Option.some.inj (hv210_2.symm.trans hx210_2)
                  injection hv210_2 with hva_ hvn_ hvc_
                  rw [hva_] at ge210_2
                  rw [hvc_] at ul210_2
                  have HL210_2 := Aside0.mk (show Kd.V k54 54 _ w.heap.size _ _ ((rd_T54 l0_2 x23_2).f2) from Kd.V_mk ul210_2 ge210_2)
                  clear hva_ hvn_ hvc_ ge210_2 ul210_2
                  clear hcc210 hce210
                  have HR210_2 := Aside0.mk hi210_2
                  have HC210_2 := Aside0.mk hl210_2
                  clear hi210_2 hl210_2
                  replace p210 := eq_true p210
                  replace q210 := eq_true q210
                  go_wp2_with (first | ((with_reducible refine gate_dst (N := 10) rfl ?_); (try (refine gate_guard (by rfl) ?_; dsimp only)); refine box_event ?hg (N := 10) ?hd (cs := #[.bool false, .string (⟨#[]⟩ : ByteArray), .slice none 0 0]) (t := 54) ?hr ?_; (case hd => rfl); (case hg => rfl); (case hr => first | (go_simp; done) | (go_simp; rfl)); intro gb211 hg w21 hbox hb; have n0_ := Aside0.mk (Kd.V_below (Kd.V_elderB (by (with_reducible repeat (first | apply Kd.V_alloc | apply Kd.V_drewN | apply Kd.V_drew)); exact HO_21.out) gb211 (Nat.le_of_eq hg.symm)) hb); have n1_ := Aside0.mk (Kd.V_below (Kd.V_elderB (by (with_reducible repeat (first | apply Kd.V_alloc | apply Kd.V_drewN | apply Kd.V_drew)); exact HO_210002.out) gb211 (Nat.le_of_eq hg.symm)) hb); have n2_ := Aside0.mk (Kd.V_below (Kd.V_elderB (by (with_reducible repeat (first | apply Kd.V_alloc | apply Kd.V_drewN | apply Kd.V_drew)); exact HL210_2.out) gb211 (Nat.le_of_eq hg.symm)) hb); have n3_ := Aside0.mk (blk_below (g := gb209) (o := .cells #[.bool a0_0, .string a0_1, .slice (some ad210) l0_2.length c0_2] 54 (0, 0)) (by (with_reducible repeat (first | refine blk_drewN ?_ _ | refine blk_drew ?_ | refine blk_alloc ?_ _)); exact BK209.out) hb); have n4_ := Aside0.mk (Kd.C_below (by repeat (first | (with_reducible exact HR210_2.out) | (with_reducible refine Kd.C_alloc ?_ _) | (with_reducible refine Kd.C_drewN ?_ _) | (with_reducible refine Kd.C_drew ?_) | exact HR210_2.out)) hb); have n5_ := Aside0.mk (below_step (by repeat (first | (with_reducible first | exact HB.out | apply below_alloc | apply pw_below_drewN | apply below_drew1 | refine below_set ?_ GE209.out) | exact HB.out)) hb); have n6_ := Aside0.mk (hbox); have n7_ := Aside0.mk ((by rw [hg]; exact (below_size (by repeat (first | (with_reducible first | exact HB.out | apply below_alloc | apply pw_below_drewN | apply below_drew1 | refine below_set ?_ GE209.out) | exact HB.out))) : w.heap.size ≤ gb211)); have n8_ := Aside0.mk ((by rw [hg]; exact (below_size (by repeat (first | (with_reducible first | exact HB.out | apply below_alloc | apply pw_below_drewN | apply below_drew1 | refine below_set ?_ GE209.out) | exact HB.out))) : w.heap.size ≤ gb211)); have n9_ := Aside0.mk ((by rw [hg]; exact Nat.ne_of_lt (blk_lt (g := gb209) (o := .cells #[.bool a0_0, .string a0_1, .slice (some ad210) l0_2.length c0_2] 54 (0, 0)) (by (with_reducible repeat (first | refine blk_drewN ?_ _ | refine blk_drew ?_ | refine blk_alloc ?_ _)); exact BK209.out)) : gb209 ≠ gb211)); have n10_ := Aside0.mk ((by rw [hg]; exact Nat.ne_of_gt (blk_lt (g := gb209) (o := .cells #[.bool a0_0, .string a0_1, .slice (some ad210) l0_2.length c0_2] 54 (0, 0)) (by (with_reducible repeat (first | refine blk_drewN ?_ _ | refine blk_drew ?_ | refine blk_alloc ?_ _)); exact BK209.out)) : gb211 ≠ gb209)); clear HO_21; clear HO_210002; clear HL210_2; clear BK209; clear HR210_2; clear HB; have HO_21 := n0_; have HO_210002 := n1_; have HL210_2 := n2_; have BK209 := n3_; have HR210_2 := n4_; have HB := n5_; have BK211 := n6_; have GW211 := n7_; have GE211 := n8_; have NB209_211 := n9_; have NB211_209 := n10_; clear n0_ n1_ n2_ n3_ n4_ n5_ n6_ n7_ n8_ n9_ n10_; clear hb hbox hg; have hnb22 := NB211_209.out; have hnc22 := NB209_211.out; have hcz23_0 : w21.cell? ⟨gb211, 0, none⟩ = some (.bool false) := (blk_cell BK211.out 0).trans rfl; have hcz23_1 : w21.cell? ⟨gb211, 1, none⟩ = some (.string (⟨#[]⟩ : ByteArray)) := (blk_cell BK211.out 1).trans rfl; have hcz23_2 : w21.cell? ⟨gb211, 2, none⟩ = some (.slice none 0 0) := (blk_cell BK211.out 2).trans rfl; have hfz23_0 := blk_frozen BK211.out 0; have hfz23_1 := blk_frozen BK211.out 1; have hfz23_2 := blk_frozen BK211.out 2))
                  go_roundg k2
                  case measure => have := HJ3.out; have := HK2.out; omega
                  case rel => exact ⟨(false), (wrap64 (x23_2 + 1)), (by first | rfl | (simp; done) | (simp [*]; done)), (by first | rfl | (simp; done) | (simp [*]; done)), H', ⟨by have := HJ3.out; have := HK2.out; omega⟩, ⟨by (with_reducible repeat (first | apply Kd.V_alloc | apply Kd.V_drewN | apply Kd.V_drew)); exact Kd.V_mono (Kd.V_far (p := ⟨gb211, 2, none⟩) (Kd.V_far (p := ⟨gb211, 1, none⟩) (Kd.V_far (p := ⟨gb211, 0, none⟩) (Kd.V_mono HO_21.out (fun k_ hk => (⟨hk, hk.2⟩ : _ ∧ k_ ≠ gb211))) (fun _ hk => hk.2) (.bool ((rd_T54 l0_2 x23_2).f0))) (fun _ hk => hk.2) (.string ((rd_T54 l0_2 x23_2).f1))) (fun _ hk => hk.2) (.slice A210_2 ((rd_T54 l0_2 x23_2).f2).length c210_2)) (fun _ hk => ⟨hk.1.1.1, hk.1.1.2⟩)⟩, ⟨by (with_reducible repeat (first | apply Kd.V_alloc | apply Kd.V_drewN | apply Kd.V_drew)); exact Kd.V_mono (Kd.V_far (p := ⟨gb211, 2, none⟩) (Kd.V_far (p := ⟨gb211, 1, none⟩) (Kd.V_far (p := ⟨gb211, 0, none⟩) (Kd.V_mono HO_210002.out (fun k_ hk => (⟨hk, hk.2⟩ : _ ∧ k_ ≠ gb211))) (fun _ hk => hk.2) (.bool ((rd_T54 l0_2 x23_2).f0))) (fun _ hk => hk.2) (.string ((rd_T54 l0_2 x23_2).f1))) (fun _ hk => hk.2) (.slice A210_2 ((rd_T54 l0_2 x23_2).f2).length c210_2)) (fun _ hk => ⟨hk.1.1.1, hk.1.1.2⟩)⟩, ⟨by (with_reducible repeat (first | refine blk_drewN ?_ _ | refine blk_drew ?_ | refine blk_alloc ?_ _)); refine blk_far ?_ NB209_211.out _; (with_reducible repeat (first | refine blk_drewN ?_ _ | refine blk_drew ?_ | refine blk_alloc ?_ _)); refine blk_far ?_ NB209_211.out _; (with_reducible repeat (first | refine blk_drewN ?_ _ | refine blk_drew ?_ | refine blk_alloc ?_ _)); refine blk_far ?_ NB209_211.out _; (with_reducible repeat (first | refine blk_drewN ?_ _ | refine blk_drew ?_ | refine blk_alloc ?_ _)); exact BK209.out⟩, ⟨by repeat (first | (with_reducible first | exact HB.out | apply below_alloc | apply pw_below_drewN | apply below_drew1 | refine below_set ?_ GE209.out | refine below_set ?_ GE211.out) | exact HB.out)⟩⟩
              · rw [if_neg c12] at H
                exact absurd H (by simp)
            · rw [if_neg c11] at H
              exact absurd H (by simp)
          · rw [if_neg c10] at H
            have c10b0 : decide (x23_2 < (l0_2.length : Int)) = false := decide_eq_false c10
            clear c10
            simp only [Option.some.injEq, Prod.mk.injEq] at H
            obtain ⟨rfl, rfl⟩ := H
            have hcz24_0 : wr.cell? ⟨gb209, 0, none⟩ = some (.bool a0_0) := (blk_cell BK209.out 0).trans rfl
            have hcz24_1 : wr.cell? ⟨gb209, 1, none⟩ = some (.string a0_1) := (blk_cell BK209.out 1).trans rfl
            have hcz24_2 : wr.cell? ⟨gb209, 2, none⟩ = some (.slice A0_2 l0_2.length c0_2) := (blk_cell BK209.out 2).trans rfl
            have hfz24_0 := blk_frozen BK209.out 0
            have hfz24_1 := blk_frozen BK209.out 1
            have hfz24_2 := blk_frozen BK209.out 2
            go_wp2
            go_ret2
            exact ⟨_, by first | rfl | (simp [errW_none, errW_some] <;> rfl) | (simp [*, errW_none, errW_some] <;> rfl), by (with_reducible repeat (first | apply Kd.V_alloc | apply Kd.V_drewN | apply Kd.V_drew)); exact Kd.V_mono HO_210002.out (fun _ hk => hk.1), by repeat (first | (with_reducible first | exact HB.out | apply below_alloc | apply pw_below_drewN | apply below_drew1 | refine below_set ?_ GE209.out) | exact HB.out)⟩

end Go.Proofs.Ytenbofpmbdibjaa.P
