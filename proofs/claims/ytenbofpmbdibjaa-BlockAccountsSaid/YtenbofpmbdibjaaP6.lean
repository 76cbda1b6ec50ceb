/- What Go functions of the program come to: a Lean function and its contract for each. Written by a program of this session over the kit's printer, some contracts by hand. -/
import Derived.Test.YtenbofpmbdibjaaP0
import Derived.Test.YtenbofpmbdibjaaP2
import Derived.Test.YtenbofpmbdibjaaP4
import Derived.Test.YtenbofpmbdibjaaP5
namespace Go.Proofs.Ytenbofpmbdibjaa.P
open Go.RowKit Go.Proofs.YtenbofpmbdibjaaW.PrintWords Go.Proofs.YtenbofpmbdibjaaW.PrintLast Go.Proofs.YtenbofpmbdibjaaW.PrintMore
attribute [local go_sem] max2_int min2_int max_two min_two max_three min_three max_four min_four str_leq str_gtr str_geq   -- for this text's walks alone
set_option linter.unusedVariables false
set_option linter.unusedSimpArgs false

/-! ### api_Write_36: function 36 -/
def api_Write_36.l0 : Nat → List ByteArray → List (S38) → Int → Int → Option (ByteArray)
  | 0, _, _, _, _ => none
  | k + 1, x5, x8, x9, x10 => if x10 < x9 then (if 0 ≤ x10 then (if x10 < (x8.length : Int) then ((block_text_1.f k ((rd_T38 x8 x10).f0) ((rd_T38 x8 x10).f1) ((rd_T38 x8 x10).f2) ((rd_T38 x8 x10).f3) ((rd_T38 x8 x10).f4) ((rd_T38 x8 x10).f5) ((rd_T38 x8 x10).f6)).bind fun t161 => (if x5.length < 8796093022208 then (api_Write_36.l0 k (x5 ++ [t161]) x8 x9 (wrap64 (x10 + 1))) else (none))) else (none)) else (none)) else ((rlp_List.f k x5).bind fun t165 => (some t165))
def api_Write_36.f (k : Nat) (l0 : List (S38))  : Option (ByteArray) := api_Write_36.l0 k ([] : List ByteArray) l0 (l0.length : Int) 0
theorem api_Write_36.mono_l : ∀ k, (∀ y0 y1 y2 y3, LeO (api_Write_36.l0 k y0 y1 y2 y3) (api_Write_36.l0 (k + 1) y0 y1 y2 y3))
  | 0 => fun _ _ _ _ r h => by simp [api_Write_36.l0] at h
  | k + 1 => by
    have ih0 := api_Write_36.mono_l k
    · intro y0 y1 y2 y3
      unfold api_Write_36.l0
      repeat' first
      | (with_reducible exact ih0 _ _ _ _)
      | (with_reducible exact block_text_1.mono _ _ _ _ _ _ _ _)
      | (with_reducible exact rlp_List.mono _ _)
      | (with_reducible exact LeO.refl _)
      | (with_reducible exact LeO.none _)
      | (with_reducible refine LeO.ite ?_ ?_)
      | (with_reducible refine LeO.bind ?_ (fun _ => ?_))
      | exact ih0 _ _ _ _
      | exact block_text_1.mono _ _ _ _ _ _ _ _
      | exact rlp_List.mono _ _
      | exact LeO.none _
      | refine LeO.ite ?_ ?_
      | refine LeO.bind ?_ (fun _ => ?_)
theorem api_Write_36.mono : ∀ a0 k, LeO (api_Write_36.f k a0) (api_Write_36.f (k + 1) a0) := by
  intro a0 k
  have ih0 := api_Write_36.mono_l k
  unfold api_Write_36.f
  repeat' first
      | (with_reducible exact ih0 _ _ _ _)
      | (with_reducible exact block_text_1.mono _ _ _ _ _ _ _ _)
      | (with_reducible exact rlp_List.mono _ _)
      | (with_reducible exact LeO.refl _)
      | (with_reducible exact LeO.none _)
      | (with_reducible refine LeO.ite ?_ ?_)
      | (with_reducible refine LeO.bind ?_ (fun _ => ?_))
      | exact ih0 _ _ _ _
      | exact block_text_1.mono _ _ _ _ _ _ _ _
      | exact rlp_List.mono _ _
      | exact LeO.none _
      | refine LeO.ite ?_ ?_
      | refine LeO.bind ?_ (fun _ => ?_)
set_option maxHeartbeats 8000000 in
set_option maxRecDepth 100000 in
theorem api_Write_36.calls (k : Nat) (A0 : Option Addr) (c0 : Nat) (l0 : List (S38))  (r : ByteArray) (w : World) (hr0 : Kd.C k38 w A0 l0.length l0) (hc0 : l0.length ≤ c0) (h : api_Write_36.f k l0 = some r) :
    Calls Try.prog 36 #[.slice A0 l0.length c0, .func (.func 37) #[] #[]] w fun e w' => e = .returned (.string r) ∧ Below w.heap.size w w' := by
  have hu38 := Try.underlying38
  have HR0 := Aside0.mk hr0
  have HC0 := Aside0.mk hc0
  clear hr0 hc0
  have HB := Aside0.mk (Below.refl w.heap.size w)
  have H : (api_Write_36.l0 k ([] : List ByteArray) l0 (l0.length : Int) 0) = some r := h
  clear h
  have H' := Aside0.mk H
  clear H
  go_enter Try.func36, Try.ntmps36
  go_wp2
  go_loopg [5, 10] k (fun kq v5 v10 w' => ∃ (x5_1 : List ByteArray) (x10_1 : Int), v10 = .int .i64 x10_1 ∧ Aside0 (api_Write_36.l0 kq x5_1 l0 (l0.length : Int) x10_1 = some r) ∧ Aside0 (kq ≤ k) ∧ Aside0 (Kd.R Kd.string 9 w' w.heap.size (fun _ => True) v5 x5_1) ∧ Aside0 (Below w.heap.size w w'))
  case atStart => exact ⟨(([] : List ByteArray)), (0), (by first | rfl | (simp; done) | (simp [*]; done)), H', ⟨Nat.le_refl _⟩, ⟨by first | exact Kd.R_nil _ _ _ _ _ | exact Kd.N_nil _ _ _ _ _ | exact Kd.V_nil _ _ _ _ _ | exact Kd.Q_nil _ _ _ _ _ | exact Kd.S_nil _ _ _ _ _⟩, ⟨by repeat (first | (with_reducible first | exact HB.out | apply below_alloc | apply pw_below_drewN | apply below_drew1) | exact HB.out)⟩⟩
  case round =>
    clear H'
    try clear p2
    obtain ⟨x5_1, x10_1, rfl, HA, HK1, HO_5, HB⟩ := hrel
    cases gk with
    | zero => exact absurd HA.out (by simp [api_Write_36.l0])
    | succ k1 =>
      have H := HA.out
      clear HA
      simp only [api_Write_36.l0] at H
      by_cases c3 : x10_1 < (l0.length : Int)
      · rw [if_pos c3] at H
        have c3b0 : decide (x10_1 < (l0.length : Int)) = true := decide_eq_true c3
        clear c3
        by_cases c4 : 0 ≤ x10_1
        · rw [if_pos c4] at H
          have c4b0 : decide (0 ≤ x10_1) = true := decide_eq_true c4
          clear c4
          by_cases c5 : x10_1 < (l0.length : Int)
          · rw [if_pos c5] at H
            have c5b0 : decide (x10_1 < (l0.length : Int)) = true := decide_eq_true c5
            clear c5
            replace H := Option.bind_eq_some_iff.mp H
            obtain ⟨t161, A60, H⟩ := H
            replace H : (if x5_1.length < 8796093022208 then (api_Write_36.l0 k1 (x5_1 ++ [t161]) l0 (l0.length : Int) (wrap64 (x10_1 + 1))) else (none)) = some r := H
            have A6 := Aside0.mk A60
            clear A60
            by_cases c7 : x5_1.length < 8796093022208
            · rw [if_pos c7] at H
              have LMc7 := Aside0.mk c7
              clear c7
              obtain ⟨y162, hy162⟩ : ∃ y_ : List ByteArray, y_ = (x5_1 ++ [t161]) := ⟨_, rfl⟩
              replace H : (api_Write_36.l0 k1 y162 l0 (l0.length : Int) (wrap64 (x10_1 + 1))) = some r := by first | (rw [hy162]; with_reducible exact H) | (have H2_ := (Option.bind_some _ _).symm.trans H; rw [hy162]; with_reducible exact H2_) | (have H2_ := (Option.bind_some _ _).symm.trans H; with_reducible exact H2_) | with_reducible exact H | (rw [hy162]; exact H) | exact H
              have Ny162 := Aside0.mk hy162
              clear hy162
              have H' := Aside0.mk H
              clear H
              have p159 : 0 ≤ (x10_1 : Int) := of_decide_eq_true (by first | (with_reducible assumption) | assumption)
              have q159 : x10_1 < (l0.length : Int) := of_decide_eq_true (by first | (with_reducible assumption) | assumption)
              obtain ⟨ad159, A159_6, c159_6, e159, hx159_0, hx159_1, hx159_2, hx159_3, hx159_4, hx159_5, hx159_6, hl159_6, hi159_6⟩ := at_T38 HR0.out x10_1 p159 q159
              cases e159
              replace hx159_0 := (HB.out.cell (World.block_lt_of_cell? w _ hx159_0)).trans hx159_0
              replace hx159_1 := (HB.out.cell (World.block_lt_of_cell? w _ hx159_1)).trans hx159_1
              replace hx159_2 := (HB.out.cell (World.block_lt_of_cell? w _ hx159_2)).trans hx159_2
              replace hx159_3 := (HB.out.cell (World.block_lt_of_cell? w _ hx159_3)).trans hx159_3
              replace hx159_4 := (HB.out.cell (World.block_lt_of_cell? w _ hx159_4)).trans hx159_4
              replace hx159_5 := (HB.out.cell (World.block_lt_of_cell? w _ hx159_5)).trans hx159_5
              replace hx159_6 := (HB.out.cell (World.block_lt_of_cell? w _ hx159_6)).trans hx159_6
              have HR159_6 := Aside0.mk hi159_6
              have HC159_6 := Aside0.mk hl159_6
              clear hi159_6 hl159_6
              replace p159 := eq_true p159
              replace q159 := eq_true q159
              go_wp2_with (first | ((with_reducible refine gate_dst (N := 7) rfl ?_); refine box_event ?hg (N := 7) ?hd (cs := #[.string (⟨#[]⟩ : ByteArray), .bool false, .bool false, .int .u64 0, .string (⟨#[]⟩ : ByteArray), .string (⟨#[]⟩ : ByteArray), .slice none 0 0]) (t := 38) ?hr ?_; (case hd => rfl); (case hg => rfl); (case hr => first | (go_simp; done) | (go_simp; rfl)); intro gb160 hg w8 hbox hb; have n0_ := Aside0.mk (Kd.R_below (by (with_reducible repeat (first | apply Kd.R_alloc | apply Kd.R_drewN | apply Kd.R_drew)); exact HO_5.out) hb); have n1_ := Aside0.mk (below_step (by repeat (first | (with_reducible first | exact HB.out | apply below_alloc | apply pw_below_drewN | apply below_drew1) | exact HB.out)) hb); have n2_ := Aside0.mk (hbox); have n3_ := Aside0.mk ((by rw [hg]; exact (below_size (by repeat (first | (with_reducible first | exact HB.out | apply below_alloc | apply pw_below_drewN | apply below_drew1) | exact HB.out))) : w.heap.size ≤ gb160)); have n4_ := Aside0.mk ((by rw [hg]; exact (below_size (by repeat (first | (with_reducible first | exact HB.out | apply below_alloc | apply pw_below_drewN | apply below_drew1) | exact HB.out))) : w.heap.size ≤ gb160)); clear HO_5; clear HB; have HO_5 := n0_; have HB := n1_; have BK160 := n2_; have GW160 := n3_; have GE160 := n4_; clear n0_ n1_ n2_ n3_ n4_; clear hb hbox hg; have hcz9_0 : w8.cell? ⟨gb160, 0, none⟩ = some (.string (⟨#[]⟩ : ByteArray)) := (blk_cell BK160.out 0).trans rfl; have hcz9_1 : w8.cell? ⟨gb160, 1, none⟩ = some (.bool false) := (blk_cell BK160.out 1).trans rfl; have hcz9_2 : w8.cell? ⟨gb160, 2, none⟩ = some (.bool false) := (blk_cell BK160.out 2).trans rfl; have hcz9_3 : w8.cell? ⟨gb160, 3, none⟩ = some (.int .u64 0) := (blk_cell BK160.out 3).trans rfl; have hcz9_4 : w8.cell? ⟨gb160, 4, none⟩ = some (.string (⟨#[]⟩ : ByteArray)) := (blk_cell BK160.out 4).trans rfl; have hcz9_5 : w8.cell? ⟨gb160, 5, none⟩ = some (.string (⟨#[]⟩ : ByteArray)) := (blk_cell BK160.out 5).trans rfl; have hcz9_6 : w8.cell? ⟨gb160, 6, none⟩ = some (.slice none 0 0) := (blk_cell BK160.out 6).trans rfl; have hfz9_0 := blk_frozen BK160.out 0; have hfz9_1 := blk_frozen BK160.out 1; have hfz9_2 := blk_frozen BK160.out 2; have hfz9_3 := blk_frozen BK160.out 3; have hfz9_4 := blk_frozen BK160.out 4; have hfz9_5 := blk_frozen BK160.out 5; have hfz9_6 := blk_frozen BK160.out 6) | ((with_reducible refine gate_tmp rfl ?_); refine goesT_ (some 17) rfl rfl Try.func37 (by kernel_rfl) rfl #[.agg #[.string ((rd_T38 l0 x10_1).f0), .bool ((rd_T38 l0 x10_1).f1), .bool ((rd_T38 l0 x10_1).f2), .int .u64 ((rd_T38 l0 x10_1).f3), .string ((rd_T38 l0 x10_1).f4), .string ((rd_T38 l0 x10_1).f5), .slice A159_6 ((rd_T38 l0 x10_1).f6).length c159_6]] rfl rfl (by (try simp only [List.map_toArray, List.map_cons, List.map_nil]); first | done | rfl | (simp only [List.length_drop, List.length_take]; rfl)) ?_; (with_reducible refine (block_text_1.calls k1 ((rd_T38 l0 x10_1).f0) ((rd_T38 l0 x10_1).f1) ((rd_T38 l0 x10_1).f2) ((rd_T38 l0 x10_1).f3) ((rd_T38 l0 x10_1).f4) ((rd_T38 l0 x10_1).f5) _ _ ((rd_T38 l0 x10_1).f6) t161 _ ?side1 ?side2 A6.out).mono ?_); (case side1 => exact Kd.C_below HR159_6.out (by repeat (first | (with_reducible first | exact HB.out | apply below_alloc | apply pw_below_drewN | apply below_drew1 | refine below_set ?_ GE160.out) | exact HB.out))); (case side2 => exact HC159_6.out); rintro e w10 ⟨rfl, hb⟩; refine ⟨_, rfl, ?_⟩; have n0_ := Aside0.mk (Kd.R_below (by (with_reducible repeat (first | apply Kd.R_alloc | apply Kd.R_drewN | apply Kd.R_drew)); exact (Kd.R_mono (Kd.R_far (p := ⟨gb160, 6, none⟩) (Kd.R_far (p := ⟨gb160, 5, none⟩) (Kd.R_far (p := ⟨gb160, 4, none⟩) (Kd.R_far (p := ⟨gb160, 3, none⟩) (Kd.R_far (p := ⟨gb160, 2, none⟩) (Kd.R_far (p := ⟨gb160, 1, none⟩) (Kd.R_far (p := ⟨gb160, 0, none⟩) (Kd.R_types HO_5.out BK160.out (by decide)) (fun _ hk => hk.2) (.string ((rd_T38 l0 x10_1).f0))) (fun _ hk => hk.2) (.bool ((rd_T38 l0 x10_1).f1))) (fun _ hk => hk.2) (.bool ((rd_T38 l0 x10_1).f2))) (fun _ hk => hk.2) (.int .u64 ((rd_T38 l0 x10_1).f3))) (fun _ hk => hk.2) (.string ((rd_T38 l0 x10_1).f4))) (fun _ hk => hk.2) (.string ((rd_T38 l0 x10_1).f5))) (fun _ hk => hk.2) (.slice A159_6 ((rd_T38 l0 x10_1).f6).length c159_6)) (fun _ h_ => h_.1))) hb); have n1_ := Aside0.mk (blk_below (g := gb160) (o := .cells #[.string ((rd_T38 l0 x10_1).f0), .bool ((rd_T38 l0 x10_1).f1), .bool ((rd_T38 l0 x10_1).f2), .int .u64 ((rd_T38 l0 x10_1).f3), .string ((rd_T38 l0 x10_1).f4), .string ((rd_T38 l0 x10_1).f5), .slice A159_6 ((rd_T38 l0 x10_1).f6).length c159_6] 38 (0, 0)) (by (with_reducible repeat (first | refine blk_drewN ?_ _ | refine blk_drew ?_ | refine blk_alloc ?_ _)); refine blk_put (cs := #[.string ((rd_T38 l0 x10_1).f0), .bool ((rd_T38 l0 x10_1).f1), .bool ((rd_T38 l0 x10_1).f2), .int .u64 ((rd_T38 l0 x10_1).f3), .string ((rd_T38 l0 x10_1).f4), .string ((rd_T38 l0 x10_1).f5), .slice none 0 0]) ?_ 6 _ rfl; (with_reducible repeat (first | refine blk_drewN ?_ _ | refine blk_drew ?_ | refine blk_alloc ?_ _)); refine blk_put (cs := #[.string ((rd_T38 l0 x10_1).f0), .bool ((rd_T38 l0 x10_1).f1), .bool ((rd_T38 l0 x10_1).f2), .int .u64 ((rd_T38 l0 x10_1).f3), .string ((rd_T38 l0 x10_1).f4), .string (⟨#[]⟩ : ByteArray), .slice none 0 0]) ?_ 5 _ rfl; (with_reducible repeat (first | refine blk_drewN ?_ _ | refine blk_drew ?_ | refine blk_alloc ?_ _)); refine blk_put (cs := #[.string ((rd_T38 l0 x10_1).f0), .bool ((rd_T38 l0 x10_1).f1), .bool ((rd_T38 l0 x10_1).f2), .int .u64 ((rd_T38 l0 x10_1).f3), .string (⟨#[]⟩ : ByteArray), .string (⟨#[]⟩ : ByteArray), .slice none 0 0]) ?_ 4 _ rfl; (with_reducible repeat (first | refine blk_drewN ?_ _ | refine blk_drew ?_ | refine blk_alloc ?_ _)); refine blk_put (cs := #[.string ((rd_T38 l0 x10_1).f0), .bool ((rd_T38 l0 x10_1).f1), .bool ((rd_T38 l0 x10_1).f2), .int .u64 0, .string (⟨#[]⟩ : ByteArray), .string (⟨#[]⟩ : ByteArray), .slice none 0 0]) ?_ 3 _ rfl; (with_reducible repeat (first | refine blk_drewN ?_ _ | refine blk_drew ?_ | refine blk_alloc ?_ _)); refine blk_put (cs := #[.string ((rd_T38 l0 x10_1).f0), .bool ((rd_T38 l0 x10_1).f1), .bool false, .int .u64 0, .string (⟨#[]⟩ : ByteArray), .string (⟨#[]⟩ : ByteArray), .slice none 0 0]) ?_ 2 _ rfl; (with_reducible repeat (first | refine blk_drewN ?_ _ | refine blk_drew ?_ | refine blk_alloc ?_ _)); refine blk_put (cs := #[.string ((rd_T38 l0 x10_1).f0), .bool false, .bool false, .int .u64 0, .string (⟨#[]⟩ : ByteArray), .string (⟨#[]⟩ : ByteArray), .slice none 0 0]) ?_ 1 _ rfl; (with_reducible repeat (first | refine blk_drewN ?_ _ | refine blk_drew ?_ | refine blk_alloc ?_ _)); refine blk_put (cs := #[.string (⟨#[]⟩ : ByteArray), .bool false, .bool false, .int .u64 0, .string (⟨#[]⟩ : ByteArray), .string (⟨#[]⟩ : ByteArray), .slice none 0 0]) ?_ 0 _ rfl; (with_reducible repeat (first | refine blk_drewN ?_ _ | refine blk_drew ?_ | refine blk_alloc ?_ _)); exact BK160.out) hb); have n2_ := Aside0.mk (below_step (by repeat (first | (with_reducible first | exact HB.out | apply below_alloc | apply pw_below_drewN | apply below_drew1 | refine below_set ?_ GE160.out) | exact HB.out)) hb); clear HO_5; clear BK160; clear HB; have HO_5 := n0_; have BK160 := n1_; have HB := n2_; clear n0_ n1_ n2_; (try clear hb); (try clear hb2); (try clear hk); (try clear hi)) | ((with_reducible refine gate_builtin (b := .append) (xs := #[.tmp 14, .tmp 18]) rfl ?_); at_builtin; refine Kd.R_append Kd.string (w0 := w) w.heap.size rfl (.tmp 14) (.tmp 18) 43 9 (.string ⟨#[]⟩) 16 rfl Try.underlying43 info9 rfl (by decide) (by omega) u5 x5_1 t161 [.string t161] (fun _ => True) (fun _ => False) rfl rfl ?aP (fun _ hk => hk.elim) ?aF ?aO ?aB ?aS ?aL ?_; (case aP => exact rfl); (case aB => exact (by repeat (first | (with_reducible first | exact HB.out | apply below_alloc | apply pw_below_drewN | apply below_drew1 | refine below_set ?_ GE160.out) | exact HB.out))); (case aF => exact (fun _ _ => trivial)); (case aO => exact (by (with_reducible repeat (first | apply Kd.R_alloc | apply Kd.R_drewN | apply Kd.R_drew)); exact HO_5.out)); (case aS => exact (below_size (by repeat (first | (with_reducible first | exact HB.out | apply below_alloc | apply pw_below_drewN | apply below_drew1 | refine below_set ?_ GE160.out) | exact HB.out)))); (case aL => have := LMc7.out; omega); intro v163 w11 ho hb hg hat; rw [← Ny162.out] at ho; have n0_ := Aside0.mk (blk_grown (g := gb160) (o := .cells #[.string ((rd_T38 l0 x10_1).f0), .bool ((rd_T38 l0 x10_1).f1), .bool ((rd_T38 l0 x10_1).f2), .int .u64 ((rd_T38 l0 x10_1).f3), .string ((rd_T38 l0 x10_1).f4), .string ((rd_T38 l0 x10_1).f5), .slice A159_6 ((rd_T38 l0 x10_1).f6).length c159_6] 38 (0, 0)) (by (with_reducible repeat (first | refine blk_drewN ?_ _ | refine blk_drew ?_ | refine blk_alloc ?_ _)); exact BK160.out) hg (Kd.R_ne HO_5.out BK160.out (by decide))); have n1_ := Aside0.mk (hb); have n2_ := Aside0.mk (ho); clear BK160; clear HB; clear HO_5; have BK160 := n0_; have HB := n1_; have HO164 := n2_; clear n0_ n1_ n2_; clear ho hb hg hat))
              go_roundg k1
              case measure => have := HK1.out; omega
              case rel => exact ⟨(y162), (wrap64 (x10_1 + 1)), (by first | rfl | (simp; done) | (simp [*]; done)), H', ⟨by have := HK1.out; omega⟩, ⟨by (with_reducible repeat (first | apply Kd.R_alloc | apply Kd.R_drewN | apply Kd.R_drew)); exact HO164.out⟩, ⟨by repeat (first | (with_reducible first | exact HB.out | apply below_alloc | apply pw_below_drewN | apply below_drew1 | refine below_set ?_ GE160.out) | exact HB.out)⟩⟩
            · rw [if_neg c7] at H
              exact absurd H (by simp)
          · rw [if_neg c5] at H
            exact absurd H (by simp)
        · rw [if_neg c4] at H
          exact absurd H (by simp)
      · rw [if_neg c3] at H
        have c3b0 : decide (x10_1 < (l0.length : Int)) = false := decide_eq_false c3
        clear c3
        replace H := Option.bind_eq_some_iff.mp H
        obtain ⟨t165, A120, H⟩ := H
        replace H : (some t165) = some r := H
        have A12 := Aside0.mk A120
        clear A120
        obtain rfl := Option.some.inj H
        obtain ⟨Ao13, co13, eo13⟩ := Kd.R_slice HO_5.out
        subst eo13
        go_wp2_with (first | ((with_reducible refine gate_callee (f := 56) rfl ?_); refine goesL_ (some 22) rfl rfl Try.func56 (by kernel_rfl) rfl #[.slice Ao13 x5_1.length co13] rfl (by (try simp only [List.map_toArray, List.map_cons, List.map_nil]); first | done | rfl | (simp only [List.length_drop, List.length_take]; rfl)) ?_; (with_reducible refine (rlp_List.calls k1 _ _ x5_1 t165 _ ?side1 ?side2 A12.out).mono ?_); (case side1 => repeat (first | exact (Kd.R_reads' HO_5.out).2.2 | (with_reducible refine Kd.C_alloc ?_ _) | (with_reducible refine Kd.C_drewN ?_ _) | (with_reducible refine Kd.C_drew ?_))); (case side2 => exact (Kd.R_reads' HO_5.out).2.1); rintro e w14 ⟨rfl, hb⟩; refine ⟨_, rfl, ?_⟩; have n0_ := Aside0.mk (Kd.R_below (by (with_reducible repeat (first | apply Kd.R_alloc | apply Kd.R_drewN | apply Kd.R_drew)); exact HO_5.out) hb); have n1_ := Aside0.mk (below_step (by repeat (first | (with_reducible first | exact HB.out | apply below_alloc | apply pw_below_drewN | apply below_drew1) | exact HB.out)) hb); clear HO_5; clear HB; have HO_5 := n0_; have HB := n1_; clear n0_ n1_; (try clear hb); (try clear hb2); (try clear hk); (try clear hi)))
        go_ret
        exact ⟨by first | rfl | (simp [errW_none, errW_some] <;> rfl) | (simp [*, errW_none, errW_some] <;> rfl), by repeat (first | (with_reducible first | exact HB.out | apply below_alloc | apply pw_below_drewN | apply below_drew1) | exact HB.out)⟩

/-! ### block_text: function 21 -/
def block_text.f (k : Nat) (a0_0 : Int) (l0_1 : List (S38)) : Option (ByteArray) := (api_Write_36.f k l0_1).bind fun t167 => ((rlp_Number.f k (IntKind.u64.wrap (a0_0))).bind fun t168 => ((block_row.f k t167 (([t168] : List ByteArray))).bind fun t172 => (some t172)))
theorem block_text.mono : ∀ a0 a1 k, LeO (block_text.f k a0 a1) (block_text.f (k + 1) a0 a1) := by
  intro a0 a1 k
  unfold block_text.f
  repeat' first
      | (with_reducible exact api_Write_36.mono _ _)
      | (with_reducible exact block_row.mono _ _ _)
      | (with_reducible exact rlp_Number.mono _ _)
      | (with_reducible exact LeO.refl _)
      | (with_reducible exact LeO.none _)
      | (with_reducible refine LeO.ite ?_ ?_)
      | (with_reducible refine LeO.bind ?_ (fun _ => ?_))
      | exact api_Write_36.mono _ _
      | exact block_row.mono _ _ _
      | exact rlp_Number.mono _ _
      | exact LeO.none _
      | refine LeO.ite ?_ ?_
      | refine LeO.bind ?_ (fun _ => ?_)
def block_text.T1 : Bool × List (List Nat × List Nat) := (true, [([], []), ([0], [0]), ([1], [1]), ([], []), ([3], [3]), ([4], [4]), ([5, 2], [5]), ([6], [6]), ([2, 7, 6], [2, 7]), ([8, 8, 0, 1, 2, 3, 4, 5, 6, 7, 8], [8])])
def block_text.B1 : List Nat := [0, 1, 3, 0, 8, 24, 63, 127, 255, 511]
theorem block_text.tab1 : rtab .any (opsOf Try.f21 1) = block_text.T1 := by kernel_rfl
theorem block_text.bits1 : waitsOk block_text.T1.2 block_text.B1 = true := by kernel_rfl
set_option maxHeartbeats 8000000 in
set_option maxRecDepth 100000 in
theorem block_text.calls (k : Nat) (a0_0 : Int) (A0_1 : Option Addr) (c0_1 : Nat) (l0_1 : List (S38)) (r : ByteArray) (w : World) (hr0_1 : Kd.C k38 w A0_1 l0_1.length l0_1) (hc0_1 : l0_1.length ≤ c0_1) (h : block_text.f k a0_0 l0_1 = some r) :
    Calls Try.prog 21 #[.agg #[.int .i64 a0_0, .slice A0_1 l0_1.length c0_1]] w fun e w' => e = .returned (.string r) ∧ Below w.heap.size w w' := by
  have hu24 := Try.underlying24
  have HR0_1 := Aside0.mk hr0_1
  have HC0_1 := Aside0.mk hc0_1
  clear hr0_1 hc0_1
  have HB := Aside0.mk (Below.refl w.heap.size w)
  have H : ((api_Write_36.f k l0_1).bind fun t167 => ((rlp_Number.f k (IntKind.u64.wrap (a0_0))).bind fun t168 => ((block_row.f k t167 (([t168] : List ByteArray))).bind fun t172 => (some t172)))) = some r := h
  clear h
  replace H := Option.bind_eq_some_iff.mp H
  obtain ⟨t167, A20, H⟩ := H
  replace H : ((rlp_Number.f k (IntKind.u64.wrap (a0_0))).bind fun t168 => ((block_row.f k t167 (([t168] : List ByteArray))).bind fun t172 => (some t172))) = some r := H
  have A2 := Aside0.mk A20
  clear A20
  replace H := Option.bind_eq_some_iff.mp H
  obtain ⟨t168, A30, H⟩ := H
  replace H : ((block_row.f k t167 (([t168] : List ByteArray))).bind fun t172 => (some t172)) = some r := H
  have A3 := Aside0.mk A30
  clear A30
  obtain ⟨y169, hy169⟩ : ∃ y_ : List ByteArray, y_ = (([t168] : List ByteArray)) := ⟨_, rfl⟩
  replace H : ((block_row.f k t167 y169).bind fun t172 => (some t172)) = some r := by first | (rw [hy169]; with_reducible exact H) | (have H2_ := (Option.bind_some _ _).symm.trans H; rw [hy169]; with_reducible exact H2_) | (have H2_ := (Option.bind_some _ _).symm.trans H; with_reducible exact H2_) | with_reducible exact H | (rw [hy169]; exact H) | exact H
  have Ny169 := Aside0.mk hy169
  clear hy169
  replace H := Option.bind_eq_some_iff.mp H
  obtain ⟨t172, A40, H⟩ := H
  replace H : (some t172) = some r := H
  have A4 := Aside0.mk A40
  clear A40
  obtain rfl := Option.some.inj H
  go_enter Try.func21, Try.ntmps21
  try go_wp2_with (first | ((with_reducible refine gate_dst (N := 1) rfl ?_); refine box_event ?hg (N := 1) ?hd (cs := #[.int .i64 a0_0, .slice A0_1 l0_1.length c0_1]) (t := 24) ?hr ?_; (case hd => rfl); (case hg => rfl); (case hr => first | (go_simp; done) | (go_simp; rfl)); intro gb166 hg w5 hbox hb; have n0_ := Aside0.mk (below_step (by repeat (first | (with_reducible first | exact HB.out | apply below_alloc | apply pw_below_drewN | apply below_drew1) | exact HB.out)) hb); have n1_ := Aside0.mk (hbox); have n2_ := Aside0.mk ((by rw [hg]; exact (below_size (by repeat (first | (with_reducible first | exact HB.out | apply below_alloc | apply pw_below_drewN | apply below_drew1) | exact HB.out))) : w.heap.size ≤ gb166)); have n3_ := Aside0.mk ((by rw [hg]; exact (below_size (by repeat (first | (with_reducible first | exact HB.out | apply below_alloc | apply pw_below_drewN | apply below_drew1) | exact HB.out))) : w.heap.size ≤ gb166)); clear HB; have HB := n0_; have BK166 := n1_; have GW166 := n2_; have GE166 := n3_; clear n0_ n1_ n2_ n3_; clear hb hbox hg))
  have n0_ := Aside0.mk (blk_drew BK166.out)
  have n1_ := Aside0.mk (below_drew1 HB.out)
  clear BK166
  clear HB
  have BK166 := n0_
  have HB := n1_
  clear n0_ n1_
  refine start_ (n := 10) (S := fun w' => w'.cell? ⟨gb166, 0, none⟩ = some (.int .i64 a0_0) ∧ w'.cell? ⟨gb166, 1, none⟩ = some (.slice A0_1 l0_1.length c0_1)) (ds := []) #[false, false, false, false, false, false, false, false, false, false] (by kernel_rfl) rfl rfl ⟨(blk_cell BK166.out 0).trans rfl, (blk_cell BK166.out 1).trans rfl⟩ (fun hHeld => ?_); refine with_tabW block_text.tab1 block_text.bits1 (fun HT_ HW_ => ?_)
  generalize w5.drew = w6 at BK166 HB hHeld ⊢
  refine pure_ (i := 0) (N := some 3) (v := ?_) (a' := ?_) #[true, false, false, false, false, false, false, false, false, false] rfl rfl (any_of HT_.out (by kernel_rfl)) (fun _ _ _ h => h) (Or.inl ⟨by rfl, ?_⟩) ?_ ?_
  rotate_left
  · intro w'
    go_simp
    with_reducible rfl
  rotate_left
  · simp only [Act.put, List.setIfInBounds_toArray, List.set_cons_zero, List.set_cons_succ, i64_w, i32_w]
    rfl
  refine pure_ (i := 3) (N := some 6) (v := ?_) (a' := ?_) #[true, false, false, true, false, false, false, false, false, false] rfl rfl (any_of HT_.out (by kernel_rfl)) (fun _ _ _ h => h) (Or.inl ⟨by rfl, ?_⟩) ?_ ?_
  rotate_left
  · intro w'
    go_simp
    with_reducible rfl
  rotate_left
  · simp only [Act.put, List.setIfInBounds_toArray, List.set_cons_zero, List.set_cons_succ, i64_w, i32_w]
    rfl
  refine take_ (i := 1) (N := some 4) (v := ?_) (a' := ?_) #[true, true, false, true, false, false, false, false, false, false] rfl rfl (take_ofW HT_.out HW_.out (by kernel_rfl)) (fun _ _ _ h => h) (Or.inl ⟨by rfl, ?_⟩) hHeld ?_ ?_
  rotate_left
  · rintro w' ⟨s0, s1⟩
    go_simp
    with_reducible rfl
  rotate_left
  · simp only [Act.put, List.setIfInBounds_toArray, List.set_cons_zero, List.set_cons_succ, i64_w, i32_w]
    rfl
  refine take_ (i := 4) (N := some 7) (v := ?_) (a' := ?_) #[true, true, false, true, true, false, false, false, false, false] rfl rfl (take_ofW HT_.out HW_.out (by kernel_rfl)) (fun _ _ _ h => h) (Or.inl ⟨by rfl, ?_⟩) hHeld ?_ ?_
  rotate_left
  · rintro w' ⟨s0, s1⟩
    go_simp
    with_reducible rfl
  rotate_left
  · simp only [Act.put, List.setIfInBounds_toArray, List.set_cons_zero, List.set_cons_succ, i64_w, i32_w]
    rfl
  refine pure_ (i := 5) (N := some 8) (v := ?_) (a' := ?_) #[true, true, false, true, true, true, false, false, false, false] rfl rfl (any_of HT_.out (by kernel_rfl)) (fun _ _ _ h => h) (Or.inl ⟨by rfl, ?_⟩) ?_ ?_
  rotate_left
  · intro w'
    go_simp
    with_reducible rfl
  rotate_left
  · simp only [Act.put, List.setIfInBounds_toArray, List.set_cons_zero, List.set_cons_succ, i64_w, i32_w]
    rfl
  refine one_ (i := 2) (N := some 5) #[true, true, true, true, true, true, false, false, false, false] rfl rfl (one_of HT_.out (by kernel_rfl)) (by decide) (fun K hK => ?_)
  refine goes_ Try.func36 (by kernel_rfl) rfl #[.slice A0_1 l0_1.length c0_1, .func (.func 37) #[] #[]] (by rfl) rfl rfl (by (try simp only [List.map_toArray, List.map_cons, List.map_nil]); first | done | rfl | (simp only [List.length_drop, List.length_take]; rfl)) ?_
  with_reducible refine (api_Write_36.calls k _ _ l0_1  t167 _ ?side1 ?side2 A2.out).mono ?_
  (case side1 => repeat (first | exact (Kd.C_below HR0_1.out HB.out) | (with_reducible refine Kd.C_alloc ?_ _) | (with_reducible refine Kd.C_drewN ?_ _) | (with_reducible refine Kd.C_drew ?_)))
  (case side2 => exact HC0_1.out)
  rintro e w7 ⟨rfl, hb⟩
  refine ⟨_, rfl, ?_⟩
  have n0_ := Aside0.mk (blk_below (g := gb166) (o := .cells #[.int .i64 a0_0, .slice A0_1 l0_1.length c0_1] 24 (0, 0)) (by (with_reducible repeat (first | refine blk_drewN ?_ _ | refine blk_drew ?_ | refine blk_alloc ?_ _)); exact BK166.out) hb)
  have n1_ := Aside0.mk (below_step (by repeat (first | (with_reducible first | exact HB.out | apply below_alloc | apply pw_below_drewN | apply below_drew1 | refine below_set ?_ GE166.out) | exact HB.out)) hb)
  clear BK166
  clear HB
  have BK166 := n0_
  have HB := n1_
  clear n0_ n1_
  (try clear hb)
  (try clear hb2)
  (try clear hk)
  (try clear hi)
  refine hK.out _ _ ⟨(blk_cell BK166.out 0).trans rfl, (blk_cell BK166.out 1).trans rfl⟩ (fun hHeld => ?_)
  clear hK K
  refine norm_ (a' := ?_) ?_ ?_
  rotate_left
  · show Act.put _ (some 5) _ = _
    simp only [Act.put, List.setIfInBounds_toArray, List.set_cons_zero, List.set_cons_succ, i64_w, i32_w]
    rfl
  refine one_ (i := 6) (N := some 9) #[true, true, true, true, true, true, true, false, false, false] rfl rfl (one_of HT_.out (by kernel_rfl)) (by decide) (fun K hK => ?_)
  refine goes_ Try.func40 (by kernel_rfl) rfl #[.int .u64 (IntKind.u64.wrap (a0_0))] (by rfl) rfl rfl (by (try simp only [List.map_toArray, List.map_cons, List.map_nil]); first | done | rfl | (simp only [List.length_drop, List.length_take]; rfl)) ?_
  with_reducible refine (rlp_Number.calls k (IntKind.u64.wrap (a0_0)) t168 _ A3.out).mono ?_
  rintro e w8 ⟨rfl, hb⟩
  refine ⟨_, rfl, ?_⟩
  have n0_ := Aside0.mk (blk_below (g := gb166) (o := .cells #[.int .i64 a0_0, .slice A0_1 l0_1.length c0_1] 24 (0, 0)) (by (with_reducible repeat (first | refine blk_drewN ?_ _ | refine blk_drew ?_ | refine blk_alloc ?_ _)); exact BK166.out) hb)
  have n1_ := Aside0.mk (below_step (by repeat (first | (with_reducible first | exact HB.out | apply below_alloc | apply pw_below_drewN | apply below_drew1 | refine below_set ?_ GE166.out) | exact HB.out)) hb)
  clear BK166
  clear HB
  have BK166 := n0_
  have HB := n1_
  clear n0_ n1_
  (try clear hb)
  (try clear hb2)
  (try clear hk)
  (try clear hi)
  refine hK.out _ _ ⟨(blk_cell BK166.out 0).trans rfl, (blk_cell BK166.out 1).trans rfl⟩ (fun hHeld => ?_)
  clear hK K
  refine norm_ (a' := ?_) ?_ ?_
  rotate_left
  · show Act.put _ (some 9) _ = _
    simp only [Act.put, List.setIfInBounds_toArray, List.set_cons_zero, List.set_cons_succ, i64_w, i32_w]
    rfl
  refine one_ (i := 7) (N := some 10) #[true, true, true, true, true, true, true, true, false, false] rfl rfl (one_of HT_.out (by kernel_rfl)) (by decide) (fun K hK => ?_)
  refine Kd.R_lit_step Kd.string _ 9 ?hg (N := 10) ?hd (xs := ([t168] : List ByteArray)) (inner := [.string t168]) (ok := fun _ => True) (okp := fun _ => True) ?hr ?hp (fun _ hk => hk) trivial (Below.refl _ _) (Nat.le_refl _) (by simp) ?_; (case hd => rfl); (case hg => rfl); (case hr => first | (go_simp; done) | (go_simp; rfl)); (case hp => exact (Reps.one (show Kd.M Kd.string _ _ _ t168 [.string t168] from rfl) (Reps.none _ _)))
  intro v170 w9 ho10 hb hg_ hnew_
  clear hg_ hnew_
  (first | rw [← Ny169.out] at ho10 | (simp only [Int.reduceToNat] at ho10; rw [← Ny169.out] at ho10))
  have n0_ := Aside0.mk (Kd.R_lower ho10 (below_size (by repeat (first | (with_reducible first | exact HB.out | apply below_alloc | apply pw_below_drewN | apply below_drew1 | refine below_set ?_ GE166.out) | exact HB.out))))
  have n1_ := Aside0.mk (blk_below (g := gb166) (o := .cells #[.int .i64 a0_0, .slice A0_1 l0_1.length c0_1] 24 (0, 0)) (by (with_reducible repeat (first | refine blk_drewN ?_ _ | refine blk_drew ?_ | refine blk_alloc ?_ _)); exact BK166.out) hb)
  have n2_ := Aside0.mk (below_step (by repeat (first | (with_reducible first | exact HB.out | apply below_alloc | apply pw_below_drewN | apply below_drew1 | refine below_set ?_ GE166.out) | exact HB.out)) hb)
  clear BK166
  clear HB
  have HO171 := n0_
  have BK166 := n1_
  have HB := n2_
  clear n0_ n1_ n2_
  clear hb ho10
  obtain ⟨Ao11, co11, eo11⟩ := Kd.R_slice HO171.out
  (first | subst eo11 | (injection eo11 with f1_ f2_ f3_; have f4_ := f1_.symm; have f5_ := f3_.symm; clear f1_ f2_ f3_; subst f4_; subst f5_))
  refine hK.out _ _ ⟨(blk_cell BK166.out 0).trans rfl, (blk_cell BK166.out 1).trans rfl⟩ (fun hHeld => ?_)
  clear hK K
  refine norm_ (a' := ?_) ?_ ?_
  rotate_left
  · show Act.put _ (some 10) _ = _
    simp only [Act.put, List.setIfInBounds_toArray, List.set_cons_zero, List.set_cons_succ, i64_w, i32_w]
    rfl
  refine one_ (i := 8) (N := some 11) #[true, true, true, true, true, true, true, true, true, false] rfl rfl (one_of HT_.out (by kernel_rfl)) (by decide) (fun K hK => ?_)
  refine goes_ Try.func35 (by kernel_rfl) rfl #[.string t167, .slice Ao11 y169.length co11] (by rfl) rfl rfl (by (try simp only [List.map_toArray, List.map_cons, List.map_nil]); first | done | rfl | (simp only [List.length_drop, List.length_take]; rfl)) ?_
  with_reducible refine (block_row.calls k t167 _ _ y169 t172 _ ?side1 ?side2 A4.out).mono ?_
  (case side1 => repeat (first | exact (Kd.R_reads' HO171.out).2.2 | (with_reducible refine Kd.C_alloc ?_ _) | (with_reducible refine Kd.C_drewN ?_ _) | (with_reducible refine Kd.C_drew ?_)))
  (case side2 => exact (Kd.R_reads' HO171.out).2.1)
  rintro e w12 ⟨rfl, hb⟩
  refine ⟨_, rfl, ?_⟩
  have n0_ := Aside0.mk (Kd.R_below (by (with_reducible repeat (first | apply Kd.R_alloc | apply Kd.R_drewN | apply Kd.R_drew)); exact HO171.out) hb)
  have n1_ := Aside0.mk (blk_below (g := gb166) (o := .cells #[.int .i64 a0_0, .slice A0_1 l0_1.length c0_1] 24 (0, 0)) (by (with_reducible repeat (first | refine blk_drewN ?_ _ | refine blk_drew ?_ | refine blk_alloc ?_ _)); exact BK166.out) hb)
  have n2_ := Aside0.mk (below_step (by repeat (first | (with_reducible first | exact HB.out | apply below_alloc | apply pw_below_drewN | apply below_drew1 | refine below_set ?_ GE166.out) | exact HB.out)) hb)
  clear HO171
  clear BK166
  clear HB
  have HO171 := n0_
  have BK166 := n1_
  have HB := n2_
  clear n0_ n1_ n2_
  (try clear hb)
  (try clear hb2)
  (try clear hk)
  (try clear hi)
  refine hK.out _ _ ⟨(blk_cell BK166.out 0).trans rfl, (blk_cell BK166.out 1).trans rfl⟩ (fun hHeld => ?_)
  clear hK K
  refine norm_ (a' := ?_) ?_ ?_
  rotate_left
  · show Act.put _ (some 11) _ = _
    simp only [Act.put, List.setIfInBounds_toArray, List.set_cons_zero, List.set_cons_succ, i64_w, i32_w]
    rfl
  refine pure_ (i := 9) (N := some 2) (v := ?_) (a' := ?_) #[true, true, true, true, true, true, true, true, true, true] rfl rfl (any_of HT_.out (by kernel_rfl)) (fun _ _ _ h => h) (Or.inl ⟨by rfl, ?_⟩) ?_ ?_
  rotate_left
  · intro w'
    go_simp
    with_reducible rfl
  rotate_left
  · simp only [Act.put, List.setIfInBounds_toArray, List.set_cons_zero, List.set_cons_succ, i64_w, i32_w]
    rfl
  refine done_ (done_of HT_.out (by kernel_rfl)) ?_
  try go_wp2
  go_ret
  exact ⟨by first | rfl | (simp [errW_none, errW_some] <;> rfl) | (simp [*, errW_none, errW_some] <;> rfl), by repeat (first | (with_reducible first | exact HB.out | apply below_alloc | apply pw_below_drewN | apply below_drew1 | refine below_set ?_ GE166.out) | exact HB.out)⟩

/-! ### block_Check_1: function 32 -/
def block_Check_1.f (a0_0 : ByteArray) (a0_1 : Bool) (a0_2 : Bool) (a0_3 : Int) (a0_4 : ByteArray) (a0_5 : ByteArray) (l0_6 : List (S50)) : Option (ByteArray) := some a0_0
set_option maxHeartbeats 8000000 in
set_option maxRecDepth 100000 in
theorem block_Check_1.calls (a0_0 : ByteArray) (a0_1 : Bool) (a0_2 : Bool) (a0_3 : Int) (a0_4 : ByteArray) (a0_5 : ByteArray) (A0_6 : Option Addr) (c0_6 : Nat) (l0_6 : List (S50)) (r : ByteArray) (w : World) (hr0_6 : Kd.C k50 w A0_6 l0_6.length l0_6) (hc0_6 : l0_6.length ≤ c0_6) (h : block_Check_1.f a0_0 a0_1 a0_2 a0_3 a0_4 a0_5 l0_6 = some r) :
    Calls Try.prog 32 #[.agg #[.string a0_0, .bool a0_1, .bool a0_2, .int .u64 a0_3, .string a0_4, .string a0_5, .slice A0_6 l0_6.length c0_6]] w fun e w' => e = .returned (.string r) ∧ Below w.heap.size w w' := by
  have hu38 := Try.underlying38
  have HR0_6 := Aside0.mk hr0_6
  have HC0_6 := Aside0.mk hc0_6
  clear hr0_6 hc0_6
  have HB := Aside0.mk (Below.refl w.heap.size w)
  have H : (some a0_0) = some r := h
  clear h
  obtain rfl := Option.some.inj H
  go_enter Try.func32, Try.ntmps32
  go_wp2_with (first | ((with_reducible refine gate_dst (N := 1) rfl ?_); refine box_event ?hg (N := 1) ?hd (cs := #[.string a0_0, .bool a0_1, .bool a0_2, .int .u64 a0_3, .string a0_4, .string a0_5, .slice A0_6 l0_6.length c0_6]) (t := 38) ?hr ?_; (case hd => rfl); (case hg => rfl); (case hr => first | (go_simp; done) | (go_simp; rfl)); intro gb173 hg w2 hbox hb; have n0_ := Aside0.mk (below_step (by repeat (first | (with_reducible first | exact HB.out | apply below_alloc | apply pw_below_drewN | apply below_drew1) | exact HB.out)) hb); have n1_ := Aside0.mk (hbox); have n2_ := Aside0.mk ((by rw [hg]; exact (below_size (by repeat (first | (with_reducible first | exact HB.out | apply below_alloc | apply pw_below_drewN | apply below_drew1) | exact HB.out))) : w.heap.size ≤ gb173)); have n3_ := Aside0.mk ((by rw [hg]; exact (below_size (by repeat (first | (with_reducible first | exact HB.out | apply below_alloc | apply pw_below_drewN | apply below_drew1) | exact HB.out))) : w.heap.size ≤ gb173)); clear HB; have HB := n0_; have BK173 := n1_; have GW173 := n2_; have GE173 := n3_; clear n0_ n1_ n2_ n3_; clear hb hbox hg; have hcz3_0 : w2.cell? ⟨gb173, 0, none⟩ = some (.string a0_0) := (blk_cell BK173.out 0).trans rfl; have hcz3_1 : w2.cell? ⟨gb173, 1, none⟩ = some (.bool a0_1) := (blk_cell BK173.out 1).trans rfl; have hcz3_2 : w2.cell? ⟨gb173, 2, none⟩ = some (.bool a0_2) := (blk_cell BK173.out 2).trans rfl; have hcz3_3 : w2.cell? ⟨gb173, 3, none⟩ = some (.int .u64 a0_3) := (blk_cell BK173.out 3).trans rfl; have hcz3_4 : w2.cell? ⟨gb173, 4, none⟩ = some (.string a0_4) := (blk_cell BK173.out 4).trans rfl; have hcz3_5 : w2.cell? ⟨gb173, 5, none⟩ = some (.string a0_5) := (blk_cell BK173.out 5).trans rfl; have hcz3_6 : w2.cell? ⟨gb173, 6, none⟩ = some (.slice A0_6 l0_6.length c0_6) := (blk_cell BK173.out 6).trans rfl; have hfz3_0 := blk_frozen BK173.out 0; have hfz3_1 := blk_frozen BK173.out 1; have hfz3_2 := blk_frozen BK173.out 2; have hfz3_3 := blk_frozen BK173.out 3; have hfz3_4 := blk_frozen BK173.out 4; have hfz3_5 := blk_frozen BK173.out 5; have hfz3_6 := blk_frozen BK173.out 6))
  go_ret
  exact ⟨by first | rfl | (simp [errW_none, errW_some] <;> rfl) | (simp [*, errW_none, errW_some] <;> rfl), by repeat (first | (with_reducible first | exact HB.out | apply below_alloc | apply pw_below_drewN | apply below_drew1 | refine below_set ?_ GE173.out) | exact HB.out)⟩

/-! ### stringslite_HasPrefix: function 59 -/
def stringslite_HasPrefix.f (a0 : ByteArray) (a1 : ByteArray) : Option (Bool) := if (a0.size : Int) ≥ (a1.size : Int) then (if 0 ≤ (a1.size : Int) then (if (a1.size : Int) ≤ (a0.size : Int) then (some ((a0.extract 0 ((a1.size : Int) : Int).toNat).toList == a1.toList)) else (none)) else (none)) else (some false)
set_option maxHeartbeats 8000000 in
set_option maxRecDepth 100000 in
theorem stringslite_HasPrefix.calls (a0 : ByteArray) (a1 : ByteArray) (r : Bool) (w : World) (h : stringslite_HasPrefix.f a0 a1 = some r) :
    Calls Try.prog 59 #[.string a0, .string a1] w fun e w' => e = .returned (.bool r) ∧ Drawn0 w w' := by
  have H : (if (a0.size : Int) ≥ (a1.size : Int) then (if 0 ≤ (a1.size : Int) then (if (a1.size : Int) ≤ (a0.size : Int) then (some ((a0.extract 0 ((a1.size : Int) : Int).toNat).toList == a1.toList)) else (none)) else (none)) else (some false)) = some r := h
  clear h
  by_cases c3 : (a0.size : Int) ≥ (a1.size : Int)
  · rw [if_pos c3] at H
    have c3b0 : decide ((a1.size : Int) ≤ (a0.size : Int)) = true := decide_eq_true c3
    have c3b1 : decide (a1.size ≤ a0.size) = true := decide_eq_true (Int.ofNat_le.mp c3)
    clear c3
    by_cases c4 : 0 ≤ (a1.size : Int)
    · rw [if_pos c4] at H
      have c4b0 := eq_true c4
      have c4b1 : decide (0 ≤ (a1.size : Int)) = true := decide_eq_true c4
      clear c4
      by_cases c5 : (a1.size : Int) ≤ (a0.size : Int)
      · rw [if_pos c5] at H
        have c5b0 := eq_true c5
        have c5b1 : decide ((a1.size : Int) ≤ (a0.size : Int)) = true := decide_eq_true c5
        clear c5
        obtain rfl := Option.some.inj H
        go_enter Try.func59, Try.ntmps59
        go_wp2
        go_ret
        exact ⟨by first | rfl | (simp; done) | (simp [*]; done), by repeat (first | exact Drawn0.refl _ | apply Drawn0.step)⟩
      · rw [if_neg c5] at H
        exact absurd H (by simp)
    · rw [if_neg c4] at H
      exact absurd H (by simp)
  · rw [if_neg c3] at H
    have c3b0 : decide ((a1.size : Int) ≤ (a0.size : Int)) = false := decide_eq_false c3
    have c3b1 : decide (a1.size ≤ a0.size) = false := decide_eq_false (fun h => c3 (Int.ofNat_le.mpr h))
    clear c3
    obtain rfl := Option.some.inj H
    go_enter Try.func59, Try.ntmps59
    go_wp2
    go_ret
    exact ⟨by first | rfl | (simp; done) | (simp [*]; done), by repeat (first | exact Drawn0.refl _ | apply Drawn0.step)⟩

/-! ### strings_HasPrefix: function 46 -/
def strings_HasPrefix.f (a0 : ByteArray) (a1 : ByteArray) : Option (Bool) := (stringslite_HasPrefix.f a0 a1).bind fun t174 => (some t174)
set_option maxHeartbeats 8000000 in
set_option maxRecDepth 100000 in
theorem strings_HasPrefix.calls (a0 : ByteArray) (a1 : ByteArray) (r : Bool) (w : World) (h : strings_HasPrefix.f a0 a1 = some r) :
    Calls Try.prog 46 #[.string a0, .string a1] w fun e w' => e = .returned (.bool r) ∧ Drawn0 w w' := by
  have H : ((stringslite_HasPrefix.f a0 a1).bind fun t174 => (some t174)) = some r := h
  clear h
  replace H := Option.bind_eq_some_iff.mp H
  obtain ⟨t174, A30, H⟩ := H
  replace H : (some t174) = some r := H
  have A3 := Aside0.mk A30
  clear A30
  obtain rfl := Option.some.inj H
  go_enter Try.func46, Try.ntmps46
  go_wp2_with (first | ((with_reducible refine gate_callee (f := 59) rfl ?_); refine goesL_ (some 7) rfl rfl Try.func59 (by kernel_rfl) rfl #[.string a0, .string a1] rfl (by (try simp only [List.map_toArray, List.map_cons, List.map_nil]); first | done | rfl | (simp only [List.length_drop, List.length_take]; rfl)) ?_; (with_reducible refine (stringslite_HasPrefix.calls a0 a1 t174 _ A3.out).mono ?_); rintro e w' ⟨rfl, ⟨nd, rfl⟩⟩; refine ⟨_, rfl, ?_⟩))
  go_ret
  exact ⟨by first | rfl | (simp; done) | (simp [*]; done), by repeat (first | exact Drawn0.refl _ | apply Drawn0.step)⟩

/-! ### scalar_Right: function 50 -/
def scalar_Right.f (a0 : ByteArray) : Option (Bool) := if (a0.size : Int) ≤ 32 then ((strings_HasPrefix.f a0 (⟨#[0]⟩ : ByteArray)).bind fun t175 => (some (!t175))) else (some false)
set_option maxHeartbeats 8000000 in
set_option maxRecDepth 100000 in
theorem scalar_Right.calls (a0 : ByteArray) (r : Bool) (w : World) (h : scalar_Right.f a0 = some r) :
    Calls Try.prog 50 #[.string a0] w fun e w' => e = .returned (.bool r) ∧ Drawn0 w w' := by
  have H : (if (a0.size : Int) ≤ 32 then ((strings_HasPrefix.f a0 (⟨#[0]⟩ : ByteArray)).bind fun t175 => (some (!t175))) else (some false)) = some r := h
  clear h
  by_cases c2 : (a0.size : Int) ≤ 32
  · rw [if_pos c2] at H
    have c2b0 : decide ((a0.size : Int) ≤ 32) = true := decide_eq_true c2
    have c2b1 : decide (a0.size ≤ 32) = true := decide_eq_true (by omega)
    clear c2
    replace H := Option.bind_eq_some_iff.mp H
    obtain ⟨t175, A30, H⟩ := H
    replace H : (some (!t175)) = some r := H
    have A3 := Aside0.mk A30
    clear A30
    obtain rfl := Option.some.inj H
    go_enter Try.func50, Try.ntmps50
    go_wp2_with (first | (go_at_call 46; (with_reducible refine (strings_HasPrefix.calls a0 (⟨#[0]⟩ : ByteArray) t175 _ A3.out).mono ?_); rintro e w' ⟨rfl, ⟨nd, rfl⟩⟩))
    go_ret
    exact ⟨by first | rfl | (simp; done) | (simp [*]; done), by repeat (first | exact Drawn0.refl _ | apply Drawn0.step)⟩
  · rw [if_neg c2] at H
    have c2b0 : decide ((a0.size : Int) ≤ 32) = false := decide_eq_false c2
    have c2b1 : decide (a0.size ≤ 32) = false := decide_eq_false (by omega)
    clear c2
    obtain rfl := Option.some.inj H
    go_enter Try.func50, Try.ntmps50
    go_wp2
    go_ret
    exact ⟨by first | rfl | (simp; done) | (simp [*]; done), by repeat (first | exact Drawn0.refl _ | apply Drawn0.step)⟩

/-! ### block_write_1: function 52 -/
def block_write_1.f (a0_0 : ByteArray) (a0_1 : ByteArray) : Option (ByteArray) := some a0_0
set_option maxHeartbeats 8000000 in
set_option maxRecDepth 100000 in
theorem block_write_1.calls (a0_0 : ByteArray) (a0_1 : ByteArray) (r : ByteArray) (w : World) (h : block_write_1.f a0_0 a0_1 = some r) :
    Calls Try.prog 52 #[.agg #[.string a0_0, .string a0_1]] w fun e w' => e = .returned (.string r) ∧ Below w.heap.size w w' := by
  have hu50 := Try.underlying50
  have HB := Aside0.mk (Below.refl w.heap.size w)
  have H : (some a0_0) = some r := h
  clear h
  obtain rfl := Option.some.inj H
  go_enter Try.func52, Try.ntmps52
  go_wp2_with (first | ((with_reducible refine gate_dst (N := 1) rfl ?_); refine box_event ?hg (N := 1) ?hd (cs := #[.string a0_0, .string a0_1]) (t := 50) ?hr ?_; (case hd => rfl); (case hg => rfl); (case hr => first | (go_simp; done) | (go_simp; rfl)); intro gb176 hg w2 hbox hb; have n0_ := Aside0.mk (below_step (by repeat (first | (with_reducible first | exact HB.out | apply below_alloc | apply pw_below_drewN | apply below_drew1) | exact HB.out)) hb); have n1_ := Aside0.mk (hbox); have n2_ := Aside0.mk ((by rw [hg]; exact (below_size (by repeat (first | (with_reducible first | exact HB.out | apply below_alloc | apply pw_below_drewN | apply below_drew1) | exact HB.out))) : w.heap.size ≤ gb176)); have n3_ := Aside0.mk ((by rw [hg]; exact (below_size (by repeat (first | (with_reducible first | exact HB.out | apply below_alloc | apply pw_below_drewN | apply below_drew1) | exact HB.out))) : w.heap.size ≤ gb176)); clear HB; have HB := n0_; have BK176 := n1_; have GW176 := n2_; have GE176 := n3_; clear n0_ n1_ n2_ n3_; clear hb hbox hg; have hcz3_0 : w2.cell? ⟨gb176, 0, none⟩ = some (.string a0_0) := (blk_cell BK176.out 0).trans rfl; have hcz3_1 : w2.cell? ⟨gb176, 1, none⟩ = some (.string a0_1) := (blk_cell BK176.out 1).trans rfl; have hfz3_0 := blk_frozen BK176.out 0; have hfz3_1 := blk_frozen BK176.out 1))
  go_ret
  exact ⟨by first | rfl | (simp [errW_none, errW_some] <;> rfl) | (simp [*, errW_none, errW_some] <;> rfl), by repeat (first | (with_reducible first | exact HB.out | apply below_alloc | apply pw_below_drewN | apply below_drew1 | refine below_set ?_ GE176.out) | exact HB.out)⟩

/-! ### block_write_2: function 53 -/
def block_write_2.f (a0_0 : ByteArray) (a0_1 : ByteArray) : Option (Bool) := (scalar_Right.f a0_1).bind fun t178 => (some t178)
set_option maxHeartbeats 8000000 in
set_option maxRecDepth 100000 in
theorem block_write_2.calls (a0_0 : ByteArray) (a0_1 : ByteArray) (r : Bool) (w : World) (h : block_write_2.f a0_0 a0_1 = some r) :
    Calls Try.prog 53 #[.agg #[.string a0_0, .string a0_1]] w fun e w' => e = .returned (.bool r) ∧ Below w.heap.size w w' := by
  have hu50 := Try.underlying50
  have HB := Aside0.mk (Below.refl w.heap.size w)
  have H : ((scalar_Right.f a0_1).bind fun t178 => (some t178)) = some r := h
  clear h
  replace H := Option.bind_eq_some_iff.mp H
  obtain ⟨t178, A20, H⟩ := H
  replace H : (some t178) = some r := H
  have A2 := Aside0.mk A20
  clear A20
  obtain rfl := Option.some.inj H
  go_enter Try.func53, Try.ntmps53
  go_wp2_with (first | ((with_reducible refine gate_dst (N := 1) rfl ?_); refine box_event ?hg (N := 1) ?hd (cs := #[.string a0_0, .string a0_1]) (t := 50) ?hr ?_; (case hd => rfl); (case hg => rfl); (case hr => first | (go_simp; done) | (go_simp; rfl)); intro gb177 hg w3 hbox hb; have n0_ := Aside0.mk (below_step (by repeat (first | (with_reducible first | exact HB.out | apply below_alloc | apply pw_below_drewN | apply below_drew1) | exact HB.out)) hb); have n1_ := Aside0.mk (hbox); have n2_ := Aside0.mk ((by rw [hg]; exact (below_size (by repeat (first | (with_reducible first | exact HB.out | apply below_alloc | apply pw_below_drewN | apply below_drew1) | exact HB.out))) : w.heap.size ≤ gb177)); have n3_ := Aside0.mk ((by rw [hg]; exact (below_size (by repeat (first | (with_reducible first | exact HB.out | apply below_alloc | apply pw_below_drewN | apply below_drew1) | exact HB.out))) : w.heap.size ≤ gb177)); clear HB; have HB := n0_; have BK177 := n1_; have GW177 := n2_; have GE177 := n3_; clear n0_ n1_ n2_ n3_; clear hb hbox hg; have hcz4_0 : w3.cell? ⟨gb177, 0, none⟩ = some (.string a0_0) := (blk_cell BK177.out 0).trans rfl; have hcz4_1 : w3.cell? ⟨gb177, 1, none⟩ = some (.string a0_1) := (blk_cell BK177.out 1).trans rfl; have hfz4_0 := blk_frozen BK177.out 0; have hfz4_1 := blk_frozen BK177.out 1) | ((with_reducible refine gate_callee (f := 50) rfl ?_); refine goesL_ (some 5) rfl rfl Try.func50 (by kernel_rfl) rfl #[.string a0_1] rfl (by (try simp only [List.map_toArray, List.map_cons, List.map_nil]); first | done | rfl | (simp only [List.length_drop, List.length_take]; rfl)) ?_; (with_reducible refine (scalar_Right.calls a0_1 t178 _ A2.out).mono ?_); rintro e w' ⟨rfl, ⟨nd, rfl⟩⟩; refine ⟨_, rfl, ?_⟩))
  go_ret
  exact ⟨by first | rfl | (simp [errW_none, errW_some] <;> rfl) | (simp [*, errW_none, errW_some] <;> rfl), by repeat (first | (with_reducible first | exact HB.out | apply below_alloc | apply pw_below_drewN | apply below_drew1 | refine below_set ?_ GE177.out) | exact HB.out)⟩

end Go.Proofs.Ytenbofpmbdibjaa.P
