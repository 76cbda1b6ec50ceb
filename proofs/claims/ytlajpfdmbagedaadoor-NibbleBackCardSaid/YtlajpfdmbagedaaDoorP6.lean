/- What Go functions of the program come to: a Lean function and its contract for each. Written by a program of this session over the kit's printer, some contracts by hand. -/
import Derived.Test.YtlajpfdmbagedaaDoorP0
import Derived.Test.YtlajpfdmbagedaaDoorP1
namespace Go.Proofs.YtlajpfdmbagedaaDoor.P
open Go.RowKit Go.Proofs.YtlajpfdmbagedaaDoorW.PrintWords Go.Proofs.YtlajpfdmbagedaaDoorW.PrintLast Go.Proofs.YtlajpfdmbagedaaDoorW.PrintMore
attribute [local go_sem] max2_int min2_int max_two min_two max_three min_three max_four min_four   -- for this text's walks alone
set_option linter.unusedVariables false
set_option linter.unusedSimpArgs false

/-! ### nibble_Unpack: function 14, by hand -/
def nibble_Unpack.bad : ByteArray × Bool × Int := ((⟨#[]⟩ : ByteArray), false, 10)
def nibble_Unpack.f (k : Nat) (a0 : ByteArray) : Option (ByteArray × Bool × Int) :=
  if a0.size = 0 then some nibble_Unpack.bad else if bt a0 0 ≥ 64 then some nibble_Unpack.bad else
  if bits .and .u8 (bt a0 0) 16 = 0 ∧ ¬ bt a0 0 % 16 = 0 then some nibble_Unpack.bad else
  (nibble_Of.f k a0).bind fun t => if t.size < 2 ∨ 140737488355328 < t.size then none else
    if bits .and .u8 (bt a0 0) 16 = 0 then some (t.extract 2 t.size, (bits .and .u8 (bt a0 0) 32 != 0), 0) else some (t.extract 1 t.size, (bits .and .u8 (bt a0 0) 32 != 0), 0)
theorem nibble_Unpack.mono : ∀ a0 k, LeO (nibble_Unpack.f k a0) (nibble_Unpack.f (k + 1) a0) := by
  intro a0 k
  unfold nibble_Unpack.f
  repeat' first
      | (with_reducible exact nibble_Of.mono _ _)
      | (with_reducible exact LeO.refl _)
      | (with_reducible exact LeO.none _)
      | (with_reducible refine LeO.ite ?_ ?_)
      | (with_reducible refine LeO.bind ?_ (fun _ => ?_))
theorem nibble_Unpack_1.calls (a0 : ByteArray) (b : Nat) (w : World) (hb : w.cell? ⟨b, 0, none⟩ = some (.string a0)) (h0 : 0 < a0.size) :
    Calls Tryd.prog 28 #[.pointer (some ⟨b, 0, none⟩)] w fun e w' => e = .returned (.int .u8 (bt a0 0)) ∧ Drawn0 w w' := by
  have hx : ∀ h : 0 < a0.size, ((a0[0]'h).toNat : Int) = bt a0 0 := bt_at a0 0
  have q0 : (0 < a0.size) = True := eq_true h0
  go_enter Tryd.func28, Tryd.ntmps28
  go_wp2
  go_ret
  exact ⟨by first | rfl | (simp; done), by repeat (first | exact Drawn0.refl _ | apply Drawn0.step)⟩
set_option maxHeartbeats 4000000 in
set_option maxRecDepth 100000 in
theorem nibble_Unpack.calls (k : Nat) (a0 : ByteArray) (r1 : ByteArray) (r2 : Bool) (r3 : Int) (w : World) (h : nibble_Unpack.f k a0 = some (r1, r2, r3)) :
    Calls Tryd.prog 14 #[.string a0] w fun e w' => e = .returned (.tuple #[.string r1, .bool r2, .int .i64 r3]) ∧ Below w.heap.size w w' := by
  unfold nibble_Unpack.f at h
  have HB := Aside0.mk (Below.refl w.heap.size w)
  by_cases c1 : a0.size = 0
  · rw [if_pos c1] at h
    have he0 : a0.toList = ([] : List UInt8) := by
      have : a0.data = #[] := Array.eq_empty_of_size_eq_zero c1
      cases a0; simp_all
    have he0' : (a0.toList == ([] : List UInt8)) = true := by rw [he0]; rfl
    have he0e : a0.toList.isEmpty = true := by rw [he0]; rfl
    simp only [nibble_Unpack.bad, Option.some.injEq, Prod.mk.injEq] at h
    obtain ⟨rfl, rfl, rfl⟩ := h
    have C1 := Lib.hid c1
    have HE := Lib.hid he0
    clear c1 he0
    go_enter Tryd.func14, Tryd.ntmps14
    go_wp2_with ((with_reducible refine gate_dst (N := 1) rfl ?_); refine box_event ?hg (N := 1) ?hd (cs := #[.string a0]) (t := 9) ?hr ?_; (case hd => rfl); (case hg => rfl); (case hr => first | (go_simp; done) | (go_simp; rfl)); intro g1 hg w4 hbox hb; have HB4 := Aside0.mk (below_step HB.out hb); have BK := Aside0.mk hbox; clear hb hbox hg; have hcz0 : w4.cell? ⟨g1, 0, none⟩ = some (.string a0) := (blk_cell BK.out 0).trans rfl; have hlt := blk_lt BK.out)
    refine bodyPost_ret (results_list (rs := [.tmp 2, .tmp 3, .tmp 4]) rfl (by simp) (.tmp (.tmp (.tmp .nil)))) rfl ?_
    exact ⟨by first | rfl | (simp; done), by repeat (first | exact HB4.out | apply pw_below_drewN)⟩
  rw [if_neg c1] at h
  have hne : (a0.toList == ([] : List UInt8)) = false := by
    rw [beq_eq_false_iff_ne]
    intro e
    exact c1 (by rw [ByteArray.size]; simpa [ByteArray.toList_eq] using congrArg List.length e)
  have hem0 : a0.toList.isEmpty = false := by
    cases hz : a0.toList with
    | nil => rw [hz] at hne; simp at hne
    | cons _ _ => rfl
  have Q0 : Aside0 (0 < a0.size) := ⟨by omega⟩
  clear c1
  have hr := bt_range a0 0
  have hr0 : 0 ≤ bt a0 0 := hr.1
  have hr1 : bt a0 0 ≤ 255 := hr.2
  clear hr
  by_cases c2 : bt a0 0 ≥ 64
  · rw [if_pos c2] at h
    simp only [nibble_Unpack.bad, Option.some.injEq, Prod.mk.injEq] at h
    obtain ⟨rfl, rfl, rfl⟩ := h
    have d2 : decide (64 ≤ bt a0 0) = true := decide_eq_true c2
    clear c2
    go_enter Tryd.func14, Tryd.ntmps14
    go_wp2_with (first
      | ((with_reducible refine gate_dst (N := 1) rfl ?_); refine box_event ?hg (N := 1) ?hd (cs := #[.string a0]) (t := 9) ?hr ?_; (case hd => rfl); (case hg => rfl); (case hr => first | (go_simp; done) | (go_simp; rfl)); intro g1 hg w4 hbox hb; have HB4 := Aside0.mk (below_step HB.out hb); have BK := Aside0.mk hbox; clear hb hbox hg; have hcz0 : w4.cell? ⟨g1, 0, none⟩ = some (.string a0) := (blk_cell BK.out 0).trans rfl; have hlt := blk_lt BK.out)
      | (go_at_call 28; (with_reducible refine (nibble_Unpack_1.calls a0 g1 _ (by first | exact hcz0 | (simp only [World.cell?_drewN]; exact hcz0)) Q0.out).mono ?_); rintro e w' ⟨rfl, ⟨nd, rfl⟩⟩))
    refine bodyPost_ret (results_list (rs := [.tmp 2, .tmp 3, .tmp 4]) rfl (by simp) (.tmp (.tmp (.tmp .nil)))) rfl ?_
    exact ⟨by first | rfl | (simp; done), by repeat (first | exact HB4.out | apply pw_below_drewN)⟩
  rw [if_neg c2] at h
  have d2 : decide (64 ≤ bt a0 0) = false := decide_eq_false c2
  clear c2
  by_cases c3 : bits .and .u8 (bt a0 0) 16 = 0 ∧ ¬ bt a0 0 % 16 = 0
  · rw [if_pos c3] at h
    simp only [nibble_Unpack.bad, Option.some.injEq, Prod.mk.injEq] at h
    obtain ⟨rfl, rfl, rfl⟩ := h
    have d3 : (bits .and .u8 (bt a0 0) 16 == 0) = true := beq_iff_eq.mpr c3.1
    have d4 : (bt a0 0 % 16 != 0) = true := bne_iff_ne.mpr c3.2
    clear c3
    go_enter Tryd.func14, Tryd.ntmps14
    go_wp2_with (first
      | ((with_reducible refine gate_dst (N := 1) rfl ?_); refine box_event ?hg (N := 1) ?hd (cs := #[.string a0]) (t := 9) ?hr ?_; (case hd => rfl); (case hg => rfl); (case hr => first | (go_simp; done) | (go_simp; rfl)); intro g1 hg w4 hbox hb; have HB4 := Aside0.mk (below_step HB.out hb); have BK := Aside0.mk hbox; clear hb hbox hg; have hcz0 : w4.cell? ⟨g1, 0, none⟩ = some (.string a0) := (blk_cell BK.out 0).trans rfl; have hlt := blk_lt BK.out)
      | (go_at_call 28; (with_reducible refine (nibble_Unpack_1.calls a0 g1 _ (by first | exact hcz1 | exact hcz0 | (simp only [World.cell?_drewN]; exact hcz0)) Q0.out).mono ?_); rintro e w' ⟨rfl, ⟨nd, rfl⟩⟩))
    refine bodyPost_ret (results_list (rs := [.tmp 2, .tmp 3, .tmp 4]) rfl (by simp) (.tmp (.tmp (.tmp .nil)))) rfl ?_
    exact ⟨by first | rfl | (simp; done), by repeat (first | exact HB5.out | exact HB4.out | apply pw_below_drewN)⟩
  rw [if_neg c3] at h
  replace h := Option.bind_eq_some_iff.mp h
  obtain ⟨t, A0, h⟩ := h
  have A := Aside0.mk A0
  clear A0
  by_cases c4 : t.size < 2 ∨ 140737488355328 < t.size
  · rw [if_pos c4] at h; exact absurd h (by simp)
  rw [if_neg c4] at h
  have h2 : 2 ≤ t.size := by omega
  have h1 : 1 ≤ t.size := by omega
  have h3 : t.size ≤ 140737488355328 := by omega
  have b1 : decide ((1 : Int) ≤ (t.size : Int)) = true := decide_eq_true (by omega)
  have b2 : decide ((2 : Int) ≤ (t.size : Int)) = true := decide_eq_true (by omega)
  clear c4
  by_cases c5 : bits .and .u8 (bt a0 0) 16 = 0
  · rw [if_pos c5] at h
    simp only [Option.some.injEq, Prod.mk.injEq] at h
    obtain ⟨rfl, rfl, rfl⟩ := h
    have d3 : (bits .and .u8 (bt a0 0) 16 == 0) = true := beq_iff_eq.mpr c5
    have d3' : (bits .and .u8 (bt a0 0) 16 != 0) = false := bne_eq_false_iff_eq.mpr c5
    have d4 : (bt a0 0 % 16 != 0) = false := by
      rw [bne_eq_false_iff_eq]
      by_cases e : bt a0 0 % 16 = 0
      · exact e
      · exact absurd ⟨c5, e⟩ c3
    clear c3 c5
    go_enter Tryd.func14, Tryd.ntmps14
    go_wp2_with (first
      | ((with_reducible refine gate_dst (N := 1) rfl ?_); refine box_event ?hg (N := 1) ?hd (cs := #[.string a0]) (t := 9) ?hr ?_; (case hd => rfl); (case hg => rfl); (case hr => first | (go_simp; done) | (go_simp; rfl)); intro g1 hg w4 hbox hb; have HB4 := Aside0.mk (below_step HB.out hb); have BK := Aside0.mk hbox; clear hb hbox hg; have hcz0 : w4.cell? ⟨g1, 0, none⟩ = some (.string a0) := (blk_cell BK.out 0).trans rfl; have hlt := blk_lt BK.out)
      | (go_at_call 28; (with_reducible refine (nibble_Unpack_1.calls a0 g1 _ (by first | exact hcz1 | exact hcz0 | (simp only [World.cell?_drewN]; exact hcz0)) Q0.out).mono ?_); rintro e w' ⟨rfl, ⟨nd, rfl⟩⟩)
      | (go_at_call 10; (with_reducible refine (nibble_Of.calls k _ _ _ A.out).mono ?_); rintro e w5 ⟨rfl, hb⟩; have HB5 := Aside0.mk (below_step (by repeat (first | exact HB4.out | apply pw_below_drewN)) hb); have hcz1 : w5.cell? ⟨g1, 0, none⟩ = some (.string a0) := cb_cell (by first | exact hcz0 | (simp only [World.cell?_drewN]; exact hcz0)) hb; clear hb))
    refine bodyPost_ret (results_list (rs := [.tmp 2, .tmp 3, .tmp 4]) rfl (by simp) (.tmp (.tmp (.tmp .nil)))) rfl ?_
    exact ⟨by first | rfl | (simp; done), by repeat (first | exact HB5.out | exact HB4.out | apply pw_below_drewN)⟩
  · rw [if_neg c5] at h
    simp only [Option.some.injEq, Prod.mk.injEq] at h
    obtain ⟨rfl, rfl, rfl⟩ := h
    have d3 : (bits .and .u8 (bt a0 0) 16 == 0) = false := beq_eq_false_iff_ne.mpr c5
    have d3' : (bits .and .u8 (bt a0 0) 16 != 0) = true := bne_iff_ne.mpr c5
    clear c3 c5
    go_enter Tryd.func14, Tryd.ntmps14
    go_wp2_with (first
      | ((with_reducible refine gate_dst (N := 1) rfl ?_); refine box_event ?hg (N := 1) ?hd (cs := #[.string a0]) (t := 9) ?hr ?_; (case hd => rfl); (case hg => rfl); (case hr => first | (go_simp; done) | (go_simp; rfl)); intro g1 hg w4 hbox hb; have HB4 := Aside0.mk (below_step HB.out hb); have BK := Aside0.mk hbox; clear hb hbox hg; have hcz0 : w4.cell? ⟨g1, 0, none⟩ = some (.string a0) := (blk_cell BK.out 0).trans rfl; have hlt := blk_lt BK.out)
      | (go_at_call 28; (with_reducible refine (nibble_Unpack_1.calls a0 g1 _ (by first | exact hcz1 | exact hcz0 | (simp only [World.cell?_drewN]; exact hcz0)) Q0.out).mono ?_); rintro e w' ⟨rfl, ⟨nd, rfl⟩⟩)
      | (go_at_call 10; (with_reducible refine (nibble_Of.calls k _ _ _ A.out).mono ?_); rintro e w5 ⟨rfl, hb⟩; have HB5 := Aside0.mk (below_step (by repeat (first | exact HB4.out | apply pw_below_drewN)) hb); have hcz1 : w5.cell? ⟨g1, 0, none⟩ = some (.string a0) := cb_cell (by first | exact hcz0 | (simp only [World.cell?_drewN]; exact hcz0)) hb; clear hb))
    refine bodyPost_ret (results_list (rs := [.tmp 2, .tmp 3, .tmp 4]) rfl (by simp) (.tmp (.tmp (.tmp .nil)))) rfl ?_
    exact ⟨by first | rfl | (simp; done), by repeat (first | exact HB5.out | exact HB4.out | apply pw_below_drewN)⟩

end Go.Proofs.YtlajpfdmbagedaaDoor.P
