/- What Go functions of the program come to: a Lean function and its contract for each. Written by a program of this session over the kit's printer, some contracts by hand. -/
import Derived.Test.YtenbofpmbdibjaaP0
import Derived.Test.YtenbofpmbdibjaaP9
import Derived.Test.YtenbofpmbdibjaaP16
import Derived.Test.YtenbofpmbdibjaaP17
namespace Go.Proofs.Ytenbofpmbdibjaa.P
open Go.RowKit Go.Proofs.YtenbofpmbdibjaaW.PrintWords Go.Proofs.YtenbofpmbdibjaaW.PrintLast Go.Proofs.YtenbofpmbdibjaaW.PrintMore
attribute [local go_sem] max2_int min2_int max_two min_two max_three min_three max_four min_four str_leq str_gtr str_geq   -- for this text's walks alone
set_option linter.unusedVariables false
set_option linter.unusedSimpArgs false

/-! ### loesslaw16_awake: function 9, by hand -/
def loesslaw16_awake.f : Option Bool := some true
def loesslaw16_awake.A20 : ByteArray := ⟨#[97, 97, 97, 97, 97, 97, 97, 97, 97, 97, 97, 97, 97, 97, 97, 97, 97, 97, 97, 97]⟩
def loesslaw16_awake.one : S38 := ⟨loesslaw16_awake.A20, false, false, 0, ⟨#[]⟩, ⟨#[]⟩, []⟩
def loesslaw16_awake.cells : Array Value := #[.string loesslaw16_awake.A20, .bool false, .bool false, .int .u64 0, .string ⟨#[]⟩, .string ⟨#[]⟩, .slice none 0 0, .string loesslaw16_awake.A20, .bool false, .bool false, .int .u64 0, .string ⟨#[]⟩, .string ⟨#[]⟩, .slice none 0 0]
theorem loesslaw16_awake.byt : block_Bytes.f 12 1 [] = some (⟨#[194, 1, 192]⟩, 0) := by kernel_rfl
theorem loesslaw16_awake.chk0 : block_Check.f 12 0 [] = some 19 := by kernel_rfl
theorem loesslaw16_awake.chk2 : block_Check.f 40 1 [loesslaw16_awake.one, loesslaw16_awake.one] = some 19 := by kernel_rfl
theorem loesslaw16_awake.tou : block_Touched.f 12 1 [loesslaw16_awake.one, loesslaw16_awake.one] = some [loesslaw16_awake.A20, loesslaw16_awake.A20] := by kernel_rfl
theorem loesslaw16_awake.bytC (w : World) : Calls Try.prog 11 #[.agg #[.int .i64 1, .slice none 0 0]] w fun e w' => e = .returned (.tuple #[.string ⟨#[194, 1, 192]⟩, .int .i64 0]) ∧ Below w.heap.size w w' :=
  block_Bytes.calls 12 1 none 0 [] _ _ w (Kd.C_nil _ _) (Nat.le_refl _) loesslaw16_awake.byt
theorem loesslaw16_awake.chk0C (w : World) : Calls Try.prog 16 #[.agg #[.int .i64 0, .slice none 0 0]] w fun e w' => e = .returned (.int .i64 19) ∧ Below w.heap.size w w' :=
  block_Check.calls 12 0 none 0 [] _ w (Kd.C_nil _ _) (Nat.le_refl _) loesslaw16_awake.chk0
theorem loesslaw16_awake.readC (w : World) : Calls Try.prog 13 #[.string ⟨#[194, 1, 192]⟩] w fun e w' => ∃ A c, e = .returned (.tuple #[.agg #[.int .i64 1, .slice A 0 c], .int .i64 0]) ∧ Below w.heap.size w w' := by
  refine (block_Read.calls _ 1 [] 0 w (by kernel_rfl)).mono ?_
  rintro e w1 ⟨v, rfl, ho, hb⟩
  obtain ⟨A, c, rfl⟩ := Kd.R_slice (Kd.S_R ho)
  exact ⟨A, c, rfl, hb⟩
theorem loesslaw16_awake.accC (w : World) : Calls Try.prog 18 #[.agg #[.string loesslaw16_awake.A20, .bool false, .bool false, .int .u64 1, .string ⟨#[]⟩, .string ⟨#[]⟩, .slice none 0 0], .agg #[.int .u64 0, .string ⟨#[]⟩, .string ⟨#[]⟩, .int .i64 0], .bool false, .int .i64 7] w fun e w' => e = .returned (.tuple #[.agg #[.int .u64 1, .string ⟨#[]⟩, .string ⟨#[]⟩, .int .i64 7], .bool true]) ∧ Below w.heap.size w w' :=
  block_Account.calls loesslaw16_awake.A20 false false 1 ⟨#[]⟩ ⟨#[]⟩ none 0 [] 0 ⟨#[]⟩ ⟨#[]⟩ 0 false 7 _ _ _ _ _ w (Kd.C_nil _ _) (Nat.le_refl _) rfl
theorem loesslaw16_awake.twoC {w : World} {b : Nat} (h : w.heap[b]? = some (.cells loesslaw16_awake.cells 38 (0, 0))) : Kd.C k38 w (some ⟨b, 0, none⟩) 2 [loesslaw16_awake.one, loesslaw16_awake.one] := by
  refine ⟨rfl, by decide, fun _ => ⟨⟨b, 0, none⟩, rfl, fun j p hj => ?_⟩⟩
  have hc := fun i => blk_cell h i
  match j, hj with
  | 0, hj =>
    obtain rfl : loesslaw16_awake.one = p := Option.some.inj hj
    refine ⟨_, rfl, k38_mk w loesslaw16_awake.one (A6 := none) (c6 := 0) (Nat.le_refl _) (Kd.C_nil _ _), fun i u hu => ?_⟩
    match i, hu with
    | 0, hu => exact (hc 0).trans hu
    | 1, hu => exact (hc 1).trans hu
    | 2, hu => exact (hc 2).trans hu
    | 3, hu => exact (hc 3).trans hu
    | 4, hu => exact (hc 4).trans hu
    | 5, hu => exact (hc 5).trans hu
    | 6, hu => exact (hc 6).trans hu
    | n + 7, hu => exact absurd hu (by simp)
  | 1, hj =>
    obtain rfl : loesslaw16_awake.one = p := Option.some.inj hj
    refine ⟨_, rfl, k38_mk w loesslaw16_awake.one (A6 := none) (c6 := 0) (Nat.le_refl _) (Kd.C_nil _ _), fun i u hu => ?_⟩
    match i, hu with
    | 0, hu => exact (hc 7).trans hu
    | 1, hu => exact (hc 8).trans hu
    | 2, hu => exact (hc 9).trans hu
    | 3, hu => exact (hc 10).trans hu
    | 4, hu => exact (hc 11).trans hu
    | 5, hu => exact (hc 12).trans hu
    | 6, hu => exact (hc 13).trans hu
    | n + 7, hu => exact absurd hu (by simp)
  | n + 2, hj => exact absurd hj (by simp)
theorem loesslaw16_awake.chk2C {w : World} {b : Nat} (h : w.heap[b]? = some (.cells loesslaw16_awake.cells 38 (0, 0))) : Calls Try.prog 16 #[.agg #[.int .i64 1, .slice (some ⟨b, 0, none⟩) 2 2]] w fun e w' => e = .returned (.int .i64 19) ∧ Below w.heap.size w w' :=
  block_Check.calls 40 1 _ 2 [loesslaw16_awake.one, loesslaw16_awake.one] _ w (loesslaw16_awake.twoC h) (Nat.le_refl _) loesslaw16_awake.chk2
theorem loesslaw16_awake.touC {w : World} {b : Nat} (h : w.heap[b]? = some (.cells loesslaw16_awake.cells 38 (0, 0))) : Calls Try.prog 20 #[.agg #[.int .i64 1, .slice (some ⟨b, 0, none⟩) 2 2]] w fun e w' => ∃ A c, e = .returned (.slice A 2 c) ∧ Below w.heap.size w w' := by
  refine (block_Touched.calls 12 1 _ 2 [loesslaw16_awake.one, loesslaw16_awake.one] _ w (loesslaw16_awake.twoC h) (Nat.le_refl _) loesslaw16_awake.tou).mono ?_
  rintro e w1 ⟨v, rfl, ho, hb⟩
  obtain ⟨A, c, rfl⟩ := Kd.R_slice ho
  exact ⟨A, c, rfl, hb⟩
set_option maxHeartbeats 4000000 in
set_option maxRecDepth 100000 in
theorem loesslaw16_awake.calls (r : Bool) (w : World) (h : loesslaw16_awake.f = some r) : Calls Try.prog 9 #[] w fun e w' => e = .returned (.bool r) ∧ Below w.heap.size w w' := by
  obtain rfl := Option.some.inj h
  have hu24 := Try.underlying24
  have hu38 := Try.underlying38
  have hu40 := Try.underlying40
  go_enter Try.func9, Try.ntmps9
  go_wp2_with fail
  refine (loesslaw16_awake.bytC _).mono ?_
  rintro e w1 ⟨rfl, hb1⟩
  have HB1 := Aside0.mk hb1
  clear hb1
  go_wp2_with fail
  refine (loesslaw16_awake.readC _).mono ?_
  rintro e w2 ⟨A, c, rfl, hb2⟩
  have HB2 := Aside0.mk (HB1.out.trans (hb2.mono HB1.out.size))
  clear hb2
  go_wp2_with fail
  refine (loesslaw16_awake.accC _).mono ?_
  rintro e w3 ⟨rfl, hb3⟩
  have HB3 := Aside0.mk (Below.trans (B := w.heap.size) (a := w) (by repeat (first | exact HB2.out | (refine Below.alloc ?_ (by have := HB2.out.size; first | omega | (simp; omega)) _))) (hb3.mono (by have := HB2.out.size; simp; omega)))
  have c30 : w3.cell? ⟨w2.heap.size, 0, none⟩ = some (.int .i64 1) := cb_cell (by go_simp; first | done | rfl) hb3
  have c60 : w3.cell? ⟨w2.heap.size + 1 + 1, 0, none⟩ = some (.int .i64 1) := cb_cell (by go_simp; first | done | rfl) hb3
  have c61 : w3.cell? ⟨w2.heap.size + 1 + 1, 1, none⟩ = some (.slice (some ⟨w2.heap.size + 1, 0, none⟩) 2 2) := cb_cell (by go_simp; first | done | rfl) hb3
  have BK3 : Aside0 (w3.heap[w2.heap.size + 1]? = some (.cells loesslaw16_awake.cells 38 (0, 0))) := ⟨blk_below (by
    have z := blk_new (w2.alloc (.cells #[.int .i64 1, .slice A 0 c] 24)) (.cells loesslaw16_awake.cells 38 (0, 0))
    rw [show (w2.alloc (.cells #[.int .i64 1, .slice A 0 c] 24)).heap.size = w2.heap.size + 1 from by simp] at z
    exact blk_alloc z _) hb3⟩
  have l2 : w2.heap.size + 1 + 1 < w3.heap.size := World.block_lt_of_cell? w3 _ c60
  have l2a : w2.heap.size < w3.heap.size := by omega
  have l2b : w2.heap.size + 1 < w3.heap.size := by omega
  clear hb3
  go_wp2_with fail
  refine (loesslaw16_awake.chk0C _).mono ?_
  rintro e w4 ⟨rfl, hb4⟩
  have HB4 := Aside0.mk (Below.trans (B := w.heap.size) (a := w) (by repeat (first | exact HB3.out | (refine Below.alloc ?_ (by have := HB3.out.size; first | omega | (simp; omega)) _))) (hb4.mono (by have := HB3.out.size; simp; omega)))
  have d60 : w4.cell? ⟨w2.heap.size + 1 + 1, 0, none⟩ = some (.int .i64 1) := cb_cell (by go_simp; first | done | exact c60) hb4
  have d61 : w4.cell? ⟨w2.heap.size + 1 + 1, 1, none⟩ = some (.slice (some ⟨w2.heap.size + 1, 0, none⟩) 2 2) := cb_cell (by go_simp; first | done | exact c61) hb4
  have d70 : w4.cell? ⟨w3.heap.size, 0, none⟩ = some (.int .u64 1) := cb_cell (by go_simp; first | done | rfl) hb4
  have d73 : w4.cell? ⟨w3.heap.size, 3, none⟩ = some (.int .i64 7) := cb_cell (by go_simp; first | done | rfl) hb4
  have BK4 : Aside0 (w4.heap[w2.heap.size + 1]? = some (.cells loesslaw16_awake.cells 38 (0, 0))) := ⟨blk_below (blk_alloc BK3.out _) hb4⟩
  clear hb4
  go_wp2_with fail
  refine (loesslaw16_awake.chk2C BK4.out).mono ?_
  rintro e w5 ⟨rfl, hb5⟩
  have HB5 := Aside0.mk (HB4.out.trans (hb5.mono HB4.out.size))
  have e60 : w5.cell? ⟨w2.heap.size + 1 + 1, 0, none⟩ = some (.int .i64 1) := cb_cell d60 hb5
  have e61 : w5.cell? ⟨w2.heap.size + 1 + 1, 1, none⟩ = some (.slice (some ⟨w2.heap.size + 1, 0, none⟩) 2 2) := cb_cell d61 hb5
  have e70 : w5.cell? ⟨w3.heap.size, 0, none⟩ = some (.int .u64 1) := cb_cell d70 hb5
  have e73 : w5.cell? ⟨w3.heap.size, 3, none⟩ = some (.int .i64 7) := cb_cell d73 hb5
  have BK5 := Aside0.mk (blk_below BK4.out hb5)
  clear hb5
  go_wp2_with fail
  refine (loesslaw16_awake.touC BK5.out).mono ?_
  rintro e w6 ⟨A6, c6, rfl, hb6⟩
  have HB6 := Aside0.mk (HB5.out.trans (hb6.mono HB5.out.size))
  clear hb6
  go_wp2_with fail
  go_ret
  exact ⟨by first | rfl | (simp; done), HB6.out⟩

end Go.Proofs.Ytenbofpmbdibjaa.P
