/- What Go functions of the program come to: a Lean function and its contract for each. Written by a program of this session over the kit's printer, some contracts by hand. -/
import Derived.Test.YtenbofpmbdibjaaP0
import Derived.Test.YtenbofpmbdibjaaP9
import Derived.Test.YtenbofpmbdibjaaP10
import Derived.Test.YtenbofpmbdibjaaP13
import Derived.Test.YtenbofpmbdibjaaP14
namespace Go.Proofs.Ytenbofpmbdibjaa.P
open Go.RowKit Go.Proofs.YtenbofpmbdibjaaW.PrintWords Go.Proofs.YtenbofpmbdibjaaW.PrintLast Go.Proofs.YtenbofpmbdibjaaW.PrintMore
attribute [local go_sem] max2_int min2_int max_two min_two max_three min_three max_four min_four str_leq str_gtr str_geq   -- for this text's walks alone
set_option linter.unusedVariables false
set_option linter.unusedSimpArgs false

/-! ### block_Read: function 13, by hand -/
/-- What comes of the chapter's example; of other bytes nothing is said here. -/
def block_Read.f (a0 : ByteArray) : Option (Int × List S38 × Int) := if a0.toList = ([194, 1, 192] : List UInt8) then some (1, [], 0) else none
theorem block_Read.bcell {W w1 : World} (hb : Below W.heap.size W w1) : (∀ b o, b < W.heap.size → w1.cell? ⟨b, o, none⟩ = W.cell? ⟨b, o, none⟩) ∧ (∀ b o, b < W.heap.size → w1.frozen? ⟨b, o, none⟩ = W.frozen? ⟨b, o, none⟩) :=
  ⟨fun b o h => hb.cell (p := ⟨b, o, none⟩) h, fun b o h => hb.frozen (p := ⟨b, o, none⟩) h⟩
set_option maxHeartbeats 2000000 in
set_option maxRecDepth 100000 in
theorem block_Read.all0 (A : Option Addr) (c : Nat) (w : World) :
    Calls Try.prog 26 #[.slice A 0 c, .func (.func 27) #[] #[]] w fun e w' => e = .returned (.tuple #[.slice none 0 0, .bool true]) ∧ Drawn0 w w' := by
  have hu := Try.underlying52
  go_enter Try.func26, Try.ntmps26
  go_wp2
  go_loop [6, 13] (fun l i => l = .slice none 0 0 ∧ i = .int .i64 0) (fun l i => 0)
  case atStart => exact ⟨rfl, rfl⟩
  case round =>
    obtain ⟨rfl, rfl⟩ := hrel
    go_wp2
    go_ret2
    exact ⟨by first | rfl | (simp; done), by repeat (first | exact Drawn0.refl _ | apply Drawn0.step)⟩
theorem block_Read.dec : rlp_Decode.f 12 (⟨#[194, 1, 192]⟩ : ByteArray) = some (true, (⟨#[]⟩ : ByteArray), [⟨false, ⟨#[1]⟩, []⟩, ⟨true, ⟨#[]⟩, []⟩], 0) := by kernel_rfl
theorem block_Read.par : block_parts.f 12 true (⟨#[]⟩ : ByteArray) [⟨false, ⟨#[1]⟩, []⟩, ⟨true, ⟨#[]⟩, []⟩] 2 true = some ([⟨false, ⟨#[1]⟩, []⟩, ⟨true, ⟨#[]⟩, []⟩], true) := by kernel_rfl
theorem block_Read.num : rlp_Uint.f 12 (⟨#[1]⟩ : ByteArray) = some (1, true) := by kernel_rfl
theorem block_Read.chk : block_Check.f 12 1 [] = some 0 := by kernel_rfl
def block_Read.its : List S54 := [⟨false, ⟨#[1]⟩, []⟩, ⟨true, ⟨#[]⟩, []⟩]
theorem block_Read.decC (w : World) : Calls Try.prog 23 #[.string ⟨#[194, 1, 192]⟩] w fun e w' => ∃ A c, e = .returned (.tuple #[.agg #[.bool true, .string ⟨#[]⟩, .slice A 2 c], .int .i64 0]) ∧ Kd.V k54 54 w' 0 (fun k => True ∧ k < w'.heap.size) (.slice A 2 c) block_Read.its ∧ Below w.heap.size w w' := by
  refine (rlp_Decode.calls 12 _ _ _ _ _ w block_Read.dec).mono ?_
  rintro e w1 ⟨v1, rfl, ho1, hb1⟩
  obtain ⟨A, c, rfl⟩ := Kd.R_slice ho1
  exact ⟨A, c, rfl, Kd.V_bound (Kd.R_V (base' := 0) ho1), hb1⟩
theorem block_Read.parC (A : Option Addr) (c : Nat) (P : Nat → Prop) (w : World) (hs : Kd.V k54 54 w 0 P (.slice A 2 c) block_Read.its) :
    Calls Try.prog 24 #[.agg #[.bool true, .string ⟨#[]⟩, .slice A 2 c], .int .i64 2, .bool true] w fun e w' => ∃ A' c', e = .returned (.tuple #[.slice A' 2 c', .bool true]) ∧ Kd.C k54 w' A' 2 block_Read.its ∧ Below w.heap.size w w' := by
  refine (block_parts.calls 12 true ⟨#[]⟩ P A c block_Read.its 2 true _ _ w hs block_Read.par).mono ?_
  rintro e w1 ⟨v1, rfl, ho1, hb1⟩
  obtain ⟨A', c', rfl⟩ := Kd.V_slice ho1
  exact ⟨A', c', rfl, (Kd.V_reads' ho1).2.2, hb1⟩
theorem block_Read.chkC (w : World) : Calls Try.prog 16 #[.agg #[.int .i64 1, .slice none 0 0]] w fun e w' => e = .returned (.int .i64 0) ∧ Below w.heap.size w w' :=
  block_Check.calls 12 1 none 0 [] 0 w (Kd.C_nil _ _) (Nat.le_refl _) block_Read.chk
theorem block_Read.spot {w : World} {ad : Addr} {v : Value} (h : w.cell? ad = some v) : ∃ b o, ad = ⟨b, o, none⟩ := by
  have hs : ad.spot.isSome = false := by
    unfold World.cell? at h
    split at h
    · by_cases q : ad.spot.isSome
      · rw [if_pos q] at h; cases h
      · simpa using q
    · cases h
  obtain ⟨b, o, sp⟩ := ad
  cases sp with
  | none => exact ⟨b, o, rfl⟩
  | some s => simp at hs
theorem block_Read.cells {w : World} {A : Option Addr} (h : Kd.C k54 w A 2 block_Read.its) : ∃ b o A3 c3, A = some ⟨b, o, none⟩ ∧ b < w.heap.size ∧ w.cell? ⟨b, o + 1, none⟩ = some (.string ⟨#[1]⟩) ∧ w.cell? ⟨b, o + 3 + 2, none⟩ = some (.slice A3 0 c3) := by
  obtain ⟨ad, A0, c0, rfl, h00, h01, h02, hl0, hi0⟩ := at_T54 h 0 (by omega) (by omega)
  obtain ⟨ad', A3, c3, e3, h10, h11, h12, hl3, hi3⟩ := at_T54 h 1 (by omega) (by omega)
  injection e3 with e3
  subst e3
  obtain ⟨b, o, rfl⟩ := block_Read.spot h00
  exact ⟨b, o, A3, c3, rfl, World.block_lt_of_cell? w _ h01, h01, h12⟩
theorem block_Read.numC (w : World) : Calls Try.prog 25 #[.string ⟨#[1]⟩] w fun e w' => e = .returned (.tuple #[.int .u64 1, .bool true]) ∧ Below w.heap.size w w' :=
  (rlp_Uint.calls 12 _ _ _ w block_Read.num).mono fun e w' ⟨he, hd⟩ => ⟨he, hd.below⟩
theorem block_Read.all0C (A : Option Addr) (c : Nat) (w : World) :
    Calls Try.prog 26 #[.slice A 0 c, .func (.func 27) #[] #[]] w fun e w' => e = .returned (.tuple #[.slice none 0 0, .bool true]) ∧ Below w.heap.size w w' :=
  (block_Read.all0 A c w).mono fun e w' ⟨he, hd⟩ => ⟨he, hd.below⟩
set_option maxHeartbeats 4000000 in
set_option maxRecDepth 100000 in
theorem block_Read.calls (a0 : ByteArray) (r1 : Int) (r2 : List S38) (r3 : Int) (w : World) (h : block_Read.f a0 = some (r1, r2, r3)) :
    Calls Try.prog 13 #[.string a0] w fun e w' => ∃ v1_ : Value, e = .returned (.tuple #[.agg #[.int .i64 r1, v1_], .int .i64 r3]) ∧ Kd.S k38 38 w' w.heap.size (fun _ => True) v1_ r2 ∧ Below w.heap.size w w' := by
  unfold block_Read.f at h
  by_cases c1 : a0.toList = ([194, 1, 192] : List UInt8)
  rotate_left
  · rw [if_neg c1] at h; cases h
  rw [if_pos c1] at h
  obtain rfl : a0 = ⟨#[194, 1, 192]⟩ := lit_of c1
  simp only [Option.some.injEq, Prod.mk.injEq] at h
  obtain ⟨rfl, rfl, rfl⟩ := h
  clear c1
  have hu24 := Try.underlying24
  have hu54 := Try.underlying54
  have HB := Aside0.mk (Below.refl w.heap.size w)
  go_enter Try.func13, Try.ntmps13
  go_wp2_with fail
  refine (block_Read.decC _).mono ?_
  rintro e w1 ⟨A1, c1, rfl, hv1, hb1⟩
  have HV1 := Aside0.mk hv1
  have HB1 := Aside0.mk (Below.trans (B := w.heap.size) (a := w) (by repeat (first | exact Below.refl _ _ | (refine Below.alloc ?_ (by simp) _))) (hb1.mono (by simp)))
  obtain ⟨hc1, hf1⟩ := block_Read.bcell hb1
  have hz1 : w.heap.size < w1.heap.size := (by have := hb1.size; first | omega | (simp at this; omega))
  have hR1 : w1.cell? ⟨w.heap.size, 0, none⟩ = some (.int .i64 0) := (hc1 _ _ (by first | omega | (simp; omega) | simp)).trans (by go_simp; first | done | rfl)
  have hS1 : w1.cell? ⟨w.heap.size, 1, none⟩ = some (.slice none 0 0) := (hc1 _ _ (by first | omega | (simp; omega) | simp)).trans (by go_simp; first | done | rfl)
  have hT1 : w1.frozen? ⟨w.heap.size, 0, none⟩ = false := (hf1 _ _ (by first | omega | (simp; omega) | simp)).trans (by go_simp; first | done | rfl)
  have hU1 : w1.frozen? ⟨w.heap.size, 1, none⟩ = false := (hf1 _ _ (by first | omega | (simp; omega) | simp)).trans (by go_simp; first | done | rfl)
  clear hb1 hv1
  go_wp2_with fail
  refine (block_Read.parC _ _ (fun k => True ∧ k < w1.heap.size) _ ?hv1).mono ?_
  case hv1 => repeat (first | exact HV1.out | (refine Kd.V_far ?_ (fun k hk => Nat.ne_of_lt hk.2) _) | (refine Kd.V_alloc ?_ _))
  rintro e w2 ⟨A2, c2, rfl, hc2, hb2⟩
  have HC2 := Aside0.mk hc2
  have HB2 := Aside0.mk (Below.trans (B := w.heap.size) (a := w) (by repeat (first | exact HB1.out | (refine Below.alloc ?_ (by first | omega | (simp; omega)) _) | (refine Below.setCell ?_ (by first | omega | (simp; omega)) _))) (hb2.mono (by first | omega | (simp; omega))))
  obtain ⟨hd2, hf2⟩ := block_Read.bcell hb2
  have hz2 : w.heap.size + 1 < w2.heap.size := (by have := hb2.size; first | omega | (simp at this; omega))
  obtain ⟨b2, o2, A3, c3, rfl, hlt2, h01, h12⟩ := block_Read.cells HC2.out
  have hR2 : w2.cell? ⟨w.heap.size, 0, none⟩ = some (.int .i64 0) := (hd2 _ _ (by first | omega | (simp; omega) | simp)).trans (by go_simp; first | done | exact hR1 | rfl)
  have hS2 : w2.cell? ⟨w.heap.size, 1, none⟩ = some (.slice none 0 0) := (hd2 _ _ (by first | omega | (simp; omega) | simp)).trans (by go_simp; first | done | exact hS1 | rfl)
  have hT2 : w2.frozen? ⟨w.heap.size, 0, none⟩ = false := (hf2 _ _ (by first | omega | (simp; omega) | simp)).trans (by go_simp; first | done | exact hT1 | rfl)
  have hU2 : w2.frozen? ⟨w.heap.size, 1, none⟩ = false := (hf2 _ _ (by first | omega | (simp; omega) | simp)).trans (by go_simp; first | done | exact hU1 | rfl)
  clear hb2 hc2
  go_wp2_with fail
  refine (block_Read.numC _).mono ?_
  rintro e w3 ⟨rfl, hb3⟩
  have HB3 := Aside0.mk (Below.trans (B := w.heap.size) (a := w) (by repeat (first | exact HB2.out | (refine Below.alloc ?_ (by first | omega | (simp; omega)) _) | (refine Below.setCell ?_ (by first | omega | (simp; omega)) _))) (hb3.mono (by first | omega | (simp; omega))))
  obtain ⟨hd3, hf3⟩ := block_Read.bcell hb3
  have hz3 : w2.heap.size ≤ w3.heap.size := (by have := hb3.size; first | omega | (simp at this; omega))
  have hR3 : w3.cell? ⟨w.heap.size, 0, none⟩ = some (.int .i64 0) := (hd3 _ _ (by first | omega | (simp; omega) | simp)).trans (by go_simp; first | done | exact hR2 | rfl)
  have hS3 : w3.cell? ⟨w.heap.size, 1, none⟩ = some (.slice none 0 0) := (hd3 _ _ (by first | omega | (simp; omega) | simp)).trans (by go_simp; first | done | exact hS2 | rfl)
  have hT3 : w3.frozen? ⟨w.heap.size, 0, none⟩ = false := (hf3 _ _ (by first | omega | (simp; omega) | simp)).trans (by go_simp; first | done | exact hT2 | rfl)
  have hU3 : w3.frozen? ⟨w.heap.size, 1, none⟩ = false := (hf3 _ _ (by first | omega | (simp; omega) | simp)).trans (by go_simp; first | done | exact hU2 | rfl)
  clear hb3
  go_wp2_with fail
  refine (block_Read.all0C _ _ _).mono ?_
  rintro e w4 ⟨rfl, hb4⟩
  have HB4 := Aside0.mk (Below.trans (B := w.heap.size) (a := w) (by repeat (first | exact HB3.out | (refine Below.alloc ?_ (by first | omega | (simp; omega)) _) | (refine Below.setCell ?_ (by first | omega | (simp; omega)) _))) (hb4.mono (by first | omega | (simp; omega))))
  obtain ⟨hd4, hf4⟩ := block_Read.bcell hb4
  have hz4 : w3.heap.size ≤ w4.heap.size := (by have := hb4.size; first | omega | (simp at this; omega))
  have hR4 : w4.cell? ⟨w.heap.size, 0, none⟩ = some (.int .i64 0) := (hd4 _ _ (by first | omega | (simp; omega) | simp)).trans (by go_simp; first | done | exact hR3 | rfl)
  have hS4 : w4.cell? ⟨w.heap.size, 1, none⟩ = some (.slice none 0 0) := (hd4 _ _ (by first | omega | (simp; omega) | simp)).trans (by go_simp; first | done | exact hS3 | rfl)
  have hT4 : w4.frozen? ⟨w.heap.size, 0, none⟩ = false := (hf4 _ _ (by first | omega | (simp; omega) | simp)).trans (by go_simp; first | done | exact hT3 | rfl)
  have hU4 : w4.frozen? ⟨w.heap.size, 1, none⟩ = false := (hf4 _ _ (by first | omega | (simp; omega) | simp)).trans (by go_simp; first | done | exact hU3 | rfl)
  clear hb4
  go_wp2_with fail
  refine (block_Read.chkC _).mono ?_
  rintro e w5 ⟨rfl, hb5⟩
  have HB5 := Aside0.mk (Below.trans (B := w.heap.size) (a := w) (by repeat (first | exact HB4.out | (refine Below.alloc ?_ (by first | omega | (simp; omega)) _) | (refine Below.setCell ?_ (by first | omega | (simp; omega)) _))) (hb5.mono (by first | omega | (simp; omega))))
  obtain ⟨hd5, hf5⟩ := block_Read.bcell hb5
  have hz5 : w4.heap.size ≤ w5.heap.size := (by have := hb5.size; first | omega | (simp at this; omega))
  have hw4 : w.heap.size < w4.heap.size := by omega
  have hbb : Below w4.heap.size w4 w5 := ((Below.refl _ _).alloc (Nat.le_refl _) _).trans (hb5.mono (by simp))
  have hR5 : w5.cell? ⟨w.heap.size, 0, none⟩ = some (.int .i64 0) := ((block_Read.bcell hbb).1 _ _ hw4).trans hR4
  have hS5 : w5.cell? ⟨w.heap.size, 1, none⟩ = some (.slice none 0 0) := ((block_Read.bcell hbb).1 _ _ hw4).trans hS4
  have hT5 : w5.frozen? ⟨w.heap.size, 0, none⟩ = false := ((block_Read.bcell hbb).2 _ _ hw4).trans hT4
  have hU5 : w5.frozen? ⟨w.heap.size, 1, none⟩ = false := ((block_Read.bcell hbb).2 _ _ hw4).trans hU4
  clear hbb
  clear hb5
  go_wp2_with fail
  exact bodyPost_ret (v := .tuple #[.agg #[.int .i64 1, .slice none 0 0], .int .i64 0]) (by simp [results, Try.results13, go_sem, hR5, hS5]) rfl ⟨_, rfl, Kd.S_nil _ _ _ _ _, by repeat (first | exact HB5.out | (refine Below.setCell ?_ (by simp) _))⟩

end Go.Proofs.Ytenbofpmbdibjaa.P
