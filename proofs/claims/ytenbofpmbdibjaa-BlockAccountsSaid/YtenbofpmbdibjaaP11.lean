/- What Go functions of the program come to: a Lean function and its contract for each. Written by a program of this session over the kit's printer, some contracts by hand. -/
import Derived.Test.YtenbofpmbdibjaaP0
import Derived.Test.YtenbofpmbdibjaaP10
namespace Go.Proofs.Ytenbofpmbdibjaa.P
open Go.RowKit Go.Proofs.YtenbofpmbdibjaaW.PrintWords Go.Proofs.YtenbofpmbdibjaaW.PrintLast Go.Proofs.YtenbofpmbdibjaaW.PrintMore
attribute [local go_sem] max2_int min2_int max_two min_two max_three min_three max_four min_four str_leq str_gtr str_geq   -- for this text's walks alone
set_option linter.unusedVariables false
set_option linter.unusedSimpArgs false

/-! ### rlp_Split: function 45, by hand -/
def rlp_Split.bad : ByteArray × Bool × ByteArray × Int := ((⟨#[]⟩ : ByteArray), false, (⟨#[]⟩ : ByteArray), 10)
def rlp_Split.fin (list : Bool) (n : Int) (rest : ByteArray) : ByteArray × Bool × ByteArray × Int :=
  if (rest.size : Int) < n then rlp_Split.bad else if list = false ∧ n = 1 ∧ bt rest 0 < 128 then rlp_Split.bad else (rest.extract 0 n.toNat, list, rest.extract n.toNat rest.size, 0)
def rlp_Split.f (k : Nat) (a0 : ByteArray) : Option (ByteArray × Bool × ByteArray × Int) :=
  if a0.size = 0 then some rlp_Split.bad else if 140737488351232 < a0.size then none else
  if bt a0 0 < 128 then some (a0.extract 0 1, false, a0.extract 1 a0.size, 0) else
  if (bt a0 0 - 128) % 64 ≤ 55 then some (rlp_Split.fin (decide (192 ≤ bt a0 0)) ((bt a0 0 - 128) % 64) (a0.extract 1 a0.size)) else
  if (a0.size : Int) - 1 < (bt a0 0 - 128) % 64 - 55 then some rlp_Split.bad else
  (rlp_Uint.f k ((a0.extract 1 a0.size).extract 0 ((bt a0 0 - 128) % 64 - 55).toNat)).bind fun t =>
    if t.2 = false then some rlp_Split.bad else if t.1 ≤ 55 then some rlp_Split.bad else if (a0.size : Int) - 1 < t.1 then some rlp_Split.bad else
    some (rlp_Split.fin (decide (192 ≤ bt a0 0)) t.1 ((a0.extract 1 a0.size).extract ((bt a0 0 - 128) % 64 - 55).toNat (a0.extract 1 a0.size).size))
theorem rlp_Split.mono : ∀ a0 k, LeO (rlp_Split.f k a0) (rlp_Split.f (k + 1) a0) := by
  intro a0 k
  unfold rlp_Split.f
  repeat' first
      | (with_reducible exact rlp_Uint.mono _ _)
      | (with_reducible exact LeO.refl _)
      | (with_reducible exact LeO.none _)
      | (with_reducible refine LeO.ite ?_ ?_)
      | (with_reducible refine LeO.bind ?_ (fun _ => ?_))
set_option maxHeartbeats 2000000 in
set_option maxRecDepth 100000 in
theorem rlp_Split.calls (k : Nat) (a0 : ByteArray) (r1 : ByteArray) (r2 : Bool) (r3 : ByteArray) (r4 : Int) (w : World) (h : rlp_Split.f k a0 = some (r1, r2, r3, r4)) :
    Calls Try.prog 45 #[.string a0] w fun e w' => e = .returned (.tuple #[.string r1, .bool r2, .string r3, .int .i64 r4]) ∧ Drawn0 w w' := by
  unfold rlp_Split.f at h
  by_cases c1 : a0.size = 0
  · rw [if_pos c1] at h
    obtain rfl : a0 = ⟨#[]⟩ := by
      have : a0.data = #[] := Array.eq_empty_of_size_eq_zero c1
      cases a0; simp_all
    simp only [rlp_Split.bad, Option.some.injEq, Prod.mk.injEq] at h
    obtain ⟨rfl, rfl, rfl, rfl⟩ := h
    clear c1
    go_enter Try.func45, Try.ntmps45
    go_wp2_with (go_at_call 58; (with_reducible refine (rlp_Split_1.calls _ _ _ _ _ rfl).mono ?_); rintro e w' ⟨rfl, ⟨nd, rfl⟩⟩)
    refine bodyPost_ret (results_list (rs := [.tmp 2, .tmp 3, .tmp 4, .tmp 5]) rfl (by simp) (.tmp (.tmp (.tmp (.tmp .nil))))) rfl ?_
    exact ⟨by first | rfl | (simp; done) | (simp [*]; done), by repeat (first | exact Drawn0.refl _ | apply Drawn0.step)⟩
  rw [if_neg c1] at h
  by_cases c2 : 140737488351232 < a0.size
  · rw [if_pos c2] at h; exact absurd h (by simp)
  rw [if_neg c2] at h
  have hne : (a0.toList == ([] : List UInt8)) = false := by
    rw [beq_eq_false_iff_ne]
    intro e
    exact c1 (by rw [ByteArray.size]; simpa [ByteArray.toList_eq] using congrArg List.length e)
  have hne' : (a0.toList != ([] : List UInt8)) = true := by rw [bne_iff_ne]; exact beq_eq_false_iff_ne.mp hne
  have hx5 : ∀ h : 0 < a0.size, ((a0[0]'h).toNat : Int) = bt a0 0 := bt_at a0 0
  obtain ⟨hb0, hb1⟩ := bt_range a0 0
  generalize bt a0 0 = b at *
  have q5 : (0 < a0.size) = True := eq_true (by omega)
  by_cases c3 : b < 128
  · rw [if_pos c3] at h
    simp only [Option.some.injEq, Prod.mk.injEq] at h
    obtain ⟨rfl, rfl, rfl, rfl⟩ := h
    have c3' : decide (b < 128) = true := decide_eq_true c3
    have c4 : 1 ≤ a0.size := by omega
    clear c1 c2
    go_enter Try.func45, Try.ntmps45
    go_wp2
    repeat (go_quiet (fail); try go_wp2)
    refine bodyPost_ret (results_list (rs := [.tmp 2, .tmp 3, .tmp 4, .tmp 5]) rfl (by simp) (.tmp (.tmp (.tmp (.tmp .nil))))) rfl ?_
    exact ⟨by first | rfl | (simp; done) | (simp [*]; done), by repeat (first | exact Drawn0.refl _ | apply Drawn0.step)⟩
  rw [if_neg c3] at h
  have c3' : decide (b < 128) = false := decide_eq_false c3
  have c4 : 1 ≤ a0.size := by omega
  have hsz : (a0.extract 1 a0.size).size = a0.size - 1 := by simp
  have Hsz := Lib.hid hsz
  clear hsz
  obtain ⟨L, hL⟩ : ∃ L, decide (192 ≤ b) = L := ⟨_, rfl⟩
  rw [hL] at h
  have hm : (b - 128).tmod 64 = (b - 128) % 64 := Int.tmod_eq_emod_of_nonneg (by omega)
  obtain ⟨n, hn⟩ : ∃ n, (b - 128) % 64 = n := ⟨_, rfl⟩
  have hn0 : 0 ≤ n := by omega
  have hn1 : n < 64 := by omega
  rw [hn] at h
  have H := Lib.hid h
  have HL := Lib.hid hL
  clear h c1 hL
  go_enter Try.func45, Try.ntmps45
  go_upto_if 39 with (fail)
  repeat (go_quiet (fail); go_upto_if 39 with (fail))
  (try simp only [Act.put, List.setIfInBounds_toArray, List.set_cons_zero, List.set_cons_succ])
  go_cut [9, 10] (fun v9 v10 wc => ∃ (m : Int) (rest : ByteArray), v9 = .int .i64 m ∧ v10 = .string rest ∧ 0 ≤ m ∧ rest.size ≤ 140737488351232 ∧ Aside0 (rlp_Split.fin L m rest = (r1, r2, r3, r4)) ∧ Drawn0 w wc)
  case first =>
    have h := H.out
    clear H
    by_cases c5 : n ≤ 55
    · rw [if_pos c5] at h
      have c5' : decide (55 < n) = false := decide_eq_false (by omega)
      have H' := Aside0.mk (Option.some.inj h)
      clear h
      rw [c5']
      go_wp2
      go_meet
      case rel => exact ⟨n, _, rfl, rfl, hn0, by rw [Hsz.out]; omega, H', by repeat (first | exact Drawn0.refl _ | apply Drawn0.step)⟩
    · rw [if_neg c5] at h
      have c5' : decide (55 < n) = true := decide_eq_true (by omega)
      rw [c5']
      by_cases c6 : (a0.size : Int) - 1 < n - 55
      · rw [if_pos c6] at h
        simp only [rlp_Split.bad, Option.some.injEq, Prod.mk.injEq] at h
        obtain ⟨rfl, rfl, rfl, rfl⟩ := h
        go_wp2_with (go_at_call 58; (with_reducible refine (rlp_Split_1.calls _ _ _ _ _ rfl).mono ?_); rintro e w' ⟨rfl, ⟨nd, rfl⟩⟩)
        refine bodyPost_ret (results_list (rs := [.tmp 2, .tmp 3, .tmp 4, .tmp 5]) rfl (by simp) (.tmp (.tmp (.tmp (.tmp .nil))))) rfl ?_
        exact ⟨by first | rfl | (simp; done) | (simp [*]; done), by repeat (first | exact Drawn0.refl _ | apply Drawn0.step)⟩
      · rw [if_neg c6] at h
        replace h := Option.bind_eq_some_iff.mp h
        obtain ⟨⟨t1, t2⟩, A10, h⟩ := h
        have A1 := Aside0.mk A10
        clear A10
        have c6' : n - 55 ≤ ((a0.size - 1 : Nat) : Int) := by omega
        have c6n : (n - 55).toNat ≤ a0.size - 1 := by omega
        cases t2 with
        | false =>
          simp only [if_true, rlp_Split.bad, Option.some.injEq, Prod.mk.injEq] at h
          obtain ⟨rfl, rfl, rfl, rfl⟩ := h
          go_wp2_with (first | (go_at_call 58; (with_reducible refine (rlp_Split_1.calls _ _ _ _ _ rfl).mono ?_); rintro e w' ⟨rfl, ⟨nd, rfl⟩⟩) | (go_at_call 25; (with_reducible refine (rlp_Uint.calls k _ t1 false _ A1.out).mono ?_); rintro e w' ⟨rfl, ⟨nd, rfl⟩⟩))
          refine bodyPost_ret (results_list (rs := [.tmp 2, .tmp 3, .tmp 4, .tmp 5]) rfl (by simp) (.tmp (.tmp (.tmp (.tmp .nil))))) rfl ?_
          exact ⟨by first | rfl | (simp; done) | (simp [*]; done), by repeat (first | exact Drawn0.refl _ | apply Drawn0.step)⟩
        | true =>
          simp only [Bool.true_eq_false, if_false] at h
          by_cases c7 : t1 ≤ 55
          · rw [if_pos c7] at h
            simp only [rlp_Split.bad, Option.some.injEq, Prod.mk.injEq] at h
            obtain ⟨rfl, rfl, rfl, rfl⟩ := h
            have c7' : decide (t1 ≤ 55) = true := decide_eq_true c7
            go_wp2_with (first | (go_at_call 58; (with_reducible refine (rlp_Split_1.calls _ _ _ _ _ rfl).mono ?_); rintro e w' ⟨rfl, ⟨nd, rfl⟩⟩) | (go_at_call 25; (with_reducible refine (rlp_Uint.calls k _ t1 true _ A1.out).mono ?_); rintro e w' ⟨rfl, ⟨nd, rfl⟩⟩))
            refine bodyPost_ret (results_list (rs := [.tmp 2, .tmp 3, .tmp 4, .tmp 5]) rfl (by simp) (.tmp (.tmp (.tmp (.tmp .nil))))) rfl ?_
            exact ⟨by first | rfl | (simp; done) | (simp [*]; done), by repeat (first | exact Drawn0.refl _ | apply Drawn0.step)⟩
          · rw [if_neg c7] at h
            have c7' : decide (t1 ≤ 55) = false := decide_eq_false c7
            by_cases c8 : (a0.size : Int) - 1 < t1
            · rw [if_pos c8] at h
              simp only [rlp_Split.bad, Option.some.injEq, Prod.mk.injEq] at h
              obtain ⟨rfl, rfl, rfl, rfl⟩ := h
              have c8' : ((a0.size - 1 : Nat) : Int) < t1 := by omega
              go_wp2_with (first | (go_at_call 58; (with_reducible refine (rlp_Split_1.calls _ _ _ _ _ rfl).mono ?_); rintro e w' ⟨rfl, ⟨nd, rfl⟩⟩) | (go_at_call 25; (with_reducible refine (rlp_Uint.calls k _ t1 true _ A1.out).mono ?_); rintro e w' ⟨rfl, ⟨nd, rfl⟩⟩))
              refine bodyPost_ret (results_list (rs := [.tmp 2, .tmp 3, .tmp 4, .tmp 5]) rfl (by simp) (.tmp (.tmp (.tmp (.tmp .nil))))) rfl ?_
              exact ⟨by first | rfl | (simp; done) | (simp [*]; done), by repeat (first | exact Drawn0.refl _ | apply Drawn0.step)⟩
            · rw [if_neg c8] at h
              have H' := Aside0.mk (Option.some.inj h)
              clear h
              have c8' : t1 ≤ ((a0.size - 1 : Nat) : Int) := by omega
              have c80 : 0 ≤ t1 := by omega
              go_wp2_with (first | (go_at_call 58; (with_reducible refine (rlp_Split_1.calls _ _ _ _ _ rfl).mono ?_); rintro e w' ⟨rfl, ⟨nd, rfl⟩⟩) | (go_at_call 25; (with_reducible refine (rlp_Uint.calls k _ t1 true _ A1.out).mono ?_); rintro e w' ⟨rfl, ⟨nd, rfl⟩⟩))
              go_quiet (fail)
              go_wp2
              go_meet
              case rel => exact ⟨t1, _, rfl, rfl, c80, by rw [ByteArray.size_extract]; omega, (by have z := H'; rw [Hsz.out] at z; exact z), by repeat (first | exact Drawn0.refl _ | apply Drawn0.step)⟩
  case rest =>
    clear H
    obtain ⟨m, rest, rfl, rfl, hm0, hr, HA, HD⟩ := hcut
    have hL := HL.out
    rw [hL]
    have h := HA.out
    clear hL HL HA Hsz hne hne' hx5 q5 hb0 hb1 c3' c4 hm hn hn0 hn1 c3 c2
    unfold rlp_Split.fin at h
    by_cases c1 : (rest.size : Int) < m
    · rw [if_pos c1] at h
      simp only [rlp_Split.bad, Prod.mk.injEq] at h
      obtain ⟨rfl, rfl, rfl, rfl⟩ := h
      go_wp2_with (go_at_call 58; (with_reducible refine (rlp_Split_1.calls _ _ _ _ _ rfl).mono ?_); rintro e w' ⟨rfl, ⟨nd, rfl⟩⟩)
      refine bodyPost_ret (results_list (rs := [.tmp 2, .tmp 3, .tmp 4, .tmp 5]) rfl (by simp) (.tmp (.tmp (.tmp (.tmp .nil))))) rfl ?_
      exact ⟨by first | rfl | (simp; done) | (simp [*]; done), by repeat (first | exact HD | exact Drawn0.refl _ | apply Drawn0.step)⟩
    rw [if_neg c1] at h
    have c1' : m ≤ (rest.size : Int) := by omega
    clear c1
    cases L with
    | true =>
      rw [if_neg (by simp)] at h
      simp only [Prod.mk.injEq] at h
      obtain ⟨rfl, rfl, rfl, rfl⟩ := h
      go_wp2_with (go_at_call 58; (with_reducible refine (rlp_Split_1.calls _ _ _ _ _ rfl).mono ?_); rintro e w' ⟨rfl, ⟨nd, rfl⟩⟩)
      go_quiet (fail)
      go_wp2
      refine bodyPost_ret (results_list (rs := [.tmp 2, .tmp 3, .tmp 4, .tmp 5]) rfl (by simp) (.tmp (.tmp (.tmp (.tmp .nil))))) rfl ?_
      exact ⟨by first | rfl | (simp; done) | (simp [*]; done), by repeat (first | exact HD | exact Drawn0.refl _ | apply Drawn0.step)⟩
    | false =>
      by_cases c2 : m = 1
      · subst c2
        have hx5 : ∀ h : 0 < rest.size, ((rest[0]'h).toNat : Int) = bt rest 0 := bt_at rest 0
        have q5 : (0 < rest.size) = True := eq_true (by omega)
        by_cases c3 : bt rest 0 < 128
        · rw [if_pos ⟨rfl, rfl, c3⟩] at h
          simp only [rlp_Split.bad, Prod.mk.injEq] at h
          obtain ⟨rfl, rfl, rfl, rfl⟩ := h
          have c3' : decide (bt rest 0 < 128) = true := decide_eq_true c3
          go_wp2_with (go_at_call 58; (with_reducible refine (rlp_Split_1.calls _ _ _ _ _ rfl).mono ?_); rintro e w' ⟨rfl, ⟨nd, rfl⟩⟩)
          refine bodyPost_ret (results_list (rs := [.tmp 2, .tmp 3, .tmp 4, .tmp 5]) rfl (by simp) (.tmp (.tmp (.tmp (.tmp .nil))))) rfl ?_
          exact ⟨by first | rfl | (simp; done) | (simp [*]; done), by repeat (first | exact HD | exact Drawn0.refl _ | apply Drawn0.step)⟩
        · rw [if_neg (fun z => c3 z.2.2)] at h
          simp only [Prod.mk.injEq] at h
          obtain ⟨rfl, rfl, rfl, rfl⟩ := h
          have c3' : decide (bt rest 0 < 128) = false := decide_eq_false c3
          go_wp2_with (go_at_call 58; (with_reducible refine (rlp_Split_1.calls _ _ _ _ _ rfl).mono ?_); rintro e w' ⟨rfl, ⟨nd, rfl⟩⟩)
          go_quiet (fail)
          go_wp2
          refine bodyPost_ret (results_list (rs := [.tmp 2, .tmp 3, .tmp 4, .tmp 5]) rfl (by simp) (.tmp (.tmp (.tmp (.tmp .nil))))) rfl ?_
          exact ⟨by first | rfl | (simp; done) | (simp [*]; done), by repeat (first | exact HD | exact Drawn0.refl _ | apply Drawn0.step)⟩
      · rw [if_neg (fun z => c2 z.2.1)] at h
        simp only [Prod.mk.injEq] at h
        obtain ⟨rfl, rfl, rfl, rfl⟩ := h
        have c2' : (m == 1) = false := beq_eq_false_iff_ne.mpr c2
        go_wp2_with (go_at_call 58; (with_reducible refine (rlp_Split_1.calls _ _ _ _ _ rfl).mono ?_); rintro e w' ⟨rfl, ⟨nd, rfl⟩⟩)
        go_quiet (fail)
        go_wp2
        refine bodyPost_ret (results_list (rs := [.tmp 2, .tmp 3, .tmp 4, .tmp 5]) rfl (by simp) (.tmp (.tmp (.tmp (.tmp .nil))))) rfl ?_
        exact ⟨by first | rfl | (simp; done) | (simp [*]; done), by repeat (first | exact HD | exact Drawn0.refl _ | apply Drawn0.step)⟩

end Go.Proofs.Ytenbofpmbdibjaa.P
