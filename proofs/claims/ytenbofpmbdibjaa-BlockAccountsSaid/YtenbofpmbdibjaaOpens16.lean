/- What reads as data at the block's types is a value of the printed words, of the sizes that can be. -/
import Derived.Test.YtenbofpmbdibjaaP0
import Derived.Test.YtenbofpmbdibjaaOpens3
namespace Go.Proofs.Ytenbofpmbdibjaa.RE
open Go.RowKit Go.Proofs.Ytenbofpmbdibjaa.P Go.Proofs.YtenbofpmbdibjaaW.PrintWords Go.Proofs.YtenbofpmbdibjaaW.PrintLast Go.Proofs.YtenbofpmbdibjaaW.Opens
set_option linter.unusedVariables false
set_option linter.unusedSimpArgs false
theorem len2 {α : Type} {l : List α} (h : l.length = 2) : ∃ v0 v1, l = [v0, v1] := by
  match l, h with
  | [v0, v1], _ => exact ⟨v0, v1, rfl⟩
theorem len4 {α : Type} {l : List α} (h : l.length = 4) : ∃ v0 v1 v2 v3, l = [v0, v1, v2, v3] := by
  match l, h with
  | [v0, v1, v2, v3], _ => exact ⟨v0, v1, v2, v3, rfl⟩
theorem len7 {α : Type} {l : List α} (h : l.length = 7) : ∃ v0 v1 v2 v3 v4 v5 v6, l = [v0, v1, v2, v3, v4, v5, v6] := by
  match l, h with
  | [v0, v1, v2, v3, v4, v5, v6], _ => exact ⟨v0, v1, v2, v3, v4, v5, v6, rfl⟩
def fitSlot (x : S50) : Prop := x.f0.size ≤ reachBytes ∧ x.f1.size ≤ reachBytes
theorem opens_slot (n : Nat) : OpensS Try.prog 50 k50 fitSlot n := by
  intro H enc w base spare held fuel cs x hfu h hw
  obtain ⟨m, rfl, hl, hf⟩ := fields_of Try.underlying50 h hw
  rw [show Try.prog.cellsOf 50 = 2 from by kernel_rfl] at hl
  obtain ⟨v0, v1, rfl⟩ := len2 hl
  obtain ⟨y0, f0, g0⟩ := hf 0 _ rfl
  replace f0 : DataW.trod enc Try.prog w base spare held m 9 (([v0, v1].drop 0).take (Try.prog.cellsOf 9)) = some y0 := f0
  rw [show Try.prog.cellsOf 9 = 1 from by kernel_rfl] at f0
  simp only [List.drop_zero, List.drop_succ_cons, List.take_succ_cons, List.take_zero] at f0
  obtain ⟨b0, e0, q0⟩ := (opensS_string (Try.underlying9) m) enc w base spare held m _ _ (Nat.le_refl _) f0 g0
  have e_v0 : v0 = Value.string b0 := List.head_eq_of_cons_eq (show [v0] = [Value.string b0] from e0)
  obtain ⟨y1, f1, g1⟩ := hf 1 _ rfl
  replace f1 : DataW.trod enc Try.prog w base spare held m 9 (([v0, v1].drop 1).take (Try.prog.cellsOf 9)) = some y1 := f1
  rw [show Try.prog.cellsOf 9 = 1 from by kernel_rfl] at f1
  simp only [List.drop_zero, List.drop_succ_cons, List.take_succ_cons, List.take_zero] at f1
  obtain ⟨b1, e1, q1⟩ := (opensS_string (Try.underlying9) m) enc w base spare held m _ _ (Nat.le_refl _) f1 g1
  have e_v1 : v1 = Value.string b1 := List.head_eq_of_cons_eq (show [v1] = [Value.string b1] from e1)
  subst e_v0 e_v1
  exact ⟨⟨b0, b1⟩, k50_mk w ⟨b0, b1⟩ , q0, q1⟩
def fitWrite (x : S38) : Prop := x.f0.size ≤ reachBytes ∧ True ∧ True ∧ (Lit.int .u64 x.f3).wf = true ∧ x.f4.size ≤ reachBytes ∧ x.f5.size ≤ reachBytes ∧ (x.f6.length * Try.prog.bytesOf 50 ≤ reachBytes ∧ x.f6.length ≤ 9223372036854775807 ∧ ∀ y ∈ x.f6, fitSlot y)
theorem opens_write (n : Nat) : OpensS Try.prog 38 k38 fitWrite n := by
  intro H enc w base spare held fuel cs x hfu h hw
  obtain ⟨m, rfl, hl, hf⟩ := fields_of Try.underlying38 h hw
  rw [show Try.prog.cellsOf 38 = 7 from by kernel_rfl] at hl
  obtain ⟨v0, v1, v2, v3, v4, v5, v6, rfl⟩ := len7 hl
  obtain ⟨y0, f0, g0⟩ := hf 0 _ rfl
  replace f0 : DataW.trod enc Try.prog w base spare held m 9 (([v0, v1, v2, v3, v4, v5, v6].drop 0).take (Try.prog.cellsOf 9)) = some y0 := f0
  rw [show Try.prog.cellsOf 9 = 1 from by kernel_rfl] at f0
  simp only [List.drop_zero, List.drop_succ_cons, List.take_succ_cons, List.take_zero] at f0
  obtain ⟨b0, e0, q0⟩ := (opensS_string (Try.underlying9) m) enc w base spare held m _ _ (Nat.le_refl _) f0 g0
  have e_v0 : v0 = Value.string b0 := List.head_eq_of_cons_eq (show [v0] = [Value.string b0] from e0)
  obtain ⟨y1, f1, g1⟩ := hf 1 _ rfl
  replace f1 : DataW.trod enc Try.prog w base spare held m 4 (([v0, v1, v2, v3, v4, v5, v6].drop 1).take (Try.prog.cellsOf 4)) = some y1 := f1
  rw [show Try.prog.cellsOf 4 = 1 from by kernel_rfl] at f1
  simp only [List.drop_zero, List.drop_succ_cons, List.take_succ_cons, List.take_zero] at f1
  obtain ⟨b1, e1, q1⟩ := (OpensTo.sized (opens_bool (Try.underlying4) m)) enc w base spare held m _ _ (Nat.le_refl _) f1 g1
  have e_v1 : v1 = Value.bool b1 := List.head_eq_of_cons_eq (show [v1] = [Value.bool b1] from e1)
  obtain ⟨y2, f2, g2⟩ := hf 2 _ rfl
  replace f2 : DataW.trod enc Try.prog w base spare held m 4 (([v0, v1, v2, v3, v4, v5, v6].drop 2).take (Try.prog.cellsOf 4)) = some y2 := f2
  rw [show Try.prog.cellsOf 4 = 1 from by kernel_rfl] at f2
  simp only [List.drop_zero, List.drop_succ_cons, List.take_succ_cons, List.take_zero] at f2
  obtain ⟨b2, e2, q2⟩ := (OpensTo.sized (opens_bool (Try.underlying4) m)) enc w base spare held m _ _ (Nat.le_refl _) f2 g2
  have e_v2 : v2 = Value.bool b2 := List.head_eq_of_cons_eq (show [v2] = [Value.bool b2] from e2)
  obtain ⟨y3, f3, g3⟩ := hf 3 _ rfl
  replace f3 : DataW.trod enc Try.prog w base spare held m 35 (([v0, v1, v2, v3, v4, v5, v6].drop 3).take (Try.prog.cellsOf 35)) = some y3 := f3
  rw [show Try.prog.cellsOf 35 = 1 from by kernel_rfl] at f3
  simp only [List.drop_zero, List.drop_succ_cons, List.take_succ_cons, List.take_zero] at f3
  obtain ⟨b3, e3, q3⟩ := (OpensTo.sized (opens_int (Try.underlying35) m)) enc w base spare held m _ _ (Nat.le_refl _) f3 g3
  have e_v3 : v3 = Value.int .u64 b3 := List.head_eq_of_cons_eq (show [v3] = [Value.int .u64 b3] from e3)
  obtain ⟨y4, f4, g4⟩ := hf 4 _ rfl
  replace f4 : DataW.trod enc Try.prog w base spare held m 9 (([v0, v1, v2, v3, v4, v5, v6].drop 4).take (Try.prog.cellsOf 9)) = some y4 := f4
  rw [show Try.prog.cellsOf 9 = 1 from by kernel_rfl] at f4
  simp only [List.drop_zero, List.drop_succ_cons, List.take_succ_cons, List.take_zero] at f4
  obtain ⟨b4, e4, q4⟩ := (opensS_string (Try.underlying9) m) enc w base spare held m _ _ (Nat.le_refl _) f4 g4
  have e_v4 : v4 = Value.string b4 := List.head_eq_of_cons_eq (show [v4] = [Value.string b4] from e4)
  obtain ⟨y5, f5, g5⟩ := hf 5 _ rfl
  replace f5 : DataW.trod enc Try.prog w base spare held m 9 (([v0, v1, v2, v3, v4, v5, v6].drop 5).take (Try.prog.cellsOf 9)) = some y5 := f5
  rw [show Try.prog.cellsOf 9 = 1 from by kernel_rfl] at f5
  simp only [List.drop_zero, List.drop_succ_cons, List.take_succ_cons, List.take_zero] at f5
  obtain ⟨b5, e5, q5⟩ := (opensS_string (Try.underlying9) m) enc w base spare held m _ _ (Nat.le_refl _) f5 g5
  have e_v5 : v5 = Value.string b5 := List.head_eq_of_cons_eq (show [v5] = [Value.string b5] from e5)
  obtain ⟨y6, f6, g6⟩ := hf 6 _ rfl
  replace f6 : DataW.trod enc Try.prog w base spare held m 36 (([v0, v1, v2, v3, v4, v5, v6].drop 6).take (Try.prog.cellsOf 36)) = some y6 := f6
  rw [show Try.prog.cellsOf 36 = 1 from by kernel_rfl] at f6
  simp only [List.drop_zero, List.drop_succ_cons, List.take_succ_cons, List.take_zero] at f6
  obtain ⟨b6, ⟨A6, c6, e6, hle6, hC6⟩, q6⟩ := opensS_slice (k := k50) Try.underlying36 (show Try.prog.cellsOf 50 = Kd.sz k50 from by kernel_rfl) (opens_slot m) enc w base spare held m _ _ (by omega) f6 g6
  have e_v6 : v6 = .slice A6 b6.length c6 := List.head_eq_of_cons_eq e6
  subst e_v0 e_v1 e_v2 e_v3 e_v4 e_v5 e_v6
  exact ⟨⟨b0, b1, b2, b3, b4, b5, b6⟩, k38_mk w ⟨b0, b1, b2, b3, b4, b5, b6⟩ hle6 hC6, q0, q1, q2, q3, q4, q5, q6⟩
def fitAccount (x : S40) : Prop := (Lit.int .u64 x.f0).wf = true ∧ x.f1.size ≤ reachBytes ∧ x.f2.size ≤ reachBytes ∧ (Lit.int .i64 x.f3).wf = true
theorem opens_account (n : Nat) : OpensS Try.prog 40 k40 fitAccount n := by
  intro H enc w base spare held fuel cs x hfu h hw
  obtain ⟨m, rfl, hl, hf⟩ := fields_of Try.underlying40 h hw
  rw [show Try.prog.cellsOf 40 = 4 from by kernel_rfl] at hl
  obtain ⟨v0, v1, v2, v3, rfl⟩ := len4 hl
  obtain ⟨y0, f0, g0⟩ := hf 0 _ rfl
  replace f0 : DataW.trod enc Try.prog w base spare held m 35 (([v0, v1, v2, v3].drop 0).take (Try.prog.cellsOf 35)) = some y0 := f0
  rw [show Try.prog.cellsOf 35 = 1 from by kernel_rfl] at f0
  simp only [List.drop_zero, List.drop_succ_cons, List.take_succ_cons, List.take_zero] at f0
  obtain ⟨b0, e0, q0⟩ := (OpensTo.sized (opens_int (Try.underlying35) m)) enc w base spare held m _ _ (Nat.le_refl _) f0 g0
  have e_v0 : v0 = Value.int .u64 b0 := List.head_eq_of_cons_eq (show [v0] = [Value.int .u64 b0] from e0)
  obtain ⟨y1, f1, g1⟩ := hf 1 _ rfl
  replace f1 : DataW.trod enc Try.prog w base spare held m 9 (([v0, v1, v2, v3].drop 1).take (Try.prog.cellsOf 9)) = some y1 := f1
  rw [show Try.prog.cellsOf 9 = 1 from by kernel_rfl] at f1
  simp only [List.drop_zero, List.drop_succ_cons, List.take_succ_cons, List.take_zero] at f1
  obtain ⟨b1, e1, q1⟩ := (opensS_string (Try.underlying9) m) enc w base spare held m _ _ (Nat.le_refl _) f1 g1
  have e_v1 : v1 = Value.string b1 := List.head_eq_of_cons_eq (show [v1] = [Value.string b1] from e1)
  obtain ⟨y2, f2, g2⟩ := hf 2 _ rfl
  replace f2 : DataW.trod enc Try.prog w base spare held m 9 (([v0, v1, v2, v3].drop 2).take (Try.prog.cellsOf 9)) = some y2 := f2
  rw [show Try.prog.cellsOf 9 = 1 from by kernel_rfl] at f2
  simp only [List.drop_zero, List.drop_succ_cons, List.take_succ_cons, List.take_zero] at f2
  obtain ⟨b2, e2, q2⟩ := (opensS_string (Try.underlying9) m) enc w base spare held m _ _ (Nat.le_refl _) f2 g2
  have e_v2 : v2 = Value.string b2 := List.head_eq_of_cons_eq (show [v2] = [Value.string b2] from e2)
  obtain ⟨y3, f3, g3⟩ := hf 3 _ rfl
  replace f3 : DataW.trod enc Try.prog w base spare held m 3 (([v0, v1, v2, v3].drop 3).take (Try.prog.cellsOf 3)) = some y3 := f3
  rw [show Try.prog.cellsOf 3 = 1 from by kernel_rfl] at f3
  simp only [List.drop_zero, List.drop_succ_cons, List.take_succ_cons, List.take_zero] at f3
  obtain ⟨b3, e3, q3⟩ := (OpensTo.sized (opens_int (Try.underlying3) m)) enc w base spare held m _ _ (Nat.le_refl _) f3 g3
  have e_v3 : v3 = Value.int .i64 b3 := List.head_eq_of_cons_eq (show [v3] = [Value.int .i64 b3] from e3)
  subst e_v0 e_v1 e_v2 e_v3
  exact ⟨⟨b0, b1, b2, b3⟩, k40_mk w ⟨b0, b1, b2, b3⟩ , q0, q1, q2, q3⟩
def fitBlock (x : S24) : Prop := (Lit.int .i64 x.f0).wf = true ∧ (x.f1.length * Try.prog.bytesOf 38 ≤ reachBytes ∧ x.f1.length ≤ 9223372036854775807 ∧ ∀ y ∈ x.f1, fitWrite y)
theorem opens_block (n : Nat) : OpensS Try.prog 24 k24 fitBlock n := by
  intro H enc w base spare held fuel cs x hfu h hw
  obtain ⟨m, rfl, hl, hf⟩ := fields_of Try.underlying24 h hw
  rw [show Try.prog.cellsOf 24 = 2 from by kernel_rfl] at hl
  obtain ⟨v0, v1, rfl⟩ := len2 hl
  obtain ⟨y0, f0, g0⟩ := hf 0 _ rfl
  replace f0 : DataW.trod enc Try.prog w base spare held m 3 (([v0, v1].drop 0).take (Try.prog.cellsOf 3)) = some y0 := f0
  rw [show Try.prog.cellsOf 3 = 1 from by kernel_rfl] at f0
  simp only [List.drop_zero, List.drop_succ_cons, List.take_succ_cons, List.take_zero] at f0
  obtain ⟨b0, e0, q0⟩ := (OpensTo.sized (opens_int (Try.underlying3) m)) enc w base spare held m _ _ (Nat.le_refl _) f0 g0
  have e_v0 : v0 = Value.int .i64 b0 := List.head_eq_of_cons_eq (show [v0] = [Value.int .i64 b0] from e0)
  obtain ⟨y1, f1, g1⟩ := hf 1 _ rfl
  replace f1 : DataW.trod enc Try.prog w base spare held m 22 (([v0, v1].drop 1).take (Try.prog.cellsOf 22)) = some y1 := f1
  rw [show Try.prog.cellsOf 22 = 1 from by kernel_rfl] at f1
  simp only [List.drop_zero, List.drop_succ_cons, List.take_succ_cons, List.take_zero] at f1
  obtain ⟨b1, ⟨A1, c1, e1, hle1, hC1⟩, q1⟩ := opensS_slice (k := k38) Try.underlying22 (show Try.prog.cellsOf 38 = Kd.sz k38 from by kernel_rfl) (opens_write m) enc w base spare held m _ _ (by omega) f1 g1
  have e_v1 : v1 = .slice A1 b1.length c1 := List.head_eq_of_cons_eq e1
  subst e_v0 e_v1
  exact ⟨⟨b0, b1⟩, k24_mk w ⟨b0, b1⟩ hle1 hC1, q0, q1⟩
end Go.Proofs.Ytenbofpmbdibjaa.RE
