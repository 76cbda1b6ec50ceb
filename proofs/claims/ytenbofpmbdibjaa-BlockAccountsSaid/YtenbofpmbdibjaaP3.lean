/- What Go functions of the program come to: a Lean function and its contract for each. Written by a program of this session over the kit's printer, some contracts by hand. -/
import Derived.Test.YtenbofpmbdibjaaP0
namespace Go.Proofs.Ytenbofpmbdibjaa.P
open Go.RowKit Go.Proofs.YtenbofpmbdibjaaW.PrintWords Go.Proofs.YtenbofpmbdibjaaW.PrintLast Go.Proofs.YtenbofpmbdibjaaW.PrintMore
attribute [local go_sem] max2_int min2_int max_two min_two max_three min_three max_four min_four str_leq str_gtr str_geq   -- for this text's walks alone
set_option linter.unusedVariables false
set_option linter.unusedSimpArgs false

/-! ### strings_Join: function 63, by hand -/
def strings_Join.f (l0 : List ByteArray) (a1 : ByteArray) : Option ByteArray :=
  if l0.length ≤ 140737488355328 ∧ (Lib.join (l0.map (·.data.toList)) a1.data.toList).length ≤ 140737488355328 then some ⟨(Lib.join (l0.map (·.data.toList)) a1.data.toList).toArray⟩ else none
theorem strings_Join.calls (A0 : Option Addr) (c0 : Nat) (l0 : List ByteArray) (a1 : ByteArray) (r : ByteArray) (w : World) (hr0 : Kd.C Kd.string w A0 l0.length l0) (hc0 : l0.length ≤ c0) (h : strings_Join.f l0 a1 = some r) :
    Calls Try.prog 63 #[.slice A0 l0.length c0, .string a1] w fun e w' => e = .returned (.string r) ∧ Below w.heap.size w w' := by
  unfold strings_Join.f at h
  by_cases c1 : l0.length ≤ 140737488355328 ∧ (Lib.join (l0.map (·.data.toList)) a1.data.toList).length ≤ 140737488355328
  · rw [if_pos c1] at h
    obtain rfl := Option.some.inj h
    cases l0 with
    | nil =>
      refine (Any.strings_Join_none Try.lays156 Try.Builder_Extra_156 A0 c0 a1 w).mono fun e w' ⟨he, hw⟩ => ⟨?_, hw ▸ Below.refl _ _⟩
      rw [he]; rfl
    | cons x xs =>
      have hg : ∀ (j : Nat) y, (x :: xs)[j]? = some y → ∃ ad, A0 = some ad ∧ w.cell? (ad.add j) = some (.string y) := by
        intro j y hj
        obtain ⟨hl, hy⟩ := List.getElem?_eq_some_iff.1 hj
        obtain ⟨ad, c, e, _, hK, hc⟩ := Kd.C_get hr0 (⟨#[]⟩ : ByteArray) (j : Int) (by omega) (by omega)
        refine ⟨ad, e, ?_⟩
        have hK' : c = [.string ((x :: xs).getD (j : Int).toNat (⟨#[]⟩ : ByteArray))] := hK
        have := hc 0 (.string y) (by rw [hK']; simp only [Int.toNat_natCast, List.getElem?_cons_zero, Option.some.injEq, Value.string.injEq]; rw [List.getD_eq_getElem?_getD, hj]; rfl)
        simpa [Kd.string, Kd.scalar] using this
      obtain ⟨ad, rfl, h0⟩ := hg 0 x rfl
      have hsp : ad.spot = none := by
        unfold World.cell? at h0
        split at h0
        · rename_i c elem fr heq
          by_cases hs : (ad.add 0).spot.isSome
          · rw [if_pos hs] at h0; exact absurd h0 (by simp)
          · have : ad.add 0 = ad := rfl
            rw [this] at hs
            cases hz : ad.spot with
            | none => rfl
            | some _ => rw [hz] at hs; exact absurd rfl hs
        · exact absurd h0 (by simp)
      obtain ⟨bk, o, sp⟩ := ad
      obtain rfl : sp = none := hsp
      have hbk : bk < w.heap.size := by
        have h1 : w.cell? ⟨bk, o, none⟩ = some (.string x) := h0
        unfold World.cell? at h1
        rcases Nat.lt_or_ge bk w.heap.size with h2 | h2
        · exact h2
        · rw [Array.getElem?_eq_none h2] at h1; exact absurd h1 (by simp)
      refine (Try.strings_Join bk o c0 (x :: xs) a1 w ?_ hbk c1.1 hc0 c1.2).mono fun e w' ⟨he, hw⟩ => ⟨he, hw⟩
      intro j y hj
      obtain ⟨ad, e, hcell⟩ := hg j y hj
      injection e with e
      subst e
      rw [show Addr.add ⟨bk, o, none⟩ j = ⟨bk, o + j, none⟩ from by unfold Addr.add; split <;> simp_all] at hcell
      exact hcell
  · rw [if_neg c1] at h
    exact absurd h (by simp)

end Go.Proofs.Ytenbofpmbdibjaa.P
