/- The first thing that bytes begin with: what the program's Split comes to. -/
import Derived.Test.YtkkammncpkgodaaRlpEv1
import Derived.Test.YtkkammncpkgodaaP2
namespace Go.Proofs.Ytkkammncpkgodaa.RE
open Go.RowKit Go.Proofs.Ytkkammncpkgodaa.P Go.Proofs.YtkkammncpkgodaaW.PrintWords Go.Proofs.YtkkammncpkgodaaW.PrintLast Go.Proofs.YtkkammncpkgodaaW.Rlp
set_option linter.unusedVariables false
set_option linter.unusedSimpArgs false

/-! ### the first thing -/
def out (x : Option (Bs × Bool × Bs)) : ByteArray × Bool × ByteArray × Int := match x with | none => (ba [], false, ba [], 10) | some (p, l, r) => (ba p, l, ba r, 0)
theorem small_take (rest : Bs) (h : 1 ≤ rest.length) : small (rest.take 1) = true ↔ bt (ba rest) 0 < 128 := by
  cases rest with
  | nil => simp at h
  | cons b t => rw [bt_zero]; simp only [List.take_succ_cons, List.take_zero, small, decide_eq_true_eq]; omega
theorem split_fin (l : Bool) (n : Nat) (rest : Bs) : rlp_Split.fin l (n : Int) (ba rest) = out (fin l n rest) := by
  unfold rlp_Split.fin fin
  rw [ba_size]
  by_cases h1 : rest.length < n
  · rw [if_pos (by omega), if_pos h1]; rfl
  · rw [if_neg (by omega), if_neg h1]
    by_cases h2 : l = false ∧ n = 1 ∧ small (rest.take 1) = true
    · rw [if_pos h2, if_pos ⟨h2.1, by omega, (small_take rest (by omega)).1 h2.2.2⟩]; rfl
    · rw [if_neg h2, if_neg (fun z => h2 ⟨z.1, by omega, (small_take rest (by omega)).2 z.2.2⟩)]
      rw [Int.toNat_natCast, ba_extract, ba_extract, List.drop_zero, List.take_length]
      rfl
theorem ev_Split (s : Bs) (h : s.length < 2 ^ 40) : Ev (fun k => rlp_Split.f k (ba s)) (out (split s)) := by
  unfold rlp_Split.f
  cases s with
  | nil => exact Ev.ite_pos rfl (Ev.now _)
  | cons b rest =>
    have hb := byte_lt b
    simp only [List.length_cons] at h
    refine Ev.ite_neg (by rw [ba_size]; simp) (Ev.ite_neg (by rw [ba_size]; simp; omega) ?_)
    rw [bt_zero]
    simp only [split]
    by_cases h1 : b.toNat < 128
    · rw [if_pos h1]
      refine Ev.ite_pos (by omega) ?_
      rw [ba_extract, ba_extract, ba_size]
      refine Ev.eq (Ev.now _) ?_
      simp [out]
    · rw [if_neg h1]
      refine Ev.ite_neg (by omega) ?_
      have e1 : ((b.toNat : Int) - 128) % 64 = (((b.toNat - 128) % 64 : Nat) : Int) := by omega
      have e2 : (ba (b :: rest)).extract 1 (ba (b :: rest)).size = ba rest := by rw [ba_extract, ba_size]; simp
      have e3 : decide ((192 : Int) ≤ (b.toNat : Int)) = decide (192 ≤ b.toNat) := by rw [decide_eq_decide]; omega
      rw [e1, e2, e3]
      by_cases h2 : (b.toNat - 128) % 64 ≤ 55
      · rw [if_pos h2]
        refine Ev.ite_pos (by omega) ?_
        rw [split_fin]; exact Ev.now _
      · rw [if_neg h2]
        refine Ev.ite_neg (by omega) ?_
        obtain ⟨m, hm⟩ : ∃ m, (b.toNat - 128) % 64 - 55 = m := ⟨_, rfl⟩
        rw [show (((b.toNat - 128) % 64 : Nat) : Int) - 55 = ((m : Nat) : Int) from by omega, hm, Int.toNat_natCast, ba_size]
        simp only [List.length_cons]
        by_cases h3 : rest.length < m
        · rw [if_pos h3]
          exact Ev.ite_pos (by omega) (Ev.now _)
        · rw [if_neg h3]
          refine Ev.ite_neg (by omega) ?_
          rw [ba_extract, ba_extract, ba_size, List.drop_zero, List.take_length]
          have hu := ev_Uint (rest.take m)
          unfold uint at hu
          by_cases h4 : lead (rest.take m) = true
          · rw [if_pos ⟨by simp; omega, h4⟩] at hu
            refine Ev.bind hu ?_
            rw [if_neg (show ¬ lead (rest.take m) = false by rw [h4]; simp)]
            refine Ev.ite_neg (by simp) ?_
            by_cases h5 : val (rest.take m) ≤ 55
            · rw [if_pos h5]; exact Ev.ite_pos (by show (((val (rest.take m) : Nat) : Int)) ≤ 55; omega) (Ev.now _)
            · rw [if_neg h5]
              refine Ev.ite_neg (by show ¬ (((val (rest.take m) : Nat) : Int)) ≤ 55; omega) ?_
              by_cases h6 : rest.length < val (rest.take m)
              · rw [if_pos h6]; exact Ev.ite_pos (by show _ < (((val (rest.take m) : Nat) : Int)); omega) (Ev.now _)
              · rw [if_neg h6]
                refine Ev.ite_neg (by show ¬ _ < (((val (rest.take m) : Nat) : Int)); omega) ?_
                rw [split_fin]; exact Ev.now _
          · rw [if_neg (fun z => h4 z.2)] at hu
            refine Ev.bind hu ?_
            rw [if_pos (show lead (rest.take m) = false by simpa using h4)]
            exact Ev.ite_pos rfl (Ev.now _)
end Go.Proofs.Ytkkammncpkgodaa.RE
