/- RlpNumbers: numbers are bytes, and back, as the document says; of two numbers the greater one has no fewer bytes: for any two numbers and any bytes. -/
import Derived.Test.YtkkammncpkgodaaRlpEv2
import Derived.Test.YtkkammncpkgodaaP16
namespace Go.Proofs.Ytkkammncpkgodaa.Pure
open Go.RowKit Go.Proofs.Ytkkammncpkgodaa.P Go.Proofs.YtkkammncpkgodaaW.PrintWords Go.Proofs.YtkkammncpkgodaaW.PrintLast Go.Proofs.YtkkammncpkgodaaW.Rlp Go.Proofs.Ytkkammncpkgodaa.RE

theorem u64_nat {a : Int} (h : (Lit.int .u64 a).wf = true) : ∃ n : Nat, a = (n : Int) ∧ n < 2 ^ 64 := by
  have h' : 0 ≤ a ∧ a < 18446744073709551616 := by
    simp only [Lit.wf, Bool.and_eq_true, decide_eq_true_eq, show IntKind.u64.min = 0 from rfl, show IntKind.u64.max = 18446744073709551615 from rfl] at h
    omega
  exact ⟨a.toNat, by omega, by omega⟩
theorem uint_num (n : Nat) (h : n < 2 ^ 64) : uint (num n) = ((n : Int), true) := by
  unfold uint
  rw [if_pos ⟨num_len8 n h, lead_num n⟩, val_num]
theorem RlpNumbers : loesslaw02_RlpNumbers.Pure := by
  intro a0 a1 a2 h0 h1 h2
  obtain ⟨n, rfl, hn⟩ := u64_nat h0
  obtain ⟨m, rfl, hm⟩ := u64_nat h1
  obtain ⟨l, rfl⟩ := exists_ba a2
  refine Ev.rounds (g := fun k => loesslaw02_RlpNumbers.f k (n : Int) (m : Int) (ba l)) ?_
  unfold loesslaw02_RlpNumbers.f
  simp only [loesslaw02_awake.f, Option.bind_some]
  have last : Ev (fun k => if (n : Int) < (m : Int) then some true else (rlp_Number.f k (n : Int)).bind fun t => (rlp_Number.f k (m : Int)).bind fun u => some (decide ((t.size : Int) ≥ (u.size : Int)))) true := by
    by_cases h : n < m
    · exact Ev.ite_pos (by omega) (Ev.now _)
    · refine Ev.ite_neg (by omega) (Ev.bind (ev_Number n hn) (Ev.bind (ev_Number m hm) ?_))
      refine Ev.eq (Ev.now _) ?_
      have := num_mono m n (by omega)
      rw [ba_size, ba_size]
      exact decide_eq_true (by omega)
  refine Ev.bind (ev_Number n hn) (Ev.bind (ev_Uint (num n)) (Ev.bind (ev_Uint l) (Ev.bind (ev_refUint l) ?_)))
  rw [uint_num n hn]
  refine Ev.ite_pos (by simp) (Ev.bind (ev_Number n hn) (Ev.bind (ev_refNumber n hn) (Ev.ite_pos rfl (Ev.ite_pos (by simp) (Ev.ite_pos (by simp) (Ev.ite_pos (by simp) (Ev.ite_pos (by simp) ?_)))))))
  unfold uint
  by_cases h : l.length ≤ 8 ∧ lead l = true
  · rw [if_pos h]
    have hv : val l < 2 ^ 64 := by
      have h3 := val_lt l
      have h4 : (256 : Nat) ^ l.length ≤ 256 ^ 8 := Nat.pow_le_pow_right (by omega) h.1
      have : (256 : Nat) ^ 8 = 2 ^ 64 := by decide
      omega
    refine Ev.ite_pos rfl (Ev.bind (ev_Number (val l) hv) (Ev.ite_pos ?_ last))
    rw [num_val l h.2]
  · rw [if_neg h]
    exact Ev.ite_neg (by simp) last
end Go.Proofs.Ytkkammncpkgodaa.Pure
