/- RlpBack: what was written is read again, and nothing else: no bytes say two things, nothing is said in two ways (any thing; of more than 2000 parts, or with more than 5000 bytes beside it, nothing is asked). -/
import Derived.Test.YtkkammncpkgodaaRlpEv7
import Derived.Test.YtkkammncpkgodaaRlpEv9
import Derived.Test.YtkkammncpkgodaaP13
namespace Go.Proofs.Ytkkammncpkgodaa.Pure
open Go.RowKit Go.Proofs.Ytkkammncpkgodaa.P Go.Proofs.YtkkammncpkgodaaW.PrintWords Go.Proofs.YtkkammncpkgodaaW.PrintLast Go.Proofs.YtkkammncpkgodaaW.Rlp Go.Proofs.Ytkkammncpkgodaa.RE
set_option linter.unusedVariables false
theorem back_j1 (s : Bs) (h : s.length ≤ 5000) : Ev (fun k => loesslaw02_RlpBack.j1 k (ba s) true) true := by
  refine Ev.step (fun k => loesslaw02_RlpBack.j1.eq_2 _ _ k) (Ev.bind (ev_Decode s (by omega)) ?_)
  by_cases h0 : (dec s).2.2.2 = 0
  · refine Ev.ite_pos h0 ?_
    have hw := dec_wt s
    obtain ⟨hg, he⟩ := dec_inv s h0
    have hE := ev_Encode ⟨(dec s).1, (dec s).2.1, (dec s).2.2.1⟩ (by omega)
    unfold enc16 at hE
    rw [if_pos hg, he] at hE
    refine Ev.bind hE (Ev.ite_pos rfl (Ev.ite_pos rfl (Ev.eq (Ev.now _) ?_)))
    simp
  · exact Ev.ite_neg h0 (Ev.now _)
theorem back_j0 (x : It) (hx : wt x ≤ 128000) (s : Bs) (h : s.length ≤ 5000) : Ev (fun k => loesslaw02_RlpBack.j0 k (ba s) true false x.f0 x.f1 x.f2) true := by
  refine Ev.step (fun k => loesslaw02_RlpBack.j0.eq_2 _ _ _ _ _ _ k) (Ev.ite_neg (by simp) (Ev.bind (ev_Encode x (by omega)) ?_))
  unfold enc16
  by_cases hg : good x 16 = true
  · rw [if_pos hg]
    have hl := enc_len (cnt x) x (Nat.le_refl _) (by omega)
    have hc := cnt_wt (cnt x) x (Nat.le_refl _)
    refine Ev.ite_pos rfl (Ev.bind (ev_Decode (enc x) (by omega)) ?_)
    rw [dec_enc x hg (by omega)]
    have hs : Ev (fun k => loessref02_Same.f k x.f0 x.f1 x.f2 x.f0 x.f1 x.f2) true := by
      cases x with
      | mk b t l =>
        simp only [cnt] at hc
        exact same_self _ b t l (Nat.le_refl _) (by omega)
    exact Ev.bind hs (Ev.ite_pos rfl (Ev.ite_pos rfl (back_j1 s h)))
  · rw [if_neg hg]
    exact Ev.ite_neg (by simp) (back_j1 s h)
theorem back_j0_up (x : It) (s : Bs) : Ev (fun k => loesslaw02_RlpBack.j0 k (ba s) true true x.f0 x.f1 x.f2) true :=
  Ev.step (fun k => loesslaw02_RlpBack.j0.eq_2 _ _ _ _ _ _ k) (Ev.ite_pos rfl (Ev.now _))
theorem RlpBack (x : It) (s : ByteArray) (hx : fits x) : ∃ k, loesslaw02_RlpBack.f k x.f0 x.f1 x.f2 s = some true := by
  obtain ⟨l, rfl⟩ := exists_ba s
  refine Ev.rounds (g := fun k => loesslaw02_RlpBack.f k x.f0 x.f1 x.f2 (ba l)) ?_
  unfold loesslaw02_RlpBack.f
  simp only [loesslaw02_awake.f, Option.bind_some]
  obtain ⟨v, hE, _, hw⟩ := nodes_f (cnt x) x 2000 (Nat.le_refl _) hx (by omega)
  refine Ev.bind hE ?_
  rw [ba_size]
  by_cases h1 : v > 2000
  · exact Ev.ite_pos (by omega) (back_j0_up x l)
  · refine Ev.ite_neg (by omega) ?_
    by_cases h2 : l.length > 5000
    · rw [decide_eq_true (by omega)]; exact back_j0_up x l
    · rw [decide_eq_false (by omega)]; exact back_j0 x (by have := hw (by omega); omega) l (by omega)
end Go.Proofs.Ytkkammncpkgodaa.Pure
