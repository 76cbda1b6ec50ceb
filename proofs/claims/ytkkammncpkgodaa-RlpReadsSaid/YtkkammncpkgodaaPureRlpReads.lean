/- RlpReads: any bytes (the first 5000 of them) are read as the thing that they are, or refused, as the document says; so is the first thing that they begin with. -/
import Derived.Test.YtkkammncpkgodaaRlpEv7
import Derived.Test.YtkkammncpkgodaaP19
namespace Go.Proofs.Ytkkammncpkgodaa.Pure
open Go.RowKit Go.Proofs.Ytkkammncpkgodaa.P Go.Proofs.YtkkammncpkgodaaW.PrintWords Go.Proofs.YtkkammncpkgodaaW.PrintLast Go.Proofs.YtkkammncpkgodaaW.Rlp Go.Proofs.Ytkkammncpkgodaa.RE

theorem reads_j0 (l : Bs) (h : l.length ≤ 5000) : Ev (fun k => loesslaw02_RlpReads.j0 k (ba l) true) true := by
  refine Ev.step (fun k => loesslaw02_RlpReads.j0.eq_2 _ _ k) ?_
  have hc := dec_cnt l
  refine Ev.bind (ev_Decode l (by omega)) (Ev.bind (ev_refDecode l (by omega)) (Ev.bind (same_self _ _ _ _ (Nat.le_refl _) (by omega)) (Ev.bind (ev_Split l (by omega)) (Ev.bind (ev_refSplit l (by omega)) ?_))))
  refine Ev.ite_pos rfl (Ev.ite_pos rfl (Ev.ite_pos rfl (Ev.ite_pos rfl (Ev.ite_pos (by simp) (Ev.ite_pos rfl ?_)))))
  refine Ev.eq (Ev.now _) ?_
  simp
theorem RlpReads : loesslaw02_RlpReads.Pure := by
  intro a0 h0
  obtain ⟨l, rfl⟩ := exists_ba a0
  refine Ev.rounds (g := fun k => loesslaw02_RlpReads.f k (ba l)) ?_
  unfold loesslaw02_RlpReads.f
  simp only [loesslaw02_awake.f, Option.bind_some]
  by_cases h : l.length > 5000
  · refine Ev.ite_pos (by rw [ba_size]; omega) (Ev.ite_pos (by omega) (Ev.ite_pos (by rw [ba_size]; omega) ?_))
    rw [ba_extract, List.drop_zero]
    exact reads_j0 _ (by simp; omega)
  · exact Ev.ite_neg (by rw [ba_size]; omega) (reads_j0 l (by omega))
end Go.Proofs.Ytkkammncpkgodaa.Pure
