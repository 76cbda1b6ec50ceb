/- NibbleRows: rows, packed and not, and their order are as the document says: for any two texts (the first 3000 bytes of them) and any flag. -/
import Derived.Test.YtlajpfdmbagedaaDoorNibAwake
import Derived.Test.YtlajpfdmbagedaaDoorNibRef
import Derived.Test.YtlajpfdmbagedaaDoorP17
namespace Go.Proofs.YtlajpfdmbagedaaDoor.Pure
open Go.RowKit Go.Proofs.YtlajpfdmbagedaaDoor.P Go.Proofs.YtlajpfdmbagedaaDoorW.PrintWords Go.Proofs.YtlajpfdmbagedaaDoorW.PrintLast Go.Proofs.YtlajpfdmbagedaaDoor.RE Go.Proofs.YtlajpfdmbagedaaDoorW.Nib Go.Proofs.YtlajpfdmbagedaaDoor.NE
theorem rows_j1 (s t : Bs) (leaf : Bool) (hs : s.length ≤ 3000) (ht : t.length ≤ 3000) : Ev (fun k => loesslaw03_NibbleRows.j1 k (ba s) (ba t) leaf true) true := by
  refine Ev.step (fun k => loesslaw03_NibbleRows.j1.eq_2 _ _ _ _ k) ?_
  refine Ev.bind (ev_Bytes s (by omega)) (Ev.bind (ev_refBytes s (by omega)) (Ev.bind (ev_Pack s leaf (by omega)) (Ev.bind (ev_refPack s leaf (by omega)) (Ev.bind (ev_Unpack t (by omega)) (Ev.bind (ev_refUnpack t (by omega)) (Ev.bind (ev_Next s (by omega)) (Ev.bind (ev_refNext s (by omega)) ?_)))))))
  refine Ev.ite_pos rfl (Ev.bind (ev_Of s (by omega)) (Ev.bind (ev_refOf s (by omega)) (Ev.ite_pos rfl (Ev.bind (ev_Right s (by omega)) (Ev.bind (ev_refRight s (by omega)) ?_)))))
  refine Ev.ite_pos (by simp) (Ev.ite_pos rfl (Ev.ite_pos (by simp) (Ev.ite_pos rfl (Ev.ite_pos rfl (Ev.ite_pos rfl (Ev.ite_pos (by simp) (Ev.ite_pos rfl (Ev.ite_pos rfl (Ev.ite_pos (by simp) ?_)))))))))
  refine Ev.bind (ev_Prefix s t (by omega)) (Ev.bind (ev_refPrefix s t (by omega)) (Ev.ite_pos rfl (Ev.bind (ev_Less s t) (Ev.bind (ev_refLess s t (by omega)) (Ev.eq (Ev.now _) ?_)))))
  simp
theorem rows_j0 (s t : Bs) (leaf : Bool) (hs : s.length ≤ 3000) : Ev (fun k => loesslaw03_NibbleRows.j0 k (ba s) (ba t) leaf true) true := by
  refine Ev.step (fun k => loesslaw03_NibbleRows.j0.eq_2 _ _ _ _ k) ?_
  by_cases h : t.length > 3000
  · refine Ev.ite_pos (by rw [ba_size]; omega) (Ev.ite_pos (by omega) (Ev.ite_pos (by rw [ba_size]; omega) ?_))
    rw [ba_extract, List.drop_zero]
    exact rows_j1 _ _ leaf hs (by rw [List.length_take]; omega)
  · exact Ev.ite_neg (by rw [ba_size]; omega) (rows_j1 _ _ leaf hs (by omega))
theorem NibbleRows : loesslaw03_NibbleRows.Pure := by
  intro a0 a1 leaf h0 h1
  obtain ⟨s, rfl⟩ := exists_ba a0
  obtain ⟨t, rfl⟩ := exists_ba a1
  refine Ev.rounds (g := fun k => loesslaw03_NibbleRows.f k (ba s) (ba t) leaf) ?_
  unfold loesslaw03_NibbleRows.f
  refine Ev.bind ev_awake ?_
  by_cases h : s.length > 3000
  · refine Ev.ite_pos (by rw [ba_size]; omega) (Ev.ite_pos (by omega) (Ev.ite_pos (by rw [ba_size]; omega) ?_))
    rw [ba_extract, List.drop_zero]
    exact rows_j0 _ _ leaf (by rw [List.length_take]; omega)
  · exact Ev.ite_neg (by rw [ba_size]; omega) (rows_j0 _ _ leaf (by omega))
end Go.Proofs.YtlajpfdmbagedaaDoor.Pure
