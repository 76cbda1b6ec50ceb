/- NibbleUnpacks: of any bytes: what is read of them is packed as just these bytes; what is refused is the pack of nothing: for any bytes, any other row, by a text. -/
import Derived.Test.YtlajpfdmbagedaaDoorNibAwake
import Derived.Test.YtlajpfdmbagedaaDoorP18
namespace Go.Proofs.YtlajpfdmbagedaaDoor.Pure
open Go.RowKit Go.Proofs.YtlajpfdmbagedaaDoor.P Go.Proofs.YtlajpfdmbagedaaDoorW.PrintWords Go.Proofs.YtlajpfdmbagedaaDoorW.PrintLast Go.Proofs.YtlajpfdmbagedaaDoor.RE Go.Proofs.YtlajpfdmbagedaaDoorW.Nib Go.Proofs.YtlajpfdmbagedaaDoor.NE
theorem unpack_len {s l : Bs} {leaf : Bool} (h : unpack s = some (l, leaf)) : l.length ≤ 2 * s.length := by
  cases s with
  | nil => simp [unpack] at h
  | cons b t =>
    simp only [unpack] at h
    have := nib_len t
    split at h
    · cases h
    · split at h
      · simp only [Option.some.injEq, Prod.mk.injEq] at h
        obtain ⟨rfl, _⟩ := h
        simp only [List.length_cons]; omega
      · split at h
        · simp only [Option.some.injEq, Prod.mk.injEq] at h
          obtain ⟨rfl, _⟩ := h
          simp only [List.length_cons]; omega
        · cases h
theorem unpacks_j0 (s t : Bs) (leaf : Bool) (hs : s.length ≤ 200) (ht : t.length ≤ 200) : Ev (fun k => loesslaw03_NibbleUnpacks.j0 k (ba s) (ba t) leaf true false) true := by
  refine Ev.step (fun k => loesslaw03_NibbleUnpacks.j0.eq_2 _ _ _ _ _ k) ?_
  refine Ev.ite_neg (by simp) (Ev.bind (ev_Unpack s (by omega)) ?_)
  cases hu : unpack s with
  | some x =>
    obtain ⟨l, lf⟩ := x
    obtain ⟨hp, hr⟩ := pack_unpack s l lf hu
    have hl := unpack_len hu
    refine Ev.ite_pos rfl (Ev.bind (ev_Pack l lf (by omega)) (Ev.ite_pos rfl ?_))
    rw [hp]
    refine Ev.ite_pos rfl (Ev.ite_pos rfl (Ev.bind (ev_Right l (by omega)) (Ev.eq (Ev.now _) hr)))
  | none =>
    have l1 := nib_len t
    refine Ev.ite_neg (by simp [unpackR]) (Ev.bind (ev_Of t (by omega)) (Ev.bind (ev_Pack (nib t) leaf (by omega)) (Ev.ite_pos rfl (Ev.ite_pos rfl ?_))))
    obtain ⟨p, hp⟩ : ∃ p, pack (nib t) leaf = some p := by
      unfold pack
      rw [if_pos (nib_right t)]
      split <;> exact ⟨_, rfl⟩
    rw [hp]
    refine Ev.ite_pos rfl (Ev.eq (Ev.now _) ?_)
    simp only [packR, ba_toList, bne_iff_ne]
    rintro rfl
    rw [(unpack_pack _ _ _ hp).1] at hu
    cases hu
theorem unpacks_up (s t : Bs) (leaf : Bool) : Ev (fun k => loesslaw03_NibbleUnpacks.j0 k (ba s) (ba t) leaf true true) true :=
  Ev.step (fun k => loesslaw03_NibbleUnpacks.j0.eq_2 _ _ _ _ _ k) (Ev.ite_pos rfl (Ev.now _))
theorem NibbleUnpacks : loesslaw03_NibbleUnpacks.Pure := by
  intro a0 a1 leaf h0 h1
  obtain ⟨s, rfl⟩ := exists_ba a0
  obtain ⟨t, rfl⟩ := exists_ba a1
  refine Ev.rounds (g := fun k => loesslaw03_NibbleUnpacks.f k (ba s) (ba t) leaf) ?_
  unfold loesslaw03_NibbleUnpacks.f
  rw [ba_size, ba_size]
  refine Ev.bind ev_awake ?_
  by_cases e1 : s.length ≤ 200
  · refine Ev.ite_neg (by omega) ?_
    by_cases e3 : t.length ≤ 200
    · rw [decide_eq_false (by omega)]; exact unpacks_j0 s t leaf e1 e3
    · rw [decide_eq_true (by omega)]; exact unpacks_up s t leaf
  · exact Ev.ite_pos (by omega) (unpacks_up s t leaf)
end Go.Proofs.YtlajpfdmbagedaaDoor.Pure
