/- NibbleOrder: rows of bytes stand as the bytes do; what is next to a row stands behind all that begin with it, and ahead of all else that does: for any two texts and what stands behind one. -/
import Derived.Test.YtlajpfdmbagedaaDoorNibAwake
import Derived.Test.YtlajpfdmbagedaaDoorP11
namespace Go.Proofs.YtlajpfdmbagedaaDoor.Pure
open Go.RowKit Go.Proofs.YtlajpfdmbagedaaDoor.P Go.Proofs.YtlajpfdmbagedaaDoorW.PrintWords Go.Proofs.YtlajpfdmbagedaaDoorW.PrintLast Go.Proofs.YtlajpfdmbagedaaDoor.RE Go.Proofs.YtlajpfdmbagedaaDoorW.Nib Go.Proofs.YtlajpfdmbagedaaDoor.NE
theorem order_j1 (a b c : Bs) (ha : right a = true) (hb : right b = true) (hc : ∃ m, c = a ++ m ∧ right m = true) (h : a.length ≤ 140737488351232) :
    Ev (fun k => loesslaw03_NibbleOrder.j1 k true (ba a) (ba b) (ba c) false) true := by
  refine Ev.step (fun k => loesslaw03_NibbleOrder.j1.eq_2 _ _ _ _ _ k) ?_
  refine Ev.ite_neg (by simp) (Ev.bind (ev_NextN a h ha) ?_)
  obtain ⟨m, rfl, hm⟩ := hc
  cases hn : next a with
  | none => exact Ev.ite_neg (by simp [nextR]) (Ev.now _)
  | some n =>
    refine Ev.ite_pos rfl (Ev.bind (ev_Prefix a b h) (Ev.ite_pos rfl ?_))
    refine Ev.bind (ev_Less (a ++ m) n) (Ev.ite_pos ?_ ?_)
    · exact ((begins_iff a (a ++ m) ha (right_app ha hm)).1 (pre_app a m)).2 n hn
    · rw [ba_size]
      by_cases e : pre a b = a.length
      · exact Ev.ite_pos (by omega) (Ev.now _)
      · refine Ev.ite_neg (by omega) (Ev.bind (ev_Less b a) ?_)
        by_cases e2 : less b a = true
        · exact Ev.ite_pos e2 (Ev.now _)
        · refine Ev.ite_neg e2 (Ev.bind (ev_Less b n) (Ev.eq (Ev.now _) ?_))
          cases hx : less b n with
          | false => rfl
          | true =>
            refine absurd ((begins_iff a b ha hb).2 ⟨by simpa using e2, fun n' hn' => ?_⟩) e
            rw [hn] at hn'
            injection hn' with hn'
            rw [← hn']; exact hx
theorem order_j0 (s t m : Bs) (hs : s.length ≤ 2000) (ht : t.length ≤ 2000) (hm : m.length ≤ 2000) : Ev (fun k => loesslaw03_NibbleOrder.j0 k (ba s) (ba t) (ba m) true false) true := by
  refine Ev.step (fun k => loesslaw03_NibbleOrder.j0.eq_2 _ _ _ _ _ k) ?_
  have l1 := nib_len s
  have l2 := nib_len t
  have l3 := nib_len m
  refine Ev.ite_neg (by simp) (Ev.bind (ev_Of s (by omega)) (Ev.bind (ev_Of t (by omega)) (Ev.bind (ev_Of m (by omega)) (Ev.ite_pos ?_ ?_))))
  · rw [ba_size, ba_size]; omega
  · have last : Ev (fun k => loesslaw03_NibbleOrder.j1 k true (ba (nib s)) (ba (nib t)) (ba (nib s) ++ ba (nib m)) (less (nib s ++ nib m) (nib s))) true := by
      rw [ba_app, less_app]
      exact order_j1 _ _ _ (nib_right s) (nib_right t) ⟨nib m, rfl, nib_right m⟩ (by omega)
    refine Ev.bind (ev_Less (nib s) (nib t)) (Ev.ite_neg ?_ (Ev.bind (ev_Less (nib s) (nib t)) ?_))
    · rw [ba_toList, ba_toList, less_nib]; simp
    · rw [ba_app]
      rw [ba_app] at last
      by_cases e : less (nib s) (nib t) = true
      · exact Ev.ite_pos e (Ev.bind (ev_Less (nib t) (nib s)) (Ev.ite_neg (by rw [less_asymm _ _ e]; simp) (Ev.bind (ev_Less (nib s ++ nib m) (nib s)) last)))
      · exact Ev.ite_neg e (Ev.bind (ev_Less (nib s ++ nib m) (nib s)) last)
theorem order_up (s t m : Bs) : Ev (fun k => loesslaw03_NibbleOrder.j0 k (ba s) (ba t) (ba m) true true) true :=
  Ev.step (fun k => loesslaw03_NibbleOrder.j0.eq_2 _ _ _ _ _ k) (Ev.ite_pos rfl (Ev.now _))
theorem NibbleOrder : loesslaw03_NibbleOrder.Pure := by
  intro a0 a1 a2 h0 h1 h2
  obtain ⟨s, rfl⟩ := exists_ba a0
  obtain ⟨t, rfl⟩ := exists_ba a1
  obtain ⟨m, rfl⟩ := exists_ba a2
  refine Ev.rounds (g := fun k => loesslaw03_NibbleOrder.f k (ba s) (ba t) (ba m)) ?_
  unfold loesslaw03_NibbleOrder.f
  rw [ba_size, ba_size, ba_size]
  refine Ev.bind ev_awake ?_
  by_cases e1 : s.length ≤ 2000
  · by_cases e2 : t.length ≤ 2000
    · refine Ev.ite_neg (by omega) (Ev.ite_neg (by omega) ?_)
      by_cases e3 : m.length ≤ 2000
      · rw [decide_eq_false (by omega)]; exact order_j0 s t m e1 e2 e3
      · rw [decide_eq_true (by omega)]; exact order_up s t m
    · exact Ev.ite_neg (by omega) (Ev.ite_pos (by omega) (order_up s t m))
  · exact Ev.ite_pos (by omega) (order_up s t m)
end Go.Proofs.YtlajpfdmbagedaaDoor.Pure
