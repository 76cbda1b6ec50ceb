/- NibbleBehind: the rows that begin with one are just those from it on that stand ahead of the next one; if there is no next one, all from it on: for any two rows, by texts. -/
import Derived.Test.YtlajpfdmbagedaaDoorNibAwake
import Derived.Test.YtlajpfdmbagedaaDoorP10
namespace Go.Proofs.YtlajpfdmbagedaaDoor.Pure
open Go.RowKit Go.Proofs.YtlajpfdmbagedaaDoor.P Go.Proofs.YtlajpfdmbagedaaDoorW.PrintWords Go.Proofs.YtlajpfdmbagedaaDoorW.PrintLast Go.Proofs.YtlajpfdmbagedaaDoor.RE Go.Proofs.YtlajpfdmbagedaaDoorW.Nib Go.Proofs.YtlajpfdmbagedaaDoor.NE
theorem less_next {a n : Bs} (ha : right a = true) (hn : next a = some n) : less a n = true :=
  ((begins_iff a a ha ha).1 (pre_self a)).2 n hn
theorem behind_j2 (t a : Bs) (ht : t.length ≤ 200) (ha : right a = true) (h : a.length ≤ 140737488351232) : Ev (fun k => loesslaw03_NibbleBehind.j2 k (ba t) true (ba a)) true := by
  refine Ev.step (fun k => loesslaw03_NibbleBehind.j2.eq_2 _ _ _ k) ?_
  refine Ev.bind (ev_Of t (by omega)) (Ev.bind (ev_NextN a h ha) (Ev.bind (ev_Prefix a (nib t) h) (Ev.bind (ev_Less (nib t) a) ?_)))
  have hb := begins_iff a (nib t) ha (nib_right t)
  rw [ba_size]
  have hp : (((pre a (nib t) : Nat) : Int) == ((a.length : Nat) : Int)) = decide (pre a (nib t) = a.length) := by
    rw [Bool.eq_iff_iff, beq_iff_eq, decide_eq_true_eq]; omega
  rw [hp]
  cases hn : next a with
  | none =>
    refine Ev.ite_neg (by simp [nextR]) (Ev.ite_pos rfl ?_)
    cases hl : less (nib t) a with
    | true =>
      refine Ev.ite_pos rfl (Ev.ite_pos ?_ (Ev.now _))
      rw [decide_eq_false (fun e => by have := (hb.1 e).1; rw [hl] at this; cases this)]; rfl
    | false =>
      refine Ev.ite_neg (by simp) (Ev.ite_pos ?_ (Ev.now _))
      rw [decide_eq_true (hb.2 ⟨hl, fun n e => by rw [hn] at e; cases e⟩)]; rfl
  | some n =>
    refine Ev.ite_pos rfl (Ev.bind (ev_Less (nib t) n) (Ev.ite_pos rfl ?_))
    cases hl : less (nib t) a with
    | true =>
      refine Ev.ite_pos rfl (Ev.ite_pos ?_ (Ev.bind (ev_Less a n) (Ev.eq (Ev.now _) (less_next ha hn))))
      rw [decide_eq_false (fun e => by have := (hb.1 e).1; rw [hl] at this; cases this)]; rfl
    | false =>
      refine Ev.ite_neg (by simp) (Ev.ite_pos ?_ (Ev.bind (ev_Less a n) (Ev.eq (Ev.now _) (less_next ha hn))))
      cases hl2 : less (nib t) n with
      | true => rw [decide_eq_true (hb.2 ⟨hl, fun n' e => by rw [hn] at e; injection e with e; rw [← e]; exact hl2⟩)]; rfl
      | false => rw [decide_eq_false (fun e => by have := (hb.1 e).2 n hn; rw [hl2] at this; cases this)]; rfl
theorem right_take {a : Bs} (h : right a = true) (n : Nat) : right (a.take n) = true := by
  unfold right at *
  rw [List.all_eq_true] at *
  exact fun x hx => h x (List.take_subset _ _ hx)
theorem behind_j1 (t a : Bs) (more : Bool) (ht : t.length ≤ 200) (ha : right a = true) (h : a.length ≤ 140737488351232) (hm : more = true → 0 < a.length) : Ev (fun k => loesslaw03_NibbleBehind.j1 k (ba t) true (ba a) more) true := by
  refine Ev.step (fun k => loesslaw03_NibbleBehind.j1.eq_2 _ _ _ _ k) ?_
  rw [ba_size]
  cases more with
  | false => exact Ev.ite_neg (by simp) (behind_j2 t a ht ha h)
  | true =>
    have := hm rfl
    have e : wrap64 ((a.length : Int) - 1) = ((a.length - 1 : Nat) : Int) := by rw [w64 (by omega) (by omega)]; omega
    rw [e]
    refine Ev.ite_pos rfl (Ev.ite_pos (by omega) (Ev.ite_pos (by omega) ?_))
    rw [Int.toNat_natCast, ba_extract, List.drop_zero]
    exact behind_j2 t _ ht (right_take ha _) (by rw [List.length_take]; omega)
theorem behind_j0 (s t : Bs) (more : Bool) (hs : s.length ≤ 200) (ht : t.length ≤ 200) : Ev (fun k => loesslaw03_NibbleBehind.j0 k (ba s) (ba t) more true false) true := by
  refine Ev.step (fun k => loesslaw03_NibbleBehind.j0.eq_2 _ _ _ _ _ k) ?_
  have l1 := nib_len s
  refine Ev.ite_neg (by simp) (Ev.bind (ev_Of s (by omega)) ?_)
  rw [ba_size]
  by_cases e : 0 < (nib s).length
  · exact Ev.ite_pos (by omega) (behind_j1 t _ more ht (nib_right s) (by omega) (fun _ => e))
  · exact Ev.ite_neg (by omega) (behind_j1 t _ false ht (nib_right s) (by omega) (fun q => by cases q))
theorem behind_up (s t : Bs) (more : Bool) : Ev (fun k => loesslaw03_NibbleBehind.j0 k (ba s) (ba t) more true true) true :=
  Ev.step (fun k => loesslaw03_NibbleBehind.j0.eq_2 _ _ _ _ _ k) (Ev.ite_pos rfl (Ev.now _))
theorem NibbleBehind : loesslaw03_NibbleBehind.Pure := by
  intro a0 a1 more h0 h1
  obtain ⟨s, rfl⟩ := exists_ba a0
  obtain ⟨t, rfl⟩ := exists_ba a1
  refine Ev.rounds (g := fun k => loesslaw03_NibbleBehind.f k (ba s) (ba t) more) ?_
  unfold loesslaw03_NibbleBehind.f
  rw [ba_size, ba_size]
  refine Ev.bind ev_awake ?_
  by_cases e1 : s.length ≤ 200
  · refine Ev.ite_neg (by omega) ?_
    by_cases e3 : t.length ≤ 200
    · rw [decide_eq_false (by omega)]; exact behind_j0 s t more e1 e3
    · rw [decide_eq_true (by omega)]; exact behind_up s t more
  · exact Ev.ite_pos (by omega) (behind_up s t more)
end Go.Proofs.YtlajpfdmbagedaaDoor.Pure
