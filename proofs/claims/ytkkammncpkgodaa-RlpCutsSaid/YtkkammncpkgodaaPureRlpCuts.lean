/- RlpCuts: what is written and cut short is none; with anything behind it it is none, either, but its first thing is what was written (of any text the first 400 bytes, any place, of anything behind the first 400 bytes). -/
import Derived.Test.YtkkammncpkgodaaRlpEv6
import Derived.Test.YtkkammncpkgodaaP14
namespace Go.Proofs.Ytkkammncpkgodaa.Pure
open Go.RowKit Go.Proofs.Ytkkammncpkgodaa.P Go.Proofs.YtkkammncpkgodaaW.PrintWords Go.Proofs.YtkkammncpkgodaaW.PrintLast Go.Proofs.YtkkammncpkgodaaW.Rlp Go.Proofs.Ytkkammncpkgodaa.RE

theorem i64_range {a : Int} (h : (Lit.int .i64 a).wf = true) : -9223372036854775808 ≤ a ∧ a ≤ 9223372036854775807 := by
  simp only [Lit.wf, Bool.and_eq_true, decide_eq_true_eq, show IntKind.i64.min = -9223372036854775808 from rfl, show IntKind.i64.max = 9223372036854775807 from rfl] at h
  exact h
theorem row_nil (n : Nat) (s : Bs) (most : Nat) (hs : s.length ≤ n) (h : row n s most = some []) : s = [] := by
  cases n with
  | zero => exact List.length_eq_zero_iff.1 (by omega)
  | succ n =>
    simp only [row] at h
    by_cases h1 : s = []
    · exact h1
    · rw [if_neg h1] at h
      exfalso
      rcases splitM s with h2 | ⟨p, b, r, h2⟩
      · rw [h2] at h; cases h
      · rw [h2] at h
        dsimp only at h
        by_cases h3 : most = 0
        · rw [if_pos h3] at h; cases h
        · rw [if_neg h3] at h
          cases b with
          | true =>
            rw [if_pos rfl] at h
            obtain ⟨items, h4, h⟩ := Option.bind_eq_some_iff.1 h
            obtain ⟨t, h5, h⟩ := Option.bind_eq_some_iff.1 h
            simp at h
          | false =>
            rw [if_neg (by simp)] at h
            obtain ⟨t, h5, h⟩ := Option.bind_eq_some_iff.1 h
            simp at h
/-- The first thing of a row, and the rest's row. -/
theorem row_cons (n : Nat) (s : Bs) (most : Nat) (x : It) (t : List It) (h : row (n + 1) s most = some (x :: t)) : ∃ p l r, split s = some (p, l, r) ∧ row n r most = some t := by
  simp only [row] at h
  by_cases h1 : s = []
  · rw [if_pos h1] at h; simp at h
  · rw [if_neg h1] at h
    rcases splitM s with h2 | ⟨p, b, r, h2⟩
    · rw [h2] at h; cases h
    · rw [h2] at h
      dsimp only at h
      by_cases h3 : most = 0
      · rw [if_pos h3] at h; cases h
      · rw [if_neg h3] at h
        cases b with
        | true =>
          rw [if_pos rfl] at h
          obtain ⟨items, h4, h⟩ := Option.bind_eq_some_iff.1 h
          obtain ⟨t', h5, h⟩ := Option.bind_eq_some_iff.1 h
          simp only [Option.some.injEq, List.cons.injEq] at h
          obtain ⟨_, rfl⟩ := h
          exact ⟨_, _, _, h2, h5⟩
        | false =>
          rw [if_neg (by simp)] at h
          obtain ⟨t', h5, h⟩ := Option.bind_eq_some_iff.1 h
          simp only [Option.some.injEq, List.cons.injEq] at h
          obtain ⟨_, rfl⟩ := h
          exact ⟨_, _, _, h2, h5⟩
theorem dec_one (s : Bs) (h : (dec s).2.2.2 ≠ 10) : ∃ p l, s = wrap l p := by
  unfold dec thing at h
  split at h
  · rename_i x hx
    cases hn : s.length with
    | zero => rw [hn] at hx; simp [row] at hx
    | succ n =>
      rw [hn] at hx
      obtain ⟨p, l, r, h1, h2⟩ := row_cons n s 16 x [] hx
      have hl := split_len h1
      have := row_nil n r 16 (by omega) h2
      subst this
      exact ⟨p, l, by have := split_inv h1; simpa using this⟩
  · exact absurd rfl h
theorem dec_ten (s : Bs) : (dec s).2.2.2 = 0 ∨ (dec s).2.2.2 = 10 := by
  unfold dec thing
  split
  · exact .inl rfl
  · exact .inr rfl
theorem dec_cut (p : Bs) (hp : p.length < 2 ^ 39) (j : Nat) (hj : j < (lst p).length) : (dec ((lst p).take j)).2.2.2 = 10 := by
  rcases dec_ten ((lst p).take j) with h | h
  · exfalso
    obtain ⟨q, l, e⟩ := dec_one _ (show (dec ((lst p).take j)).2.2.2 ≠ 10 by rw [h]; decide)
    have e2 : lst p = wrap l q ++ (lst p).drop j := by rw [← e]; exact (List.take_append_drop j (lst p)).symm
    have h1 := split_list p [] (by omega)
    rw [List.append_nil, e2] at h1
    have hq : q.length < 2 ^ 64 := by
      have h3 := (wrap_len l q).1
      have h4 : (wrap l q).length ≤ (lst p).length := by rw [← e]; simp; omega
      have h5 := list_len p (by omega)
      omega
    rw [split_wrap l q _ hq] at h1
    simp only [Option.some.injEq, Prod.mk.injEq] at h1
    have := congrArg List.length h1.2.2
    simp at this
    omega
  · exact h
theorem dec_more (p more : Bs) (hp : p.length < 2 ^ 39) (hm : more ≠ []) : (dec (lst p ++ more)).2.2.2 = 10 := by
  unfold dec thing
  split
  · rename_i x hx
    exfalso
    cases hn : (lst p ++ more).length with
    | zero => rw [hn] at hx; simp [row] at hx
    | succ n =>
      rw [hn] at hx
      obtain ⟨q, l, r, h1, h2⟩ := row_cons n _ 16 x [] hx
      have hl := split_len h1
      have := row_nil n r 16 (by omega) h2
      rw [split_list p more (by omega)] at h1
      simp only [Option.some.injEq, Prod.mk.injEq] at h1
      exact hm (h1.2.2.trans this)
  · rfl
theorem row_some (n : Nat) (s : Bs) (most : Nat) (h : s ≠ []) (p : Bs) (l : Bool) (r : Bs) (hs : split s = some (p, l, r)) (hm : most ≠ 0) :
    row (n + 1) s most = if l = true then (row n p (most - 1)).bind fun items => (row n r most).bind fun t => some (⟨true, ba [], items⟩ :: t) else (row n r most).bind fun t => some (⟨false, ba p, []⟩ :: t) := by
  simp only [row]
  rw [if_neg h, hs]
  dsimp only
  rw [if_neg hm]
theorem dec_lst (l : Bs) (h : l.length < 2 ^ 39) : (dec (lst (byt l))).2.2.2 = 0 := by
  have hb := bytes_len l (by omega)
  have h1 := split_list (byt l) [] (by omega)
  rw [List.append_nil] at h1
  have h2 := split_bytes l [] (by omega)
  rw [List.append_nil] at h2
  have hne : byt l ≠ [] := wrap_ne_nil false l
  have hl2 := split_len h1
  have hl3 := split_len h2
  have hlen : 2 ≤ (lst (byt l)).length := by have := (wrap_len true (byt l)).2.2 rfl; have := (wrap_len false l).2.1; have : wrap true (byt l) = lst (byt l) := rfl; have : wrap false l = byt l := rfl; simp_all; omega
  unfold dec
  obtain ⟨n, hn⟩ : ∃ n, (lst (byt l)).length = n + 2 := ⟨(lst (byt l)).length - 2, by omega⟩
  rw [hn, row_some (n + 1) (lst (byt l)) 16 (show lst (byt l) ≠ [] from wrap_ne_nil true (byt l)) _ _ _ h1 (by decide), if_pos rfl, row_some n _ 15 hne _ _ _ h2 (by decide)]
  have e : ∀ k, row k [] 16 = some [] := fun k => by cases k <;> simp [row]
  have e2 : ∀ k, row k [] 15 = some [] := fun k => by cases k <;> simp [row]
  rw [e, e2]
  rfl
theorem cuts_j2 (l more : Bs) (h : l.length ≤ 400) (hm : more.length ≤ 400) (j : Int) (hj : 0 ≤ j) :
    Ev (fun k => loesslaw02_RlpCuts.j2 k (ba l) (ba more) true (ba (lst (byt l))) j) true := by
  have hb := bytes_len l (by omega)
  have ht := list_len (byt l) (by omega)
  have hpos : 1 ≤ (lst (byt l)).length := (wrap_len true (byt l)).2.1
  refine Ev.step (fun k => loesslaw02_RlpCuts.j2.eq_2 _ _ _ _ _ k) ?_
  rw [ba_size, ba_size]
  obtain ⟨jn, rfl⟩ := Int.eq_ofNat_of_zero_le hj
  have hmod : Int.tmod (jn : Int) ((lst (byt l)).length : Int) = ((jn % (lst (byt l)).length : Nat) : Int) := by
    rw [Int.tmod_eq_emod_of_nonneg (by omega)]; rfl
  have hlt : jn % (lst (byt l)).length < (lst (byt l)).length := Nat.mod_lt _ (by omega)
  rw [hmod]
  refine Ev.ite_neg (by omega) (Ev.ite_pos (by omega) (Ev.ite_pos (by omega) ?_))
  rw [Int.toNat_natCast, ba_extract, List.drop_zero, ba_app]
  refine Ev.bind (ev_Decode _ (by simp; omega)) (Ev.ite_pos (by omega) (Ev.bind (ev_Decode _ (by simp; omega)) (Ev.bind (ev_Split _ (by simp; omega)) ?_)))
  refine Ev.ite_pos rfl (Ev.ite_pos (dec_cut (byt l) (by omega) _ hlt) ?_)
  rw [split_list (byt l) more (by omega), ba_toList]
  refine Ev.ite_pos ?_ (Ev.ite_pos rfl (Ev.ite_pos rfl (Ev.bind (ev_Bytes l (by omega)) (Ev.ite_pos rfl ?_))))
  · cases more with
    | nil => rw [List.append_nil, dec_lst l (by omega)]; rfl
    | cons b t => rw [dec_more (byt l) (b :: t) (by omega) (by simp)]; rfl
  · refine Ev.eq (Ev.now _) ?_
    simp [out, ba_toList]
theorem cuts_j1 (l more : Bs) (h : l.length ≤ 400) (hm : more.length ≤ 400) (a : Int) (ha : -9223372036854775808 ≤ a ∧ a ≤ 9223372036854775807) :
    Ev (fun k => loesslaw02_RlpCuts.j1 k (ba l) a (ba more) true) true := by
  have hb := bytes_len l (by omega)
  have hpos : 1 ≤ (lst (byt l)).length := (wrap_len true (byt l)).2.1
  refine Ev.step (fun k => loesslaw02_RlpCuts.j1.eq_2 _ _ _ _ k) ?_
  refine Ev.bind (ev_Bytes l (by omega)) ?_
  have hL := ev_List [byt l] (by simp) (by simp; omega)
  simp only [List.map_cons, List.map_nil, List.flatten_cons, List.flatten_nil, List.append_nil] at hL
  refine Ev.bind hL ?_
  refine Ev.ite_neg (by rw [ba_size]; omega) ?_
  by_cases hneg : a < 0
  · refine Ev.ite_pos hneg ?_
    rw [w64 (n := a + 1) (by omega) (by omega), w64 (by omega) (by omega)]
    exact cuts_j2 l more h hm _ (by omega)
  · exact Ev.ite_neg hneg (cuts_j2 l more h hm a (by omega))
theorem cuts_j0 (l more : Bs) (h : l.length ≤ 400) (a : Int) (ha : -9223372036854775808 ≤ a ∧ a ≤ 9223372036854775807) :
    Ev (fun k => loesslaw02_RlpCuts.j0 k (ba l) a (ba more) true) true := by
  refine Ev.step (fun k => loesslaw02_RlpCuts.j0.eq_2 _ _ _ _ k) ?_
  rw [ba_size]
  by_cases h1 : more.length > 400
  · refine Ev.ite_pos (by omega) (Ev.ite_pos (by omega) (Ev.ite_pos (by omega) ?_))
    rw [ba_extract, List.drop_zero]
    exact cuts_j1 l _ h (by simp; omega) a ha
  · exact Ev.ite_neg (by omega) (cuts_j1 l more h (by omega) a ha)
theorem RlpCuts : loesslaw02_RlpCuts.Pure := by
  intro a0 a1 a2 h0 h1 h2
  obtain ⟨l, rfl⟩ := exists_ba a0
  obtain ⟨m, rfl⟩ := exists_ba a2
  refine Ev.rounds (g := fun k => loesslaw02_RlpCuts.f k (ba l) a1 (ba m)) ?_
  unfold loesslaw02_RlpCuts.f
  simp only [loesslaw02_awake.f, Option.bind_some]
  rw [ba_size]
  by_cases h : l.length > 400
  · refine Ev.ite_pos (by omega) (Ev.ite_pos (by omega) (Ev.ite_pos (by omega) ?_))
    rw [ba_extract, List.drop_zero]
    exact cuts_j0 _ m (by simp; omega) a1 (i64_range h1)
  · exact Ev.ite_neg (by omega) (cuts_j0 l m (by omega) a1 (i64_range h1))
end Go.Proofs.Ytkkammncpkgodaa.Pure
