/- RlpWrites: bytes, lists and things are written as the document says (any thing, of more than 2000 parts the empty one in its place; of any bytes the first 5000; of any payloads those among the first 50 that are of at most 1000 bytes). -/
import Derived.Test.YtkkammncpkgodaaRlpEv9
import Derived.Test.YtkkammncpkgodaaRlpEv10
import Derived.Test.YtkkammncpkgodaaP23
namespace Go.Proofs.Ytkkammncpkgodaa.Pure
open Go.RowKit Go.Proofs.Ytkkammncpkgodaa.P Go.Proofs.YtkkammncpkgodaaW.PrintWords Go.Proofs.YtkkammncpkgodaaW.PrintLast Go.Proofs.YtkkammncpkgodaaW.Rlp Go.Proofs.Ytkkammncpkgodaa.RE
set_option linter.unusedVariables false
theorem flat_len2 (xs : List Bs) (h : ∀ x ∈ xs, x.length ≤ 1000) : xs.flatten.length ≤ 1000 * xs.length := by
  induction xs with
  | nil => simp
  | cons x t ih =>
    have := h x (by simp)
    have := ih (fun y hy => h y (by simp [hy]))
    simp only [List.flatten_cons, List.length_append, List.length_cons]; omega
/-- What stands behind the loop, of one thing. -/
theorem writes_fin (g : Nat → Option (ByteArray × Int)) (g' : Nat → Option (ByteArray × Int)) (r : ByteArray × Int) (hg : Ev g r) (hg' : Ev g' r) (s : Bs) (hs : s.length ≤ 5000) (xs : List Bs) (hl : xs.length ≤ 50) (h : ∀ x ∈ xs, x.length ≤ 1000) :
    Ev (fun k => (g k).bind fun bt314 => ((g' k).bind fun bt316 => (if true = true then (if bt314.1.toList = bt316.1.toList then (if bt314.2 = bt316.2 then ((rlp_Bytes.f k (ba s)).bind fun t318 => ((loessref02_Bytes.f k (ba s)).bind fun t319 => (if t318.toList = t319.toList then ((rlp_List.f k (xs.map ba)).bind fun t320 => ((loessref02_List.f k (ba xs.flatten)).bind fun t321 => (some (t320.toList == t321.toList)))) else (none)))) else (none)) else (none)) else (none)))) true := by
  have hf := flat_len2 xs h
  refine Ev.bind hg (Ev.bind hg' (Ev.ite_pos rfl (Ev.ite_pos rfl (Ev.ite_pos rfl (Ev.bind (ev_Bytes s (by omega)) (Ev.bind (ev_refBytes s (by omega)) (Ev.ite_pos rfl ?_)))))))
  refine Ev.bind (ev_List xs (by omega) (by omega)) (Ev.bind (ev_refList xs.flatten (by omega)) (Ev.eq (Ev.now _) ?_))
  simp
theorem writes_l0 (x2 : List ByteArray) (s : Bs) (hs : s.length ≤ 5000) : ∀ (d i : Nat) (xs : List Bs), i + d = 50 → xs.length ≤ i → (∀ x ∈ xs, x.length ≤ 1000) →
    Ev (fun k => loesslaw02_RlpWrites.l0 k (ba s) x2 true (xs.map ba) (ba xs.flatten) (i : Int) false (ba [])) true := by
  have fin (xs : List Bs) (hl : xs.length ≤ 50) (h : ∀ x ∈ xs, x.length ≤ 1000) (i : Int) : Ev (fun k => loesslaw02_RlpWrites.j2 k (ba s) x2 true (xs.map ba) (ba xs.flatten) i false false (ba [])) true := by
    refine Ev.step (fun k => loesslaw02_RlpWrites.j2.eq_2 _ _ _ _ _ _ _ _ _ k) (Ev.ite_neg (by simp) ?_)
    have hw : wt ⟨false, ba [], []⟩ < 2 ^ 40 := by simp [wt, wtL, ba_size]
    exact writes_fin _ _ _ (ev_Encode ⟨false, ba [], []⟩ hw) (ev_refEncode ⟨false, ba [], []⟩ hw) s hs xs hl h
  intro d
  induction d with
  | zero =>
    intro i xs hi hl h
    refine Ev.step (fun k => loesslaw02_RlpWrites.l0.eq_2 _ _ _ _ _ _ _ _ k) ?_
    rw [show decide ((i : Int) < 50) = false from decide_eq_false (by omega)]
    by_cases h0 : (i : Int) < (x2.length : Int)
    · exact Ev.ite_pos h0 (fin xs (by omega) h _)
    · exact Ev.ite_neg h0 (fin xs (by omega) h _)
  | succ d ih =>
    intro i xs hi hl h
    refine Ev.step (fun k => loesslaw02_RlpWrites.l0.eq_2 _ _ _ _ _ _ _ _ k) ?_
    rw [show decide ((i : Int) < 50) = true from decide_eq_true (by omega)]
    by_cases h0 : (i : Int) < (x2.length : Int)
    · refine Ev.ite_pos h0 ?_
      obtain ⟨t, ht⟩ := exists_ba (rdOf ByteArray.empty x2 (i : Int))
      have hf := flat_len2 xs h
      refine Ev.step (fun k => loesslaw02_RlpWrites.j2.eq_2 _ _ _ _ _ _ _ _ _ k) ?_
      rw [ht, ba_size, w64 (by omega) (by omega), show (i : Int) + 1 = ((i + 1 : Nat) : Int) from by omega]
      refine Ev.ite_pos rfl (Ev.ite_pos (by omega) (Ev.ite_pos h0 ?_))
      by_cases h1 : (t.length : Int) ≤ 1000
      · refine Ev.ite_pos h1 (Ev.ite_pos (by rw [List.length_map]; omega) (Ev.ite_pos (by rw [ba_size]; omega) ?_))
        have m := ih (i + 1) (xs ++ [t]) (by omega) (by simp; omega) (by
          intro y hy
          rcases List.mem_append.1 hy with hy | hy
          · exact h y hy
          · simp at hy; subst hy; omega)
        rw [ba_app]
        simpa using m
      · exact Ev.ite_neg h1 (ih (i + 1) xs (by omega) (by omega) h)
    · exact Ev.ite_neg h0 (fin xs (by omega) h _)
theorem writes_l100 (x : It) (hw : wt x < 2 ^ 40) (x2 : List ByteArray) (s : Bs) (hs : s.length ≤ 5000) : ∀ (d i : Nat) (xs : List Bs), i + d = 50 → xs.length ≤ i → (∀ x ∈ xs, x.length ≤ 1000) →
    Ev (fun k => loesslaw02_RlpWrites.l100 k (ba s) x2 true (xs.map ba) (ba xs.flatten) (i : Int) x.f0 x.f1 x.f2) true := by
  have fin (xs : List Bs) (hl : xs.length ≤ 50) (h : ∀ x ∈ xs, x.length ≤ 1000) (i : Int) : Ev (fun k => loesslaw02_RlpWrites.j5 k (ba s) x2 true (xs.map ba) (ba xs.flatten) i false x.f0 x.f1 x.f2) true := by
    refine Ev.step (fun k => loesslaw02_RlpWrites.j5.eq_2 _ _ _ _ _ _ _ _ _ _ k) (Ev.ite_neg (by simp) ?_)
    exact writes_fin _ _ _ (ev_Encode x hw) (ev_refEncode x hw) s hs xs hl h
  intro d
  induction d with
  | zero =>
    intro i xs hi hl h
    refine Ev.step (fun k => loesslaw02_RlpWrites.l100.eq_2 _ _ _ _ _ _ _ _ _ k) ?_
    rw [show decide ((i : Int) < 50) = false from decide_eq_false (by omega)]
    by_cases h0 : (i : Int) < (x2.length : Int)
    · exact Ev.ite_pos h0 (fin xs (by omega) h _)
    · exact Ev.ite_neg h0 (fin xs (by omega) h _)
  | succ d ih =>
    intro i xs hi hl h
    refine Ev.step (fun k => loesslaw02_RlpWrites.l100.eq_2 _ _ _ _ _ _ _ _ _ k) ?_
    rw [show decide ((i : Int) < 50) = true from decide_eq_true (by omega)]
    by_cases h0 : (i : Int) < (x2.length : Int)
    · refine Ev.ite_pos h0 ?_
      obtain ⟨t, ht⟩ := exists_ba (rdOf ByteArray.empty x2 (i : Int))
      have hf := flat_len2 xs h
      refine Ev.step (fun k => loesslaw02_RlpWrites.j5.eq_2 _ _ _ _ _ _ _ _ _ _ k) ?_
      rw [ht, ba_size, w64 (by omega) (by omega), show (i : Int) + 1 = ((i + 1 : Nat) : Int) from by omega]
      refine Ev.ite_pos rfl (Ev.ite_pos (by omega) (Ev.ite_pos h0 ?_))
      by_cases h1 : (t.length : Int) ≤ 1000
      · refine Ev.ite_pos h1 (Ev.ite_pos (by rw [List.length_map]; omega) (Ev.ite_pos (by rw [ba_size]; omega) ?_))
        have m := ih (i + 1) (xs ++ [t]) (by omega) (by simp; omega) (by
          intro y hy
          rcases List.mem_append.1 hy with hy | hy
          · exact h y hy
          · simp at hy; subst hy; omega)
        rw [ba_app]
        simpa using m
      · exact Ev.ite_neg h1 (ih (i + 1) xs (by omega) (by omega) h)
    · exact Ev.ite_neg h0 (fin xs (by omega) h _)
theorem writes_j0 (x2 : List ByteArray) (s : Bs) (hs : s.length ≤ 5000) : Ev (fun k => loesslaw02_RlpWrites.j0 k (ba s) x2 true false (ba [])) true :=
  Ev.step (fun k => loesslaw02_RlpWrites.j0.eq_2 _ _ _ _ _ k) (writes_l0 x2 s hs 50 0 [] (by omega) (by simp) (by simp))
theorem writes_j3 (x : It) (hw : wt x < 2 ^ 40) (x2 : List ByteArray) (s : Bs) (hs : s.length ≤ 5000) : Ev (fun k => loesslaw02_RlpWrites.j3 k (ba s) x2 true x.f0 x.f1 x.f2) true :=
  Ev.step (fun k => loesslaw02_RlpWrites.j3.eq_2 _ _ _ _ _ _ k) (writes_l100 x hw x2 s hs 50 0 [] (by omega) (by simp) (by simp))
theorem RlpWrites (x : It) (s : ByteArray) (l2 : List ByteArray) (hx : fits x) : ∃ k, loesslaw02_RlpWrites.f k x.f0 x.f1 x.f2 s l2 = some true := by
  obtain ⟨l, rfl⟩ := exists_ba s
  refine Ev.rounds (g := fun k => loesslaw02_RlpWrites.f k x.f0 x.f1 x.f2 (ba l) l2) ?_
  unfold loesslaw02_RlpWrites.f
  simp only [loesslaw02_awake.f, Option.bind_some]
  obtain ⟨v, hE, _, hw⟩ := nodes_f (cnt x) x 2000 (Nat.le_refl _) hx (by omega)
  refine Ev.bind hE ?_
  rw [ba_size, show (5000 : Int) = ((5000 : Nat) : Int) from rfl]
  have ex : (ba l).extract 0 5000 = ba (l.take 5000) := by rw [ba_extract]; simp
  have hl5 : (l.take 5000).length ≤ 5000 := by rw [List.length_take]; omega
  by_cases h1 : v > 2000
  · refine Ev.ite_pos (by omega) ?_
    by_cases h2 : l.length > 5000
    · refine Ev.ite_pos (by omega) (Ev.ite_pos (by omega) (Ev.ite_pos (by omega) ?_))
      rw [ex]; exact writes_j0 l2 _ hl5
    · exact Ev.ite_neg (by omega) (writes_j0 l2 l (by omega))
  · have hw2 := hw (by omega)
    refine Ev.ite_neg (by omega) ?_
    by_cases h2 : l.length > 5000
    · refine Ev.ite_pos (by omega) (Ev.ite_pos (by omega) (Ev.ite_pos (by omega) ?_))
      rw [ex]; exact writes_j3 x (by omega) l2 _ hl5
    · exact Ev.ite_neg (by omega) (writes_j3 x (by omega) l2 l (by omega))
end Go.Proofs.Ytkkammncpkgodaa.Pure
