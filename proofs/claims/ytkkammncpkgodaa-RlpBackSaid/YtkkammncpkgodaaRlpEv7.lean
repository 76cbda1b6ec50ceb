/- Things as rows of bytes: what the reference's Decode comes to; a thing is the same as itself. -/
import Derived.Test.YtkkammncpkgodaaRlpEv5
import Derived.Test.YtkkammncpkgodaaRlpEv6
import Derived.Test.YtkkammncpkgodaaP18
import Derived.Test.YtkkammncpkgodaaP18
import Derived.Test.YtkkammncpkgodaaP9
namespace Go.Proofs.Ytkkammncpkgodaa.RE
open Go.RowKit Go.Proofs.Ytkkammncpkgodaa.P Go.Proofs.YtkkammncpkgodaaW.PrintWords Go.Proofs.YtkkammncpkgodaaW.PrintLast Go.Proofs.YtkkammncpkgodaaW.Rlp
set_option linter.unusedVariables false
set_option linter.unusedSimpArgs false
theorem ref_l0 (n : Nat) : ∀ (s : Bs) (most : Nat) (acc : List It), s.length ≤ n → most ≤ 16 → acc.length + s.length < 2 ^ 39 →
    Ev (fun k => loessref02_things.l0 k (ba s) ((most : Nat) : Int) acc) (ans acc (row n s most)) := by
  induction n with
  | zero =>
    intro s most acc hs hm hl
    have h0 : s = [] := List.length_eq_zero_iff.1 (by omega)
    subst h0
    refine Ev.step (fun k => loessref02_things.l0.eq_2 _ _ _ k) ?_
    refine Ev.ite_neg (by rw [ba_size]; simp) (Ev.eq (Ev.now _) ?_)
    simp [ans, row]
  | succ n ih =>
    intro s most acc hs hm hl
    refine Ev.step (fun k => loessref02_things.l0.eq_2 _ _ _ k) ?_
    simp only [row]
    by_cases h1 : s = []
    · subst h1
      refine Ev.ite_neg (by rw [ba_size]; simp) (Ev.eq (Ev.now _) ?_)
      simp [ans]
    · rw [if_neg h1]
      refine Ev.ite_pos (by rw [ba_size]; have : s.length ≠ 0 := fun e => h1 (List.length_eq_zero_iff.1 e); omega) (Ev.bind (ev_refSplit s (by omega)) ?_)
      rcases splitM s with h2 | ⟨p, b, r, h2⟩
      · rw [h2]
        refine Ev.ite_neg (by simp [out]) (Ev.step (fun k => loessref02_things.j1.eq_2 _ _ _ _ _ _ k) ?_)
        exact Ev.ite_pos rfl (Ev.now _)
      · have hsl := split_len h2
        rw [h2]
        refine Ev.ite_pos rfl (Ev.step (fun k => loessref02_things.j1.eq_2 _ _ _ _ _ _ k) ?_)
        dsimp only [out]
        by_cases h3 : most = 0
        · rw [if_pos h3]
          exact Ev.ite_pos (decide_eq_true (by omega)) (Ev.now _)
        · rw [if_neg h3]
          refine Ev.ite_neg (by rw [decide_eq_false (by omega)]; simp) ?_
          have hrec : ∀ x : It, Ev (fun k => if acc.length < 2932031007402 then loessref02_things.l0 k (ba r) ((most : Nat) : Int) (acc ++ [x]) else none) (ans acc ((row n r most).bind fun t => some (x :: t))) := by
            intro x
            refine Ev.ite_pos (by omega) (Ev.eq (ih r most (acc ++ [x]) (by omega) hm (by simp; omega)) ?_)
            cases row n r most with
            | none => rfl
            | some t => simp [ans]
          cases b with
          | true =>
            refine Ev.ite_pos rfl ?_
            rw [if_pos rfl, w64 (by omega) (by omega), show ((most : Nat) : Int) - 1 = ((most - 1 : Nat) : Int) from by omega]
            have hf : Ev (fun k => loessref02_things.f k (ba p) ((most - 1 : Nat) : Int)) (ans [] (row n p (most - 1))) :=
              Ev.step (fun k => loessref02_things.f.eq_2 _ _ k) (ih p (most - 1) [] (by have := hsl.2.2 rfl; omega) (by omega) (by simp; omega))
            refine Ev.bind hf ?_
            cases h4 : row n p (most - 1) with
            | none => exact Ev.ite_neg (by simp [ans]) (Ev.now _)
            | some items =>
              refine Ev.ite_pos rfl ?_
              simp only [ans, List.nil_append, Option.bind_some]
              exact hrec _
          | false =>
            refine Ev.ite_neg (by simp) ?_
            rw [if_neg (by simp)]
            exact hrec _
theorem ev_refDecode (s : Bs) (h : s.length < 2 ^ 39) : Ev (fun k => loessref02_Decode.f k (ba s)) (dec s) := by
  unfold loessref02_Decode.f dec
  have hf : Ev (fun k => loessref02_things.f k (ba s) 16) (ans [] (row s.length s 16)) :=
    Ev.step (fun k => loessref02_things.f.eq_2 _ _ k) (ref_l0 s.length s 16 [] (Nat.le_refl _) (by omega) (by simp; omega))
  refine Ev.bind hf ?_
  cases h4 : row s.length s 16 with
  | none => exact Ev.ite_neg (by simp [ans]) (Ev.now _)
  | some l =>
    refine Ev.ite_pos rfl ?_
    simp only [ans, List.nil_append]
    cases l with
    | nil => exact Ev.ite_neg (by simp) (Ev.now _)
    | cons x t =>
      cases t with
      | nil => exact Ev.ite_pos rfl (Ev.ite_pos (by simp) (Ev.now _))
      | cons y t => exact Ev.ite_neg (by simp; omega) (Ev.now _)
/-! ### the same thing -/
theorem cntL_get (l : List It) (i : Nat) (h : i < l.length) : cnt (l[i]'h) ≤ cntL l := by
  induction l generalizing i with
  | nil => simp at h
  | cons x t ih =>
    cases i with
    | zero => simp only [List.getElem_cons_zero, cntL]; omega
    | succ i =>
      have := ih i (by simpa using h)
      simp only [List.getElem_cons_succ, cntL]; omega
theorem rd_at (l : List It) (i : Nat) (h : i < l.length) : rd_T25 l (i : Int) = l[i]'h := by
  unfold rd_T25
  rw [Int.toNat_natCast, List.getD_eq_getElem?_getD, List.getElem?_eq_getElem h]; rfl
theorem same_self (n : Nat) : ∀ (b : Bool) (s : ByteArray) (l : List It), 1 + cntL l ≤ n → cntL l < 2 ^ 40 → Ev (fun k => loessref02_Same.f k b s l b s l) true := by
  induction n with
  | zero => intro b s l h; omega
  | succ n ih =>
    intro b s l hn hl
    have hlen := cntL_len l
    have loop : ∀ (d i : Nat), i + d = l.length → Ev (fun k => loessref02_Same.l0 k (i : Int) b s l b s l) true := by
      intro d
      induction d with
      | zero =>
        intro i hi
        refine Ev.step (fun k => loessref02_Same.l0.eq_2 _ _ _ _ _ _ _ k) ?_
        exact Ev.ite_neg (by omega) (Ev.now _)
      | succ d ihd =>
        intro i hi
        have hlt : i < l.length := by omega
        refine Ev.step (fun k => loessref02_Same.l0.eq_2 _ _ _ _ _ _ _ k) ?_
        refine Ev.ite_pos (by omega) (Ev.ite_pos (by omega) (Ev.ite_pos (by omega) ?_))
        rw [rd_at l i hlt]
        have hc := cntL_get l i hlt
        cases hx : l[i]'hlt with
        | mk f0 f1 f2 =>
          rw [hx] at hc
          simp only [cnt] at hc
          refine Ev.bind (ih f0 f1 f2 (by omega) (by omega)) (Ev.ite_pos rfl ?_)
          rw [w64 (by omega) (by omega), show (i : Int) + 1 = ((i + 1 : Nat) : Int) from by omega]
          exact ihd (i + 1) (by omega)
    refine Ev.step (fun k => loessref02_Same.f.eq_2 _ _ _ _ _ _ k) ?_
    refine Ev.ite_neg (by simp) (Ev.ite_pos rfl ?_)
    refine Ev.step (fun k => loessref02_Same.j0.eq_2 _ _ _ _ _ _ _ k) ?_
    refine Ev.ite_neg (by simp) ?_
    exact loop l.length 0 (by omega)
theorem dec_cnt (s : Bs) : cntL (dec s).2.2.1 ≤ s.length := by
  unfold dec thing
  split
  · rename_i x h
    have := row_cnt _ _ _ _ h
    cases x
    simp only [cntL, cnt] at this
    show cntL _ ≤ _
    dsimp only
    omega
  · simp [cntL]
end Go.Proofs.Ytkkammncpkgodaa.RE
