/- The reference's own writing: what loessref02.deep, encode and Encode come to: the same as rlp.Encode. -/
import Derived.Test.YtkkammncpkgodaaRlpEv8
import Derived.Test.YtkkammncpkgodaaRlpEv3
import Derived.Test.YtkkammncpkgodaaP21
import Derived.Test.YtkkammncpkgodaaP22
namespace Go.Proofs.Ytkkammncpkgodaa.RE
open Go.RowKit Go.Proofs.Ytkkammncpkgodaa.P Go.Proofs.YtkkammncpkgodaaW.PrintWords Go.Proofs.YtkkammncpkgodaaW.PrintLast Go.Proofs.YtkkammncpkgodaaW.Rlp
set_option linter.unusedVariables false
theorem ref_deep : ∀ (n : Nat) (x : It) (m : Nat), cnt x ≤ n → m ≤ 16 → wt x < 2 ^ 40 → Ev (fun k => loessref02_deep.f k x.f0 x.f1 x.f2 (m : Int)) (good x m) := by
  intro n
  induction n with
  | zero => intro x m h; cases x; simp only [cnt] at h; omega
  | succ n ih =>
    intro x m h hm hw
    cases x with
    | mk f0 f1 l =>
      simp only [cnt] at h
      simp only [wt] at hw
      have hlen := len_wtL l
      have loop : ∀ (d i : Nat), i + d = l.length → 1 ≤ m → Ev (fun k => loessref02_deep.l0 k (m : Int) (i : Int) f0 f1 l) (goodL (l.drop i) (m - 1)) := by
        intro d
        induction d with
        | zero =>
          intro i hi hm1
          refine Ev.step (fun k => loessref02_deep.l0.eq_2 _ _ _ _ _ k) (Ev.ite_neg (by omega) (Ev.eq (Ev.now _) ?_))
          rw [List.drop_of_length_le (by omega)]; rfl
        | succ d ihd =>
          intro i hi hm1
          have hlt : i < l.length := by omega
          have hcl := cntL_get' l i hlt
          have hwl := wtL_get' l i hlt
          refine Ev.step (fun k => loessref02_deep.l0.eq_2 _ _ _ _ _ k) (Ev.ite_pos (by omega) (Ev.ite_pos (by omega) ?_))
          rw [rd_it l i hlt, w64 (n := (m : Int) - 1) (by omega) (by omega), show (m : Int) - 1 = ((m - 1 : Nat) : Int) from by omega, w64 (by omega) (by omega), show (i : Int) + 1 = ((i + 1 : Nat) : Int) from by omega, goodL_drop l (m - 1) i hlt]
          refine Ev.bind (ih (l[i]'hlt) (m - 1) (by omega) (by omega) (by omega)) ?_
          by_cases hg : good (l[i]'hlt) (m - 1) = true
          · refine Ev.ite_pos hg ?_
            rw [hg, Bool.true_and]
            exact ihd (i + 1) (by omega) hm1
          · refine Ev.ite_neg hg (Ev.eq (Ev.now _) ?_)
            simp [hg]
      have j0 (b : Bool) (hm1 : b = false → 1 ≤ m) : Ev (fun k => loessref02_deep.j0 k (m : Int) b f0 f1 l) (!b && goodL l (m - 1)) := by
        refine Ev.step (fun k => loessref02_deep.j0.eq_2 _ _ _ _ _ k) ?_
        cases b with
        | true => exact Ev.ite_pos rfl (Ev.now _)
        | false => exact Ev.ite_neg (by simp) (loop l.length 0 (by omega) (hm1 rfl))
      refine Ev.step (fun k => loessref02_deep.f.eq_2 _ _ _ _ k) ?_
      by_cases h1 : (m : Int) < 1
      · refine Ev.ite_pos h1 (Ev.eq (j0 true (by simp)) ?_)
        simp only [good, decide_eq_false (show ¬ 1 ≤ m from by omega)]; rfl
      · have h1' : 1 ≤ m := by omega
        refine Ev.ite_neg h1 ?_
        cases f0 with
        | true =>
          refine Ev.ite_pos rfl ?_
          by_cases h2 : f1.toList = ([] : List UInt8)
          · refine Ev.ite_pos h2 (Ev.eq (j0 false (fun _ => h1')) ?_)
            rw [ByteArray.toList_eq] at h2
            simp [good, h1', h2]
          · refine Ev.ite_neg h2 (Ev.eq (j0 true (by simp)) ?_)
            rw [ByteArray.toList_eq] at h2
            have : (f1.data.toList == ([] : Bs)) = false := beq_eq_false_iff_ne.2 h2
            simp only [good, this, Bool.not_true, Bool.or_self, Bool.false_and, Bool.and_false]
        | false =>
          refine Ev.ite_neg (by simp) (Ev.eq (j0 _ (fun _ => h1')) ?_)
          by_cases h3 : l.length = 0
          · rw [show decide (((⟨false, f1, l⟩ : It).f2.length : Int) > 0) = false from decide_eq_false (by change ¬ ((l.length : Int) > 0); omega)]
            simp only [good, decide_eq_true h1', decide_eq_true h3, Bool.not_false, Bool.or_true, Bool.true_or, Bool.true_and]
          · rw [show decide (((⟨false, f1, l⟩ : It).f2.length : Int) > 0) = true from decide_eq_true (by change (l.length : Int) > 0; omega)]
            simp only [good, decide_eq_false h3, Bool.or_false, Bool.false_and, Bool.and_false, Bool.not_true]
theorem ref_encode : ∀ (n : Nat) (x : It), cnt x ≤ n → wt x < 2 ^ 40 → Ev (fun k => loessref02_encode.f k x.f0 x.f1 x.f2) (ba (enc x)) := by
  intro n
  induction n with
  | zero => intro x h; cases x; simp only [cnt] at h; omega
  | succ n ih =>
    intro x h hw
    have hlx := enc_len (n + 1) x h hw
    cases x with
    | mk f0 f1 l =>
      have hw' := hw
      simp only [cnt] at h
      simp only [wt] at hw'
      have hlen := len_wtL l
      have hsz := size_data f1
      refine Ev.step (fun k => loessref02_encode.f.eq_2 _ _ _ k) ?_
      cases f0 with
      | false =>
        refine Ev.ite_neg (by simp) ?_
        have hB := ev_refBytes f1.data.toList (by omega)
        rw [ba_of] at hB
        refine Ev.bind hB (Ev.eq (Ev.now _) ?_)
        simp [enc]
      | true =>
        have e0 : enc ⟨true, f1, l⟩ = lst (encL l) := by simp [enc]
        rw [e0] at hlx
        have hl2 : (encL l).length ≤ (lst (encL l)).length := by simp [lst]
        have loop : ∀ (d i : Nat) (acc : Bs), i + d = l.length → acc ++ encL (l.drop i) = encL l → Ev (fun k => loessref02_encode.l0 k (ba acc) (i : Int) true f1 l) (ba (lst (encL l))) := by
          intro d
          induction d with
          | zero =>
            intro i acc hi ha
            rw [List.drop_of_length_le (by omega)] at ha
            obtain rfl : acc = encL l := by simpa [encL] using ha
            exact Ev.step (fun k => loessref02_encode.l0.eq_2 _ _ _ _ _ k) (Ev.ite_neg (by omega) (Ev.bind (ev_refList _ (by omega)) (Ev.now _)))
          | succ d ihd =>
            intro i acc hi ha
            have hlt : i < l.length := by omega
            have hcl := cntL_get' l i hlt
            have hwl := wtL_get' l i hlt
            have hal := congrArg List.length ha
            rw [encL_drop l i hlt, List.length_append, List.length_append] at hal
            refine Ev.step (fun k => loessref02_encode.l0.eq_2 _ _ _ _ _ k) (Ev.ite_pos (by omega) (Ev.ite_pos (by omega) ?_))
            rw [rd_it l i hlt, w64 (by omega) (by omega), show (i : Int) + 1 = ((i + 1 : Nat) : Int) from by omega]
            refine Ev.bind (ih (l[i]'hlt) (by omega) (by omega)) (Ev.ite_pos (by rw [ba_size, ba_size]; omega) ?_)
            rw [ba_app]
            refine ihd (i + 1) _ (by omega) ?_
            rw [← ha, encL_drop l i hlt, List.append_assoc]
        refine Ev.ite_pos rfl ?_
        rw [e0]
        exact loop l.length 0 [] (by omega) rfl
theorem ev_refEncode (x : It) (hw : wt x < 2 ^ 40) : Ev (fun k => loessref02_Encode.f k x.f0 x.f1 x.f2) (enc16 x) := by
  unfold loessref02_Encode.f enc16
  refine Ev.bind (ref_deep (cnt x) x 16 (Nat.le_refl _) (by omega) hw) ?_
  by_cases h : good x 16 = true
  · rw [if_pos h]; exact Ev.ite_pos h (Ev.bind (ref_encode (cnt x) x (Nat.le_refl _) hw) (Ev.now _))
  · rw [if_neg h]; exact Ev.ite_neg h (Ev.now _)
end Go.Proofs.Ytkkammncpkgodaa.RE
