/- How many things a thing has: what the reference's count comes to. -/
import Derived.Test.YtkkammncpkgodaaRlpEv8
import Derived.Test.YtkkammncpkgodaaOpensItem
import Derived.Test.YtkkammncpkgodaaP10
namespace Go.Proofs.Ytkkammncpkgodaa.RE
open Go.RowKit Go.Proofs.Ytkkammncpkgodaa.P Go.Proofs.YtkkammncpkgodaaW.PrintWords Go.Proofs.YtkkammncpkgodaaW.PrintLast Go.Proofs.YtkkammncpkgodaaW.Rlp
set_option linter.unusedVariables false
set_option linter.unusedSimpArgs false
theorem fitsL_at (l : List It) (h : fitsL l) (i : Nat) (hi : i < l.length) : fits (l[i]'hi) := fitsL_get l h _ (List.getElem_mem hi)
theorem nodes_f : ∀ (n : Nat) (x : It) (most : Nat), cnt x ≤ n → fits x → most ≤ 2000 →
    ∃ v : Nat, Ev (fun k => loessref02_Nodes.f k x.f0 x.f1 x.f2 (most : Int)) (v : Int) ∧ v ≤ most + 144115188075855873 ∧ (v ≤ most → wt x ≤ 64 * v) := by
  intro n
  induction n with
  | zero => intro x m h; cases x; simp only [cnt] at h; omega
  | succ n ih =>
    intro x most h hf hm
    cases x with
    | mk f0 f1 l =>
      simp only [cnt] at h
      obtain ⟨h1, h2, h3⟩ := hf
      have loop : ∀ (d i c : Nat), i + d = l.length → c ≤ most + 144115188075855873 →
          ∃ v : Nat, Ev (fun k => loessref02_Nodes.l0 k (most : Int) (c : Int) (i : Int) f0 f1 l) (v : Int) ∧ c ≤ v ∧ v ≤ most + 144115188075855873 ∧ (v ≤ most → 64 * c + wtL (l.drop i) ≤ 64 * v) := by
        intro d
        induction d with
        | zero =>
          intro i c hi hc
          refine ⟨c, Ev.step (fun k => loessref02_Nodes.l0.eq_2 _ _ _ _ _ _ k) (Ev.ite_neg (by omega) (Ev.now _)), Nat.le_refl _, hc, fun _ => ?_⟩
          rw [List.drop_of_length_le (by omega)]; simp [wtL]
        | succ d ihd =>
          intro i c hi hc
          have hlt : i < l.length := by omega
          by_cases hcm : c ≤ most
          · have hcl := cntL_get' l i hlt
            obtain ⟨v', hE, hv, hw⟩ := ih (l[i]'hlt) (most - c) (by omega) (fitsL_at l h3 i hlt) (by omega)
            obtain ⟨v, hE2, g1, g2, g3⟩ := ihd (i + 1) (c + v') (by omega) (by omega)
            refine ⟨v, ?_, by omega, g2, fun hvm => ?_⟩
            · refine Ev.step (fun k => loessref02_Nodes.l0.eq_2 _ _ _ _ _ _ k) (Ev.ite_pos (by omega) (Ev.ite_pos (by omega) (Ev.ite_pos (by omega) ?_)))
              rw [rd_it l i hlt, w64 (n := (most : Int) - (c : Int)) (by omega) (by omega), show (most : Int) - (c : Int) = ((most - c : Nat) : Int) from by omega]
              refine Ev.bind hE ?_
              rw [w64 (n := (c : Int) + (v' : Int)) (by omega) (by omega), w64 (n := (i : Int) + 1) (by omega) (by omega), show (c : Int) + (v' : Int) = ((c + v' : Nat) : Int) from by omega, show (i : Int) + 1 = ((i + 1 : Nat) : Int) from by omega]
              exact hE2
            · have := g3 hvm
              have := hw (by omega)
              rw [wtL_drop l i hlt]
              omega
          · refine ⟨c, Ev.step (fun k => loessref02_Nodes.l0.eq_2 _ _ _ _ _ _ k) (Ev.ite_pos (by omega) (Ev.ite_neg (by omega) (Ev.now _))), Nat.le_refl _, hc, fun hh => absurd hh hcm⟩
      obtain ⟨v, hE, g1, g2, g3⟩ := loop l.length 0 (1 + f1.size / 64) (by omega) (by omega)
      refine ⟨v, ?_, g2, fun hv => ?_⟩
      · refine Ev.step (fun k => loessref02_Nodes.f.eq_2 _ _ _ _ k) ?_
        rw [w64 (n := (f1.size : Int) / 64) (by omega) (by omega), w64 (n := 1 + (f1.size : Int) / 64) (by omega) (by omega), show 1 + (f1.size : Int) / 64 = ((1 + f1.size / 64 : Nat) : Int) from by omega]
        exact hE
      · have := g3 hv
        rw [List.drop_zero] at this
        simp only [wt]; omega
theorem row_wt (n : Nat) : ∀ (s : Bs) (most : Nat) (l : List It), row n s most = some l → wtL l ≤ 2 * s.length := by
  induction n with
  | zero => intro s most l h; simp only [row, Option.some.injEq] at h; subst h; simp [wtL]
  | succ n ih =>
    intro s most l h
    simp only [row] at h
    by_cases h1 : s = []
    · rw [if_pos h1] at h; simp only [Option.some.injEq] at h; subst h; simp [wtL]
    · rw [if_neg h1] at h
      rcases splitM s with h2 | ⟨p, b, r, h2⟩
      · rw [h2] at h; cases h
      · rw [h2] at h
        have hl := split_len h2
        dsimp only at h
        by_cases h3 : most = 0
        · rw [if_pos h3] at h; cases h
        · rw [if_neg h3] at h
          cases b with
          | true =>
            rw [if_pos rfl] at h
            obtain ⟨items, h4, h⟩ := Option.bind_eq_some_iff.1 h
            obtain ⟨t, h5, h⟩ := Option.bind_eq_some_iff.1 h
            simp only [Option.some.injEq] at h
            subst h
            have := ih _ _ _ h4
            have := ih _ _ _ h5
            have := hl.2.2 rfl
            simp only [wtL, wt, ba_size, List.length_nil]; omega
          | false =>
            rw [if_neg (by simp)] at h
            obtain ⟨t, h5, h⟩ := Option.bind_eq_some_iff.1 h
            simp only [Option.some.injEq] at h
            subst h
            have := ih _ _ _ h5
            simp only [wtL, wt, ba_size]; omega
theorem dec_wt (s : Bs) : wt ⟨(dec s).1, (dec s).2.1, (dec s).2.2.1⟩ ≤ 2 * s.length + 1 := by
  unfold dec thing
  split
  · rename_i x h
    have := row_wt _ _ _ _ h
    cases x
    simp only [wtL, wt] at this ⊢
    omega
  · simp [wt, wtL, ba_size]
theorem cnt_wt : ∀ (n : Nat) (x : It), cnt x ≤ n → cnt x ≤ wt x := by
  intro n
  induction n with
  | zero => intro x h; cases x; simp only [cnt] at h; omega
  | succ n ih =>
    intro x h
    cases x with
    | mk b s l =>
      simp only [cnt, wt] at h ⊢
      have : ∀ l : List It, cntL l ≤ n → cntL l ≤ wtL l := by
        intro l
        induction l with
        | nil => intro _; simp [cntL]
        | cons y t iht =>
          intro hc
          simp only [cntL, wtL] at hc ⊢
          have := ih y (by omega)
          have := iht (by omega)
          omega
      have := this l (by omega)
      omega
end Go.Proofs.Ytkkammncpkgodaa.RE
