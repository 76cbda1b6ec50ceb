/- What the printed functions of rlp and of its reference come to, by the plain laws: the reference's numbers and headers; the first thing. -/
import Derived.Test.YtkkammncpkgodaaRlpEv1
import Derived.Test.YtkkammncpkgodaaP15
import Derived.Test.YtkkammncpkgodaaP15
namespace Go.Proofs.Ytkkammncpkgodaa.RE
open Go.RowKit Go.Proofs.Ytkkammncpkgodaa.P Go.Proofs.YtkkammncpkgodaaW.PrintWords Go.Proofs.YtkkammncpkgodaaW.PrintLast Go.Proofs.YtkkammncpkgodaaW.Rlp
set_option linter.unusedVariables false
set_option linter.unusedSimpArgs false

/-! ### the reference's numbers -/
theorem and_255 (n : Nat) (h : n < 2 ^ 64) : Go.bits .and .u64 (n : Int) 255 % 256 = ((n % 256 : Nat) : Int) := by
  have hk : ∀ n : Int, 0 ≤ n → n < 2 ^ 64 → IntKind.u64.wrap n = n := fun n h0 h1 => wu64 h0 (by omega)
  have := Go.bits_mask .u64 64 (by decide) hk 8 (by decide) (n : Int) (by omega) (by omega)
  rw [show ((2 : Int) ^ 8 - 1) = 255 from by decide, show ((2 : Int) ^ 8) = 256 from by decide] at this
  rw [this]; omega
theorem refNumber_l0 (d : Nat) : ∀ (n : Nat) (acc : Bs) (k : Nat), n < 256 ^ d → n < 2 ^ 64 → d + acc.length ≤ 1000 → d < k → loessref02_Number.l0 k (n : Int) (ba acc) = some (ba (num n ++ acc)) := by
  induction d with
  | zero =>
    intro n acc k h _ _ hk
    obtain ⟨k, rfl⟩ : ∃ m, k = m + 1 := ⟨k - 1, by omega⟩
    have h0 : n = 0 := by simpa using h
    subst h0
    simp only [loessref02_Number.l0]
    rw [if_neg (by omega), num_zero]; rfl
  | succ d ih =>
    intro n acc k h h64 hl hk
    obtain ⟨k, rfl⟩ : ∃ m, k = m + 1 := ⟨k - 1, by omega⟩
    simp only [loessref02_Number.l0]
    by_cases h0 : n = 0
    · subst h0
      rw [if_neg (by omega), num_zero]; rfl
    · rw [if_pos (by omega), and_255 n h64]
      simp only [Option.bind_some]
      rw [strOf_one _ (by omega), ba_size, ba_size, if_pos (by simp; omega), ba_app, show Int.tdiv (n : Int) 256 = ((n / 256 : Nat) : Int) from by rw [Int.tdiv_eq_ediv_of_nonneg (by omega)]; omega, wu64 (by omega) (by omega)]
      rw [ih (n / 256) _ k (by rw [Nat.pow_succ] at h; omega) (by omega) (by simp; omega) (by omega), num_pos n h0]
      simp
theorem ev_refNumber (n : Nat) (h : n < 2 ^ 64) : Ev (fun k => loessref02_Number.f k (n : Int)) (ba (num n)) := by
  refine Ev.of (k := 9) (loessref02_Number.mono _) ?_
  unfold loessref02_Number.f
  have := refNumber_l0 8 n [] 9 (by rw [show (256 : Nat) ^ 8 = 2 ^ 64 from by decide]; exact h) h (by simp) (by omega)
  rw [List.append_nil] at this
  exact this
theorem refUint_l0 (l : Bs) (h : l.length ≤ 8) (d : Nat) : ∀ (i : Nat) (k : Nat), i + d = l.length → d < k → loessref02_Uint.l0 k (ba l) ((val (l.take i) : Nat) : Int) (i : Int) = some (((val l : Nat) : Int), true) := by
  induction d with
  | zero =>
    intro i k hi hk
    obtain ⟨k, rfl⟩ : ∃ m, k = m + 1 := ⟨k - 1, by omega⟩
    simp only [loessref02_Uint.l0]
    rw [if_neg (by rw [ba_size]; omega), List.take_of_length_le (by omega)]
  | succ d ih =>
    intro i k hi hk
    obtain ⟨k, rfl⟩ : ∃ m, k = m + 1 := ⟨k - 1, by omega⟩
    simp only [loessref02_Uint.l0]
    have hlt : i < l.length := by omega
    have hv := val_lt (l.take i)
    have h7 : (256 : Nat) ^ (l.take i).length ≤ 256 ^ 7 := Nat.pow_le_pow_right (by omega) (by simp; omega)
    have h56 : val (l.take i) < 2 ^ 56 := by have : (256 : Nat) ^ 7 = 2 ^ 56 := by decide
                                             omega
    have hb := byte_lt (l[i]'hlt)
    have hs : val (l.take (i + 1)) = val (l.take i) * 256 + (l[i]'hlt).toNat := by rw [List.take_succ_eq_append_getElem hlt, val_snoc]
    rw [if_pos (by rw [ba_size]; omega), if_pos (by omega), ba_bt l i hlt, wu64 (n := ((l[i]'hlt).toNat : Int)) (by omega) (by omega),
      wu64 (n := ((val (l.take i) : Nat) : Int) * 256) (by omega) (by omega), wu64 (by omega) (by omega), w64 (by omega) (by omega),
      show ((val (l.take i) : Nat) : Int) * 256 + ((l[i]'hlt).toNat : Int) = ((val (l.take (i + 1)) : Nat) : Int) from by rw [hs]; omega]
    exact ih (i + 1) k (by omega) (by omega)
theorem ev_refUint (l : Bs) : Ev (fun k => loessref02_Uint.f k (ba l)) (uint l) := by
  refine Ev.of (k := 20) (loessref02_Uint.mono _) ?_
  unfold loessref02_Uint.f uint
  rw [ba_size]
  by_cases h : l.length ≤ 8
  · rw [if_neg (by omega)]
    cases l with
    | nil =>
      rw [if_neg (by simp), if_pos ⟨by simp, rfl⟩]
      simp only [loessref02_Uint.j0]
      rw [if_neg (by simp)]
      exact refUint_l0 [] (by simp) 0 0 19 rfl (by omega)
    | cons b t =>
      rw [if_pos (by simp only [List.length_cons]; omega), if_pos (by simp only [List.length_cons]; omega), bt_zero]
      simp only [loessref02_Uint.j0]
      by_cases hb : b = 0
      · subst hb
        rw [if_pos (by rfl), if_neg (by simp [lead])]
      · have : b.toNat ≠ 0 := fun e => hb (by rw [← byte_eta b, e]; rfl)
        rw [if_neg (by simp; omega), if_pos ⟨h, by simp [lead, hb]⟩]
        exact refUint_l0 (b :: t) h (b :: t).length 0 19 (by omega) (by omega)
  · rw [if_pos (by omega), if_neg (fun z => h z.1)]
    rfl
end Go.Proofs.Ytkkammncpkgodaa.RE
