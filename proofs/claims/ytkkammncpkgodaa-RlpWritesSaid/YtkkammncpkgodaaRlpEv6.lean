/- Things as rows of bytes: what the program's Decode comes to. -/
import Derived.Test.YtkkammncpkgodaaRlpEv4
import Derived.Test.YtkkammncpkgodaaP3
import Derived.Test.YtkkammncpkgodaaP4
namespace Go.Proofs.Ytkkammncpkgodaa.RE
open Go.RowKit Go.Proofs.Ytkkammncpkgodaa.P Go.Proofs.YtkkammncpkgodaaW.PrintWords Go.Proofs.YtkkammncpkgodaaW.PrintLast Go.Proofs.YtkkammncpkgodaaW.Rlp
set_option linter.unusedVariables false
set_option linter.unusedSimpArgs false
abbrev It := S25
theorem splitM (s : Bs) : split s = none ∨ ∃ p l r, split s = some (p, l, r) := by
  cases h : split s with
  | none => exact .inl rfl
  | some x => exact .inr ⟨x.1, x.2.1, x.2.2, rfl⟩
/-- A payload's things; none: it is no row of things, or they stand too deep. n: how many bytes it has at the most. -/
def row : Nat → Bs → Nat → Option (List It)
  | 0, _, _ => some []
  | n + 1, s, most =>
    if s = [] then some [] else
    match split s with
    | none => none
    | some (p, l, r) =>
      if most = 0 then none else
      if l = true then (row n p (most - 1)).bind fun items => (row n r most).bind fun t => some (⟨true, ba [], items⟩ :: t)
      else (row n r most).bind fun t => some (⟨false, ba p, []⟩ :: t)
mutual
def cnt : It → Nat
  | ⟨_, _, l⟩ => 1 + cntL l
def cntL : List It → Nat
  | [] => 0
  | x :: t => cnt x + cntL t
end
theorem cntL_len (l : List It) : l.length ≤ cntL l := by
  induction l with
  | nil => simp [cntL]
  | cons x t ih =>
    cases x
    simp only [cntL, cnt, List.length_cons]; omega
theorem row_cnt (n : Nat) : ∀ (s : Bs) (most : Nat) (l : List It), row n s most = some l → cntL l ≤ s.length := by
  induction n with
  | zero => intro s most l h; simp only [row, Option.some.injEq] at h; subst h; simp [cntL]
  | succ n ih =>
    intro s most l h
    simp only [row] at h
    by_cases h1 : s = []
    · rw [if_pos h1] at h; simp only [Option.some.injEq] at h; subst h; simp [cntL]
    · rw [if_neg h1] at h
      rcases splitM s with h2 | ⟨p, b, r, h2⟩
      · rw [h2] at h; cases h
      · rw [h2] at h
        have hl := split_len h2
        dsimp only at h
        by_cases h3 : most = 0
        · rw [if_pos h3] at h; cases h
        · rw [if_neg h3] at h
          cases b with
          | true =>
            rw [if_pos rfl] at h
            obtain ⟨items, h4, h⟩ := Option.bind_eq_some_iff.1 h
            obtain ⟨t, h5, h⟩ := Option.bind_eq_some_iff.1 h
            simp only [Option.some.injEq] at h
            subst h
            have := ih _ _ _ h4
            have := ih _ _ _ h5
            have := hl.2.2 rfl
            simp only [cntL, cnt]; omega
          | false =>
            rw [if_neg (by simp)] at h
            obtain ⟨t, h5, h⟩ := Option.bind_eq_some_iff.1 h
            simp only [Option.some.injEq] at h
            subst h
            have := ih _ _ _ h5
            simp only [cntL, cnt]; omega
theorem out_none {s : Bs} (h : split s = none) : out (split s) = (ba [], false, ba [], 10) := by rw [h]; rfl
def ans (acc : List It) (x : Option (List It)) : List It × Bool := match x with | none => ([], false) | some t => (acc ++ t, true)
theorem dec_l0 (n : Nat) : ∀ (s : Bs) (most : Nat) (acc : List It), s.length ≤ n → most ≤ 16 → acc.length + s.length < 2 ^ 39 →
    Ev (fun k => rlp_Decode_1.l0 k (ba s) ((17 - most : Nat) : Int) acc) (ans acc (row n s most)) := by
  induction n with
  | zero =>
    intro s most acc hs hm hl
    have h0 : s = [] := List.length_eq_zero_iff.1 (by omega)
    subst h0
    refine Ev.step (fun k => rlp_Decode_1.l0.eq_2 _ _ _ k) ?_
    refine Ev.ite_pos (ba_toList []) (Ev.eq (Ev.now _) ?_)
    simp [ans, row]
  | succ n ih =>
    intro s most acc hs hm hl
    refine Ev.step (fun k => rlp_Decode_1.l0.eq_2 _ _ _ k) ?_
    simp only [row]
    by_cases h1 : s = []
    · subst h1
      refine Ev.ite_pos (ba_toList []) (Ev.eq (Ev.now _) ?_)
      simp [ans]
    · rw [if_neg h1]
      refine Ev.ite_neg (by rw [ba_toList]; exact h1) (Ev.bind (ev_Split s (by omega)) ?_)
      rcases splitM s with h2 | ⟨p, b, r, h2⟩
      · rw [h2]
        refine Ev.ite_neg (by simp [out]) (Ev.step (fun k => rlp_Decode_1.j1.eq_2 _ _ _ _ _ _ k) ?_)
        exact Ev.ite_pos rfl (Ev.now _)
      · have hsl := split_len h2
        rw [h2]
        refine Ev.ite_pos rfl (Ev.step (fun k => rlp_Decode_1.j1.eq_2 _ _ _ _ _ _ k) ?_)
        dsimp only [out]
        by_cases h3 : most = 0
        · rw [if_pos h3]
          exact Ev.ite_pos (decide_eq_true (by omega)) (Ev.now _)
        · rw [if_neg h3]
          refine Ev.ite_neg (by rw [decide_eq_false (by omega)]; simp) ?_
          have hrec : ∀ x : It, Ev (fun k => if acc.length < 2932031007402 then rlp_Decode_1.l0 k (ba r) ((17 - most : Nat) : Int) (acc ++ [x]) else none) (ans acc ((row n r most).bind fun t => some (x :: t))) := by
            intro x
            refine Ev.ite_pos (by omega) (Ev.eq (ih r most (acc ++ [x]) (by omega) hm (by simp; omega)) ?_)
            cases row n r most with
            | none => rfl
            | some t => simp [ans]
          cases b with
          | true =>
            refine Ev.ite_pos rfl ?_
            rw [if_pos rfl, w64 (by omega) (by omega), show ((17 - most : Nat) : Int) + 1 = ((17 - (most - 1) : Nat) : Int) from by omega]
            have hf : Ev (fun k => rlp_Decode_1.f k (ba p) ((17 - (most - 1) : Nat) : Int)) (ans [] (row n p (most - 1))) :=
              Ev.step (fun k => rlp_Decode_1.f.eq_2 _ _ k) (ih p (most - 1) [] (by have := hsl.2.2 rfl; omega) (by omega) (by simp; omega))
            refine Ev.bind hf ?_
            cases h4 : row n p (most - 1) with
            | none => exact Ev.ite_neg (by simp [ans]) (Ev.now _)
            | some items =>
              refine Ev.ite_pos rfl ?_
              simp only [ans, List.nil_append, Option.bind_some]
              exact hrec _
          | false =>
            refine Ev.ite_neg (by simp) ?_
            rw [if_neg (by simp)]
            exact hrec _
def thing (x : Option (List It)) : Bool × ByteArray × List It × Int := match x with | some [x] => (x.f0, x.f1, x.f2, 0) | _ => (false, ba [], [], 10)
def dec (s : Bs) : Bool × ByteArray × List It × Int := thing (row s.length s 16)
theorem ev_Decode (s : Bs) (h : s.length < 2 ^ 39) : Ev (fun k => rlp_Decode.f k (ba s)) (dec s) := by
  unfold rlp_Decode.f dec
  have hf : Ev (fun k => rlp_Decode_1.f k (ba s) 1) (ans [] (row s.length s 16)) :=
    Ev.step (fun k => rlp_Decode_1.f.eq_2 _ _ k) (dec_l0 s.length s 16 [] (Nat.le_refl _) (by omega) (by simp; omega))
  refine Ev.bind hf ?_
  cases h4 : row s.length s 16 with
  | none => exact Ev.ite_neg (by simp [ans]) (Ev.now _)
  | some l =>
    refine Ev.ite_pos rfl ?_
    simp only [ans, List.nil_append]
    cases l with
    | nil => exact Ev.ite_neg (by simp) (Ev.now _)
    | cons x t =>
      cases t with
      | nil => exact Ev.ite_pos rfl (Ev.ite_pos (by simp) (Ev.now _))
      | cons y t => exact Ev.ite_neg (by simp; omega) (Ev.now _)
end Go.Proofs.Ytkkammncpkgodaa.RE
