/- What the printed functions of nibble come to, by the plain laws. -/
import Derived.Test.YtlajpfdmbagedaaDoorP1
import Derived.Test.YtlajpfdmbagedaaDoorP1
import Derived.Test.YtlajpfdmbagedaaDoorP5
import Derived.Test.YtlajpfdmbagedaaDoorP1
import Derived.Test.YtlajpfdmbagedaaDoorP7
import Derived.Test.YtlajpfdmbagedaaDoorP9
import Derived.Test.YtlajpfdmbagedaaDoorP8
import Derived.Test.YtlajpfdmbagedaaDoorP6
import Derived.Test.YtlajpfdmbagedaaDoorP4
import Derived.Test.YtlajpfdmbagedaaDoorP2
import Derived.Test.YtlajpfdmbagedaaDoorP3
import Derived.Test.YtlajpfdmbagedaaDoorBa
import Derived.Test.YtlajpfdmbagedaaDoorNibPure
namespace Go.Proofs.YtlajpfdmbagedaaDoor.NE
open Go.RowKit Go.Proofs.YtlajpfdmbagedaaDoor.P Go.Proofs.YtlajpfdmbagedaaDoorW.PrintWords Go.Proofs.YtlajpfdmbagedaaDoorW.PrintLast Go.Proofs.YtlajpfdmbagedaaDoor.RE Go.Proofs.YtlajpfdmbagedaaDoorW.Nib
set_option linter.unusedVariables false
set_option linter.unusedSimpArgs false
theorem and15 (b : UInt8) : Go.bits .and .u8 (b.toNat : Int) 15 = ((b.toNat % 16 : Nat) : Int) := by
  have h : ∀ n : Fin 256, Go.bits .and .u8 ((n.val : Nat) : Int) 15 = ((n.val % 16 : Nat) : Int) := by decide +kernel
  exact h ⟨b.toNat, byte_lt b⟩
theorem or16 (a b : Nat) (ha : a < 16) (hb : b < 16) : Go.bits .or .u8 (((a : Int) * 16) % 256) (b : Int) = ((a * 16 + b : Nat) : Int) := by
  have h : ∀ n m : Fin 16, Go.bits .or .u8 ((((n.val : Nat) : Int) * 16) % 256) ((m.val : Nat) : Int) = ((n.val * 16 + m.val : Nat) : Int) := by decide +kernel
  exact h ⟨a, ha⟩ ⟨b, hb⟩
theorem strOf_ints2 (l : Bs) (a b : Nat) (ha : a < 256) (hb : b < 256) : ints l ++ [(a : Int), (b : Int)] = ints (l ++ [UInt8.ofNat a, UInt8.ofNat b]) := by
  simp only [ints, List.map_append, List.map_cons, List.map_nil]
  have e : ∀ n : Nat, n < 256 → (UInt8.ofNat n).toNat = n := fun n hn => by simp [UInt8.toNat_ofNat']; omega
  rw [e a ha, e b hb]
theorem ints_one (l : Bs) (a : Nat) (ha : a < 256) : ints l ++ [(a : Int)] = ints (l ++ [UInt8.ofNat a]) := by
  simp only [ints, List.map_append, List.map_cons, List.map_nil]
  have e : ∀ n : Nat, n < 256 → (UInt8.ofNat n).toNat = n := fun n hn => by simp [UInt8.toNat_ofNat']; omega
  rw [e a ha]
theorem ints_len (l : Bs) : (ints l).length = l.length := by simp [ints]
theorem nib_snoc (l : Bs) (b : UInt8) : nib (l ++ [b]) = nib l ++ [hi b, lo b] := by rw [nib_app]; rfl
/-! ### Of -/
theorem of_l0 (l : Bs) (h : l.length ≤ 70000000000000) (d : Nat) : ∀ (i : Nat) (k : Nat), i + d = l.length → d < k → nibble_Of.l0 k (ba l) (ints (nib (l.take i))) ((l.length : Nat) : Int) (i : Int) = some (ba (nib l)) := by
  induction d with
  | zero =>
    intro i k hi hk
    obtain ⟨k, rfl⟩ : ∃ m, k = m + 1 := ⟨k - 1, by omega⟩
    simp only [nibble_Of.l0]
    rw [if_neg (by omega), List.take_of_length_le (by omega), strOf_ints]
  | succ d ih =>
    intro i k hi hk
    obtain ⟨k, rfl⟩ : ∃ m, k = m + 1 := ⟨k - 1, by omega⟩
    have hlt : i < l.length := by omega
    have hb := byte_lt l[i]
    have hn : (ints (nib (l.take i))).length = 2 * i := by rw [ints_len, nib_len, List.length_take]; omega
    simp only [nibble_Of.l0, nibble_put.f]
    rw [if_pos (by omega), if_pos (by omega), if_pos (by rw [ba_size]; omega), ba_bt l i hlt, and15]
    rw [show ((l[i].toNat : Nat) : Int) / 16 = ((l[i].toNat / 16 : Nat) : Int) from by omega]
    rw [if_pos (by simp only [List.length_cons, List.length_nil]; omega)]
    simp only [Option.bind_some]
    rw [strOf_ints2 _ _ _ (by omega) (by omega)]
    have e : nib (l.take i) ++ [UInt8.ofNat (l[i].toNat / 16), UInt8.ofNat (l[i].toNat % 16)] = nib (l.take (i + 1)) := by
      rw [List.take_succ_eq_append_getElem hlt, nib_snoc]; rfl
    rw [e, show wrap64 ((i : Int) + 1) = ((i + 1 : Nat) : Int) from by rw [w64 (by omega) (by omega)]; omega]
    exact ih (i + 1) k (by omega) (by omega)
theorem ev_Of (l : Bs) (h : l.length ≤ 70000000000000) : Ev (fun k => nibble_Of.f k (ba l)) (ba (nib l)) := by
  refine Ev.of (k := l.length + 1) (nibble_Of.mono _) ?_
  unfold nibble_Of.f
  rw [ba_size, w64 (by omega) (by omega), if_pos (by omega), if_pos (by omega)]
  have := of_l0 l h l.length 0 (l.length + 1) (by omega) (by omega)
  simpa [nib, ints] using this
/-! ### Right -/
theorem right_l0 (l : Bs) (h : l.length ≤ 140737488351232) (d : Nat) : ∀ (i : Nat) (k : Nat), i + d = l.length → d < k → nibble_Right.l0 k (ba l) ((l.length : Nat) : Int) (i : Int) = some (right (l.drop i)) := by
  induction d with
  | zero =>
    intro i k hi hk
    obtain ⟨k, rfl⟩ : ∃ m, k = m + 1 := ⟨k - 1, by omega⟩
    simp only [nibble_Right.l0]
    rw [if_neg (by omega), List.drop_eq_nil_of_le (by omega)]; rfl
  | succ d ih =>
    intro i k hi hk
    obtain ⟨k, rfl⟩ : ∃ m, k = m + 1 := ⟨k - 1, by omega⟩
    have hlt : i < l.length := by omega
    simp only [nibble_Right.l0]
    rw [if_pos (by omega), if_pos (by omega), if_pos (by rw [ba_size]; omega), ba_bt l i hlt, List.drop_eq_getElem_cons hlt]
    rw [show wrap64 ((i : Int) + 1) = ((i + 1 : Nat) : Int) from by rw [w64 (by omega) (by omega)]; omega]
    have ih := ih (i + 1) k (by omega) (by omega)
    have hc : right (l[i] :: l.drop (i + 1)) = (decide (l[i].toNat ≤ 15) && right (l.drop (i + 1))) := rfl
    rw [hc]
    by_cases hb : l[i].toNat ≤ 15
    · rw [if_neg (by omega), ih, decide_eq_true hb]; rfl
    · rw [if_pos (by omega), decide_eq_false hb]; rfl
theorem ev_Right (l : Bs) (h : l.length ≤ 140737488351232) : Ev (fun k => nibble_Right.f k (ba l)) (right l) := by
  refine Ev.of (k := l.length + 1) (nibble_Right.mono _) ?_
  unfold nibble_Right.f
  rw [ba_size]
  exact right_l0 l h l.length 0 (l.length + 1) (by omega) (by omega)
/-! ### Prefix -/
theorem pre_nil_right (a : Bs) : pre a [] = 0 := by cases a <;> rfl
theorem mn_nat (a b : Nat) : mn (a : Int) (b : Int) = ((min a b : Nat) : Int) := by unfold mn; omega
theorem prefix_l0 (a b : Bs) (h : a.length ≤ 140737488351232) (d : Nat) : ∀ (i : Nat) (k : Nat), i + d = min a.length b.length → d < k → nibble_Prefix.l0 k (ba a) (ba b) ((min a.length b.length : Nat) : Int) ((min a.length b.length : Nat) : Int) (i : Int) = some ((i + pre (a.drop i) (b.drop i) : Nat) : Int) := by
  induction d with
  | zero =>
    intro i k hi hk
    obtain ⟨k, rfl⟩ : ∃ m, k = m + 1 := ⟨k - 1, by omega⟩
    simp only [nibble_Prefix.l0]
    rw [if_neg (by omega)]
    have : pre (a.drop i) (b.drop i) = 0 := by
      rcases Nat.le_total a.length b.length with h1 | h1
      · rw [List.drop_eq_nil_of_le (by omega : a.length ≤ i)]; simp [pre]
      · rw [List.drop_eq_nil_of_le (by omega : b.length ≤ i), pre_nil_right]
    rw [this]; congr 1; omega
  | succ d ih =>
    intro i k hi hk
    obtain ⟨k, rfl⟩ : ∃ m, k = m + 1 := ⟨k - 1, by omega⟩
    have ha : i < a.length := by omega
    have hb : i < b.length := by omega
    simp only [nibble_Prefix.l0]
    rw [if_pos (by omega), if_pos (by omega), if_pos (by rw [ba_size]; omega), if_pos (by rw [ba_size]; omega), ba_bt a i ha, ba_bt b i hb, List.drop_eq_getElem_cons ha, List.drop_eq_getElem_cons hb]
    rw [show wrap64 ((i : Int) + 1) = ((i + 1 : Nat) : Int) from by rw [w64 (by omega) (by omega)]; omega]
    have ih := ih (i + 1) k (by omega) (by omega)
    by_cases e : a[i] = b[i]
    · rw [if_pos (by rw [e]), ih]; simp only [pre, e, if_true]; congr 1; omega
    · rw [if_neg (fun q => e (u8_ext (by omega)))]; simp only [pre, if_neg e]; rfl
theorem ev_Prefix (a b : Bs) (h : a.length ≤ 140737488351232) : Ev (fun k => nibble_Prefix.f k (ba a) (ba b)) ((pre a b : Nat) : Int) := by
  refine Ev.of (k := min a.length b.length + 1) (nibble_Prefix.mono _ _) ?_
  unfold nibble_Prefix.f
  rw [ba_size, ba_size, mn_nat]
  have := prefix_l0 a b h (min a.length b.length) 0 (min a.length b.length + 1) (by omega) (by omega)
  simpa using this
theorem ev_Less (a b : Bs) : Ev (fun _ => nibble_Less.f (ba a) (ba b)) (less a b) := by
  unfold nibble_Less.f
  rw [ba_toList, ba_toList]
  exact Ev.now _
/-! ### join, Bytes, Pack -/
theorem join_take : ∀ (i : Nat) (l : Bs) (h : 2 * i + 1 < l.length), join (l.take (2 * (i + 1))) = join (l.take (2 * i)) ++ [two (l.getD (2 * i) 0) (l.getD (2 * i + 1) 0)]
  | 0, l, h => by
    match l, h with
    | a :: b :: t, h => simp [join]
  | i + 1, l, h => by
    match l, h with
    | a :: b :: t, h =>
      have ih := join_take i t (by simp at h; omega)
      rw [show 2 * (i + 1 + 1) = 2 * (i + 1) + 1 + 1 from by omega, List.take_succ_cons, List.take_succ_cons, join, ih]
      rw [show 2 * (i + 1) = 2 * i + 1 + 1 from by omega, List.take_succ_cons, List.take_succ_cons, join]
      rfl
theorem getD_at (l : Bs) (i : Nat) (h : i < l.length) : l.getD i 0 = l[i] := by rw [List.getD_eq_getElem?_getD, List.getElem?_eq_getElem h]; rfl
theorem join_take_all (l : Bs) : join (l.take (2 * (l.length / 2))) = join l := by
  have : ∀ n (l : Bs), l.length ≤ n → join (l.take (2 * (l.length / 2))) = join l := by
    intro n
    induction n with
    | zero => intro l h; obtain rfl : l = [] := List.length_eq_zero_iff.1 (by omega); rfl
    | succ n ih =>
      intro l h
      match l with
      | [] => rfl
      | [a] => simp [join]
      | a :: b :: t =>
        have := ih t (by simp at h; omega)
        rw [show 2 * ((a :: b :: t).length / 2) = 2 * (t.length / 2) + 1 + 1 from by simp only [List.length_cons]; omega, List.take_succ_cons, List.take_succ_cons, join, join, this]
  exact this l.length l (Nat.le_refl _)
theorem right_at {l : Bs} (h : right l = true) (i : Nat) (hi : i < l.length) : l[i].toNat ≤ 15 := by
  unfold right at h
  rw [List.all_eq_true] at h
  exact of_decide_eq_true (h _ (List.getElem_mem hi))
theorem join_l0 (l : Bs) (h : l.length ≤ 140737488351232) (hr : right l = true) (d : Nat) : ∀ (i : Nat) (k : Nat), i + d = l.length / 2 → d < k → nibble_join.l0 k (ba l) (ints (join (l.take (2 * i)))) ((l.length / 2 : Nat) : Int) (i : Int) = some (ba (join l)) := by
  induction d with
  | zero =>
    intro i k hi hk
    obtain ⟨k, rfl⟩ : ∃ m, k = m + 1 := ⟨k - 1, by omega⟩
    simp only [nibble_join.l0]
    obtain rfl : i = l.length / 2 := by omega
    rw [if_neg (by omega), strOf_ints, join_take_all]
  | succ d ih =>
    intro i k hi hk
    obtain ⟨k, rfl⟩ : ∃ m, k = m + 1 := ⟨k - 1, by omega⟩
    have h2 : 2 * i + 1 < l.length := by omega
    have hn : (ints (join (l.take (2 * i)))).length = i := by rw [ints_len, join_len _ _ (Nat.le_refl _), List.length_take]; omega
    have e1 : wrap64 (2 * (i : Int)) = ((2 * i : Nat) : Int) := by rw [w64 (by omega) (by omega)]; omega
    have e2 : wrap64 (((2 * i : Nat) : Int) + 1) = ((2 * i + 1 : Nat) : Int) := by rw [w64 (by omega) (by omega)]; omega
    have e3 : wrap64 ((i : Int) + 1) = ((i + 1 : Nat) : Int) := by rw [w64 (by omega) (by omega)]; omega
    have b1 := right_at hr (2 * i) (by omega)
    have b2 := right_at hr (2 * i + 1) h2
    simp only [nibble_join.l0]
    rw [if_pos (by omega), e1, if_pos (by omega), if_pos (by rw [ba_size]; omega), e2, if_pos (by omega), if_pos (by rw [ba_size]; omega), if_pos (by omega), e3, ba_bt l (2 * i) (by omega), ba_bt l (2 * i + 1) h2, or16 _ _ (by omega) (by omega), ints_one _ _ (by omega)]
    have e := join_take i l h2
    rw [getD_at l (2 * i) (by omega), getD_at l (2 * i + 1) h2] at e
    unfold two at e
    rw [← e]
    exact ih (i + 1) k (by omega) (by omega)
theorem ev_join (l : Bs) (h : l.length ≤ 140737488351232) (hr : right l = true) : Ev (fun k => nibble_join.f k (ba l)) (ba (join l)) := by
  refine Ev.of (k := l.length / 2 + 1) (nibble_join.mono _) ?_
  unfold nibble_join.f
  rw [ba_size, show wrap64 ((l.length : Int) / 2) = ((l.length / 2 : Nat) : Int) from by rw [w64 (by omega) (by omega)]; omega, if_pos (by omega), if_pos (by omega)]
  have := join_l0 l h hr (l.length / 2) 0 (l.length / 2 + 1) (by omega) (by omega)
  simpa [join, ints] using this
def bytesR (o : Option Bs) : ByteArray × Bool := match o with | some x => (ba x, true) | none => (ba [], false)
theorem ev_Bytes (l : Bs) (h : l.length ≤ 140737488351232) : Ev (fun k => nibble_Bytes.f k (ba l)) (bytesR (Go.Proofs.YtlajpfdmbagedaaDoorW.Nib.bytes l)) := by
  unfold nibble_Bytes.f
  rw [ba_size, ba_nil]
  by_cases e : l.length % 2 = 0
  · refine Ev.ite_pos (by omega) (Ev.bind (ev_Right l h) ?_)
    by_cases hr : right l = true
    · refine Ev.ite_pos hr (Ev.bind (ev_join l h hr) ?_)
      refine Ev.eq (Ev.now _) ?_
      unfold Go.Proofs.YtlajpfdmbagedaaDoorW.Nib.bytes; rw [if_pos ⟨hr, e⟩]; rfl
    · refine Ev.ite_neg hr ?_
      refine Ev.eq (Ev.now _) ?_
      unfold Go.Proofs.YtlajpfdmbagedaaDoorW.Nib.bytes; rw [if_neg (fun q => hr q.1)]; rfl
  · refine Ev.ite_neg (by omega) ?_
    refine Ev.eq (Ev.now _) ?_
    unfold Go.Proofs.YtlajpfdmbagedaaDoorW.Nib.bytes; rw [if_neg (fun q => e q.2)]; rfl
def packR (o : Option Bs) : ByteArray × Int := match o with | some x => (ba x, 0) | none => (ba [], 1)
theorem or_first (a : Nat) (ha : a < 16) : Go.bits .or .u8 32 (Go.bits .or .u8 16 (a : Int)) = ((48 + a : Nat) : Int) ∧ Go.bits .or .u8 0 (Go.bits .or .u8 16 (a : Int)) = ((16 + a : Nat) : Int) := by
  have h : ∀ n : Fin 16, Go.bits .or .u8 32 (Go.bits .or .u8 16 ((n.val : Nat) : Int)) = ((48 + n.val : Nat) : Int) ∧ Go.bits .or .u8 0 (Go.bits .or .u8 16 ((n.val : Nat) : Int)) = ((16 + n.val : Nat) : Int) := by decide +kernel
  exact h ⟨a, ha⟩
theorem right_tail {a : UInt8} {t : Bs} (h : right (a :: t) = true) : right t = true ∧ a.toNat ≤ 15 := ⟨((right_cons a t).1 h).2, ((right_cons a t).1 h).1⟩
theorem ba_ext1 (a : UInt8) (t : Bs) : (ba (a :: t)).extract 1 ((a :: t).length) = ba t := by rw [ba_extract]; simp
theorem ev_Pack (l : Bs) (leaf : Bool) (h : l.length ≤ 140737488351232) : Ev (fun k => nibble_Pack.f k (ba l) leaf) (packR (pack l leaf)) := by
  unfold nibble_Pack.f
  rw [ba_size]
  refine Ev.bind (ev_Right l h) ?_
  by_cases hr : right l = true
  rotate_left
  · refine Ev.ite_neg hr (Ev.eq (Ev.now _) ?_)
    unfold pack; rw [if_neg hr]; rfl
  refine Ev.ite_pos hr ?_
  by_cases ho : l.length % 2 = 1
  · cases l with
    | nil => simp at ho
    | cons a t =>
      obtain ⟨hrt, ha⟩ := right_tail hr
      have hlen : (a :: t).length = t.length + 1 := rfl
      have hj : (join t).length ≤ t.length := by rw [join_len _ _ (Nat.le_refl _)]; omega
      have q := or_first a.toNat (by omega)
      have hg : ∀ z : Nat, z < 256 → ∀ X : Nat → Option (ByteArray × Int), Ev (fun k => if ((a :: t).length : Int) % 2 = 1 then (if 0 < ((a :: t).length : Int) then (if 1 ≤ ((a :: t).length : Int) then ((some (([(z : Int)] : List Int) : List Int)).bind fun y121 => ((nibble_join.f k ((ba (a :: t)).extract 1 (a :: t).length)).bind fun t124 => (if (strOfNums y121).size + t124.size ≤ 9223372036854775807 then (some ((strOfNums y121) ++ t124, (0 : Int))) else (none)))) else (none)) else (none)) else X k) (ba (UInt8.ofNat z :: join t), 0) := by
        intro z hz X
        refine Ev.ite_pos (by omega) (Ev.ite_pos (by omega) (Ev.ite_pos (by omega) ?_))
        rw [ba_ext1]
        refine Ev.bind (Ev.now _) ?_
        refine Ev.bind (ev_join t (by omega) hrt) (Ev.ite_pos (by rw [strOf_one z hz, ba_size, ba_size, List.length_singleton]; omega) ?_)
        refine Ev.eq (Ev.now _) ?_
        rw [strOf_one z hz, ba_app]; rfl
      cases leaf with
      | true =>
        have hp : pack (a :: t) true = some (UInt8.ofNat (48 + a.toNat) :: join t) := by unfold pack; rw [if_pos hr, if_pos ho, if_pos rfl, List.headD_cons, List.tail_cons]
        rw [hp, packR]
        refine Ev.ite_pos rfl ?_
        rw [bt_zero, q.1]
        exact hg (48 + a.toNat) (by omega) _
      | false =>
        have hp : pack (a :: t) false = some (UInt8.ofNat (16 + a.toNat) :: join t) := by unfold pack; rw [if_pos hr, if_pos ho, if_neg (by simp), List.headD_cons, List.tail_cons]
        rw [hp, packR]
        refine Ev.ite_neg (by simp) ?_
        rw [bt_zero, q.2]
        exact hg (16 + a.toNat) (by omega) _
  · have hp : pack l true = some (UInt8.ofNat 32 :: join l) ∧ pack l false = some (UInt8.ofNat 0 :: join l) := by
      unfold pack
      rw [if_pos hr, if_neg ho, if_pos rfl, if_pos hr, if_neg ho, if_neg (by simp)]
      exact ⟨rfl, rfl⟩
    have hj : (join l).length ≤ l.length := by rw [join_len _ _ (Nat.le_refl _)]; omega
    have hg : ∀ (z : Nat) (zi : Int), zi = (z : Int) → z < 256 → Ev (fun k => ((some (([zi] : List Int) : List Int)).bind fun y125 => ((nibble_join.f k (ba l)).bind fun t128 => (if (strOfNums y125).size + t128.size ≤ 9223372036854775807 then (some ((strOfNums y125) ++ t128, (0 : Int))) else (none))))) (ba (UInt8.ofNat z :: join l), 0) := by
      intro z zi hzi hz
      subst hzi
      refine Ev.bind (Ev.now _) ?_
      refine Ev.bind (ev_join l (by omega) hr) (Ev.ite_pos (by rw [strOf_one z hz, ba_size, ba_size, List.length_singleton]; omega) ?_)
      refine Ev.eq (Ev.now _) ?_
      rw [strOf_one z hz, ba_app]; rfl
    cases leaf with
    | true =>
      rw [hp.1, packR]
      exact Ev.ite_pos rfl (Ev.ite_neg (by omega) (hg 32 32 rfl (by omega)))
    | false =>
      rw [hp.2, packR]
      exact Ev.ite_neg (by simp) (Ev.ite_neg (by omega) (hg 0 0 rfl (by omega)))
/-! ### Next -/
theorem trimByte_l0 (n : Nat) : ∀ (l : Bs) (k : Nat), l.length = n → n ≤ 140737488351232 → n < k → strings_trimRightByte.l0 k (ba l) 15 = some (ba (trim l)) := by
  induction n with
  | zero =>
    intro l k hl _ hk
    obtain ⟨k, rfl⟩ : ∃ m, k = m + 1 := ⟨k - 1, by omega⟩
    obtain rfl : l = [] := List.length_eq_zero_iff.1 hl
    simp only [strings_trimRightByte.l0]
    rw [if_neg (by rw [ba_size]; simp)]; rfl
  | succ n ih =>
    intro l k hl hn hk
    obtain ⟨k, rfl⟩ : ∃ m, k = m + 1 := ⟨k - 1, by omega⟩
    obtain ⟨m, x, rfl⟩ : ∃ m x, l = m ++ [x] := ⟨l.dropLast, l.getLast (by intro e; simp [e] at hl), (List.dropLast_concat_getLast _).symm⟩
    have hm : m.length = n := by simp at hl; omega
    have e1 : wrap64 (((m ++ [x]).length : Int) - 1) = ((m.length : Nat) : Int) := by rw [w64 (by omega) (by omega)]; simp
    simp only [strings_trimRightByte.l0]
    rw [ba_size, e1, if_pos (by omega), if_pos (by omega), if_pos (by omega), ba_bt _ m.length (by simp)]
    simp only [List.getElem_concat_length]
    by_cases e : x = 15
    · subst e
      rw [if_pos (show (((15 : UInt8).toNat : Nat) : Int) = 15 from rfl), if_pos (by omega), Int.toNat_natCast, ba_extract, List.drop_zero, List.take_left, trim_snoc15]
      exact ih m k hm (by omega) (by omega)
    · rw [if_neg (fun q => e (u8_ext (by have : (15 : UInt8).toNat = 15 := rfl
                                         omega))), trim_snoc m x e]
theorem ev_Trim (l : Bs) (h : l.length ≤ 140737488351232) : Ev (fun k => strings_TrimRight.f k (ba l) (⟨#[15]⟩ : ByteArray)) (ba (trim l)) := by
  unfold strings_TrimRight.f
  refine Ev.ite_pos ⟨rfl, by decide +kernel⟩ ?_
  rw [ba_size]
  by_cases e : l.length = 0
  · obtain rfl : l = [] := List.length_eq_zero_iff.1 e
    exact Ev.ite_pos rfl (Ev.now _)
  · refine Ev.ite_neg e ?_
    rw [show bt (⟨#[15]⟩ : ByteArray) 0 = 15 from by decide +kernel]
    exact Ev.of (k := l.length + 1) (strings_trimRightByte.mono _ _) (trimByte_l0 l.length l _ rfl h (by omega))
def nextR (o : Option Bs) : ByteArray × Bool := match o with | some x => (ba x, true) | none => (ba [], false)
theorem trim_len (l : Bs) : (trim l).length ≤ l.length := by
  unfold trim
  rw [List.length_reverse]
  have := (List.dropWhile_sublist (fun b : UInt8 => b == 15) (l := l.reverse)).length_le
  simpa using this
theorem right_trim (l : Bs) (h : right l = true) : right (trim l) = true := by
  unfold right at h ⊢
  rw [List.all_eq_true] at h ⊢
  intro x hx
  unfold trim at hx
  rw [List.mem_reverse] at hx
  exact h x (List.mem_reverse.1 ((List.dropWhile_sublist _).subset hx))
theorem up_snoc (m : Bs) (x : UInt8) (hx : x.toNat ≤ 254) : strOfNums (nibble_Next.up (ba (m ++ [x]))) = ba (m ++ [UInt8.ofNat (x.toNat + 1)]) := by
  unfold nibble_Next.up
  rw [ba_size, ba_data]
  have e1 : (((m ++ [x]).length : Nat) : Int) - 1 = ((m.length : Nat) : Int) := by simp
  rw [e1, ba_bt _ m.length (by simp)]
  simp only [List.getElem_concat_length]
  rw [show (((x.toNat : Nat) : Int) + 1) % 256 = ((x.toNat + 1 : Nat) : Int) from by omega]
  rw [show (m ++ [x]).length - 1 = m.length from by simp]
  have e2 : (List.map (fun b : UInt8 => ((b.toNat : Nat) : Int)) (m ++ [x])).set m.length ((x.toNat + 1 : Nat) : Int) = ints m ++ [((x.toNat + 1 : Nat) : Int)] := by
    rw [List.map_append, List.set_append_right _ _ (by simp)]
    simp [ints]
  rw [e2, ints_one _ _ (by omega), strOf_ints]
theorem ev_Next (l : Bs) (h : l.length ≤ 140737488351232) : Ev (fun k => nibble_Next.f k (ba l)) (nextR (if right l = true then next l else none)) := by
  unfold nibble_Next.f
  refine Ev.bind (ev_Right l h) ?_
  by_cases hr : right l = true
  · rw [if_pos hr]
    refine Ev.ite_pos hr (Ev.bind (ev_Trim l h) ?_)
    rw [ba_size]
    have hl := trim_len l
    rcases next_trim l with ⟨h1, h2⟩ | ⟨m, x, h1, h2, h3⟩
    · rw [h1, h2]
      exact Ev.ite_pos rfl (Ev.now _)
    · rw [h1] at hl ⊢
      rw [h3]
      have hx : x.toNat ≤ 15 := by
        have := right_trim l hr
        rw [h1] at this
        have := right_at this m.length (by simp)
        simpa using this
      refine Ev.ite_neg (by simp) (Ev.ite_neg (by omega) ?_)
      rw [up_snoc m x (by omega)]
      exact Ev.now _
  · rw [if_neg hr]
    exact Ev.ite_neg hr (Ev.now _)
/-! ### Unpack -/
def unpackR (o : Option (Bs × Bool)) : ByteArray × Bool × Int := match o with | some x => (ba x.1, x.2, 0) | none => (ba [], false, 10)
theorem and_first (b : UInt8) : (Go.bits .and .u8 (b.toNat : Int) 16 = 0 ↔ b.toNat / 16 % 2 = 0) ∧ (b.toNat < 64 → (Go.bits .and .u8 (b.toNat : Int) 32 != 0) = decide (b.toNat / 32 = 1)) := by
  have h : ∀ n : Fin 256, (Go.bits .and .u8 ((n.val : Nat) : Int) 16 = 0 ↔ n.val / 16 % 2 = 0) ∧ (n.val < 64 → (Go.bits .and .u8 ((n.val : Nat) : Int) 32 != 0) = decide (n.val / 32 = 1)) := by decide +kernel
  exact h ⟨b.toNat, byte_lt b⟩
theorem ev_Unpack (l : Bs) (h : l.length ≤ 70000000000000) : Ev (fun k => nibble_Unpack.f k (ba l)) (unpackR (unpack l)) := by
  unfold nibble_Unpack.f
  rw [ba_size]
  cases l with
  | nil => exact Ev.ite_pos rfl (Ev.now _)
  | cons b t =>
    have hb := byte_lt b
    obtain ⟨q1, q2⟩ := and_first b
    rw [bt_zero]
    refine Ev.ite_neg (by simp) ?_
    have hu : unpack (b :: t) = if b.toNat ≥ 64 then none else if b.toNat / 16 % 2 = 1 then some (lo b :: nib t, decide (b.toNat / 32 = 1)) else if b.toNat % 16 = 0 then some (nib t, decide (b.toNat / 32 = 1)) else none := rfl
    by_cases h64 : b.toNat ≥ 64
    · rw [hu, if_pos h64]
      exact Ev.ite_pos (by omega) (Ev.now _)
    · rw [hu, if_neg h64]
      refine Ev.ite_neg (by omega) ?_
      have hn : (nib (b :: t)).length = 2 * t.length + 2 := by rw [nib_len]; simp; omega
      have h2 := q2 (by omega)
      simp only [List.length_cons] at h
      by_cases ho : b.toNat / 16 % 2 = 1
      · rw [if_pos ho]
        refine Ev.ite_neg (fun q => by have := q1.1 q.1; omega) (Ev.bind (ev_Of _ (by simp; omega)) ?_)
        rw [ba_size, hn]
        refine Ev.ite_neg (by omega) (Ev.ite_neg (fun q => by have := q1.1 q; omega) ?_)
        refine Ev.eq (Ev.now _) ?_
        rw [h2, ← hn, show nib (b :: t) = hi b :: (lo b :: nib t) from rfl, ba_ext1]; rfl
      · rw [if_neg ho]
        have q3 : Go.bits .and .u8 (b.toNat : Int) 16 = 0 := q1.2 (by omega)
        by_cases hz : b.toNat % 16 = 0
        · rw [if_pos hz]
          refine Ev.ite_neg (fun q => q.2 (by omega)) (Ev.bind (ev_Of _ (by simp; omega)) ?_)
          rw [ba_size, hn]
          refine Ev.ite_neg (by omega) (Ev.ite_pos q3 ?_)
          refine Ev.eq (Ev.now _) ?_
          rw [h2, ← hn, ba_extract, show nib (b :: t) = hi b :: (lo b :: nib t) from rfl]
          simp [unpackR]
        · rw [if_neg hz]
          exact Ev.ite_pos ⟨q3, by omega⟩ (Ev.now _)
end Go.Proofs.YtlajpfdmbagedaaDoor.NE
