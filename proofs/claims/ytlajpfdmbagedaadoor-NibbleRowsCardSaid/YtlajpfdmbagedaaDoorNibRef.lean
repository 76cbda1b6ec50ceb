/- What the printed functions of nibble's reference come to, by the plain laws. -/
import Derived.Test.YtlajpfdmbagedaaDoorP13
import Derived.Test.YtlajpfdmbagedaaDoorP12
import Derived.Test.YtlajpfdmbagedaaDoorP12
import Derived.Test.YtlajpfdmbagedaaDoorP16
import Derived.Test.YtlajpfdmbagedaaDoorP13
import Derived.Test.YtlajpfdmbagedaaDoorP14
import Derived.Test.YtlajpfdmbagedaaDoorP15
import Derived.Test.YtlajpfdmbagedaaDoorP16
import Derived.Test.YtlajpfdmbagedaaDoorNibEv
namespace Go.Proofs.YtlajpfdmbagedaaDoor.NE
open Go.RowKit Go.Proofs.YtlajpfdmbagedaaDoor.P Go.Proofs.YtlajpfdmbagedaaDoorW.PrintWords Go.Proofs.YtlajpfdmbagedaaDoorW.PrintLast Go.Proofs.YtlajpfdmbagedaaDoor.RE Go.Proofs.YtlajpfdmbagedaaDoorW.Nib
set_option linter.unusedVariables false
set_option linter.unusedSimpArgs false
/-! ### Of, Right -/
theorem refOf_l0 (l : Bs) (h : l.length ≤ 70000000000000) (d : Nat) : ∀ (i : Nat) (k : Nat), i + d = l.length → d < k → loessref03_Of.l0 k (ba l) (ints (nib (l.take i))) (i : Int) = some (ba (nib l)) := by
  induction d with
  | zero =>
    intro i k hi hk
    obtain ⟨k, rfl⟩ : ∃ m, k = m + 1 := ⟨k - 1, by omega⟩
    simp only [loessref03_Of.l0]
    rw [if_neg (by rw [ba_size]; omega), List.take_of_length_le (by omega), strOf_ints]
  | succ d ih =>
    intro i k hi hk
    obtain ⟨k, rfl⟩ : ∃ m, k = m + 1 := ⟨k - 1, by omega⟩
    have hlt : i < l.length := by omega
    have hb := byte_lt l[i]
    have hn : (ints (nib (l.take i))).length = 2 * i := by rw [ints_len, nib_len, List.length_take]; omega
    simp only [loessref03_Of.l0]
    rw [if_pos (by rw [ba_size]; omega), if_pos (by omega), ba_bt l i hlt]
    rw [show Int.tdiv ((l[i].toNat : Nat) : Int) 16 % 256 = ((l[i].toNat / 16 : Nat) : Int) from by rw [Int.tdiv_eq_ediv_of_nonneg (by omega)]; omega]
    rw [show Int.tmod ((l[i].toNat : Nat) : Int) 16 = ((l[i].toNat % 16 : Nat) : Int) from by rw [Int.tmod_eq_emod_of_nonneg (by omega)]; omega]
    rw [Option.bind_some, if_pos (by simp only [List.length_cons, List.length_nil]; omega)]
    rw [strOf_ints2 _ _ _ (by omega) (by omega)]
    have e : nib (l.take i) ++ [UInt8.ofNat (l[i].toNat / 16), UInt8.ofNat (l[i].toNat % 16)] = nib (l.take (i + 1)) := by
      rw [List.take_succ_eq_append_getElem hlt, nib_snoc]; rfl
    rw [e, show wrap64 ((i : Int) + 1) = ((i + 1 : Nat) : Int) from by rw [w64 (by omega) (by omega)]; omega]
    exact ih (i + 1) k (by omega) (by omega)
theorem ev_refOf (l : Bs) (h : l.length ≤ 70000000000000) : Ev (fun k => loessref03_Of.f k (ba l)) (ba (nib l)) := by
  refine Ev.of (k := l.length + 1) (loessref03_Of.mono _) ?_
  unfold loessref03_Of.f
  have := refOf_l0 l h l.length 0 (l.length + 1) (by omega) (by omega)
  simpa [nib, ints] using this
theorem refRight_l0 (l : Bs) (h : l.length ≤ 140737488351232) (d : Nat) : ∀ (i : Nat) (k : Nat), i + d = l.length → d < k → loessref03_Right.l0 k (ba l) (i : Int) = some (right (l.drop i)) := by
  induction d with
  | zero =>
    intro i k hi hk
    obtain ⟨k, rfl⟩ : ∃ m, k = m + 1 := ⟨k - 1, by omega⟩
    simp only [loessref03_Right.l0]
    rw [if_neg (by rw [ba_size]; omega), List.drop_eq_nil_of_le (by omega)]; rfl
  | succ d ih =>
    intro i k hi hk
    obtain ⟨k, rfl⟩ : ∃ m, k = m + 1 := ⟨k - 1, by omega⟩
    have hlt : i < l.length := by omega
    simp only [loessref03_Right.l0]
    rw [if_pos (by rw [ba_size]; omega), if_pos (by omega), ba_bt l i hlt, List.drop_eq_getElem_cons hlt]
    rw [show wrap64 ((i : Int) + 1) = ((i + 1 : Nat) : Int) from by rw [w64 (by omega) (by omega)]; omega]
    have ih := ih (i + 1) k (by omega) (by omega)
    have hc : right (l[i] :: l.drop (i + 1)) = (decide (l[i].toNat ≤ 15) && right (l.drop (i + 1))) := rfl
    rw [hc]
    by_cases hb : l[i].toNat ≤ 15
    · rw [if_neg (by omega), ih, decide_eq_true hb]; rfl
    · rw [if_pos (by omega), decide_eq_false hb]; rfl
theorem ev_refRight (l : Bs) (h : l.length ≤ 140737488351232) : Ev (fun k => loessref03_Right.f k (ba l)) (right l) := by
  refine Ev.of (k := l.length + 1) (loessref03_Right.mono _) ?_
  unfold loessref03_Right.f
  exact refRight_l0 l h l.length 0 (l.length + 1) (by omega) (by omega)
/-! ### Bytes -/
theorem refBytes_l0 (l : Bs) (h : l.length ≤ 140737488351232) (hr : right l = true) (he : l.length % 2 = 0) (d : Nat) : ∀ (i : Nat) (k : Nat), i + d = l.length / 2 → d < k → loessref03_Bytes.l0 k (ba l) (ints (join (l.take (2 * i)))) ((2 * i : Nat) : Int) = some (ba (join l), true) := by
  induction d with
  | zero =>
    intro i k hi hk
    obtain ⟨k, rfl⟩ : ∃ m, k = m + 1 := ⟨k - 1, by omega⟩
    simp only [loessref03_Bytes.l0]
    obtain rfl : i = l.length / 2 := by omega
    rw [if_neg (by rw [ba_size]; omega), strOf_ints, join_take_all]
  | succ d ih =>
    intro i k hi hk
    obtain ⟨k, rfl⟩ : ∃ m, k = m + 1 := ⟨k - 1, by omega⟩
    have h2 : 2 * i + 1 < l.length := by omega
    have hn : (ints (join (l.take (2 * i)))).length = i := by rw [ints_len, join_len _ _ (Nat.le_refl _), List.length_take]; omega
    have e2 : wrap64 (((2 * i : Nat) : Int) + 1) = ((2 * i + 1 : Nat) : Int) := by rw [w64 (by omega) (by omega)]; omega
    have e3 : wrap64 (((2 * i : Nat) : Int) + 2) = ((2 * (i + 1) : Nat) : Int) := by rw [w64 (by omega) (by omega)]; omega
    have b1 := right_at hr (2 * i) (by omega)
    have b2 := right_at hr (2 * i + 1) h2
    simp only [loessref03_Bytes.l0]
    rw [if_pos (by rw [ba_size]; omega), if_pos (by omega), e2, if_pos (by omega), if_pos (by rw [ba_size]; omega), if_pos (by omega), e3, ba_bt l (2 * i) (by omega), ba_bt l (2 * i + 1) h2]
    rw [show ((((l[2 * i].toNat : Nat) : Int) * 16) % 256 + ((l[2 * i + 1].toNat : Nat) : Int)) % 256 = ((l[2 * i].toNat * 16 + l[2 * i + 1].toNat : Nat) : Int) from by omega, ints_one _ _ (by omega)]
    have e := join_take i l h2
    rw [getD_at l (2 * i) (by omega), getD_at l (2 * i + 1) h2] at e
    unfold two at e
    rw [← e]
    exact ih (i + 1) k (by omega) (by omega)
theorem ev_refBytes (l : Bs) (h : l.length ≤ 140737488351232) : Ev (fun k => loessref03_Bytes.f k (ba l)) (bytesR (Go.Proofs.YtlajpfdmbagedaaDoorW.Nib.bytes l)) := by
  unfold loessref03_Bytes.f
  rw [ba_size]
  have no : Ev (fun k => loessref03_Bytes.j0 k (ba l) true) (ba [], false) := Ev.step (fun k => loessref03_Bytes.j0.eq_2 _ _ k) (Ev.ite_pos rfl (Ev.now _))
  refine Ev.bind (ev_refRight l h) ?_
  by_cases hr : right l = true
  · refine Ev.ite_pos hr ?_
    by_cases e : l.length % 2 = 0
    · have hb : Go.Proofs.YtlajpfdmbagedaaDoorW.Nib.bytes l = some (join l) := by unfold Go.Proofs.YtlajpfdmbagedaaDoorW.Nib.bytes; rw [if_pos ⟨hr, e⟩]
      rw [hb, show (((l.length : Int) % 2) != 0) = false from by rw [bne_eq_false_iff_eq]; omega]
      refine Ev.step (fun k => loessref03_Bytes.j0.eq_2 _ _ k) (Ev.ite_neg (by simp) ?_)
      refine ⟨l.length / 2 + 1, fun n hn => ?_⟩
      have := refBytes_l0 l h hr e (l.length / 2) 0 n (by omega) (by omega)
      simpa [join, ints, bytesR] using this
    · have hb : Go.Proofs.YtlajpfdmbagedaaDoorW.Nib.bytes l = none := by unfold Go.Proofs.YtlajpfdmbagedaaDoorW.Nib.bytes; rw [if_neg (fun q => e q.2)]
      rw [hb, show (((l.length : Int) % 2) != 0) = true from by rw [bne_iff_ne]; omega]
      exact no
  · have hb : Go.Proofs.YtlajpfdmbagedaaDoorW.Nib.bytes l = none := by unfold Go.Proofs.YtlajpfdmbagedaaDoorW.Nib.bytes; rw [if_neg (fun q => hr q.1)]
    rw [hb]
    exact Ev.ite_neg hr no
/-! ### Prefix, Less -/
theorem refPrefix_l0 (a b : Bs) (h : a.length ≤ 140737488351232) (d : Nat) : ∀ (i : Nat) (k : Nat), i + d = min a.length b.length → d < k → loessref03_Prefix.l0 k (ba a) (ba b) (i : Int) = some ((i + pre (a.drop i) (b.drop i) : Nat) : Int) := by
  induction d with
  | zero =>
    intro i k hi hk
    obtain ⟨k, rfl⟩ : ∃ m, k = m + 1 := ⟨k - 1, by omega⟩
    simp only [loessref03_Prefix.l0]
    have : pre (a.drop i) (b.drop i) = 0 := by
      rcases Nat.le_total a.length b.length with h1 | h1
      · rw [List.drop_eq_nil_of_le (by omega : a.length ≤ i)]; simp [pre]
      · rw [List.drop_eq_nil_of_le (by omega : b.length ≤ i), pre_nil_right]
    rw [this]
    by_cases ha : i < a.length
    · rw [if_pos (by rw [ba_size]; omega), if_neg (by rw [ba_size]; omega)]; rfl
    · rw [if_neg (by rw [ba_size]; omega)]; rfl
  | succ d ih =>
    intro i k hi hk
    obtain ⟨k, rfl⟩ : ∃ m, k = m + 1 := ⟨k - 1, by omega⟩
    have ha : i < a.length := by omega
    have hb : i < b.length := by omega
    simp only [loessref03_Prefix.l0]
    rw [if_pos (by rw [ba_size]; omega), if_pos (by rw [ba_size]; omega), if_pos (by omega), ba_bt a i ha, ba_bt b i hb, List.drop_eq_getElem_cons ha, List.drop_eq_getElem_cons hb]
    rw [show wrap64 ((i : Int) + 1) = ((i + 1 : Nat) : Int) from by rw [w64 (by omega) (by omega)]; omega]
    have ih := ih (i + 1) k (by omega) (by omega)
    by_cases e : a[i] = b[i]
    · rw [if_pos (by rw [e]), ih]; simp only [pre, e, if_true]; congr 1; omega
    · rw [if_neg (fun q => e (u8_ext (by omega)))]; simp only [pre, if_neg e]; rfl
theorem ev_refPrefix (a b : Bs) (h : a.length ≤ 140737488351232) : Ev (fun k => loessref03_Prefix.f k (ba a) (ba b)) ((pre a b : Nat) : Int) := by
  refine Ev.of (k := min a.length b.length + 1) (loessref03_Prefix.mono _ _) ?_
  unfold loessref03_Prefix.f
  have := refPrefix_l0 a b h (min a.length b.length) 0 (min a.length b.length + 1) (by omega) (by omega)
  simpa using this
theorem ev_refLess (a b : Bs) (h : a.length ≤ 140737488351232) : Ev (fun k => loessref03_Less.f k (ba a) (ba b)) (less a b) := by
  unfold loessref03_Less.f
  rw [ba_size, ba_size, less_pre]
  refine Ev.bind (ev_refPrefix a b h) ?_
  have hl := pre_le a b
  by_cases e1 : pre a b = b.length
  · rw [if_pos e1]; exact Ev.ite_pos (by omega) (Ev.now _)
  · rw [if_neg e1]
    refine Ev.ite_neg (by omega) ?_
    by_cases e2 : pre a b = a.length
    · rw [dif_pos e2]; exact Ev.ite_pos (by omega) (Ev.now _)
    · rw [dif_neg e2]
      refine Ev.ite_neg (by omega) (Ev.ite_pos (by omega) (Ev.ite_pos (by omega) (Ev.ite_pos (by omega) (Ev.eq (Ev.now _) ?_))))
      rw [ba_bt a _ (by omega), ba_bt b _ (by omega), getD_at a _ (by omega), getD_at b _ (by omega), Bool.eq_iff_iff, decide_eq_true_eq, decide_eq_true_eq]
      omega
/-! ### Pack -/
theorem ev_refPack (l : Bs) (leaf : Bool) (h : l.length ≤ 140737488351232) : Ev (fun k => loessref03_Pack.f k (ba l) leaf) (packR (pack l leaf)) := by
  unfold loessref03_Pack.f
  rw [ba_size]
  refine Ev.bind (ev_refRight l h) ?_
  by_cases hr : right l = true
  rotate_left
  · refine Ev.ite_neg hr (Ev.eq (Ev.now _) ?_)
    unfold pack; rw [if_neg hr]; rfl
  refine Ev.ite_pos hr ?_
  by_cases ho : l.length % 2 = 1
  · cases l with
    | nil => simp at ho
    | cons a t =>
      obtain ⟨hrt, ha⟩ := right_tail hr
      have hlen : (a :: t).length = t.length + 1 := rfl
      have hj : (join t).length ≤ t.length := by rw [join_len _ _ (Nat.le_refl _)]; omega
      have hbt : Go.Proofs.YtlajpfdmbagedaaDoorW.Nib.bytes t = some (join t) := by unfold Go.Proofs.YtlajpfdmbagedaaDoorW.Nib.bytes; rw [if_pos ⟨hrt, by omega⟩]
      have hg : ∀ (y : Int) (z : Nat) (zi : Int), zi = (z : Int) → z < 256 → ∀ X : Nat → Option (ByteArray × Int), Ev (fun k => (some (([y] : List Int) : List Int)).bind fun y183 => (if ((a :: t).length : Int) % 2 = 1 then (if 0 < ((a :: t).length : Int) then (if 0 < (y183.length : Int) then ((some (y183.set (0 : Int).toNat zi : List Int)).bind fun y186 => (if 1 ≤ ((a :: t).length : Int) then ((loessref03_Bytes.f k ((ba (a :: t)).extract 1 (a :: t).length)).bind fun bt187 => (if (strOfNums y186).size + bt187.1.size ≤ 9223372036854775807 then (some ((strOfNums y186) ++ bt187.1, (0 : Int))) else (none))) else (none))) else (none)) else (none)) else (loessref03_Bytes.f k (ba (a :: t))).bind fun bt189 => (if (strOfNums y183).size + bt189.1.size ≤ 9223372036854775807 then (some ((strOfNums y183) ++ bt189.1, (0 : Int))) else (none)))) (ba (UInt8.ofNat z :: join t), 0) := by
        intro y z zi hzi hz X
        refine Ev.bind (Ev.now _) (Ev.ite_pos (by omega) (Ev.ite_pos (by omega) (Ev.ite_pos (by simp) (Ev.bind (Ev.now _) (Ev.ite_pos (by omega) ?_)))))
        rw [ba_ext1, show ([y] : List Int).set (0 : Int).toNat zi = [zi] from rfl, hzi, strOf_one z hz]
        refine Ev.bind (ev_refBytes t (by omega)) ?_
        rw [hbt]
        refine Ev.ite_pos ?_ (Ev.eq (Ev.now _) ?_)
        · show (ba [UInt8.ofNat z]).size + (ba (join t)).size ≤ _
          have e1 := ba_size [UInt8.ofNat z]
          have e2 := ba_size (join t)
          rw [List.length_singleton] at e1
          omega
        · show (ba [UInt8.ofNat z] ++ ba (join t), (0 : Int)) = _
          rw [ba_app]; rfl
      cases leaf with
      | true =>
        have hp : pack (a :: t) true = some (UInt8.ofNat (48 + a.toNat) :: join t) := by unfold pack; rw [if_pos hr, if_pos ho, if_pos rfl, List.headD_cons, List.tail_cons]
        rw [hp, packR]
        refine Ev.ite_pos rfl ?_
        rw [bt_zero]
        exact hg _ (48 + a.toNat) _ (by omega) (by omega) (fun _ => none)
      | false =>
        have hp : pack (a :: t) false = some (UInt8.ofNat (16 + a.toNat) :: join t) := by unfold pack; rw [if_pos hr, if_pos ho, if_neg (by simp), List.headD_cons, List.tail_cons]
        rw [hp, packR]
        refine Ev.ite_neg (by simp) ?_
        rw [bt_zero]
        exact hg _ (16 + a.toNat) _ (by omega) (by omega) (fun _ => none)
  · have hp : pack l true = some (UInt8.ofNat 32 :: join l) ∧ pack l false = some (UInt8.ofNat 0 :: join l) := by
      unfold pack
      rw [if_pos hr, if_neg ho, if_pos rfl, if_pos hr, if_neg ho, if_neg (by simp)]
      exact ⟨rfl, rfl⟩
    have hj : (join l).length ≤ l.length := by rw [join_len _ _ (Nat.le_refl _)]; omega
    have hbt : Go.Proofs.YtlajpfdmbagedaaDoorW.Nib.bytes l = some (join l) := by unfold Go.Proofs.YtlajpfdmbagedaaDoorW.Nib.bytes; rw [if_pos ⟨hr, by omega⟩]
    have hg : ∀ (z : Nat) (zi : Int), zi = (z : Int) → z < 256 → Ev (fun k => (loessref03_Bytes.f k (ba l)).bind fun bt189 => (if (strOfNums ([zi] : List Int)).size + bt189.1.size ≤ 9223372036854775807 then (some ((strOfNums ([zi] : List Int)) ++ bt189.1, (0 : Int))) else (none))) (ba (UInt8.ofNat z :: join l), 0) := by
      intro z zi hzi hz
      rw [hzi, strOf_one z hz]
      refine Ev.bind (ev_refBytes l (by omega)) ?_
      rw [hbt]
      refine Ev.ite_pos ?_ (Ev.eq (Ev.now _) ?_)
      · show (ba [UInt8.ofNat z]).size + (ba (join l)).size ≤ _
        have e1 := ba_size [UInt8.ofNat z]
        have e2 := ba_size (join l)
        rw [List.length_singleton] at e1
        omega
      · show (ba [UInt8.ofNat z] ++ ba (join l), (0 : Int)) = _
        rw [ba_app]; rfl
    cases leaf with
    | true =>
      rw [hp.1, packR]
      exact Ev.ite_pos rfl (Ev.bind (Ev.now _) (Ev.ite_neg (by omega) (hg 32 (16 * 2) rfl (by omega))))
    | false =>
      rw [hp.2, packR]
      exact Ev.ite_neg (by simp) (Ev.bind (Ev.now _) (Ev.ite_neg (by omega) (hg 0 (16 * 0) rfl (by omega))))
/-! ### Unpack -/
theorem pack_even (t : Bs) (leaf : Bool) : pack (nib t) leaf = some (UInt8.ofNat (if leaf then 32 else 0) :: t) := by
  unfold pack
  rw [if_pos (nib_right t), if_neg (by rw [nib_len]; omega), join_nib]
theorem pack_odd (b : UInt8) (t : Bs) (leaf : Bool) : pack (lo b :: nib t) leaf = some (UInt8.ofNat ((if leaf then 48 else 16) + b.toNat % 16) :: t) := by
  have hr : right (lo b :: nib t) = true := by
    have := byte_lt b
    rw [right_cons, lo_nat]; exact ⟨by omega, nib_right t⟩
  unfold pack
  rw [if_pos hr, if_pos (by simp only [List.length_cons, nib_len]; omega)]
  simp only [List.headD_cons, List.tail_cons, join_nib, lo_nat]
/-- One try of the reference: a row that is packed to the bytes, or not. -/
def tries (b : UInt8) (t : Bs) (leaf : Bool) (odd : Nat) : Bool := decide (b.toNat = (if odd = 1 then (if leaf then 48 else 16) + b.toNat % 16 else (if leaf then 32 else 0)))
def rowOf (b : UInt8) (t : Bs) (odd : Nat) : Bs := if odd = 1 then lo b :: nib t else nib t
theorem refUnpack_try (b : UInt8) (t : Bs) (leaf : Nat) (odd : Nat) (hl : leaf < 2) (ho : odd < 2) (h : t.length ≤ 50000000000000) (X : Nat → Option (ByteArray × Bool × Int)) (r : ByteArray × Bool × Int)
    (h1 : tries b t (decide (leaf = 1)) odd = true → r = (ba (rowOf b t odd), decide (leaf = 1), 0)) (h2 : tries b t (decide (leaf = 1)) odd = false → Ev (fun k => loessref03_Unpack.l1 k (ba (b :: t)) (ba (nib (b :: t))) (leaf : Int) ((odd + 1 : Nat) : Int)) r) :
    Ev (fun k => loessref03_Unpack.l1 k (ba (b :: t)) (ba (nib (b :: t))) (leaf : Int) (odd : Int)) r := by
  have hb := byte_lt b
  obtain ⟨L, hL⟩ : ∃ L, decide (leaf = 1) = L := ⟨_, rfl⟩
  rw [hL] at h1 h2
  refine Ev.step (fun k => loessref03_Unpack.l1.eq_2 _ _ _ _ k) ?_
  have hn : (nib (b :: t)).length = 2 * t.length + 2 := by rw [nib_len]; simp; omega
  have e1 : wrap64 (2 - (odd : Int)) = ((2 - odd : Nat) : Int) := by rw [w64 (by omega) (by omega)]; omega
  have e2 : wrap64 ((odd : Int) + 1) = ((odd + 1 : Nat) : Int) := by rw [w64 (by omega) (by omega)]; omega
  have e3 : (((leaf : Nat) : Int) == 1) = L := by rw [← hL, Bool.eq_iff_iff, beq_iff_eq, decide_eq_true_eq]; omega
  rw [e1, e2, e3, Int.toNat_natCast, ba_size, ba_extract, List.take_of_length_le (Nat.le_refl _)]
  have e4 : (nib (b :: t)).drop (2 - odd) = rowOf b t odd := by
    unfold rowOf
    obtain rfl | rfl : odd = 0 ∨ odd = 1 := by omega
    · rfl
    · rfl
  rw [e4]
  have hrl : (rowOf b t odd).length ≤ 2 * t.length + 2 := by
    have := nib_len t
    unfold rowOf; split <;> (try simp only [List.length_cons]) <;> omega
  refine Ev.ite_pos (by omega) (Ev.ite_pos (by omega) (Ev.ite_pos (by omega) (Ev.bind (ev_refPack (rowOf b t odd) _ (by omega)) ?_)))
  have hp : pack (rowOf b t odd) L = some (UInt8.ofNat (if odd = 1 then (if L then 48 else 16) + b.toNat % 16 else (if L then 32 else 0)) :: t) := by
    unfold rowOf
    obtain rfl | rfl : odd = 0 ∨ odd = 1 := by omega
    · exact pack_even t _
    · exact pack_odd b t _
  rw [hp]
  refine Ev.ite_pos rfl ?_
  simp only [packR, ba_toList]
  have hc : (UInt8.ofNat (if odd = 1 then (if L then 48 else 16) + b.toNat % 16 else (if L then 32 else 0)) :: t = b :: t) ↔ tries b t L odd = true := by
    unfold tries
    rw [decide_eq_true_eq]
    generalize hz : (if odd = 1 then (if L then 48 else 16) + b.toNat % 16 else (if L then 32 else 0)) = z
    have hz' : z < 256 := by
      subst hz
      repeat' split
      all_goals omega
    constructor
    · intro e
      injection e with e
      rw [← e, UInt8.toNat_ofNat']; omega
    · intro e
      rw [← e, byte_eta]
  cases ht : tries b t L odd with
  | true =>
    rw [ht] at hc
    rw [h1 ht]
    exact Ev.ite_pos (hc.2 rfl) (Ev.now _)
  | false =>
    rw [ht] at hc
    exact Ev.ite_neg (fun q => by have := hc.1 q; cases this) (h2 ht)
theorem ev_refUnpack (l : Bs) (h : l.length ≤ 50000000000000) : Ev (fun k => loessref03_Unpack.f k (ba l)) (unpackR (unpack l)) := by
  unfold loessref03_Unpack.f
  rw [ba_size]
  cases l with
  | nil => exact Ev.ite_pos rfl (Ev.now _)
  | cons b t =>
    have hb := byte_lt b
    simp only [List.length_cons] at h
    refine Ev.ite_neg (by simp only [List.length_cons]; omega) (Ev.bind (ev_refOf _ (by simp only [List.length_cons]; omega)) ?_)
    have hu : unpack (b :: t) = if b.toNat ≥ 64 then none else if b.toNat / 16 % 2 = 1 then some (lo b :: nib t, decide (b.toNat / 32 = 1)) else if b.toNat % 16 = 0 then some (nib t, decide (b.toNat / 32 = 1)) else none := rfl
    have t00 : tries b t false 0 = decide (b.toNat = 0) := rfl
    have t01 : tries b t false 1 = decide (b.toNat = 16 + b.toNat % 16) := rfl
    have t10 : tries b t true 0 = decide (b.toNat = 32) := rfl
    have t11 : tries b t true 1 = decide (b.toNat = 48 + b.toNat % 16) := rfl
    rw [hu]
    refine Ev.step (fun k => loessref03_Unpack.l0.eq_2 _ _ _ k) (Ev.ite_pos (by omega) ?_)
    refine refUnpack_try b t 0 0 (by omega) (by omega) (by omega) (fun _ => none) _ (fun q => ?_) (fun q0 => ?_)
    · replace q : decide (b.toNat = 0) = true := q
      rw [decide_eq_true_eq] at q
      rw [if_neg (by omega), if_neg (by omega), if_pos (by omega), decide_eq_false (by omega)]; rfl
    replace q0 : decide (b.toNat = 0) = false := q0
    rw [decide_eq_false_iff_not] at q0
    refine refUnpack_try b t 0 1 (by omega) (by omega) (by omega) (fun _ => none) _ (fun q => ?_) (fun q1 => ?_)
    · replace q : decide (b.toNat = 16 + b.toNat % 16) = true := q
      rw [decide_eq_true_eq] at q
      rw [if_neg (by omega), if_pos (by omega), decide_eq_false (by omega)]; rfl
    replace q1 : decide (b.toNat = 16 + b.toNat % 16) = false := q1
    rw [decide_eq_false_iff_not] at q1
    refine Ev.step (fun k => loessref03_Unpack.l1.eq_2 _ _ _ _ k) (Ev.ite_neg (by omega) ?_)
    rw [show wrap64 (((0 : Nat) : Int) + 1) = ((1 : Nat) : Int) from by rw [w64 (by omega) (by omega)]; omega]
    refine Ev.step (fun k => loessref03_Unpack.l0.eq_2 _ _ _ k) (Ev.ite_pos (by omega) ?_)
    refine refUnpack_try b t 1 0 (by omega) (by omega) (by omega) (fun _ => none) _ (fun q => ?_) (fun q2 => ?_)
    · replace q : decide (b.toNat = 32) = true := q
      rw [decide_eq_true_eq] at q
      rw [if_neg (by omega), if_neg (by omega), if_pos (by omega), decide_eq_true (by omega)]; rfl
    replace q2 : decide (b.toNat = 32) = false := q2
    rw [decide_eq_false_iff_not] at q2
    refine refUnpack_try b t 1 1 (by omega) (by omega) (by omega) (fun _ => none) _ (fun q => ?_) (fun q3 => ?_)
    · replace q : decide (b.toNat = 48 + b.toNat % 16) = true := q
      rw [decide_eq_true_eq] at q
      rw [if_neg (by omega), if_pos (by omega), decide_eq_true (by omega)]; rfl
    replace q3 : decide (b.toNat = 48 + b.toNat % 16) = false := q3
    rw [decide_eq_false_iff_not] at q3
    refine Ev.step (fun k => loessref03_Unpack.l1.eq_2 _ _ _ _ k) (Ev.ite_neg (by omega) ?_)
    rw [show wrap64 (((1 : Nat) : Int) + 1) = ((2 : Nat) : Int) from by rw [w64 (by omega) (by omega)]; omega]
    refine Ev.step (fun k => loessref03_Unpack.l0.eq_2 _ _ _ k) (Ev.ite_neg (by omega) (Ev.eq (Ev.now _) ?_))
    have : (if b.toNat ≥ 64 then (none : Option (Bs × Bool)) else if b.toNat / 16 % 2 = 1 then some (lo b :: nib t, decide (b.toNat / 32 = 1)) else if b.toNat % 16 = 0 then some (nib t, decide (b.toNat / 32 = 1)) else none) = none := by
      by_cases h64 : b.toNat ≥ 64
      · rw [if_pos h64]
      · rw [if_neg h64, if_neg (by omega), if_neg (by omega)]
    rw [this]; rfl
/-! ### Next -/
theorem refNext_no (n : Nat) : ∀ (l : Bs) (k : Nat), l.length = n → n ≤ 140737488351232 → n < k → loessref03_Next.l0 k (ba l) false = some (ba [], false) := by
  induction n with
  | zero =>
    intro l k hl _ hk
    obtain ⟨k, rfl⟩ : ∃ m, k = m + 1 := ⟨k - 1, by omega⟩
    simp only [loessref03_Next.l0]
    rw [if_neg (by rw [ba_size]; omega), if_neg (by simp)]; rfl
  | succ n ih =>
    intro l k hl hn hk
    obtain ⟨k, rfl⟩ : ∃ m, k = m + 1 := ⟨k - 1, by omega⟩
    obtain ⟨m, x, rfl⟩ : ∃ m x, l = m ++ [x] := ⟨l.dropLast, l.getLast (by intro e; simp [e] at hl), (List.dropLast_concat_getLast _).symm⟩
    have hm : m.length = n := by simp at hl; omega
    have e1 : wrap64 (((m ++ [x]).length : Int) - 1) = ((m.length : Nat) : Int) := by rw [w64 (by omega) (by omega)]; simp
    simp only [loessref03_Next.l0]
    rw [ba_size, e1, if_pos (by omega), if_pos (by omega), if_pos (by omega), ba_bt _ m.length (by simp)]
    simp only [List.getElem_concat_length]
    by_cases e : x = 15
    · subst e
      rw [if_pos (show (((15 : UInt8).toNat : Nat) : Int) = 15 from rfl), if_pos (by omega), Int.toNat_natCast, ba_extract, List.drop_zero, List.take_left]
      exact ih m k hm (by omega) (by omega)
    · rw [if_neg (fun q => e (u8_ext (by have : (15 : UInt8).toNat = 15 := rfl
                                         omega))), if_neg (by simp)]; rfl
theorem refNext_yes (n : Nat) : ∀ (l : Bs) (k : Nat), l.length = n → n ≤ 140737488351232 → right l = true → n < k → loessref03_Next.l0 k (ba l) true = some (nextR (next l)) := by
  induction n with
  | zero =>
    intro l k hl _ hr hk
    obtain ⟨k, rfl⟩ : ∃ m, k = m + 1 := ⟨k - 1, by omega⟩
    obtain rfl : l = [] := List.length_eq_zero_iff.1 hl
    simp only [loessref03_Next.l0]
    rw [if_neg (by rw [ba_size]; simp), if_pos trivial, if_pos (by rw [ba_size]; rfl)]; rfl
  | succ n ih =>
    intro l k hl hn hr hk
    obtain ⟨k, rfl⟩ : ∃ m, k = m + 1 := ⟨k - 1, by omega⟩
    obtain ⟨m, x, rfl⟩ : ∃ m x, l = m ++ [x] := ⟨l.dropLast, l.getLast (by intro e; simp [e] at hl), (List.dropLast_concat_getLast _).symm⟩
    have hm : m.length = n := by simp at hl; omega
    have hx := right_at hr m.length (by simp)
    simp only [List.getElem_concat_length] at hx
    have hrm : right m = true := by
      unfold right at *
      rw [List.all_append, Bool.and_eq_true] at hr
      exact hr.1
    have e1 : wrap64 (((m ++ [x]).length : Int) - 1) = ((m.length : Nat) : Int) := by rw [w64 (by omega) (by omega)]; simp
    simp only [loessref03_Next.l0]
    rw [ba_size, e1, if_pos (by omega), if_pos (by omega), if_pos (by omega), ba_bt _ m.length (by simp)]
    simp only [List.getElem_concat_length]
    rw [Int.toNat_natCast, ba_extract, List.drop_zero, List.take_left]
    by_cases e : x = 15
    · subst e
      rw [if_pos (show (((15 : UInt8).toNat : Nat) : Int) = 15 from rfl), if_pos (by omega), next_snoc15]
      exact ih m k hm (by omega) hrm (by omega)
    · rw [if_neg (fun q => e (u8_ext (by have : (15 : UInt8).toNat = 15 := rfl
                                         omega))), if_pos trivial, if_neg (by omega), if_pos (by omega), next_snoc m x e, show ((x.toNat : Int) + 1) % 256 = ((x.toNat + 1 : Nat) : Int) from by omega, Option.bind_some, strOf_one _ (by omega)]
      have e2 := ba_size m
      have e3 := ba_size [UInt8.ofNat (x.toNat + 1)]
      rw [List.length_singleton] at e3
      rw [if_pos (by omega), ba_app]; rfl
theorem ev_refNext (l : Bs) (h : l.length ≤ 140737488351232) : Ev (fun k => loessref03_Next.f k (ba l)) (nextR (if right l = true then next l else none)) := by
  unfold loessref03_Next.f
  refine Ev.bind (ev_refRight l h) ?_
  by_cases hr : right l = true
  · rw [if_pos hr, hr]
    exact ⟨l.length + 1, fun n hn => refNext_yes l.length l n rfl h hr (by omega)⟩
  · rw [if_neg hr, Bool.eq_false_iff.2 hr]
    exact ⟨l.length + 1, fun n hn => refNext_no l.length l n rfl h (by omega)⟩
end Go.Proofs.YtlajpfdmbagedaaDoor.NE
