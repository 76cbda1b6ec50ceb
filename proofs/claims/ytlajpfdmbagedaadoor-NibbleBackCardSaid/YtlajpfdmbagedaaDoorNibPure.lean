/- Rows of nibbles, as lists of bytes: no program in sight. -/
import GoSem.Op.String
namespace Go.Proofs.YtlajpfdmbagedaaDoorW.Nib
set_option linter.unusedVariables false
set_option linter.unusedSimpArgs false
abbrev Bs := List UInt8
def hi (b : UInt8) : UInt8 := UInt8.ofNat (b.toNat / 16)
def lo (b : UInt8) : UInt8 := UInt8.ofNat (b.toNat % 16)
def nib : Bs → Bs
  | [] => []
  | b :: t => hi b :: lo b :: nib t
def right (l : Bs) : Bool := l.all fun b => decide (b.toNat ≤ 15)
def two (a b : UInt8) : UInt8 := UInt8.ofNat (a.toNat * 16 + b.toNat)
def join : Bs → Bs
  | a :: b :: t => two a b :: join t
  | _ => []
def bytes (l : Bs) : Option Bs := if right l = true ∧ l.length % 2 = 0 then some (join l) else none
def pre : Bs → Bs → Nat
  | a :: s, b :: t => if a = b then pre s t + 1 else 0
  | _, _ => 0
abbrev less := Op.bytesLess
/-- The bytes of a row, as a node has it. -/
def pack (l : Bs) (leaf : Bool) : Option Bs :=
  if right l = true then
    if l.length % 2 = 1 then some (UInt8.ofNat ((if leaf then 48 else 16) + (l.headD 0).toNat) :: join l.tail) else some (UInt8.ofNat (if leaf then 32 else 0) :: join l)
  else none
def unpack (s : Bs) : Option (Bs × Bool) :=
  match s with
  | [] => none
  | b :: t =>
    if b.toNat ≥ 64 then none
    else if b.toNat / 16 % 2 = 1 then some (lo b :: nib t, decide (b.toNat / 32 = 1))
    else if b.toNat % 16 = 0 then some (nib t, decide (b.toNat / 32 = 1)) else none
/-- The least row behind all that begin with one. -/
def next : Bs → Option Bs
  | [] => none
  | x :: t => match next t with
    | some n => some (x :: n)
    | none => if x = 15 then none else some [UInt8.ofNat (x.toNat + 1)]
def trim (l : Bs) : Bs := (l.reverse.dropWhile (· == 15)).reverse

theorem blt (b : UInt8) : b.toNat < 256 := UInt8.toNat_lt b
theorem hi_nat (b : UInt8) : (hi b).toNat = b.toNat / 16 := by have := blt b; simp [hi, UInt8.toNat_ofNat']; omega
theorem lo_nat (b : UInt8) : (lo b).toNat = b.toNat % 16 := by have := blt b; simp [lo, UInt8.toNat_ofNat']; omega
theorem u8_ext {a b : UInt8} (h : a.toNat = b.toNat) : a = b := UInt8.toNat_inj.1 h
set_option linter.unusedSimpArgs false in
theorem two_nat {a b : UInt8} (ha : a.toNat ≤ 15) (hb : b.toNat ≤ 15) : (two a b).toNat = a.toNat * 16 + b.toNat := by simp [two, UInt8.toNat_ofNat']; omega
theorem two_hi_lo (b : UInt8) : two (hi b) (lo b) = b := u8_ext (by have := blt b; rw [two_nat (by rw [hi_nat]; omega) (by rw [lo_nat]; omega), hi_nat, lo_nat]; omega)
theorem hi_two {a b : UInt8} (ha : a.toNat ≤ 15) (hb : b.toNat ≤ 15) : hi (two a b) = a := u8_ext (by rw [hi_nat, two_nat ha hb]; omega)
theorem lo_two {a b : UInt8} (ha : a.toNat ≤ 15) (hb : b.toNat ≤ 15) : lo (two a b) = b := u8_ext (by rw [lo_nat, two_nat ha hb]; omega)
theorem right_cons (a : UInt8) (l : Bs) : right (a :: l) = true ↔ a.toNat ≤ 15 ∧ right l = true := by simp [right]
theorem nib_right (s : Bs) : right (nib s) = true := by
  induction s with
  | nil => rfl
  | cons b t ih =>
    have := blt b
    rw [nib, right_cons, right_cons, hi_nat, lo_nat]
    exact ⟨by omega, by omega, ih⟩
theorem nib_len (s : Bs) : (nib s).length = 2 * s.length := by
  induction s with
  | nil => rfl
  | cons b t ih => rw [nib]; simp only [List.length_cons, ih]; omega
theorem nib_app (s t : Bs) : nib (s ++ t) = nib s ++ nib t := by
  induction s with
  | nil => rfl
  | cons b s ih => simp only [List.cons_append, nib, ih]
theorem join_nib (s : Bs) : join (nib s) = s := by
  induction s with
  | nil => rfl
  | cons b t ih => rw [nib, join, ih, two_hi_lo]
theorem nib_join : ∀ (n : Nat) (l : Bs), l.length ≤ n → right l = true → l.length % 2 = 0 → nib (join l) = l := by
  intro n
  induction n with
  | zero => intro l h _ _; obtain rfl : l = [] := List.length_eq_zero_iff.1 (by omega); rfl
  | succ n ih =>
    intro l h hr he
    match l with
    | [] => rfl
    | [a] => simp at he
    | a :: b :: t =>
      rw [right_cons, right_cons] at hr
      simp only [List.length_cons] at h he
      rw [join, nib, hi_two hr.1 hr.2.1, lo_two hr.1 hr.2.1, ih t (by omega) hr.2.2 (by omega)]
theorem join_len : ∀ (n : Nat) (l : Bs), l.length ≤ n → (join l).length = l.length / 2 := by
  intro n
  induction n with
  | zero => intro l h; obtain rfl : l = [] := List.length_eq_zero_iff.1 (by omega); rfl
  | succ n ih =>
    intro l h
    match l with
    | [] => rfl
    | [a] => simp [join]
    | a :: b :: t =>
      simp only [List.length_cons] at h
      rw [join]
      simp only [List.length_cons, ih t (by omega)]; omega
theorem nib_inj {s t : Bs} (h : nib s = nib t) : s = t := by rw [← join_nib s, h, join_nib]
theorem pre_self (s : Bs) : pre s s = s.length := by
  induction s with
  | nil => rfl
  | cons a s ih => simp [pre, ih]
theorem pre_comm (s t : Bs) : pre s t = pre t s := by
  induction s generalizing t with
  | nil => cases t <;> rfl
  | cons a s ih =>
    cases t with
    | nil => rfl
    | cons b t =>
      simp only [pre]
      by_cases h : a = b
      · subst h; rw [if_pos rfl, if_pos rfl, ih]
      · rw [if_neg h, if_neg (fun e => h e.symm)]
theorem pre_le (s t : Bs) : pre s t ≤ s.length ∧ pre s t ≤ t.length := by
  induction s generalizing t with
  | nil => simp [pre]
  | cons a s ih =>
    cases t with
    | nil => simp [pre]
    | cons b t =>
      simp only [pre, List.length_cons]
      have := ih t
      split <;> omega
theorem pre_take (s t : Bs) : s.take (pre s t) = t.take (pre s t) := by
  induction s generalizing t with
  | nil => simp [pre]
  | cons a s ih =>
    cases t with
    | nil => simp [pre]
    | cons b t =>
      simp only [pre]
      by_cases h : a = b
      · subst h; rw [if_pos rfl, List.take_succ_cons, List.take_succ_cons, ih]
      · rw [if_neg h]; simp
theorem pre_next (s t : Bs) (h1 : pre s t < s.length) (h2 : pre s t < t.length) : s[pre s t]'h1 ≠ t[pre s t]'h2 := by
  induction s generalizing t with
  | nil => simp at h1
  | cons a s ih =>
    cases t with
    | nil => simp at h2
    | cons b t =>
      by_cases h : a = b
      · subst h
        have e : pre (a :: s) (a :: t) = pre s t + 1 := by simp [pre]
        simp only [e, List.getElem_cons_succ]
        exact ih t (by rw [e] at h1; simpa using h1) (by rw [e] at h2; simpa using h2)
      · have e : pre (a :: s) (b :: t) = 0 := by simp [pre, h]
        simp only [e, List.getElem_cons_zero]
        exact h
/-- Of three the least two shares are the same. -/
theorem pre_three (a b c : Bs) : (pre a b ≤ pre b c → pre a b ≤ pre a c) ∧ (pre a b < pre b c → pre a c = pre a b) := by
  induction a generalizing b c with
  | nil => simp [pre]
  | cons x a ih =>
    cases b with
    | nil => simp [pre]
    | cons y b =>
      cases c with
      | nil => simp [pre]
      | cons z c =>
        simp only [pre]
        have := ih b c
        by_cases h1 : x = y
        · subst h1
          by_cases h2 : x = z
          · subst h2; simp only [if_true]; omega
          · simp [h2]
        · by_cases h2 : y = z
          · subst h2; simp [h1]
          · simp only [if_neg h1, if_neg h2]; by_cases h3 : x = z <;> simp [h3]
theorem less_irr (a : Bs) : less a a = false := by
  induction a with
  | nil => rfl
  | cons x a ih => simp [less, Op.bytesLess] at *; exact ih
theorem less_asymm (a b : Bs) (h : less a b = true) : less b a = false := by
  induction a generalizing b with
  | nil => cases b <;> rfl
  | cons x a ih =>
    cases b with
    | nil => simp [less, Op.bytesLess] at h
    | cons y b =>
      simp only [less, Op.bytesLess, Bool.or_eq_true, decide_eq_true_eq, Bool.and_eq_true, beq_iff_eq, Bool.or_eq_false_iff, decide_eq_false_iff_not, Bool.and_eq_false_iff, UInt8.lt_iff_toNat_lt] at h ⊢
      rcases h with h | ⟨h, h2⟩
      · exact ⟨by omega, .inl (by rw [beq_eq_false_iff_ne]; intro e; subst e; omega)⟩
      · subst h; exact ⟨by omega, .inr (ih b h2)⟩
/-- The document's order: the first nibble that is not the same tells. -/
theorem less_pre (a b : Bs) : less a b = (if pre a b = b.length then false else if h : pre a b = a.length then true else decide ((a.getD (pre a b) 0).toNat < (b.getD (pre a b) 0).toNat)) := by
  induction a generalizing b with
  | nil => cases b <;> simp [less, Op.bytesLess, pre]
  | cons x a ih =>
    cases b with
    | nil => simp [less, Op.bytesLess, pre]
    | cons y b =>
      simp only [less, Op.bytesLess, pre]
      by_cases h : x = y
      · subst h
        have := ih b
        simp only [less] at this
        simp only [this, if_true, List.length_cons, Nat.add_right_cancel_iff, List.getD_cons_succ, beq_self_eq_true, Bool.true_and]
        simp
      · simp [h, UInt8.lt_iff_toNat_lt]
theorem less_nib (s t : Bs) : less (nib s) (nib t) = less s t := by
  induction s generalizing t with
  | nil => cases t <;> rfl
  | cons x s ih =>
    cases t with
    | nil => rfl
    | cons y t =>
      have hx := blt x; have hy := blt y
      have := ih t
      simp only [less] at this
      simp only [nib, less, Op.bytesLess, this]
      have e1 : decide (hi x < hi y) = decide (x.toNat / 16 < y.toNat / 16) := by simp only [UInt8.lt_iff_toNat_lt, hi_nat]
      have e2 : decide (lo x < lo y) = decide (x.toNat % 16 < y.toNat % 16) := by simp only [UInt8.lt_iff_toNat_lt, lo_nat]
      have e3 : (hi x == hi y) = decide (x.toNat / 16 = y.toNat / 16) := by
        rw [Bool.eq_iff_iff, beq_iff_eq, decide_eq_true_eq, ← UInt8.toNat_inj, hi_nat, hi_nat]
      have e4 : (lo x == lo y) = decide (x.toNat % 16 = y.toNat % 16) := by
        rw [Bool.eq_iff_iff, beq_iff_eq, decide_eq_true_eq, ← UInt8.toNat_inj, lo_nat, lo_nat]
      have e5 : decide (x < y) = decide (x.toNat < y.toNat) := by simp only [UInt8.lt_iff_toNat_lt]
      have e6 : (x == y) = decide (x.toNat = y.toNat) := by rw [Bool.eq_iff_iff, beq_iff_eq, decide_eq_true_eq, ← UInt8.toNat_inj]
      rw [e1, e2, e3, e4, e5, e6]
      generalize Op.bytesLess s t = q
      rw [Bool.eq_iff_iff]
      simp only [Bool.or_eq_true, Bool.and_eq_true, decide_eq_true_eq]
      cases q <;> simp only [Bool.false_eq_true, and_false, or_false, and_true] <;> omega
theorem less_app (a m : Bs) : less (a ++ m) a = false := by
  induction a with
  | nil => cases m <;> rfl
  | cons x a ih => simp [less, Op.bytesLess] at *; exact ih
theorem next_snoc15 (l : Bs) : next (l ++ [15]) = next l := by
  induction l with
  | nil => rfl
  | cons x l ih => simp only [List.cons_append, next, ih]
theorem next_snoc (l : Bs) (x : UInt8) (h : x ≠ 15) : next (l ++ [x]) = some (l ++ [UInt8.ofNat (x.toNat + 1)]) := by
  induction l with
  | nil => simp [next, h]
  | cons y l ih => simp only [List.cons_append, next, ih]
theorem trim_snoc15 (l : Bs) : trim (l ++ [15]) = trim l := by simp [trim]
theorem trim_snoc (l : Bs) (x : UInt8) (h : x ≠ 15) : trim (l ++ [x]) = l ++ [x] := by simp [trim, h]
theorem snoc_ind {P : Bs → Prop} (h0 : P []) (h1 : ∀ l b, P l → P (l ++ [b])) (l : Bs) : P l := by
  have : ∀ n (l : Bs), l.length = n → P l := by
    intro n
    induction n with
    | zero => intro l h; obtain rfl := List.length_eq_zero_iff.1 h; exact h0
    | succ n ih =>
      intro l h
      have hne : l ≠ [] := fun e => by simp [e] at h
      rw [← List.dropLast_concat_getLast hne]
      exact h1 _ _ (ih _ (by simp [h]))
  exact this _ l rfl
/-- Cut by its 15s at the end: nothing is left, or the last one is one more. -/
theorem next_trim (l : Bs) : (trim l = [] ∧ next l = none) ∨ ∃ m x, trim l = m ++ [x] ∧ x ≠ 15 ∧ next l = some (m ++ [UInt8.ofNat (x.toNat + 1)]) := by
  induction l using snoc_ind with
  | h0 => exact .inl ⟨rfl, rfl⟩
  | h1 l b ih =>
    by_cases h : b = 15
    · subst h; rw [trim_snoc15, next_snoc15]; exact ih
    · exact .inr ⟨l, b, trim_snoc l b h, h, next_snoc l b h⟩
/-- A row begins with another one just if it stands not ahead of it, and ahead of the next one. -/
theorem begins_iff (a b : Bs) (ha : right a = true) (hb : right b = true) :
    (pre a b = a.length ↔ less b a = false ∧ (∀ n, next a = some n → less b n = true)) := by
  induction a generalizing b with
  | nil => cases b <;> simp [pre, less, Op.bytesLess, next]
  | cons x t ih =>
    cases b with
    | nil => simp [pre, less, Op.bytesLess]
    | cons y u =>
      rw [right_cons] at ha hb
      have := ih u ha.2 hb.2
      simp only [less] at this
      by_cases h : x = y
      · subst h
        simp only [pre, if_true, List.length_cons, Nat.add_right_cancel_iff, this, less, Op.bytesLess, next]
        cases hn : next t with
        | some n =>
          simp [Op.bytesLess, hn]
        | none =>
          simp only [hn]
          by_cases h15 : x = 15
          · simp [h15]
          · have hx : x.toNat ≠ 15 := fun e => h15 (u8_ext e)
            simp only [h15, if_false]
            have hlt : x < UInt8.ofNat (x.toNat + 1) := by rw [UInt8.lt_iff_toNat_lt, UInt8.toNat_ofNat']; omega
            refine ⟨fun h => ⟨by simpa using h, fun n hn' => ?_⟩, fun h => by simpa using h.1⟩
            simp only [Option.some.injEq] at hn'
            subst hn'
            simp only [Op.bytesLess, decide_eq_true hlt, Bool.true_or]
      · have hne : x.toNat ≠ y.toNat := fun e => h (u8_ext e)
        simp only [pre, if_neg h, List.length_cons, less, Op.bytesLess, next]
        constructor
        · intro e; omega
        · rintro ⟨h1, h2⟩
          exfalso
          have hyx : ¬ y.toNat < x.toNat := by
            intro hlt
            simp [UInt8.lt_iff_toNat_lt, hlt] at h1
          cases hn : next t with
          | some n =>
            have := h2 _ (by rw [hn])
            simp only [Op.bytesLess, Bool.or_eq_true, decide_eq_true_eq, UInt8.lt_iff_toNat_lt, Bool.and_eq_true, beq_iff_eq] at this
            rcases this with h3 | ⟨h3, _⟩
            · omega
            · exact h h3.symm
          | none =>
            by_cases h15 : x = 15
            · subst h15
              have : (15 : UInt8).toNat = 15 := rfl
              omega
            · have hx : x.toNat ≠ 15 := fun e => h15 (u8_ext e)
              have := h2 [UInt8.ofNat (x.toNat + 1)] (by rw [hn]; simp [h15])
              have hv : (UInt8.ofNat (x.toNat + 1)).toNat = x.toNat + 1 := by rw [UInt8.toNat_ofNat']; omega
              simp only [Op.bytesLess, Bool.or_eq_true, decide_eq_true_eq, UInt8.lt_iff_toNat_lt, hv, Bool.and_eq_true, beq_iff_eq] at this
              rcases this with h3 | ⟨h3, h4⟩
              · omega
              · cases u <;> simp at h4
theorem unpack_pack (l : Bs) (leaf : Bool) (p : Bs) (h : pack l leaf = some p) : unpack p = some (l, leaf) ∧ right l = true := by
  unfold pack at h
  by_cases hr : right l = true
  · rw [if_pos hr] at h
    refine ⟨?_, hr⟩
    by_cases ho : l.length % 2 = 1
    · rw [if_pos ho] at h
      cases l with
      | nil => simp at ho
      | cons a t =>
        rw [right_cons] at hr
        simp only [List.length_cons] at ho
        have hnj := nib_join t.length t (Nat.le_refl _) hr.2 (by omega)
        have ha := hr.1
        simp only [List.headD_cons, List.tail_cons, Option.some.injEq] at h
        subst h
        have hv : (UInt8.ofNat ((if leaf = true then 48 else 16) + a.toNat)).toNat = (if leaf = true then 48 else 16) + a.toNat := by
          rw [UInt8.toNat_ofNat']; cases leaf <;> simp <;> omega
        have hlo : lo (UInt8.ofNat ((if leaf = true then 48 else 16) + a.toNat)) = a := u8_ext (by rw [lo_nat, hv]; cases leaf <;> simp <;> omega)
        simp only [unpack, hv, hlo, hnj]
        cases leaf
        · simp only [Bool.false_eq_true, if_false]
          rw [if_neg (by omega), if_pos (by omega)]
          simp; omega
        · simp only [if_true]
          rw [if_neg (by omega), if_pos (by omega)]
          simp; omega
    · rw [if_neg ho] at h
      simp only [Option.some.injEq] at h
      subst h
      have hnj := nib_join l.length l (Nat.le_refl _) hr (by omega)
      cases leaf <;> simp [unpack, hnj]
  · rw [if_neg hr] at h; cases h
theorem pack_unpack (s l : Bs) (leaf : Bool) (h : unpack s = some (l, leaf)) : pack l leaf = some s ∧ right l = true := by
  cases s with
  | nil => simp [unpack] at h
  | cons b t =>
    have hb := blt b
    simp only [unpack] at h
    by_cases h64 : b.toNat ≥ 64
    · rw [if_pos h64] at h; cases h
    · rw [if_neg h64] at h
      by_cases ho : b.toNat / 16 % 2 = 1
      · rw [if_pos ho] at h
        simp only [Option.some.injEq, Prod.mk.injEq] at h
        obtain ⟨rfl, rfl⟩ := h
        have hr : right (lo b :: nib t) = true := by rw [right_cons, lo_nat]; exact ⟨by omega, nib_right t⟩
        refine ⟨?_, hr⟩
        unfold pack
        rw [if_pos hr, if_pos (by simp only [List.length_cons, nib_len]; omega)]
        simp only [List.headD_cons, List.tail_cons, join_nib, lo_nat]
        congr 2
        refine u8_ext ?_
        rw [UInt8.toNat_ofNat']
        by_cases hl : b.toNat / 32 = 1
        · simp only [hl, decide_true, if_true]; omega
        · simp only [hl, decide_false, Bool.false_eq_true, if_false]; omega
      · rw [if_neg ho] at h
        by_cases hz : b.toNat % 16 = 0
        · rw [if_pos hz] at h
          simp only [Option.some.injEq, Prod.mk.injEq] at h
          obtain ⟨rfl, rfl⟩ := h
          refine ⟨?_, nib_right t⟩
          unfold pack
          rw [if_pos (nib_right t), if_neg (by rw [nib_len]; omega), join_nib]
          congr 2
          refine u8_ext ?_
          by_cases hl : b.toNat / 32 = 1
          · simp only [hl, decide_true, if_true]
            show 32 % 256 = _
            omega
          · simp only [hl, decide_false, Bool.false_eq_true, if_false]
            show 0 % 256 = _
            omega
        · rw [if_neg hz] at h; cases h
end Go.Proofs.YtlajpfdmbagedaaDoorW.Nib
