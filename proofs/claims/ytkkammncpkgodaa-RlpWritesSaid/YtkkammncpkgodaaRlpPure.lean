/- Plain laws of RLP over lists of bytes: numbers, headers, bytes, lists, the first thing. No program in sight. -/
namespace Go.Proofs.YtkkammncpkgodaaW.Rlp

set_option linter.unusedVariables false
set_option linter.unusedSimpArgs false
abbrev Bs := List UInt8

/-! ### numbers -/
def val (l : Bs) : Nat := l.foldl (fun n b => n * 256 + b.toNat) 0
def num (n : Nat) : Bs := if h : n = 0 then [] else num (n / 256) ++ [UInt8.ofNat (n % 256)]
termination_by n
decreasing_by omega
def lead (l : Bs) : Bool := match l with | [] => true | b :: _ => b != 0

theorem val_nil : val [] = 0 := rfl
theorem val_snoc (l : Bs) (b : UInt8) : val (l ++ [b]) = val l * 256 + b.toNat := by simp [val]
theorem num_zero : num 0 = [] := by rw [num]; simp
theorem num_pos (n : Nat) (h : n ≠ 0) : num n = num (n / 256) ++ [UInt8.ofNat (n % 256)] := by rw [num]; simp [h]
theorem ofNat_toNat (n : Nat) (h : n < 256) : (UInt8.ofNat n).toNat = n := by simp [UInt8.toNat_ofNat']; omega
theorem byte_eta (b : UInt8) : UInt8.ofNat b.toNat = b := UInt8.ofNat_toNat
theorem byte_lt (b : UInt8) : b.toNat < 256 := UInt8.toNat_lt b
theorem snoc_ind {P : Bs → Prop} (h0 : P []) (h1 : ∀ l b, P l → P (l ++ [b])) (l : Bs) : P l := by
  have : ∀ n, ∀ l : Bs, l.length = n → P l := by
    intro n
    induction n with
    | zero => intro l hl; rw [List.length_eq_zero_iff.1 hl]; exact h0
    | succ n ih =>
      intro l hl
      have hne : l ≠ [] := by intro e; rw [e] at hl; simp at hl
      rw [← List.dropLast_concat_getLast hne]
      exact h1 _ _ (ih _ (by simp [hl]))
  exact this _ l rfl
theorem val_num (n : Nat) : val (num n) = n := by
  induction n using Nat.strongRecOn with
  | _ n ih =>
    by_cases h : n = 0
    · rw [h, num_zero]; rfl
    · rw [num_pos n h, val_snoc, ih _ (by omega), ofNat_toNat _ (by omega)]; omega
theorem num_ne_nil (n : Nat) (h : n ≠ 0) : num n ≠ [] := by rw [num_pos n h]; simp
theorem lead_snoc (l : Bs) (b : UInt8) (h : l ≠ []) : lead (l ++ [b]) = lead l := by cases l with | nil => exact absurd rfl h | cons a t => rfl
theorem lead_num (n : Nat) : lead (num n) = true := by
  induction n using Nat.strongRecOn with
  | _ n ih =>
    by_cases h : n = 0
    · rw [h, num_zero]; rfl
    · rw [num_pos n h]
      by_cases h2 : n / 256 = 0
      · rw [h2, num_zero]
        show (UInt8.ofNat (n % 256) != 0) = true
        rw [bne_iff_ne]
        intro e
        have := congrArg UInt8.toNat e
        rw [ofNat_toNat _ (by omega)] at this
        have h3 : (0 : UInt8).toNat = 0 := rfl
        omega
      · rw [lead_snoc _ _ (num_ne_nil _ h2)]; exact ih _ (by omega)
theorem val_pos (l : Bs) : l ≠ [] → lead l = true → 0 < val l := by
  induction l using snoc_ind with
  | h0 => intro h; exact absurd rfl h
  | h1 l b ih =>
    intro _ hl
    rw [val_snoc]
    by_cases h : l = []
    · subst h
      have : b ≠ 0 := by simpa [lead] using hl
      have : b.toNat ≠ 0 := fun e => this (by rw [← byte_eta b, e]; rfl)
      omega
    · rw [lead_snoc _ _ h] at hl
      have := ih h hl
      omega
theorem num_val (l : Bs) (h : lead l = true) : num (val l) = l := by
  induction l using snoc_ind with
  | h0 => exact num_zero
  | h1 l b ih =>
    have hb := byte_lt b
    have hne : val (l ++ [b]) ≠ 0 := by have := val_pos (l ++ [b]) (by simp) h; omega
    rw [num_pos _ hne, val_snoc, show (val l * 256 + b.toNat) / 256 = val l from by omega, show (val l * 256 + b.toNat) % 256 = b.toNat from by omega, byte_eta]
    congr 1
    by_cases h2 : l = []
    · subst h2; exact num_zero
    · rw [lead_snoc _ _ h2] at h; exact ih h
theorem val_lt (l : Bs) : val l < 256 ^ l.length := by
  induction l using snoc_ind with
  | h0 => simp [val_nil]
  | h1 l b ih =>
    have hb := byte_lt b
    rw [val_snoc, List.length_append, List.length_singleton, Nat.pow_succ]
    omega
theorem num_length (n k : Nat) (h : n < 256 ^ k) : (num n).length ≤ k := by
  induction k generalizing n with
  | zero =>
    have : n = 0 := by simpa using h
    rw [this, num_zero]; simp
  | succ k ih =>
    by_cases h0 : n = 0
    · rw [h0, num_zero]; simp
    · rw [num_pos n h0, List.length_append, List.length_singleton]
      have := ih (n / 256) (by rw [Nat.pow_succ] at h; omega)
      omega
theorem num_mono (n m : Nat) (h : n ≤ m) : (num n).length ≤ (num m).length := by
  induction m using Nat.strongRecOn generalizing n with
  | _ m ih =>
    by_cases h0 : n = 0
    · rw [h0, num_zero]; simp
    · rw [num_pos n h0, num_pos m (by omega), List.length_append, List.length_append]
      have := ih (m / 256) (by omega) (n / 256) (by omega)
      simp only [List.length_singleton]
      omega
theorem num_inj {a b : Nat} (h : num a = num b) : a = b := by rw [← val_num a, h, val_num]
theorem num_one_le (n : Nat) (h : 0 < n) : 1 ≤ (num n).length := by
  have := num_ne_nil n (by omega)
  cases e : num n with
  | nil => exact absurd e this
  | cons a t => simp

/-! ### headers -/
def head (base n : Nat) : Bs := if n ≤ 55 then [UInt8.ofNat (base + n)] else UInt8.ofNat (base + 55 + (num n).length) :: num n
def small (s : Bs) : Bool := match s with | [b] => decide (b.toNat < 128) | _ => false
def byt (s : Bs) : Bs := if small s = true then s else head 128 s.length ++ s
def lst (p : Bs) : Bs := head 192 p.length ++ p
def fin (l : Bool) (n : Nat) (rest : Bs) : Option (Bs × Bool × Bs) :=
  if rest.length < n then none else if l = false ∧ n = 1 ∧ small (rest.take 1) = true then none else some (rest.take n, l, rest.drop n)
def split (s : Bs) : Option (Bs × Bool × Bs) :=
  match s with
  | [] => none
  | b :: rest =>
    if b.toNat < 128 then some ([b], false, rest) else
    if (b.toNat - 128) % 64 ≤ 55 then fin (decide (192 ≤ b.toNat)) ((b.toNat - 128) % 64) rest else
    if rest.length < (b.toNat - 128) % 64 - 55 then none else
    if lead (rest.take ((b.toNat - 128) % 64 - 55)) = false then none else
    if val (rest.take ((b.toNat - 128) % 64 - 55)) ≤ 55 then none else
    if rest.length < val (rest.take ((b.toNat - 128) % 64 - 55)) then none else
    fin (decide (192 ≤ b.toNat)) (val (rest.take ((b.toNat - 128) % 64 - 55))) (rest.drop ((b.toNat - 128) % 64 - 55))
def wrap (l : Bool) (p : Bs) : Bs := if l then lst p else byt p

theorem num_len8 (n : Nat) (h : n < 2 ^ 64) : (num n).length ≤ 8 := num_length n 8 (by rw [show (256 : Nat) ^ 8 = 2 ^ 64 from by decide]; exact h)
theorem fin_ok (l : Bool) (p r : Bs) (h : l = false → small p = false) : fin l p.length (p ++ r) = some (p, l, r) := by
  unfold fin
  rw [if_neg (by simp), if_neg ?_]
  · simp
  · rintro ⟨h1, h2, h3⟩
    have := h h1
    cases p with
    | nil => simp at h2
    | cons b t =>
      cases t with
      | nil => simp [small] at h3 this; omega
      | cons c t => simp at h2
theorem split_head (base : Nat) (hb : base = 128 ∨ base = 192) (p r : Bs) (hp : p.length < 2 ^ 64) (hs : base = 128 → small p = false) : split (head base p.length ++ (p ++ r)) = some (p, decide (base = 192), r) := by
  unfold head
  by_cases h : p.length ≤ 55
  · rw [if_pos h, List.singleton_append]
    have e : (UInt8.ofNat (base + p.length)).toNat = base + p.length := ofNat_toNat _ (by rcases hb with rfl | rfl <;> omega)
    simp only [split, e]
    rw [if_neg (by omega), if_pos (by rcases hb with rfl | rfl <;> omega), show (base + p.length - 128) % 64 = p.length from by rcases hb with rfl | rfl <;> omega,
      show decide (192 ≤ base + p.length) = decide (base = 192) from by rcases hb with rfl | rfl <;> (rw [decide_eq_decide]; omega)]
    exact fin_ok _ _ _ (fun h1 => hs (hb.resolve_right (of_decide_eq_false h1)))
  · rw [if_neg h, List.cons_append]
    have h8 := num_len8 p.length hp
    have h1 := num_one_le p.length (by omega)
    have e : (UInt8.ofNat (base + 55 + (num p.length).length)).toNat = base + 55 + (num p.length).length := ofNat_toNat _ (by rcases hb with rfl | rfl <;> omega)
    simp only [split, e]
    have hk : (base + 55 + (num p.length).length - 128) % 64 = 55 + (num p.length).length := by rcases hb with rfl | rfl <;> omega
    rw [if_neg (by omega), if_neg (by omega), hk, Nat.add_sub_cancel_left]
    have ht : (num p.length ++ (p ++ r)).take (num p.length).length = num p.length := by simp
    have hd : (num p.length ++ (p ++ r)).drop (num p.length).length = p ++ r := by simp
    rw [ht, hd, if_neg (by simp), if_neg (by rw [lead_num]; simp), val_num, if_neg (by omega), if_neg (by simp; omega),
      show decide (192 ≤ base + 55 + (num p.length).length) = decide (base = 192) from by rcases hb with rfl | rfl <;> (rw [decide_eq_decide]; omega)]
    exact fin_ok _ _ _ (fun h1 => hs (hb.resolve_right (of_decide_eq_false h1)))
theorem split_list (p r : Bs) (hp : p.length < 2 ^ 64) : split (lst p ++ r) = some (p, true, r) := by
  unfold lst; rw [List.append_assoc]
  exact split_head 192 (.inr rfl) p r hp (fun h => by omega)
theorem split_bytes (p r : Bs) (hp : p.length < 2 ^ 64) : split (byt p ++ r) = some (p, false, r) := by
  unfold byt
  by_cases h : small p = true
  · rw [if_pos h]
    cases p with
    | nil => simp [small] at h
    | cons b t =>
      cases t with
      | nil => simp only [small, decide_eq_true_eq] at h; simp [split, h]
      | cons c t => simp [small] at h
  · rw [if_neg h, List.append_assoc]
    exact split_head 128 (.inl rfl) p r hp (fun _ => by simpa using h)
theorem split_wrap (l : Bool) (p r : Bs) (hp : p.length < 2 ^ 64) : split (wrap l p ++ r) = some (p, l, r) := by
  cases l
  · exact split_bytes p r hp
  · exact split_list p r hp
theorem fin_inv {l : Bool} {n : Nat} {rest p r : Bs} {l' : Bool} (h : fin l n rest = some (p, l', r)) : l' = l ∧ rest = p ++ r ∧ p.length = n ∧ (l = false → small p = false) := by
  unfold fin at h
  by_cases h1 : rest.length < n
  · rw [if_pos h1] at h; cases h
  · rw [if_neg h1] at h
    by_cases h2 : l = false ∧ n = 1 ∧ small (rest.take 1) = true
    · rw [if_pos h2] at h; cases h
    · rw [if_neg h2] at h
      simp only [Option.some.injEq, Prod.mk.injEq] at h
      obtain ⟨rfl, rfl, rfl⟩ := h
      refine ⟨rfl, (List.take_append_drop n rest).symm, by simp; omega, fun hl => ?_⟩
      by_cases hn : n = 1
      · subst hn
        cases e : small (rest.take 1) with
        | false => rfl
        | true => exact absurd ⟨hl, rfl, e⟩ h2
      · have hlen : (rest.take n).length = n := by simp; omega
        cases e : rest.take n with
        | nil => rfl
        | cons b t =>
          cases t with
          | nil => rw [e] at hlen; simp at hlen; omega
          | cons c t => rfl
theorem split_inv {s p r : Bs} {l : Bool} (h : split s = some (p, l, r)) : s = wrap l p ++ r := by
  cases s with
  | nil => cases h
  | cons b rest =>
    have hb := byte_lt b
    simp only [split] at h
    by_cases h1 : b.toNat < 128
    · rw [if_pos h1] at h
      simp only [Option.some.injEq, Prod.mk.injEq] at h
      obtain ⟨rfl, rfl, rfl⟩ := h
      simp [wrap, byt, small, h1]
    · rw [if_neg h1] at h
      by_cases h2 : (b.toNat - 128) % 64 ≤ 55
      · rw [if_pos h2] at h
        obtain ⟨rfl, rfl, hn, hs⟩ := fin_inv h
        by_cases h3 : 192 ≤ b.toNat
        · rw [decide_eq_true h3]
          simp only [wrap, if_true, lst, head]
          rw [hn, if_pos h2, show 192 + (b.toNat - 128) % 64 = b.toNat from by omega, byte_eta]; simp
        · rw [decide_eq_false h3] at hs ⊢
          simp only [wrap, byt, head]
          rw [hs rfl, hn, if_pos h2, show 128 + (b.toNat - 128) % 64 = b.toNat from by omega, byte_eta]; simp
      · rw [if_neg h2] at h
        generalize hk : (b.toNat - 128) % 64 - 55 = k at h
        by_cases h3 : rest.length < k
        · rw [if_pos h3] at h; cases h
        rw [if_neg h3] at h
        by_cases h4 : lead (rest.take k) = false
        · rw [if_pos h4] at h; cases h
        rw [if_neg h4] at h
        by_cases h5 : val (rest.take k) ≤ 55
        · rw [if_pos h5] at h; cases h
        rw [if_neg h5] at h
        by_cases h6 : rest.length < val (rest.take k)
        · rw [if_pos h6] at h; cases h
        rw [if_neg h6] at h
        obtain ⟨rfl, hd, hn, hs⟩ := fin_inv h
        have hnum : num p.length = rest.take k := by rw [hn]; exact num_val _ (by simpa using h4)
        have hlen : (num p.length).length = k := by rw [hnum]; simp; omega
        have hrest : rest = num p.length ++ (p ++ r) := by rw [hnum, ← hd]; exact (List.take_append_drop k rest).symm
        by_cases h7 : 192 ≤ b.toNat
        · rw [decide_eq_true h7]
          simp only [wrap, if_true, lst, head]
          rw [if_neg (by omega), hlen, show 192 + 55 + k = b.toNat from by omega, byte_eta]
          rw [hrest]; simp
        · rw [decide_eq_false h7] at hs ⊢
          simp only [wrap, byt, head]
          rw [hs rfl, if_neg (show ¬ p.length ≤ 55 by omega), hlen, show 128 + 55 + k = b.toNat from by omega, byte_eta]
          rw [hrest]; simp
theorem head_len (base n : Nat) : 1 ≤ (head base n).length := by unfold head; split <;> simp
theorem small_len {p : Bs} (h : small p = true) : p.length = 1 := by
  cases p with
  | nil => simp [small] at h
  | cons b t => cases t with
    | nil => rfl
    | cons c t => simp [small] at h
theorem wrap_len (l : Bool) (p : Bs) : p.length ≤ (wrap l p).length ∧ 1 ≤ (wrap l p).length ∧ (l = true → p.length < (wrap l p).length) := by
  cases l
  · rw [show wrap false p = byt p from rfl]
    unfold byt
    by_cases h : small p = true
    · have := small_len h
      rw [if_pos h]; exact ⟨by omega, by omega, fun h => by cases h⟩
    · have := head_len 128 p.length
      rw [if_neg h, List.length_append]; exact ⟨by omega, by omega, fun h => by cases h⟩
  · have := head_len 192 p.length
    rw [show wrap true p = head 192 p.length ++ p from rfl, List.length_append]
    exact ⟨by omega, by omega, fun _ => by omega⟩
theorem split_len {s p r : Bs} {l : Bool} (h : split s = some (p, l, r)) : p.length + r.length ≤ s.length ∧ r.length < s.length ∧ (l = true → p.length + r.length < s.length) := by
  have := split_inv h
  subst this
  obtain ⟨h2, h3, h4⟩ := wrap_len l p
  simp only [List.length_append]
  refine ⟨by omega, by omega, fun hl => by have := h4 hl; omega⟩
theorem wrap_ne_nil (l : Bool) (p : Bs) : wrap l p ≠ [] := by
  intro e
  have := (wrap_len l p).2.1
  rw [e] at this
  simp at this
theorem bytes_len (s : Bs) (h : s.length < 2 ^ 64) : (byt s).length ≤ s.length + 9 := by
  unfold byt
  split
  · omega
  · have := num_len8 s.length h
    unfold head; split <;> simp <;> omega
theorem list_len (s : Bs) (h : s.length < 2 ^ 64) : (lst s).length ≤ s.length + 9 := by
  have := num_len8 s.length h
  unfold lst head; split <;> simp <;> omega
end Go.Proofs.YtkkammncpkgodaaW.Rlp
