/- What the printed functions of rlp and of its reference come to, by the plain laws: numbers, headers, bytes, lists. -/
import Derived.Test.YtkkammncpkgodaaP1
import Derived.Test.YtkkammncpkgodaaP5
import Derived.Test.YtkkammncpkgodaaP5
import Derived.Test.YtkkammncpkgodaaP7
import Derived.Test.YtkkammncpkgodaaP6
import Derived.Test.YtkkammncpkgodaaRlpPure
namespace Go.Proofs.Ytkkammncpkgodaa.RE
open Go.RowKit Go.Proofs.Ytkkammncpkgodaa.P Go.Proofs.YtkkammncpkgodaaW.PrintWords Go.Proofs.YtkkammncpkgodaaW.PrintLast Go.Proofs.YtkkammncpkgodaaW.Rlp
set_option linter.unusedVariables false
set_option linter.unusedSimpArgs false

/-! ### bytes as lists -/
def ba (l : Bs) : ByteArray := ⟨l.toArray⟩
theorem ba_nil : (⟨#[]⟩ : ByteArray) = ba [] := rfl
theorem ba_size (l : Bs) : (ba l).size = l.length := by simp [ba, ByteArray.size]
theorem ba_data (l : Bs) : (ba l).data.toList = l := by simp [ba]
theorem ba_of (a : ByteArray) : ba a.data.toList = a := rfl
theorem ba_toList (l : Bs) : (ba l).toList = l := by rw [ByteArray.toList_eq]; simp [ba]
theorem ba_app (l m : Bs) : ba l ++ ba m = ba (l ++ m) := by
  have h : ∀ a b : ByteArray, a.data = b.data → a = b := fun a b h => by cases a; cases b; simp_all
  apply h
  rw [ByteArray.data_append]
  simp [ba]
theorem ba_ext {a b : ByteArray} (h : a.data = b.data) : a = b := by cases a; cases b; simp_all
theorem ba_extract (l : Bs) (i j : Nat) : (ba l).extract i j = ba ((l.take j).drop i) := by
  apply ba_ext
  rw [ByteArray.data_extract]
  simp [ba, List.extract_eq_take_drop, List.drop_take]
theorem ba_bt (l : Bs) (i : Nat) (h : i < l.length) : bt (ba l) (i : Int) = ((l[i]'h).toNat : Int) := by
  unfold bt
  rw [dif_pos (by rw [Int.toNat_natCast, ba_size]; exact h)]
  rfl
theorem bt_zero (b : UInt8) (l : Bs) : bt (ba (b :: l)) 0 = (b.toNat : Int) := ba_bt (b :: l) 0 (by simp)
theorem ba_eq {l m : Bs} : ba l = ba m ↔ l = m := ⟨fun h => by have := congrArg (fun a : ByteArray => a.data.toList) h; simpa [ba] using this, fun h => by rw [h]⟩
theorem exists_ba (a : ByteArray) : ∃ l : Bs, a = ba l := ⟨a.data.toList, rfl⟩
theorem strOf_nil : strOfNums [] = ba [] := rfl
def ints (l : Bs) : List Int := l.map fun b => (b.toNat : Int)
theorem strOf_ints (l : Bs) : strOfNums (ints l) = ba l := by
  simp only [strOfNums, ints, List.map_map]
  congr 1
  congr 1
  rw [show ((fun n : Int => UInt8.ofNat n.toNat) ∘ fun b : UInt8 => ((b.toNat : Nat) : Int)) = id from by funext b; simp [byte_eta]]
  simp
theorem strOf_one (n : Nat) (h : n < 256) : strOfNums [(n : Int)] = ba [UInt8.ofNat n] := by simp [strOfNums, ba]
theorem Ev.ite_pos {α : Type} {c : Prop} [Decidable c] {g f : Nat → Option α} {r : α} (h : c) (k : Ev g r) : Ev (fun n => if c then g n else f n) r := by obtain ⟨K, hK⟩ := k; exact ⟨K, fun n hn => by simp only [if_pos h]; exact hK n hn⟩
theorem Ev.ite_neg {α : Type} {c : Prop} [Decidable c] {g f : Nat → Option α} {r : α} (h : ¬ c) (k : Ev f r) : Ev (fun n => if c then g n else f n) r := by obtain ⟨K, hK⟩ := k; exact ⟨K, fun n hn => by simp only [if_neg h]; exact hK n hn⟩
theorem Ev.eq {α : Type} {g : Nat → Option α} {r r' : α} (h : Ev g r) (e : r = r') : Ev g r' := e ▸ h
theorem w64 {n : Int} (h0 : -9223372036854775808 ≤ n) (h1 : n ≤ 9223372036854775807) : wrap64 n = n := by unfold wrap64; omega
theorem wu64 {n : Int} (h0 : 0 ≤ n) (h1 : n ≤ 18446744073709551615) : IntKind.u64.wrap n = n := IntWalk.u64_in n ⟨h0, h1⟩

/-! ### numbers -/
theorem shr_bytes (n d : Nat) (hd : d < 8) : shr .u64 (n : Int) ((8 * d : Nat) : Int) = ((n / 256 ^ d : Nat) : Int) := by
  unfold shr
  rw [Int.toNat_natCast, show min (8 * d) IntKind.u64.bits = 8 * d from by have : IntKind.u64.bits = 64 := rfl; omega]
  rw [show (2 : Int) ^ (8 * d) = ((256 ^ d : Nat) : Int) from by rw [show (256 : Nat) ^ d = 2 ^ (8 * d) from by rw [Nat.pow_mul]]; exact (Int.natCast_pow 2 (8 * d)).symm]
  norm_cast
theorem num_step (n : Nat) : num n = if n = 0 then [] else num (n / 256) ++ [UInt8.ofNat (n % 256)] := by
  by_cases h : n = 0
  · rw [if_pos h, h, num_zero]
  · rw [if_neg h, num_pos n h]
theorem ints_app (l : Bs) (n : Nat) : ints l ++ [((n % 256 : Nat) : Int)] = ints (l ++ [UInt8.ofNat (n % 256)]) := by
  simp only [ints, List.map_append, List.map_cons, List.map_nil]
  rw [ofNat_toNat _ (by omega)]
theorem number_l0 (n : Nat) (hn : n < 2 ^ 64) (d : Nat) : ∀ (k : Nat), d ≤ 8 → d < k → rlp_Number.l0 k (n : Int) (ints (num (n / 256 ^ d))) ((8 - d : Nat) : Int) = some (ba (num n)) := by
  induction d with
  | zero =>
    intro k _ hk
    obtain ⟨k, rfl⟩ : ∃ m, k = m + 1 := ⟨k - 1, by omega⟩
    simp only [rlp_Number.l0]
    rw [if_neg (by omega), strOf_ints]
    simp
  | succ d ih =>
    intro k hd hk
    obtain ⟨k, rfl⟩ : ∃ m, k = m + 1 := ⟨k - 1, by omega⟩
    simp only [rlp_Number.l0]
    have e1 : wrap64 (56 - wrap64 (8 * ((8 - (d + 1) : Nat) : Int))) = ((8 * d : Nat) : Int) := by
      rw [w64 (n := 8 * ((8 - (d + 1) : Nat) : Int)) (by omega) (by omega), w64 (by omega) (by omega)]; omega
    have e2 : wrap64 (((8 - (d + 1) : Nat) : Int) + 1) = ((8 - d : Nat) : Int) := by rw [w64 (by omega) (by omega)]; omega
    rw [if_pos (by omega), e1, if_pos (by omega), shr_bytes n d (by omega), e2]
    have ih := ih k (by omega) (by omega)
    have hdiv : n / 256 ^ (d + 1) = n / 256 ^ d / 256 := by rw [Nat.pow_succ, Nat.div_div_eq_div_mul]
    rw [hdiv]
    have hs := num_step (n / 256 ^ d)
    have hml : n / 256 ^ d < 2 ^ 64 := Nat.lt_of_le_of_lt (Nat.div_le_self _ _) hn
    generalize n / 256 ^ d = m at *
    have e3 : ((m : Nat) : Int) % 256 = ((m % 256 : Nat) : Int) := by omega
    rw [e3]
    have hlen : (num (m / 256)).length = (ints (num (m / 256))).length := by simp [ints]
    have h4 : (ints (num (m / 256))).length < 140737488355328 := by have := num_len8 (m / 256) (by omega); omega
    by_cases h1 : m % 256 = 0
    · rw [if_pos (by omega)]
      by_cases h2 : m / 256 = 0
      · have h0 : m = 0 := by omega
        rw [h2, num_zero, if_neg (by simp [ints])]
        rw [h0, num_zero] at ih
        exact ih
      · have h3 := num_one_le (m / 256) (by omega)
        rw [if_pos (by rw [← hlen]; omega)]
        rw [if_pos h4, ints_app]
        rw [if_neg (by omega)] at hs
        rw [← hs]; exact ih
    · rw [if_neg (by omega)]
      rw [if_pos h4, ints_app]
      rw [if_neg (by omega)] at hs
      rw [← hs]; exact ih
theorem ev_Number (n : Nat) (h : n < 2 ^ 64) : Ev (fun k => rlp_Number.f k (n : Int)) (ba (num n)) := by
  refine Ev.of (k := 9) (rlp_Number.mono _) ?_
  unfold rlp_Number.f
  have := number_l0 n h 8 9 (by omega) (by omega)
  rw [show n / 256 ^ 8 = 0 from Nat.div_eq_of_lt (by rw [show (256 : Nat) ^ 8 = 2 ^ 64 from by decide]; exact h), num_zero] at this
  exact this
/-! ### the number of bytes -/
theorem or_byte (x y : Nat) (hx : x < 2 ^ 56) (hy : y < 256) : Go.bits .or .u64 (((x * 256 : Nat)) : Int) (y : Int) = ((x * 256 + y : Nat) : Int) := by
  have hk : ∀ n : Int, 0 ≤ n → n < 2 ^ 64 → IntKind.u64.wrap n = n := fun n h0 h1 => wu64 h0 (by omega)
  rw [Go.bits_join .u64 64 (by decide) hk 8 _ _ (by omega) (by omega) (by omega) (by omega) (by omega) (by omega)]
  omega
theorem uint_l0 (l : Bs) (h : l.length ≤ 8) (d : Nat) : ∀ (i : Nat) (k : Nat), i + d = l.length → d < k → rlp_Uint.l0 k (ba l) ((val (l.take i) : Nat) : Int) ((l.length : Nat) : Int) (i : Int) = some (((val l : Nat) : Int), true) := by
  induction d with
  | zero =>
    intro i k hi hk
    obtain ⟨k, rfl⟩ : ∃ m, k = m + 1 := ⟨k - 1, by omega⟩
    simp only [rlp_Uint.l0]
    rw [if_neg (by omega), List.take_of_length_le (by omega)]
  | succ d ih =>
    intro i k hi hk
    obtain ⟨k, rfl⟩ : ∃ m, k = m + 1 := ⟨k - 1, by omega⟩
    simp only [rlp_Uint.l0]
    have hlt : i < l.length := by omega
    have hv := val_lt (l.take i)
    have h7 : (256 : Nat) ^ (l.take i).length ≤ 256 ^ 7 := Nat.pow_le_pow_right (by omega) (by simp; omega)
    have h56 : val (l.take i) < 2 ^ 56 := by have : (256 : Nat) ^ 7 = 2 ^ 56 := by decide
                                             omega
    have hb := byte_lt (l[i]'hlt)
    have hs : val (l.take (i + 1)) = val (l.take i) * 256 + (l[i]'hlt).toNat := by rw [List.take_succ_eq_append_getElem hlt, val_snoc]
    rw [if_pos (by omega), if_pos (by omega), if_pos (by rw [ba_size]; omega), ba_bt l i hlt, wu64 (n := ((l[i]'hlt).toNat : Int)) (by omega) (by omega),
      wu64 (n := ((val (l.take i) : Nat) : Int) * 256) (by omega) (by omega), w64 (by omega) (by omega)]
    have e := or_byte (val (l.take i)) ((l[i]'hlt).toNat) h56 hb
    rw [show (((val (l.take i) * 256 : Nat)) : Int) = ((val (l.take i) : Nat) : Int) * 256 from by omega] at e
    rw [e, ← hs]
    exact ih (i + 1) k (by omega) (by omega)
def uint (l : Bs) : Int × Bool := if l.length ≤ 8 ∧ lead l = true then ((val l : Nat), true) else (0, false)
theorem hasPrefix_zero (l : Bs) : strings_HasPrefix.f (ba l) (⟨#[0]⟩ : ByteArray) = some (!lead l) := by
  unfold strings_HasPrefix.f stringslite_HasPrefix.f
  cases l with
  | nil => rfl
  | cons b t =>
    have h0 : (⟨#[0]⟩ : ByteArray) = ba [0] := rfl
    rw [h0, ba_size, ba_size, if_pos (by simp; try omega), if_pos (by simp; try omega), if_pos (by simp; try omega)]
    rw [show (((([0] : Bs).length : Nat) : Int)).toNat = 1 from rfl, ba_extract, ba_toList, ba_toList]
    simp only [Option.bind_some, List.take_succ_cons, List.take_zero, List.drop_zero, lead]
    congr 1
    simp [bne]
theorem ev_Uint (l : Bs) : Ev (fun k => rlp_Uint.f k (ba l)) (uint l) := by
  refine Ev.of (k := 20) (rlp_Uint.mono _) ?_
  unfold rlp_Uint.f uint
  rw [ba_size]
  by_cases h : l.length ≤ 8
  · rw [if_neg (by omega), hasPrefix_zero]
    simp only [Option.bind_some, rlp_Uint.j0]
    cases hl : lead l with
    | false => rw [if_pos (by simp), if_neg (by simp)]
    | true =>
      rw [if_neg (by simp), if_pos ⟨h, rfl⟩, ba_size]
      have := uint_l0 l h l.length 0 19 (by omega) (by omega)
      exact this
  · rw [if_pos (by omega), if_neg (fun z => h z.1)]
    rfl
/-! ### headers, bytes, lists -/
theorem one_byte (n : Nat) (h : n < 256) : strOfNums [wrap64 (n : Int) % 256] = ba [UInt8.ofNat n] := by
  rw [w64 (by omega) (by omega), show (n : Int) % 256 = (n : Int) from by omega]; exact strOf_one n h
theorem ev_head (base n : Nat) (hb : base = 128 ∨ base = 192) (h : n < 2 ^ 56) : Ev (fun k => rlp_head.f k (base : Int) (n : Int)) (ba (head base n)) := by
  unfold rlp_head.f head
  by_cases h1 : n ≤ 55
  · rw [if_pos h1]
    refine Ev.ite_pos (by omega) ?_
    rw [show (base : Int) + (n : Int) = ((base + n : Nat) : Int) from by omega, one_byte _ (by omega)]
    exact Ev.now _
  · rw [if_neg h1]
    refine Ev.ite_neg (by omega) ?_
    rw [wu64 (by omega) (by omega)]
    have h8 := num_len8 n (by omega)
    refine Ev.bind (ev_Number n (by omega)) ?_
    simp only [Option.bind_some]
    rw [w64 (n := (base : Int) + 55) (by omega) (by omega), ba_size, show (base : Int) + 55 + ((num n).length : Int) = ((base + 55 + (num n).length : Nat) : Int) from by omega, one_byte _ (by omega)]
    refine Ev.ite_pos (by simp only [ba_size, List.length_singleton]; omega) ?_
    rw [ba_app, List.singleton_append]
    exact Ev.now _
theorem small_bt (l : Bs) (h : l.length = 1) : (bt (ba l) 0 < 128) ↔ small l = true := by
  cases l with
  | nil => simp at h
  | cons b t =>
    cases t with
    | cons c t => simp at h
    | nil => rw [bt_zero]; simp only [small, decide_eq_true_eq]; omega
theorem small_of_len (l : Bs) (h : l.length ≠ 1) : small l = false := by
  cases e : small l with
  | false => rfl
  | true => exact absurd (small_len e) h
theorem head_le (base n : Nat) (h : n < 2 ^ 64) : (head base n).length ≤ 9 := by
  have := num_len8 n h
  unfold head; split <;> simp <;> omega
theorem ev_Bytes (l : Bs) (h : l.length < 2 ^ 56) : Ev (fun k => rlp_Bytes.f k (ba l)) (ba (byt l)) := by
  have hh := head_le 128 l.length (by omega)
  have tail : Ev (fun k => (rlp_head.f k 128 ((ba l).size : Int)).bind fun t => if t.size + (ba l).size ≤ 9223372036854775807 then some (t ++ ba l) else none) (ba (head 128 l.length ++ l)) := by
    rw [ba_size]
    refine Ev.bind (ev_head 128 l.length (.inl rfl) h) ?_
    refine Ev.ite_pos (by simp only [ba_size]; omega) ?_
    rw [ba_app]; exact Ev.now _
  unfold rlp_Bytes.f byt
  by_cases h1 : l.length = 1
  · refine Ev.ite_pos (by rw [ba_size]; omega) (Ev.ite_pos (by rw [ba_size]; omega) ?_)
    by_cases h2 : small l = true
    · rw [if_pos h2]
      exact Ev.ite_pos ((small_bt l h1).2 h2) (Ev.now _)
    · rw [if_neg h2]
      exact Ev.ite_neg (fun z => h2 ((small_bt l h1).1 z)) tail
  · rw [if_neg (by rw [small_of_len l h1]; simp)]
    exact Ev.ite_neg (by rw [ba_size]; omega) tail
theorem join_nil (xs : List Bs) : Lib.join xs [] = xs.flatten := by
  induction xs with
  | nil => rfl
  | cons x t ih =>
    cases t with
    | nil => simp [Lib.join]
    | cons y r =>
      simp only [Lib.join] at ih ⊢
      rw [List.intercalate_cons_cons, ih]
      simp
theorem join_ba (xs : List Bs) (h : xs.length ≤ 140737488355328) (h2 : xs.flatten.length ≤ 140737488355328) : strings_Join.f (xs.map ba) (⟨#[]⟩ : ByteArray) = some (ba xs.flatten) := by
  have e : (xs.map ba).map (·.data.toList) = xs := by
    rw [List.map_map]
    exact (List.map_congr_left (fun a _ => ba_data a)).trans (List.map_id xs)
  unfold strings_Join.f
  rw [e, show (⟨#[]⟩ : ByteArray).data.toList = ([] : Bs) from rfl, join_nil, if_pos ⟨by rw [List.length_map]; exact h, h2⟩]
  rfl
theorem ev_List (xs : List Bs) (h : xs.length ≤ 140737488355328) (h2 : xs.flatten.length ≤ 140737488355328) : Ev (fun k => rlp_List.f k (xs.map ba)) (ba (lst xs.flatten)) := by
  have hh := head_le 192 xs.flatten.length (by omega)
  unfold rlp_List.f
  simp only [join_ba xs h h2, Option.bind_some]
  rw [ba_size]
  refine Ev.bind (ev_head 192 xs.flatten.length (.inr rfl) (by omega)) ?_
  refine Ev.ite_pos (by simp only [ba_size]; omega) ?_
  rw [ba_app]; exact Ev.now _
end Go.Proofs.Ytkkammncpkgodaa.RE
