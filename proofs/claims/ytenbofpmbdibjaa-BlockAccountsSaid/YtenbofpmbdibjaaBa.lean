/- Bytes as lists, and what comes to an answer: small words for the printed functions. -/
import Derived.Test.YtenbofpmbdibjaaWWords
import Derived.Laws.BytesArg
import Derived.IntWalk
namespace Go.Proofs.Ytenbofpmbdibjaa.RE
open Go.RowKit Go.Proofs.YtenbofpmbdibjaaW.PrintWords
set_option linter.unusedVariables false
set_option linter.unusedSimpArgs false
theorem byte_eta (b : UInt8) : UInt8.ofNat b.toNat = b := UInt8.ofNat_toNat
theorem byte_lt (b : UInt8) : b.toNat < 256 := UInt8.toNat_lt b
/-! ### bytes as lists -/
def ba (l : List UInt8) : ByteArray := ⟨l.toArray⟩
theorem ba_nil : (⟨#[]⟩ : ByteArray) = ba [] := rfl
theorem ba_size (l : List UInt8) : (ba l).size = l.length := by simp [ba, ByteArray.size]
theorem ba_data (l : List UInt8) : (ba l).data.toList = l := by simp [ba]
theorem ba_of (a : ByteArray) : ba a.data.toList = a := rfl
theorem ba_toList (l : List UInt8) : (ba l).toList = l := by rw [ByteArray.toList_eq]; simp [ba]
theorem ba_app (l m : List UInt8) : ba l ++ ba m = ba (l ++ m) := by
  have h : ∀ a b : ByteArray, a.data = b.data → a = b := fun a b h => by cases a; cases b; simp_all
  apply h
  rw [ByteArray.data_append]
  simp [ba]
theorem ba_ext {a b : ByteArray} (h : a.data = b.data) : a = b := by cases a; cases b; simp_all
theorem ba_extract (l : List UInt8) (i j : Nat) : (ba l).extract i j = ba ((l.take j).drop i) := by
  apply ba_ext
  rw [ByteArray.data_extract]
  simp [ba, List.extract_eq_take_drop, List.drop_take]
theorem ba_bt (l : List UInt8) (i : Nat) (h : i < l.length) : bt (ba l) (i : Int) = ((l[i]'h).toNat : Int) := by
  unfold bt
  rw [dif_pos (by rw [Int.toNat_natCast, ba_size]; exact h)]
  rfl
theorem bt_zero (b : UInt8) (l : List UInt8) : bt (ba (b :: l)) 0 = (b.toNat : Int) := ba_bt (b :: l) 0 (by simp)
theorem ba_eq {l m : List UInt8} : ba l = ba m ↔ l = m := ⟨fun h => by have := congrArg (fun a : ByteArray => a.data.toList) h; simpa [ba] using this, fun h => by rw [h]⟩
theorem exists_ba (a : ByteArray) : ∃ l : List UInt8, a = ba l := ⟨a.data.toList, rfl⟩
theorem strOf_nil : strOfNums [] = ba [] := rfl
def ints (l : List UInt8) : List Int := l.map fun b => (b.toNat : Int)
theorem strOf_ints (l : List UInt8) : strOfNums (ints l) = ba l := by
  simp only [strOfNums, ints, List.map_map]
  congr 1
  congr 1
  rw [show ((fun n : Int => UInt8.ofNat n.toNat) ∘ fun b : UInt8 => ((b.toNat : Nat) : Int)) = id from by funext b; simp [byte_eta]]
  simp
theorem strOf_one (n : Nat) (h : n < 256) : strOfNums [(n : Int)] = ba [UInt8.ofNat n] := by simp [strOfNums, ba]
theorem Ev.ite_pos {α : Type} {c : Prop} [Decidable c] {g f : Nat → Option α} {r : α} (h : c) (k : Ev g r) : Ev (fun n => if c then g n else f n) r := by obtain ⟨K, hK⟩ := k; exact ⟨K, fun n hn => by simp only [if_pos h]; exact hK n hn⟩
theorem Ev.ite_neg {α : Type} {c : Prop} [Decidable c] {g f : Nat → Option α} {r : α} (h : ¬ c) (k : Ev f r) : Ev (fun n => if c then g n else f n) r := by obtain ⟨K, hK⟩ := k; exact ⟨K, fun n hn => by simp only [if_neg h]; exact hK n hn⟩
theorem Ev.eq {α : Type} {g : Nat → Option α} {r r' : α} (h : Ev g r) (e : r = r') : Ev g r' := e ▸ h
theorem w64 {n : Int} (h0 : -9223372036854775808 ≤ n) (h1 : n ≤ 9223372036854775807) : wrap64 n = n := by unfold wrap64; omega
theorem wu64 {n : Int} (h0 : 0 ≤ n) (h1 : n ≤ 18446744073709551615) : IntKind.u64.wrap n = n := IntWalk.u64_in n ⟨h0, h1⟩

end Go.Proofs.Ytenbofpmbdibjaa.RE
