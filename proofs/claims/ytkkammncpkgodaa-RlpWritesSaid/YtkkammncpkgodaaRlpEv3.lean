/- The reference's headers, bytes and lists. -/
import Derived.Test.YtkkammncpkgodaaRlpEv2
import Derived.Test.YtkkammncpkgodaaP21
import Derived.Test.YtkkammncpkgodaaP21
import Derived.Test.YtkkammncpkgodaaP22
namespace Go.Proofs.Ytkkammncpkgodaa.RE
open Go.RowKit Go.Proofs.Ytkkammncpkgodaa.P Go.Proofs.YtkkammncpkgodaaW.PrintWords Go.Proofs.YtkkammncpkgodaaW.PrintLast Go.Proofs.YtkkammncpkgodaaW.Rlp
set_option linter.unusedVariables false
set_option linter.unusedSimpArgs false

theorem ev_refHead (base n : Nat) (hb : base = 128 ∨ base = 192) (h : n < 2 ^ 56) : Ev (fun k => loessref02_head.f k (base : Int) (n : Int)) (ba (head base n)) := by
  unfold loessref02_head.f head
  by_cases h1 : n ≤ 55
  · rw [if_pos h1]
    refine Ev.ite_pos (by omega) ?_
    rw [show (base : Int) + (n : Int) = ((base + n : Nat) : Int) from by omega, one_byte _ (by omega)]
    exact Ev.now _
  · rw [if_neg h1]
    refine Ev.ite_neg (by omega) ?_
    rw [wu64 (by omega) (by omega)]
    have h8 := num_len8 n (by omega)
    refine Ev.bind (ev_refNumber n (by omega)) ?_
    simp only [Option.bind_some]
    rw [w64 (n := (base : Int) + 55) (by omega) (by omega), ba_size, show (base : Int) + 55 + ((num n).length : Int) = ((base + 55 + (num n).length : Nat) : Int) from by omega, one_byte _ (by omega)]
    refine Ev.ite_pos (by simp only [ba_size, List.length_singleton]; omega) ?_
    rw [ba_app, List.singleton_append]
    exact Ev.now _
theorem ev_refBytes (l : Bs) (h : l.length < 2 ^ 56) : Ev (fun k => loessref02_Bytes.f k (ba l)) (ba (byt l)) := by
  have hh := head_le 128 l.length (by omega)
  have tail : Ev (fun k => (loessref02_head.f k 128 ((ba l).size : Int)).bind fun t => if t.size + (ba l).size ≤ 9223372036854775807 then some (t ++ ba l) else none) (ba (head 128 l.length ++ l)) := by
    rw [ba_size]
    refine Ev.bind (ev_refHead 128 l.length (.inl rfl) h) ?_
    refine Ev.ite_pos (by simp only [ba_size]; omega) ?_
    rw [ba_app]; exact Ev.now _
  unfold loessref02_Bytes.f byt
  by_cases h1 : l.length = 1
  · refine Ev.ite_pos (by rw [ba_size]; omega) (Ev.ite_pos (by rw [ba_size]; omega) ?_)
    by_cases h2 : small l = true
    · rw [if_pos h2]
      exact Ev.ite_pos ((small_bt l h1).2 h2) (Ev.now _)
    · rw [if_neg h2]
      exact Ev.ite_neg (fun z => h2 ((small_bt l h1).1 z)) tail
  · rw [if_neg (by rw [small_of_len l h1]; simp)]
    exact Ev.ite_neg (by rw [ba_size]; omega) tail
theorem ev_refList (l : Bs) (h : l.length < 2 ^ 56) : Ev (fun k => loessref02_List.f k (ba l)) (ba (lst l)) := by
  have hh := head_le 192 l.length (by omega)
  unfold loessref02_List.f lst
  rw [ba_size]
  refine Ev.bind (ev_refHead 192 l.length (.inr rfl) h) ?_
  refine Ev.ite_pos (by simp only [ba_size]; omega) ?_
  rw [ba_app]; exact Ev.now _

end Go.Proofs.Ytkkammncpkgodaa.RE
