/- NibbleShares: how much two rows share does not hang on their order; it is shared, and no more is; of three the least two shares are the same: the law's call returns true for any three texts. -/
import Derived.Test.YtlajpfdmbagedaaDoorSharesWalk
namespace Go.Proofs.YtlajpfdmbagedaaDoor.P
open Go.RowKit Go.Proofs.YtlajpfdmbagedaaDoorW.PrintWords Go.Proofs.YtlajpfdmbagedaaDoorW.PrintLast Go.Proofs.YtlajpfdmbagedaaDoorW.PrintMore Go.Proofs.YtlajpfdmbagedaaDoor.RE Go.Proofs.YtlajpfdmbagedaaDoorW.Nib Go.Proofs.YtlajpfdmbagedaaDoor.NE
theorem loesslaw03_NibbleShares.walk (a0 a1 a2 : ByteArray) (w : World) (_h0 : a0.size ≤ 140737488351232) (_h1 : a1.size ≤ 140737488351232) (_h2 : a2.size ≤ 140737488351232) :
    Calls Tryd.prog 5 #[.string a0, .string a1, .string a2] w fun e w' => e = .returned (.bool true) ∧ Below w.heap.size w w' := by
  by_cases h : 500 < a0.size ∨ 500 < a1.size ∨ 500 < a2.size
  · exact shares_up a0 a1 a2 w h
  obtain ⟨s, rfl⟩ := exists_ba a0
  obtain ⟨t, rfl⟩ := exists_ba a1
  obtain ⟨u, rfl⟩ := exists_ba a2
  have hs := ba_size s
  have ht := ba_size t
  have hu := ba_size u
  have l1 := pre_le s t
  refine shares_main (ba s) (ba t) (ba u) ((pre s t : Nat) : Int) ((pre t u : Nat) : Int) ((pre s u : Nat) : Int) w (by omega) (by omega) (by omega) (preIs s t (by omega)) (preIs t u (by omega)) (preIs s u (by omega)) ?_ ?_ (by omega) (by omega) (by omega) ?_ ?_ ?_
  · rw [pre_comm]; exact preIs t s (by omega)
  · have := preIs s s (by omega)
    rw [pre_self] at this
    rw [hs]; exact this
  · rw [Int.toNat_natCast, ba_extract, ba_extract, ba_toList, ba_toList, List.drop_zero, List.drop_zero, pre_take]
  · intro g1 g2
    have i1 : pre s t < s.length := by omega
    have i2 : pre s t < t.length := by omega
    rw [ba_bt s _ i1, ba_bt t _ i2]
    have := pre_next s t i1 i2
    exact fun e => this (u8_ext (by omega))
  · have p1 := pre_three s t u
    have p2 := pre_three u t s
    rw [pre_comm u t, pre_comm t s, pre_comm u s] at p2
    by_cases e1 : pre s t < pre t u
    · exact .b (by omega) (by have := p1.2 e1; omega)
    · by_cases e2 : pre t u < pre s t
      · exact .a (by omega) (by have := p2.2 e2; omega)
      · have e3 : pre t u = pre s t := by omega
        have := p1.1 (by omega)
        by_cases e4 : pre s t = pre s u
        · exact .c (by omega) (by omega)
        · exact .d (by omega) (by omega)
end Go.Proofs.YtlajpfdmbagedaaDoor.P
