/- NibbleBack: bytes become a row and are bytes again; a row is packed and read again; no two rows are packed alike: the law's call returns true for any two texts and any flags. -/
import Derived.Test.YtlajpfdmbagedaaDoorBackWalk
namespace Go.Proofs.YtlajpfdmbagedaaDoor.P
open Go.RowKit Go.Proofs.YtlajpfdmbagedaaDoorW.PrintWords Go.Proofs.YtlajpfdmbagedaaDoorW.PrintLast Go.Proofs.YtlajpfdmbagedaaDoorW.PrintMore Go.Proofs.YtlajpfdmbagedaaDoor.RE Go.Proofs.YtlajpfdmbagedaaDoorW.Nib Go.Proofs.YtlajpfdmbagedaaDoor.NE
theorem pack_some (l : Bs) (leaf : Bool) (h : right l = true) : ∃ p, pack l leaf = some p ∧ p.length ≤ l.length + 1 := by
  unfold pack
  rw [if_pos h]
  by_cases e : l.length % 2 = 1
  · rw [if_pos e]
    refine ⟨_, rfl, ?_⟩
    rw [List.length_cons, join_len _ _ (Nat.le_refl _), List.length_tail]; omega
  · rw [if_neg e]
    refine ⟨_, rfl, ?_⟩
    rw [List.length_cons, join_len _ _ (Nat.le_refl _)]; omega
theorem loesslaw03_NibbleBack.walk (a0 a1 : ByteArray) (la lb : Bool) (w : World) (_h0 : a0.size ≤ 140737488351232) (_h1 : a1.size ≤ 140737488351232) :
    Calls Tryd.prog 8 #[.string a0, .string a1, .agg #[.bool la, .bool lb]] w fun e w' => e = .returned (.bool true) ∧ Below w.heap.size w w' := by
  by_cases h : 3000 < a0.size ∨ 3000 < a1.size
  · exact back_up a0 a1 la lb w h
  obtain ⟨s, rfl⟩ := exists_ba a0
  obtain ⟨t, rfl⟩ := exists_ba a1
  have hs := ba_size s
  have ht := ba_size t
  have l1 := nib_len s
  have l2 := nib_len t
  have hA := ba_size (nib s)
  have hC := ba_size (nib t)
  obtain ⟨D, hD, hr, hl⟩ : ∃ D, (if (ba (nib t)).size = 0 then ba (nib t) else (ba (nib t)).extract 1 (ba (nib t)).size) = ba D ∧ right D = true ∧ D.length ≤ 6000 := by
    by_cases e : (ba (nib t)).size = 0
    · rw [if_pos e]; exact ⟨nib t, rfl, nib_right t, by omega⟩
    · rw [if_neg e, hC, ba_extract, List.take_of_length_le (Nat.le_refl _)]
      refine ⟨_, rfl, ?_, by rw [List.length_drop]; omega⟩
      have := nib_right t
      unfold right at *
      rw [List.all_eq_true] at *
      exact fun x hx => this x (List.drop_subset _ _ hx)
  obtain ⟨p, hp, lp⟩ := pack_some (nib s) la (nib_right s)
  obtain ⟨q, hq, lq⟩ := pack_some D lb hr
  have up := (unpack_pack _ _ _ hp).1
  have uq := (unpack_pack _ _ _ hq).1
  have gp := gives_Pack (nib s) la (by omega)
  rw [hp] at gp
  have gq := gives_Pack D lb (by omega)
  rw [hq] at gq
  have gu := gives_Unpack p (by omega)
  rw [up] at gu
  have gv := gives_Unpack q (by omega)
  rw [uq] at gv
  have hb : Go.Proofs.YtlajpfdmbagedaaDoorW.Nib.bytes (nib s) = some s := by unfold Go.Proofs.YtlajpfdmbagedaaDoorW.Nib.bytes; rw [if_pos ⟨nib_right s, by omega⟩, join_nib]
  have gb := gives_Bytes (nib s) (by omega)
  rw [hb] at gb
  have gr := fun w => gives_Right (nib s) (by omega) w
  rw [nib_right s] at gr
  refine back_main (ba s) (ba t) (ba (nib s)) (ba (nib t)) (ba p) (ba q) la lb w (by omega) (by omega) (gives_Of s (by omega)) (gives_Of t (by omega)) gb gr (by omega) (by omega) gp gu ?_ ?_ ?_
  · rw [hD]; exact gq
  · rw [hD]; exact gv
  · rw [hD, ba_toList, ba_toList]
    by_cases e : p = q
    · subst e
      rw [up] at uq
      injection uq with uq
      injection uq with e1 e2
      exact .inr ⟨rfl, by rw [e1], e2⟩
    · exact .inl e
end Go.Proofs.YtlajpfdmbagedaaDoor.P
