/- The row of the law loesslaw02_RlpWrites: for every input the call returns true, and each argument reads afterwards as it read before. Written by a program of this session. -/
import Derived.Test.YtkkammncpkgodaaRows
import Derived.Test.YtkkammncpkgodaaP23
import Derived.Test.YtkkammncpkgodaaPureRlpWrites
import Derived.Test.YtkkammncpkgodaaOpens
import Derived.Test.YtkkammncpkgodaaOpensItem
import Derived.WalkKit
import Derived.ProofKit
import Derived.OpenShut
import Derived.ShutString
import Derived.ChangeOld
import Derived.Below
import Derived.Carry
import Derived.SizedLaws
namespace Go.Proofs.Ytkkammncpkgodaa.rlpWrites
open Go.ChangeShapes Go.WideShapes Go.ChangeAt Go.RowKit Go.Proofs.Ytkkammncpkgodaa.P Go.Proofs.YtkkammncpkgodaaW.PrintWords Go.Proofs.YtkkammncpkgodaaW.PrintLast Go.Proofs.YtkkammncpkgodaaW.Opens Go.Proofs.Ytkkammncpkgodaa.RE
open Go.ChangeMaps (open_string shut_string)
set_option linter.unusedVariables false
theorem own : ownKnob Try.prog.godebug = none := by kernel_rfl
theorem laidOut : laidOutB Try.prog = true := by kernel_rfl
set_option maxRecDepth 100000 in
theorem lifted (os : Os) (started : os.Started) (H : Type) (enc : TypeId × Value → H) :
    ReturnsInHanded {} Try.checked os 7 .any (Rows.rlpWritesSpec.pre6 enc Try.prog Try.f7 Rows.rlpWritesRow.domain false) (Rows.rlpWritesSpec.post enc Try.prog Try.f7 false true false false) := by
  refine returnsInHanded_of_change_sized (C := Try.checked) own started (by kernel_rfl) Try.func7
    (ChangeSpec.witness6 (enc := enc) (C := Try.checked) false ⟨#[], #[.agg #[.bool false, .string ByteArray.empty, .slice none 0 0], .string ByteArray.empty, .slice none 0 0], []⟩ 8 (by kernel_rfl) (by kernel_rfl) (by kernel_rfl) (by kernel_rfl)) ?_
  intro W base args ds gs before hval0 hW hcnd hsz0 _
  have hsz : (DataW.weightsEach Try.prog (Try.f7.params.toList ++ Rows.rlpWritesSpec.plain.varTypes Try.prog) (ds ++ gs)).all (· ≤ reachBytes) = true := hsz0
  have hval : ∀ (j : Nat) t v, Try.f7.params[j]? = some t → args[j]? = some v → Value.okWide Try.prog W .any base t v := hval0
  have hW' := hW
  obtain ⟨p, q, hA0, hV, rfl, hfz, hnd⟩ := hW
  have hA : DataW.TrodAll enc Try.prog W 0 (fun _ => true) true Try.f7.params.toList args.toList ds p := hA0
  rw [Try.params7] at hA hval hsz
  obtain ⟨v0, vs0, d0, ds0, p0, q0, hargs, rfl, rfl, h0, r0⟩ := trodAll_cons hA
  obtain ⟨v1, vs1, d1, ds1, p1, q1, rfl, rfl, rfl, h1, r1⟩ := trodAll_cons r0
  obtain ⟨v2, vs2, d2, ds2, p2, q2, rfl, rfl, rfl, h2, r2⟩ := trodAll_cons r1
  obtain ⟨rfl, rfl, rfl⟩ := trodAll_nil r2
  obtain rfl : args = #[v0, v1, v2] := by cases args; simp_all
  obtain ⟨rfl, rfl⟩ := trodVars_none hV
  obtain ⟨cs0, rfl, _⟩ := okWide_struct Try.underlying25 (hval 0 _ v0 rfl rfl)
  have k0 := h0
  have lt0 : ∀ x ∈ p0, x.block < W.heap.size := by obtain ⟨m, hm⟩ := k0; exact DataW.trod_lt m _ _ _ hm
  obtain ⟨x0, K0, g0⟩ : ∃ x, k25.K W x cs0.toList ∧ fits x := by
    obtain ⟨fuel, hf⟩ := h0
    exact opens_item fuel enc W _ _ _ fuel _ _ (Nat.le_refl _) hf
  obtain ⟨A0, c0, e0, hc0, hr0⟩ := k25_open K0
  obtain rfl : cs0 = #[.bool x0.f0, .string x0.f1, .slice A0 x0.f2.length c0] := by cases cs0; simpa using e0
  obtain ⟨a1, rfl, rfl, rfl, y1⟩ := open_string Try.underlying9 (hval 1 _ v1 rfl rfl) h1
  have w1 : a1.size ≤ 140737488351232 := by
    have z := sized_string hsz (j := 1) (t := 9) rfl rfl
    rw [Array.length_toList] at z
    exact z
  obtain ⟨b2, len2, cap2, rfl⟩ := okWide_slice Try.underlying38 (hval 2 _ v2 rfl rfl)
  have k2 := h2
  have lt2 : ∀ x ∈ p2, x.block < W.heap.size := by obtain ⟨m, hm⟩ := k2; exact DataW.trod_lt m _ _ _ hm
  obtain ⟨fuel2, hf2⟩ := h2
  obtain ⟨l2, ⟨A2, c2, e2, hc2, hr2⟩, g2⟩ := (fun fuel => opens_slice (k := Kd.string) Try.underlying38 (show Try.prog.cellsOf 9 = Kd.sz Kd.string from by kernel_rfl) (opens_string Try.underlying9 fuel)) fuel2 enc W _ _ _ fuel2 _ _ (Nat.le_succ _) hf2
  replace e2 : Value.slice b2 len2 cap2 = .slice A2 l2.length c2 := List.head_eq_of_cons_eq e2
  simp only [Value.slice.injEq] at e2
  obtain ⟨rfl, rfl, rfl⟩ := e2
  clear hA0 hval0 hsz0 hsz
  obtain ⟨k, h⟩ := Pure.RlpWrites x0 a1 l2 g0
  refine (loesslaw02_RlpWrites.calls k x0.f0 x0.f1 A0 c0 x0.f2 a1 b2 cap2 l2 true W hr0 hc0 hr2 hc2 h).mono fun e W' ⟨he, bel⟩ => ?_
  subst he
  exact ⟨_, rfl, _, _, _, [], _, [], hW', trodAll_mk1 (shut_bool Try.underlying4 _), (trodAll_cons_mk (Below.trod laidOut (by kernel_rfl) (of_decide_eq_true (by kernel_rfl)) k0 bel lt0) (trodAll_cons_mk (shut_string Try.underlying9 y1) (trodAll_cons_mk (Below.trod laidOut (by kernel_rfl) (of_decide_eq_true (by kernel_rfl)) k2 bel lt2) trodAll_mk0))), rfl, bel.frame _, fun h => by cases h⟩
theorem over : Rows.rlpWritesRow.holds Try.pinned (OpenSpec.ofChange Rows.rlpWritesSpec) :=
  OpenClaim.holds_of_wide 7 Try.f7 rfl rfl rfl rfl rfl rfl rfl ⟨rfl, rfl, rfl, rfl, rfl⟩ rfl rfl rfl rfl rfl (by kernel_rfl) Try.func7 (by kernel_rfl)
    (of_decide_eq_true (by kernel_rfl)) (by unfold Func.isWrapper; first | (rw [if_pos (by decide +kernel)]; kernel_rfl) | (rw [if_neg (by decide +kernel)]; exact ⟨rfl, rfl⟩))
    (fun os started H enc _ => lifted os started H enc)
theorem proved : Rows.RlpWritesSaid := over
#print axioms proved
end Go.Proofs.Ytkkammncpkgodaa.rlpWrites
namespace Go.Proofs.Ytkkammncpkgodaa
/-- The row, under a short name, for the claim. -/
theorem rlpWrites_holds : Rows.RlpWritesSaid := rlpWrites.proved
end Go.Proofs.Ytkkammncpkgodaa
