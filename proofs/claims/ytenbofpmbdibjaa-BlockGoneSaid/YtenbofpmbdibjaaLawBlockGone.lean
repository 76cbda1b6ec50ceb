/- The row of the law BlockGone: for every input the call returns true, and each argument reads afterwards as it read before. Written by a program of this session. -/
import Derived.Test.YtenbofpmbdibjaaRows
import Derived.Test.YtenbofpmbdibjaaGoneWalk
import Derived.Test.YtenbofpmbdibjaaOpens16
import Derived.WalkKit
import Derived.ProofKit
import Derived.OpenShut
import Derived.ShutString
import Derived.ChangeOld
import Derived.Below
import Derived.Carry
import Derived.SizedLaws
namespace Go.Proofs.Ytenbofpmbdibjaa.blockGone
open Go.ChangeShapes Go.WideShapes Go.ChangeAt Go.RowKit Go.Proofs.Ytenbofpmbdibjaa.P Go.Proofs.YtenbofpmbdibjaaW.PrintWords Go.Proofs.YtenbofpmbdibjaaW.PrintLast Go.Proofs.YtenbofpmbdibjaaW.Opens Go.Proofs.Ytenbofpmbdibjaa.RE
open Go.ChangeMaps (open_string shut_string)
set_option linter.unusedVariables false
theorem own : ownKnob Try.prog.godebug = none := by kernel_rfl
theorem laidOut : laidOutB Try.prog = true := by kernel_rfl
set_option maxRecDepth 100000 in
theorem lifted (os : Os) (started : os.Started) (H : Type) (enc : TypeId × Value → H) :
    ReturnsInHanded {} Try.checked os 7 .any (Rows.blockGoneSpec.pre6 enc Try.prog Try.f7 Rows.blockGoneRow.domain false) (Rows.blockGoneSpec.post enc Try.prog Try.f7 false true false false) := by
  refine returnsInHanded_of_change_sized (C := Try.checked) own started (by kernel_rfl) Try.func7
    (ChangeSpec.witness6 (enc := enc) (C := Try.checked) false ⟨#[], #[.agg #[.string ByteArray.empty, .bool false, .bool false, .int .u64 0, .string ByteArray.empty, .string ByteArray.empty, .slice none 0 0], .agg #[.int .u64 0, .string ByteArray.empty, .string ByteArray.empty, .int .i64 0], .int .i64 0], []⟩ 8 (by kernel_rfl) (by kernel_rfl) (by kernel_rfl) (by kernel_rfl)) ?_
  intro W base args ds gs before hval0 hW hcnd hsz0 _
  have hsz : (DataW.weightsEach Try.prog (Try.f7.params.toList ++ Rows.blockGoneSpec.plain.varTypes Try.prog) (ds ++ gs)).all (· ≤ reachBytes) = true := hsz0
  have hval : ∀ (j : Nat) t v, Try.f7.params[j]? = some t → args[j]? = some v → Value.okWide Try.prog W .any base t v := hval0
  have hW' := hW
  obtain ⟨p, q, hA0, hV, rfl, hfz, hnd⟩ := hW
  have hA : DataW.TrodAll enc Try.prog W 0 (fun _ => true) true Try.f7.params.toList args.toList ds p := hA0
  rw [Try.params7] at hA hval hsz
  obtain ⟨v0, vs0, d0, ds0, p0, q0, hargs, rfl, rfl, h0, r0⟩ := trodAll_cons hA
  obtain ⟨v1, vs1, d1, ds1, p1, q1, rfl, rfl, rfl, h1, r1⟩ := trodAll_cons r0
  obtain ⟨v2, vs2, d2, ds2, p2, q2, rfl, rfl, rfl, h2, r2⟩ := trodAll_cons r1
  obtain ⟨rfl, rfl, rfl⟩ := trodAll_nil r2
  obtain rfl : args = #[v0, v1, v2] := by cases args; simp_all
  obtain ⟨rfl, rfl⟩ := trodVars_none hV
  obtain ⟨cs0, rfl, _⟩ := okWide_struct Try.underlying38 (hval 0 _ v0 rfl rfl)
  have k0 := h0
  have lt0 : ∀ x ∈ p0, x.block < W.heap.size := by obtain ⟨m, hm⟩ := k0; exact DataW.trod_lt m _ _ _ hm
  have hw0 : ∀ m ∈ d0.weights Try.prog 38, m ≤ reachBytes := fun m hm => by have z := List.all_eq_true.1 hsz m (DataW.weights_mem_each (j := 0) rfl rfl m hm); simpa using z
  obtain ⟨x0, K0, g0⟩ : ∃ x, k38.K W x cs0.toList ∧ fitWrite x := by
    obtain ⟨fuel, hf⟩ := h0
    exact opens_write fuel enc W _ _ _ fuel _ _ (Nat.le_refl _) hf hw0
  obtain ⟨A0, c0, e0, hc0, hr0⟩ := k38_open K0
  obtain rfl : cs0 = #[.string x0.f0, .bool x0.f1, .bool x0.f2, .int .u64 x0.f3, .string x0.f4, .string x0.f5, .slice A0 x0.f6.length c0] := by cases cs0; simpa using e0
  obtain ⟨cs1, rfl, _⟩ := okWide_struct Try.underlying40 (hval 1 _ v1 rfl rfl)
  have k1 := h1
  have lt1 : ∀ x ∈ p1, x.block < W.heap.size := by obtain ⟨m, hm⟩ := k1; exact DataW.trod_lt m _ _ _ hm
  have hw1 : ∀ m ∈ d1.weights Try.prog 40, m ≤ reachBytes := fun m hm => by have z := List.all_eq_true.1 hsz m (DataW.weights_mem_each (j := 1) rfl rfl m hm); simpa using z
  obtain ⟨x1, K1, g1⟩ : ∃ x, k40.K W x cs1.toList ∧ fitAccount x := by
    obtain ⟨fuel, hf⟩ := h1
    exact opens_account fuel enc W _ _ _ fuel _ _ (Nat.le_refl _) hf hw1
  have e1 := k40_open K1
  obtain rfl : cs1 = #[.int .u64 x1.f0, .string x1.f1, .string x1.f2, .int .i64 x1.f3] := by cases cs1; simpa using e1
  obtain ⟨a2, rfl, rfl, rfl, w2⟩ := open_int Try.underlying3 (hval 2 _ v2 rfl rfl) h2
  clear hA0 hval0 hsz0 hsz
  refine (Gone.law x0 A0 c0 x1 a2 W hr0 hc0 g0 g1 w2).mono fun e W' ⟨he, bel⟩ => ?_
  subst he
  exact ⟨_, rfl, _, _, _, [], _, [], hW', trodAll_mk1 (shut_bool Try.underlying4 _), (trodAll_cons_mk (Below.trod laidOut (by kernel_rfl) (of_decide_eq_true (by kernel_rfl)) k0 bel lt0) (trodAll_cons_mk (Below.trod laidOut (by kernel_rfl) (of_decide_eq_true (by kernel_rfl)) k1 bel lt1) (trodAll_cons_mk (shut_int Try.underlying3 w2) trodAll_mk0))), rfl, bel.frame _, fun h => by cases h⟩
theorem over : Rows.blockGoneRow.holds Try.pinned (OpenSpec.ofChange Rows.blockGoneSpec) :=
  OpenClaim.holds_of_wide 7 Try.f7 rfl rfl rfl rfl rfl rfl rfl ⟨rfl, rfl, rfl, rfl, rfl⟩ rfl rfl rfl rfl rfl (by kernel_rfl) Try.func7 (by kernel_rfl)
    (of_decide_eq_true (by kernel_rfl)) (by unfold Func.isWrapper; first | (rw [if_pos (by decide +kernel)]; kernel_rfl) | (rw [if_neg (by decide +kernel)]; exact ⟨rfl, rfl⟩))
    (fun os started H enc _ => lifted os started H enc)
theorem proved : Rows.BlockGoneSaid := over
#print axioms proved
end Go.Proofs.Ytenbofpmbdibjaa.blockGone
namespace Go.Proofs.Ytenbofpmbdibjaa
/-- The row, under a short name, for the claim. -/
theorem blockGone_holds : Rows.BlockGoneSaid := blockGone.proved
end Go.Proofs.Ytenbofpmbdibjaa
