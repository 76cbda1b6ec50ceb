/- The row of the law BlockAccounts: for every input the call returns true, and each argument reads afterwards as it read before. Written by a program of this session. -/
import Derived.Test.YtenbofpmbdibjaaRows
import Derived.Test.YtenbofpmbdibjaaAccWalk
import Derived.Test.YtenbofpmbdibjaaOpens16
import Derived.WalkKit
import Derived.ProofKit
import Derived.OpenShut
import Derived.ShutString
import Derived.ChangeOld
import Derived.Below
import Derived.Carry
import Derived.SizedLaws
namespace Go.Proofs.Ytenbofpmbdibjaa.blockAccounts
open Go.ChangeShapes Go.WideShapes Go.ChangeAt Go.RowKit Go.Proofs.Ytenbofpmbdibjaa.P Go.Proofs.YtenbofpmbdibjaaW.PrintWords Go.Proofs.YtenbofpmbdibjaaW.PrintLast Go.Proofs.YtenbofpmbdibjaaW.Opens Go.Proofs.Ytenbofpmbdibjaa.RE
open Go.ChangeMaps (open_string shut_string)
set_option linter.unusedVariables false
theorem own : ownKnob Try.prog.godebug = none := by kernel_rfl
theorem laidOut : laidOutB Try.prog = true := by kernel_rfl
set_option maxRecDepth 100000 in
theorem lifted (os : Os) (started : os.Started) (H : Type) (enc : TypeId × Value → H) :
    ReturnsInHanded {} Try.checked os 5 .any (Rows.blockAccountsSpec.pre6 enc Try.prog Try.f5 Rows.blockAccountsRow.domain false) (Rows.blockAccountsSpec.post enc Try.prog Try.f5 false true false false) := by
  refine returnsInHanded_of_change_sized (C := Try.checked) own started (by kernel_rfl) Try.func5
    (ChangeSpec.witness6 (enc := enc) (C := Try.checked) false ⟨#[], #[.agg #[.string ByteArray.empty, .bool false, .bool false, .int .u64 0, .string ByteArray.empty, .string ByteArray.empty, .slice none 0 0], .agg #[.int .u64 0, .string ByteArray.empty, .string ByteArray.empty, .int .i64 0], .agg #[.int .i64 0, .slice none 0 0]], []⟩ 8 (by kernel_rfl) (by kernel_rfl) (by kernel_rfl) (by kernel_rfl)) ?_
  intro W base args ds gs before hval0 hW hcnd hsz0 _
  have hsz : (DataW.weightsEach Try.prog (Try.f5.params.toList ++ Rows.blockAccountsSpec.plain.varTypes Try.prog) (ds ++ gs)).all (· ≤ reachBytes) = true := hsz0
  have hval : ∀ (j : Nat) t v, Try.f5.params[j]? = some t → args[j]? = some v → Value.okWide Try.prog W .any base t v := hval0
  have hW' := hW
  obtain ⟨p, q, hA0, hV, rfl, hfz, hnd⟩ := hW
  have hA : DataW.TrodAll enc Try.prog W 0 (fun _ => true) true Try.f5.params.toList args.toList ds p := hA0
  rw [Try.params5] at hA hval hsz
  obtain ⟨v0, vs0, d0, ds0, p0, q0, hargs, rfl, rfl, h0, r0⟩ := trodAll_cons hA
  obtain ⟨v1, vs1, d1, ds1, p1, q1, rfl, rfl, rfl, h1, r1⟩ := trodAll_cons r0
  obtain ⟨v2, vs2, d2, ds2, p2, q2, rfl, rfl, rfl, h2, r2⟩ := trodAll_cons r1
  obtain ⟨rfl, rfl, rfl⟩ := trodAll_nil r2
  obtain rfl : args = #[v0, v1, v2] := by cases args; simp_all
  obtain ⟨rfl, rfl⟩ := trodVars_none hV
  obtain ⟨cs0, rfl, _⟩ := okWide_struct Try.underlying38 (hval 0 _ v0 rfl rfl)
  have k0 := h0
  have lt0 : ∀ x ∈ p0, x.block < W.heap.size := by obtain ⟨m, hm⟩ := k0; exact DataW.trod_lt m _ _ _ hm
  have hw0 : ∀ m ∈ d0.weights Try.prog 38, m ≤ reachBytes := fun m hm => by have z := List.all_eq_true.1 hsz m (DataW.weights_mem_each (j := 0) rfl rfl m hm); simpa using z
  obtain ⟨x0, K0, g0⟩ : ∃ x, k38.K W x cs0.toList ∧ fitWrite x := by
    obtain ⟨fuel, hf⟩ := h0
    exact opens_write fuel enc W _ _ _ fuel _ _ (Nat.le_refl _) hf hw0
  obtain ⟨A0, c0, e0, hc0, hr0⟩ := k38_open K0
  obtain rfl : cs0 = #[.string x0.f0, .bool x0.f1, .bool x0.f2, .int .u64 x0.f3, .string x0.f4, .string x0.f5, .slice A0 x0.f6.length c0] := by cases cs0; simpa using e0
  obtain ⟨cs1, rfl, _⟩ := okWide_struct Try.underlying40 (hval 1 _ v1 rfl rfl)
  have k1 := h1
  have lt1 : ∀ x ∈ p1, x.block < W.heap.size := by obtain ⟨m, hm⟩ := k1; exact DataW.trod_lt m _ _ _ hm
  have hw1 : ∀ m ∈ d1.weights Try.prog 40, m ≤ reachBytes := fun m hm => by have z := List.all_eq_true.1 hsz m (DataW.weights_mem_each (j := 1) rfl rfl m hm); simpa using z
  obtain ⟨x1, K1, g1⟩ : ∃ x, k40.K W x cs1.toList ∧ fitAccount x := by
    obtain ⟨fuel, hf⟩ := h1
    exact opens_account fuel enc W _ _ _ fuel _ _ (Nat.le_refl _) hf hw1
  have e1 := k40_open K1
  obtain rfl : cs1 = #[.int .u64 x1.f0, .string x1.f1, .string x1.f2, .int .i64 x1.f3] := by cases cs1; simpa using e1
  obtain ⟨cs2, rfl, _⟩ := okWide_struct Try.underlying24 (hval 2 _ v2 rfl rfl)
  have k2 := h2
  have lt2 : ∀ x ∈ p2, x.block < W.heap.size := by obtain ⟨m, hm⟩ := k2; exact DataW.trod_lt m _ _ _ hm
  have hw2 : ∀ m ∈ d2.weights Try.prog 24, m ≤ reachBytes := fun m hm => by have z := List.all_eq_true.1 hsz m (DataW.weights_mem_each (j := 2) rfl rfl m hm); simpa using z
  obtain ⟨x2, K2, g2⟩ : ∃ x, k24.K W x cs2.toList ∧ fitBlock x := by
    obtain ⟨fuel, hf⟩ := h2
    exact opens_block fuel enc W _ _ _ fuel _ _ (Nat.le_refl _) hf hw2
  obtain ⟨A2, c2, e2, hc2, hr2⟩ := k24_open K2
  obtain rfl : cs2 = #[.int .i64 x2.f0, .slice A2 x2.f1.length c2] := by cases cs2; simpa using e2
  clear hA0 hval0 hsz0 hsz
  refine (Acc.law x0 A0 c0 x1 x2 A2 c2 W hr0 hc0 g0 g1 hr2 hc2 g2).mono fun e W' ⟨he, bel⟩ => ?_
  subst he
  exact ⟨_, rfl, _, _, _, [], _, [], hW', trodAll_mk1 (shut_bool Try.underlying4 _), (trodAll_cons_mk (Below.trod laidOut (by kernel_rfl) (of_decide_eq_true (by kernel_rfl)) k0 bel lt0) (trodAll_cons_mk (Below.trod laidOut (by kernel_rfl) (of_decide_eq_true (by kernel_rfl)) k1 bel lt1) (trodAll_cons_mk (Below.trod laidOut (by kernel_rfl) (of_decide_eq_true (by kernel_rfl)) k2 bel lt2) trodAll_mk0))), rfl, bel.frame _, fun h => by cases h⟩
theorem over : Rows.blockAccountsRow.holds Try.pinned (OpenSpec.ofChange Rows.blockAccountsSpec) :=
  OpenClaim.holds_of_wide 5 Try.f5 rfl rfl rfl rfl rfl rfl rfl ⟨rfl, rfl, rfl, rfl, rfl⟩ rfl rfl rfl rfl rfl (by kernel_rfl) Try.func5 (by kernel_rfl)
    (of_decide_eq_true (by kernel_rfl)) (by unfold Func.isWrapper; first | (rw [if_pos (by decide +kernel)]; kernel_rfl) | (rw [if_neg (by decide +kernel)]; exact ⟨rfl, rfl⟩))
    (fun os started H enc _ => lifted os started H enc)
theorem proved : Rows.BlockAccountsSaid := over
#print axioms proved
end Go.Proofs.Ytenbofpmbdibjaa.blockAccounts
namespace Go.Proofs.Ytenbofpmbdibjaa
/-- The row, under a short name, for the claim. -/
theorem blockAccounts_holds : Rows.BlockAccountsSaid := blockAccounts.proved
end Go.Proofs.Ytenbofpmbdibjaa
