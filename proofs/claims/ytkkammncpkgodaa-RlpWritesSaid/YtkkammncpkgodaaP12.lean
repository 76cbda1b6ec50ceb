/- What Go functions of the program come to: a Lean function and its contract for each. Written by a program of this session over the kit's printer, some contracts by hand. -/
import Derived.Test.YtkkammncpkgodaaP0
import Derived.Test.YtkkammncpkgodaaP11
namespace Go.Proofs.Ytkkammncpkgodaa.P
open Go.RowKit Go.Proofs.YtkkammncpkgodaaW.PrintWords Go.Proofs.YtkkammncpkgodaaW.PrintLast Go.Proofs.YtkkammncpkgodaaW.PrintMore
attribute [local go_sem] max2_int min2_int max_two min_two max_three min_three max_four min_four   -- for this text's walks alone
set_option linter.unusedVariables false
set_option linter.unusedSimpArgs false

/-! ### rlp_Encode: function 22, by hand -/
def rlp_Encode.f (k : Nat) (a0_0 : Bool) (a0_1 : ByteArray) (l0_2 : List S25) : Option (ByteArray × Int) :=
  (rlp_Encode_1.f k a0_0 a0_1 l0_2 1 true).bind fun t => if t.2 = true then some (t.1, 0) else some ((⟨#[]⟩ : ByteArray), 1)
theorem rlp_Encode.mono : ∀ a0 a1 a2 k, LeO (rlp_Encode.f k a0 a1 a2) (rlp_Encode.f (k + 1) a0 a1 a2) := by
  intro a0 a1 a2 k
  unfold rlp_Encode.f
  repeat' first
      | (with_reducible exact rlp_Encode_1.mono _ _ _ _ _ _)
      | (with_reducible exact LeO.refl _)
      | (with_reducible refine LeO.ite ?_ ?_)
      | (with_reducible refine LeO.bind ?_ (fun _ => ?_))
set_option maxHeartbeats 4000000 in
set_option maxRecDepth 100000 in
theorem rlp_Encode.calls (k : Nat) (a0_0 : Bool) (a0_1 : ByteArray) (A0_2 : Option Addr) (c0_2 : Nat) (l0_2 : List (S25)) (r1 : ByteArray) (r2 : Int) (w : World) (hr0_2 : Kd.C k25 w A0_2 l0_2.length l0_2) (hc0_2 : l0_2.length ≤ c0_2) (h : rlp_Encode.f k a0_0 a0_1 l0_2 = some (r1, r2)) :
    Calls Try.prog 22 #[.agg #[.bool a0_0, .string a0_1, .slice A0_2 l0_2.length c0_2]] w fun e w' => e = .returned (.tuple #[.string r1, .int .i64 r2]) ∧ Below w.heap.size w w' := by
  unfold rlp_Encode.f at h
  replace h := Option.bind_eq_some_iff.mp h
  obtain ⟨⟨t, tb⟩, A1, h⟩ := h
  have hu25 := Try.underlying25
  have HR := Aside0.mk hr0_2
  have HC := Aside0.mk hc0_2
  have A1' := Aside0.mk A1
  have HB := Aside0.mk (Below.refl w.heap.size w)
  have H := Aside0.mk h
  clear hr0_2 hc0_2 A1 h
  cases tb with
  | false =>
    have h := H.out
    rw [if_neg (by simp)] at h
    simp only [Option.some.injEq, Prod.mk.injEq] at h
    obtain ⟨rfl, rfl⟩ := h
    clear H
    go_enter Try.func22, Try.ntmps22
    go_wp2_with (first
      | ((with_reducible refine gate_dst (N := 1) rfl ?_); refine box_event ?hg (N := 1) ?hd (cs := #[.bool a0_0, .string a0_1, .slice A0_2 l0_2.length c0_2]) (t := 25) ?hr ?_; (case hd => rfl); (case hg => rfl); (case hr => first | (go_simp; done) | (go_simp; rfl)); intro g1 hg w4 hbox hb; have HB4 := Aside0.mk (below_step HB.out hb); have BK := Aside0.mk hbox; clear hb hbox hg; have hcz0 : w4.cell? ⟨g1, 0, none⟩ = some (.bool a0_0) := (blk_cell BK.out 0).trans rfl; have hcz1 : w4.cell? ⟨g1, 1, none⟩ = some (.string a0_1) := (blk_cell BK.out 1).trans rfl; have hcz2 : w4.cell? ⟨g1, 2, none⟩ = some (.slice A0_2 l0_2.length c0_2) := (blk_cell BK.out 2).trans rfl; have hlt := blk_lt BK.out)
      | ((with_reducible refine gate_tmp rfl ?_); refine goesC_ (some 10) rfl rfl Try.func32 (by kernel_rfl) rfl #[.agg #[.bool a0_0, .string a0_1, .slice A0_2 l0_2.length c0_2], .int .i64 1] #[.pointer (some ⟨w4.heap.size, 0, none⟩), .pointer (some ⟨w4.heap.size + 1, 0, none⟩)] #[.agg #[.bool a0_0, .string a0_1, .slice A0_2 l0_2.length c0_2], .int .i64 1, .pointer (some ⟨w4.heap.size, 0, none⟩), .pointer (some ⟨w4.heap.size + 1, 0, none⟩)] rfl rfl rfl (by (try simp only [List.map_toArray, List.map_cons, List.map_nil]); first | done | rfl) ?_; (with_reducible refine (rlp_Encode_1.calls k a0_0 a0_1 _ _ l0_2 1 true t false w4.heap.size (w4.heap.size + 1) w _ HR.out HC.out ?s3 ?s4 ?s5 ?s6 A1'.out).mono ?_); (case s3 => exact below_alloc (below_alloc HB4.out _) _); (case s4 => exact HB4.out.size); (case s5 => exact blk_alloc (blk_new w4 _) _); (case s6 => have z := blk_new (w4.alloc (.cells #[.bool true] 4 (0, 0))) (.cells #[rlp_Encode_1.self w4.heap.size (w4.heap.size + 1)] 57 (0, 0)); rw [show (w4.alloc (.cells #[.bool true] 4 (0, 0))).heap.size = w4.heap.size + 1 from by simp] at z; exact z); rintro e w26 ⟨rfl, hb, hk, hcr⟩; refine ⟨_, rfl, ?_⟩; have hcr0 : w26.cell? ⟨w4.heap.size, 0, none⟩ = some (.bool false) := (blk_cell hcr 0).trans rfl; have HBe := Aside0.mk hb; clear hb hk hcr))
    go_ret2
    exact ⟨by first | rfl | (simp; done), HBe.out⟩
  | true =>
    have h := H.out
    rw [if_pos rfl] at h
    simp only [Option.some.injEq, Prod.mk.injEq] at h
    obtain ⟨rfl, rfl⟩ := h
    clear H
    go_enter Try.func22, Try.ntmps22
    go_wp2_with (first
      | ((with_reducible refine gate_dst (N := 1) rfl ?_); refine box_event ?hg (N := 1) ?hd (cs := #[.bool a0_0, .string a0_1, .slice A0_2 l0_2.length c0_2]) (t := 25) ?hr ?_; (case hd => rfl); (case hg => rfl); (case hr => first | (go_simp; done) | (go_simp; rfl)); intro g1 hg w4 hbox hb; have HB4 := Aside0.mk (below_step HB.out hb); have BK := Aside0.mk hbox; clear hb hbox hg; have hcz0 : w4.cell? ⟨g1, 0, none⟩ = some (.bool a0_0) := (blk_cell BK.out 0).trans rfl; have hcz1 : w4.cell? ⟨g1, 1, none⟩ = some (.string a0_1) := (blk_cell BK.out 1).trans rfl; have hcz2 : w4.cell? ⟨g1, 2, none⟩ = some (.slice A0_2 l0_2.length c0_2) := (blk_cell BK.out 2).trans rfl; have hlt := blk_lt BK.out)
      | ((with_reducible refine gate_tmp rfl ?_); refine goesC_ (some 10) rfl rfl Try.func32 (by kernel_rfl) rfl #[.agg #[.bool a0_0, .string a0_1, .slice A0_2 l0_2.length c0_2], .int .i64 1] #[.pointer (some ⟨w4.heap.size, 0, none⟩), .pointer (some ⟨w4.heap.size + 1, 0, none⟩)] #[.agg #[.bool a0_0, .string a0_1, .slice A0_2 l0_2.length c0_2], .int .i64 1, .pointer (some ⟨w4.heap.size, 0, none⟩), .pointer (some ⟨w4.heap.size + 1, 0, none⟩)] rfl rfl rfl (by (try simp only [List.map_toArray, List.map_cons, List.map_nil]); first | done | rfl) ?_; (with_reducible refine (rlp_Encode_1.calls k a0_0 a0_1 _ _ l0_2 1 true t true w4.heap.size (w4.heap.size + 1) w _ HR.out HC.out ?s3 ?s4 ?s5 ?s6 A1'.out).mono ?_); (case s3 => exact below_alloc (below_alloc HB4.out _) _); (case s4 => exact HB4.out.size); (case s5 => exact blk_alloc (blk_new w4 _) _); (case s6 => have z := blk_new (w4.alloc (.cells #[.bool true] 4 (0, 0))) (.cells #[rlp_Encode_1.self w4.heap.size (w4.heap.size + 1)] 57 (0, 0)); rw [show (w4.alloc (.cells #[.bool true] 4 (0, 0))).heap.size = w4.heap.size + 1 from by simp] at z; exact z); rintro e w26 ⟨rfl, hb, hk, hcr⟩; refine ⟨_, rfl, ?_⟩; have hcr0 : w26.cell? ⟨w4.heap.size, 0, none⟩ = some (.bool true) := (blk_cell hcr 0).trans rfl; have HBe := Aside0.mk hb; clear hb hk hcr))
    go_ret2
    exact ⟨by first | rfl | (simp; done), HBe.out⟩

end Go.Proofs.Ytkkammncpkgodaa.P
