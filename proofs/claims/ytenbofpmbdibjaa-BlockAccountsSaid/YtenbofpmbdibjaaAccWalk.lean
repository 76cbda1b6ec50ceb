/- BlockAccounts: the walk through the law, out of what the functions that it calls come to: what an account is behind a write is as the document says; its birth stays as long as it is there, and is not made anew; a block's addresses are its writes'. -/
import Derived.Test.YtenbofpmbdibjaaP1
import Derived.Test.YtenbofpmbdibjaaP17
import Derived.Test.YtenbofpmbdibjaaP17
import Derived.Test.YtenbofpmbdibjaaP19
import Derived.Test.YtenbofpmbdibjaaP18
import Derived.Test.YtenbofpmbdibjaaGoneWalk
import Derived.Test.YtenbofpmbdibjaaBa
namespace Go.Proofs.Ytenbofpmbdibjaa.P
open Go.RowKit Go.Proofs.YtenbofpmbdibjaaW.PrintWords Go.Proofs.YtenbofpmbdibjaaW.PrintLast Go.Proofs.YtenbofpmbdibjaaW.PrintMore Go.Proofs.Ytenbofpmbdibjaa.RE
attribute [local go_sem] max2_int min2_int max_two min_two max_three min_three max_four min_four str_leq str_gtr str_geq
attribute [local go_sem high] eqA40
set_option linter.unusedVariables false
set_option linter.unusedSimpArgs false
namespace Acc
theorem touched_l0 (l : List S38) (h : l.length < 8796093022208) (d : Nat) : ∀ (i k : Nat), i + d = l.length → d < k → block_Touched.l0 k ((l.take i).map (·.f0)) l (l.length : Int) (i : Int) = some (l.map (·.f0)) := by
  induction d with
  | zero =>
    intro i k hi hk
    obtain ⟨k, rfl⟩ : ∃ m, k = m + 1 := ⟨k - 1, by omega⟩
    simp only [block_Touched.l0]
    rw [if_neg (by omega), List.take_of_length_le (by omega)]
  | succ d ih =>
    intro i k hi hk
    obtain ⟨k, rfl⟩ : ∃ m, k = m + 1 := ⟨k - 1, by omega⟩
    have hlt : i < l.length := by omega
    simp only [block_Touched.l0]
    rw [if_pos (by omega), if_pos (by omega), if_pos (by omega), if_pos (by rw [List.length_map, List.length_take]; omega), show wrap64 ((i : Int) + 1) = ((i + 1 : Nat) : Int) from by rw [w64 (by omega) (by omega)]; omega]
    have e : (l.take i).map (·.f0) ++ [(rd_T38 l (i : Int)).f0] = (l.take (i + 1)).map (·.f0) := by
      rw [List.take_succ_eq_append_getElem hlt, List.map_append]
      unfold rd_T38
      rw [Int.toNat_natCast, List.getD_eq_getElem?_getD, List.getElem?_eq_getElem hlt]; rfl
    rw [e]
    exact ih (i + 1) k (by omega) (by omega)
theorem touched (n : Int) (l : List S38) (h : l.length < 8796093022208) : block_Touched.f (l.length + 1) n l = some (l.map (·.f0)) := by
  unfold block_Touched.f
  exact touched_l0 l h l.length 0 (l.length + 1) (by omega) (by omega)
theorem acc_some (f0 f4 f5 : ByteArray) (f1 f2 : Bool) (f3 : Int) (l6 : List S50) (h0 h3 : Int) (h1 h2 : ByteArray) (was : Bool) (n : Int) : ∃ r1 r2 r3 r4 r5, block_Account.f f0 f1 f2 f3 f4 f5 l6 h0 h1 h2 h3 was n = some (r1, r2, r3, r4, r5) ∧ loessref16_Account.f f0 f1 f2 f3 f4 f5 l6 h0 h1 h2 h3 was n = some (r1, r2, r3, r4, r5) ∧ (r5 == f1) = false := by
  unfold block_Account.f loessref16_Account.f
  cases f1 <;> cases f2 <;> cases was <;> exact ⟨_, _, _, _, _, rfl, rfl, rfl⟩
/-- What stays through the law: the three arguments' own blocks, and all that was there. -/
def Inv (w wr : World) (c7 c4 c2 : Array Value) : Prop := Below w.heap.size w wr ∧ wr.heap[w.heap.size]? = some (.cells c7 38 (0, 0)) ∧ wr.heap[w.heap.size + 1]? = some (.cells c4 40 (0, 0)) ∧ wr.heap[w.heap.size + 1 + 1]? = some (.cells c2 24 (0, 0))
theorem Inv.step {w wr w' : World} {c7 c4 c2 : Array Value} (h : Inv w wr c7 c4 c2) (hb : Below wr.heap.size wr w') : Inv w w' c7 c4 c2 :=
  ⟨h.1.trans (hb.mono h.1.size), blk_below h.2.1 hb, blk_below h.2.2.1 hb, blk_below h.2.2.2 hb⟩
theorem Inv.alloc {w wr : World} {c7 c4 c2 : Array Value} (h : Inv w wr c7 c4 c2) (o : Obj) : Inv w (wr.alloc o) c7 c4 c2 := h.step ((Below.refl _ _).alloc (Nat.le_refl _) _)
theorem third (w : World) (o o' o'' : Obj) : (((w.alloc o).alloc o').alloc o'').heap[w.heap.size + 1 + 1]? = some o'' := by
  have z := blk_new ((w.alloc o).alloc o') o''
  rwa [show ((w.alloc o).alloc o').heap.size = w.heap.size + 1 + 1 from by simp] at z
theorem Inv.start (w : World) (c7 c4 c2 : Array Value) : Inv w (((w.alloc (.cells c7 38 (0, 0))).alloc (.cells c4 40 (0, 0))).alloc (.cells c2 24 (0, 0))) c7 c4 c2 :=
  ⟨(((Below.refl _ _).alloc (Nat.le_refl _) _).alloc (by simp) _).alloc (by simp; omega) _, blk_alloc (blk_alloc (blk_new w _) _) _, blk_alloc (Gone.second w _ _) _, third w _ _ _⟩
theorem cells2 {w : World} {g : Nat} {T : TypeId} {a b : Value} (h : w.heap[g]? = some (.cells #[a, b] T (0, 0))) : w.cell? ⟨g, 0, none⟩ = some a ∧ w.cell? ⟨g, 1, none⟩ = some b := ⟨blk_cell h 0, blk_cell h 1⟩
set_option maxHeartbeats 8000000 in
set_option maxRecDepth 100000 in
theorem main (f0 f4 f5 : ByteArray) (f1 f2 : Bool) (f3 : Int) (A6 : Option Addr) (c6 : Nat) (l6 : List S50) (h0 h3 : Int) (h1 h2 : ByteArray) (n : Int) (A2 : Option Addr) (c2 : Nat) (l2 : List S38) (w : World) (hr : Kd.C k50 w A6 l6.length l6) (hc : l6.length ≤ c6)
    (hr2 : Kd.C k38 w A2 l2.length l2) (hc2 : l2.length ≤ c2) (hl : l2.length < 8796093022208) :
    Calls Try.prog 5 #[.agg #[.string f0, .bool f1, .bool f2, .int .u64 f3, .string f4, .string f5, .slice A6 l6.length c6], .agg #[.int .u64 h0, .string h1, .string h2, .int .i64 h3], .agg #[.int .i64 n, .slice A2 l2.length c2]] w fun e w' => e = .returned (.bool true) ∧ Below w.heap.size w w' := by
  have hu38 := Try.underlying38
  have hu40 := Try.underlying40
  have hu24 := Try.underlying24
  have HR := Aside0.mk hr
  have HC := Aside0.mk hc
  have HR2 := Aside0.mk hr2
  have HC2 := Aside0.mk hc2
  clear hr hc hr2 hc2
  go_enter Try.func5, Try.ntmps5
  go_wp2_with fail
  refine (loesslaw16_awake.calls true _ rfl).mono ?_
  rintro e w1 ⟨rfl, hb1⟩
  have HI := Aside0.mk ((Inv.start w _ _ _).step hb1)
  clear hb1
  go_wp2_with fail
  go_loopw [8] (fun i wr => ∃ k : Nat, k ≤ 2 ∧ i = .int .i64 k ∧ Aside0 (Inv w wr #[.string f0, .bool f1, .bool f2, .int .u64 f3, .string f4, .string f5, .slice A6 l6.length c6] #[.int .u64 h0, .string h1, .string h2, .int .i64 h3] #[.int .i64 n, .slice A2 l2.length c2])) (fun i _ => 2 - (intOf i).toNat)
  case atStart => exact ⟨0, by omega, rfl, HI⟩
  case round =>
    obtain ⟨k, hk, rfl, HI1⟩ := hrel
    clear HI
    obtain ⟨p0, p1, p2, p3, p4, p5, p6⟩ := Gone.cells7 HI1.out.2.1
    obtain ⟨q0, q1, q2, q3⟩ := Gone.cells4 HI1.out.2.2.1
    obtain ⟨s0, s1⟩ := cells2 HI1.out.2.2.2
    by_cases hlt : k < 2
    · obtain ⟨r1, r2, r3, r4, r5, e1, e2, e3⟩ := acc_some f0 f4 f5 f1 f2 f3 l6 h0 h3 h1 h2 ((k : Int) == 1) n
      have E1 := Aside0.mk e1
      have E2 := Aside0.mk e2
      clear e1 e2
      go_wp2_with fail
      refine (block_Account.calls f0 f1 f2 f3 f4 f5 A6 c6 l6 h0 h1 h2 h3 _ n _ _ _ _ _ _ (Kd.C_below HR.out HI1.out.1) HC.out E1.out).mono ?_
      rintro e w2 ⟨rfl, hb2⟩
      have HI2 := Aside0.mk (HI1.out.step hb2)
      have g1_ : w.heap.size < w2.heap.size := blk_lt HI2.out.2.1
      have g2_ : w.heap.size + 1 < w2.heap.size := blk_lt HI2.out.2.2.1
      have g3_ : w.heap.size + 1 + 1 < w2.heap.size := blk_lt HI2.out.2.2.2
      clear p0 p1 p2 p3 p4 p5 p6 q0 q1 q2 q3 s0 s1 hb2
      obtain ⟨p0, p1, p2, p3, p4, p5, p6⟩ := Gone.cells7 HI2.out.2.1
      obtain ⟨q0, q1, q2, q3⟩ := Gone.cells4 HI2.out.2.2.1
      obtain ⟨s0, s1⟩ := cells2 HI2.out.2.2.2
      go_wp2_with fail
      refine (loessref16_Account.calls f0 f1 f2 f3 f4 f5 A6 c6 l6 h0 h1 h2 h3 _ n _ _ _ _ _ _ (Kd.C_alloc (Kd.C_below HR.out HI2.out.1) _) HC.out E2.out).mono ?_
      rintro e w3 ⟨rfl, hb3⟩
      have HI3 := Aside0.mk ((HI2.out.alloc _).step hb3)
      have BA3 : Aside0 (w3.heap[w2.heap.size]? = some (.cells #[.int .u64 r1, .string r2, .string r3, .int .i64 r4] 40 (0, 0))) := ⟨blk_below (blk_new w2 _) hb3⟩
      have g4_ : w.heap.size < w3.heap.size := blk_lt HI3.out.2.1
      have g5_ : w.heap.size + 1 < w3.heap.size := blk_lt HI3.out.2.2.1
      have g6_ : w.heap.size + 1 + 1 < w3.heap.size := blk_lt HI3.out.2.2.2
      have g7_ : w2.heap.size < w3.heap.size := blk_lt BA3.out
      clear p0 p1 p2 p3 p4 p5 p6 q0 q1 q2 q3 s0 s1 hb3
      obtain ⟨p0, p1, p2, p3, p4, p5, p6⟩ := Gone.cells7 HI3.out.2.1
      obtain ⟨q0, q1, q2, q3⟩ := Gone.cells4 HI3.out.2.2.1
      obtain ⟨s0, s1⟩ := cells2 HI3.out.2.2.2
      obtain ⟨t0, t1, t2, t3⟩ := Gone.cells4 BA3.out
      go_wp2_with fail
      exact ⟨⟨k + 1, by omega, by go_num, ⟨HI3.out.alloc _⟩⟩, by simp [intOf]; omega⟩
    · obtain rfl : k = 2 := by omega
      obtain ⟨R, hR⟩ : ∃ R, l2.map (·.f0) = R := ⟨_, rfl⟩
      have hlen : R.length = l2.length := by rw [← hR, List.length_map]
      have HRR := Lib.hid hR
      have E := Aside0.mk (touched n l2 hl)
      rw [hR] at E
      clear hR
      go_wp2_with fail
      refine (block_Touched.calls (l2.length + 1) n A2 c2 l2 _ _ (Kd.C_below HR2.out HI1.out.1) HC2.out E.out).mono ?_
      rintro e w4 ⟨v, rfl, ho, hb4⟩
      obtain ⟨A, c, rfl⟩ := Kd.R_slice ho
      have HT := Aside0.mk (Kd.R_reads' ho).2.2
      have HI4 := Aside0.mk (HI1.out.step hb4)
      clear p0 p1 p2 p3 p4 p5 p6 q0 q1 q2 q3 s0 s1 hb4 ho HI1
      obtain ⟨s0, s1⟩ := cells2 HI4.out.2.2.2
      have d1 : (((R.length : Nat) : Int) != ((l2.length : Nat) : Int)) = false := by rw [bne_eq_false_iff_eq]; omega
      have d2 : (R.length == l2.length) = true := by rw [beq_iff_eq]; omega
      have HL := Lib.hid hlen
      clear hlen
      go_wp2_with fail
      go_loopw [14] (fun i wr => ∃ k : Nat, k ≤ R.length ∧ i = .int .i64 k ∧ Aside0 (Below w4.heap.size w4 wr)) (fun i _ => R.length - (intOf i).toNat)
      case atStart => exact ⟨0, Nat.zero_le _, rfl, ⟨Below.refl _ _⟩⟩
      case round =>
        obtain ⟨k, hk, rfl, HB5⟩ := hrel
        by_cases hlt2 : k < R.length
        · have HT5 := Aside0.mk (Kd.C_below HT.out HB5.out)
          have HW5 := Aside0.mk (Kd.C_below HR2.out (HI4.out.1.trans (HB5.out.mono HI4.out.1.size)))
          obtain ⟨s0', s1'⟩ := cells2 (blk_below HI4.out.2.2.2 HB5.out)
          obtain ⟨x, ad, ad2, rfl, rfl, g1, g2⟩ : ∃ x ad ad2, A = some ad ∧ A2 = some ad2 ∧ wr.cell? (ad.add k) = some (.string x) ∧ wr.cell? (ad2.add (k * 7)) = some (.string x) := by
            have hl2 : k < l2.length := by have := HL.out; omega
            obtain ⟨ad, cs, e1, _, hK, hcc⟩ := Kd.C_get HT5.out (⟨#[]⟩ : ByteArray) (k : Int) (by omega) (by omega)
            obtain ⟨ad2, A6', c6', e2, hx, _⟩ := at_T38 HW5.out (k : Int) (by omega) (by omega)
            have hK' : cs = [.string (R.getD (k : Int).toNat (⟨#[]⟩ : ByteArray))] := hK
            have g1 := hcc 0 (.string (R.getD (k : Int).toNat (⟨#[]⟩ : ByteArray))) (by rw [hK']; rfl)
            refine ⟨_, ad, ad2, e1, e2, ?_, hx⟩
            have ex : R.getD (k : Int).toNat (⟨#[]⟩ : ByteArray) = (rd_T38 l2 (k : Int)).f0 := by
              rw [← HRR.out]
              unfold rd_T38
              rw [Int.toNat_natCast, List.getD_eq_getElem?_getD, List.getElem?_map, List.getD_eq_getElem?_getD, List.getElem?_eq_getElem hl2]; rfl
            rw [ex] at g1
            have ez : (k : Int).toNat * (Kd.string).sz + 0 = k := by show (k : Int).toNat * 1 + 0 = k; omega
            rw [ez] at g1
            exact g1
          have b1 : decide ((k : Int) < (R.length : Int)) = true := decide_eq_true (by omega)
          have b2 : decide ((k : Int) < (l2.length : Int)) = true := decide_eq_true (by have := HL.out; omega)
          have b3 : k < l2.length := by have := HL.out; omega
          go_wp2_with fail
          go_quiet (fail)
          go_wp2_with fail
          exact ⟨⟨k + 1, by omega, by go_num, ⟨pw_below_drewN HB5.out _⟩⟩, by simp [intOf]; omega⟩
        · go_wp2_with fail
          go_ret
          exact ⟨by first | rfl | (simp; done), HI4.out.1.trans (HB5.out.mono HI4.out.1.size)⟩
theorem law (x : S38) (A6 : Option Addr) (c6 : Nat) (y : S40) (z : S24) (A2 : Option Addr) (c2 : Nat) (w : World) (hr : Kd.C k50 w A6 x.f6.length x.f6) (hc : x.f6.length ≤ c6) (_ : fitWrite x) (_ : fitAccount y)
    (hr2 : Kd.C k38 w A2 z.f1.length z.f1) (hc2 : z.f1.length ≤ c2) (g : fitBlock z) :
    Calls Try.prog 5 #[.agg #[.string x.f0, .bool x.f1, .bool x.f2, .int .u64 x.f3, .string x.f4, .string x.f5, .slice A6 x.f6.length c6], .agg #[.int .u64 y.f0, .string y.f1, .string y.f2, .int .i64 y.f3], .agg #[.int .i64 z.f0, .slice A2 z.f1.length c2]] w fun e w' => e = .returned (.bool true) ∧ Below w.heap.size w w' := by
  have hb := g.2.1
  rw [show Try.prog.bytesOf 38 = 88 from by kernel_rfl] at hb
  have : reachBytes = 140737488351232 := rfl
  exact main _ _ _ _ _ _ A6 c6 _ _ _ _ _ _ A2 c2 _ w hr hc hr2 hc2 (by omega)
end Acc
end Go.Proofs.Ytenbofpmbdibjaa.P
