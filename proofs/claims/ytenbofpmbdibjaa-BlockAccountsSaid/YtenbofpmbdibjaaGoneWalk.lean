/- BlockGone: the walk through the law, out of what the functions that it calls come to: an account that is gone in a write is gone, whatever was there; one that is not is there, with what the write says; born anew only if it wasn't there, or is made anew. -/
import Derived.Test.YtenbofpmbdibjaaP17
import Derived.Test.YtenbofpmbdibjaaP18
import Derived.Lib.Hide
import Derived.Test.YtenbofpmbdibjaaOpens16
namespace Go.Proofs.Ytenbofpmbdibjaa.P
open Go.RowKit Go.Proofs.YtenbofpmbdibjaaW.PrintWords Go.Proofs.YtenbofpmbdibjaaW.PrintLast Go.Proofs.YtenbofpmbdibjaaW.PrintMore
attribute [local go_sem] max2_int min2_int max_two min_two max_three min_three max_four min_four str_leq str_gtr str_geq
set_option linter.unusedVariables false
set_option linter.unusedSimpArgs false
namespace Gone
theorem cells7 {w : World} {g : Nat} {T : TypeId} {a b c d e f i : Value} (h : w.heap[g]? = some (.cells #[a, b, c, d, e, f, i] T (0, 0))) :
    w.cell? ⟨g, 0, none⟩ = some a ∧ w.cell? ⟨g, 1, none⟩ = some b ∧ w.cell? ⟨g, 2, none⟩ = some c ∧ w.cell? ⟨g, 3, none⟩ = some d ∧ w.cell? ⟨g, 4, none⟩ = some e ∧ w.cell? ⟨g, 5, none⟩ = some f ∧ w.cell? ⟨g, 6, none⟩ = some i :=
  ⟨blk_cell h 0, blk_cell h 1, blk_cell h 2, blk_cell h 3, blk_cell h 4, blk_cell h 5, blk_cell h 6⟩
theorem cells4 {w : World} {g : Nat} {T : TypeId} {a b c d : Value} (h : w.heap[g]? = some (.cells #[a, b, c, d] T (0, 0))) :
    w.cell? ⟨g, 0, none⟩ = some a ∧ w.cell? ⟨g, 1, none⟩ = some b ∧ w.cell? ⟨g, 2, none⟩ = some c ∧ w.cell? ⟨g, 3, none⟩ = some d :=
  ⟨blk_cell h 0, blk_cell h 1, blk_cell h 2, blk_cell h 3⟩
theorem second (w : World) (o o' : Obj) : ((w.alloc o).alloc o').heap[w.heap.size + 1]? = some o' := by
  have z := blk_new (w.alloc o) o'
  rwa [show (w.alloc o).heap.size = w.heap.size + 1 from by simp] at z
set_option maxHeartbeats 4000000 in
set_option maxRecDepth 100000 in
theorem gone (f0 f4 f5 : ByteArray) (f3 : Int) (reset : Bool) (A6 : Option Addr) (c6 : Nat) (l6 : List S50) (h0 h3 : Int) (h1 h2 : ByteArray) (n : Int) (w : World) (hr : Kd.C k50 w A6 l6.length l6) (hc : l6.length ≤ c6) :
    Calls Try.prog 7 #[.agg #[.string f0, .bool true, .bool reset, .int .u64 f3, .string f4, .string f5, .slice A6 l6.length c6], .agg #[.int .u64 h0, .string h1, .string h2, .int .i64 h3], .int .i64 n] w fun e w' => e = .returned (.bool true) ∧ Below w.heap.size w w' := by
  have hu38 := Try.underlying38
  have hu40 := Try.underlying40
  have HR := Aside0.mk hr
  have HC := Aside0.mk hc
  clear hr hc
  go_enter Try.func7, Try.ntmps7
  go_wp2_with fail
  refine (loesslaw16_awake.calls true _ rfl).mono ?_
  rintro e w1 ⟨rfl, hb1⟩
  have HB1 := Aside0.mk (Below.trans (B := w.heap.size) (a := w) (by repeat (first | exact Below.refl _ _ | (refine Below.alloc ?_ (by first | omega | simp) _))) (hb1.mono (by simp; omega)))
  have BW1 : Aside0 (w1.heap[w.heap.size]? = some (.cells #[.string f0, .bool true, .bool reset, .int .u64 f3, .string f4, .string f5, .slice A6 l6.length c6] 38 (0, 0))) := ⟨blk_below (blk_alloc (blk_new w _) _) hb1⟩
  have BH1 : Aside0 (w1.heap[w.heap.size + 1]? = some (.cells #[.int .u64 h0, .string h1, .string h2, .int .i64 h3] 40 (0, 0))) := ⟨blk_below (second w _ _) hb1⟩
  obtain ⟨p0, p1, p2, p3, p4, p5, p6⟩ := cells7 BW1.out
  obtain ⟨q0, q1, q2, q3⟩ := cells4 BH1.out
  clear hb1
  go_wp2_with fail
  refine (block_Account.calls f0 true reset f3 f4 f5 A6 c6 l6 h0 h1 h2 h3 true n _ _ _ _ _ _ (Kd.C_below HR.out HB1.out) HC.out rfl).mono ?_
  rintro e w2 ⟨rfl, hb2⟩
  have HB2 := Aside0.mk (HB1.out.trans (hb2.mono HB1.out.size))
  have BW2 := Aside0.mk (blk_below BW1.out hb2)
  have BH2 := Aside0.mk (blk_below BH1.out hb2)
  have l1 : w.heap.size < w2.heap.size := blk_lt BW2.out
  have l2 : w.heap.size + 1 < w2.heap.size := blk_lt BH2.out
  clear p0 p1 p2 p3 p4 p5 p6 q0 q1 q2 q3 hb2
  obtain ⟨p0, p1, p2, p3, p4, p5, p6⟩ := cells7 BW2.out
  obtain ⟨q0, q1, q2, q3⟩ := cells4 BH2.out
  go_wp2_with fail
  refine (block_Account.calls f0 true reset f3 f4 f5 A6 c6 l6 h0 h1 h2 h3 false n _ _ _ _ _ _ (Kd.C_alloc (Kd.C_below HR.out HB2.out) _) HC.out rfl).mono ?_
  rintro e w3 ⟨rfl, hb3⟩
  have HB3 := Aside0.mk (Below.trans (B := w.heap.size) (a := w) (by repeat (first | exact HB2.out | (refine Below.alloc ?_ (by first | omega | (simp; omega)) _))) (hb3.mono (by simp; omega)))
  have BW3 := Aside0.mk (blk_below (blk_alloc BW2.out _) hb3)
  have BH3 := Aside0.mk (blk_below (blk_alloc BH2.out _) hb3)
  have BA3 : Aside0 (w3.heap[w2.heap.size]? = some (.cells #[.int .u64 0, .string (⟨#[]⟩ : ByteArray), .string (⟨#[]⟩ : ByteArray), .int .i64 0] 40 (0, 0))) := ⟨blk_below (blk_new w2 _) hb3⟩
  have l3 : w.heap.size < w3.heap.size := blk_lt BW3.out
  have l4 : w.heap.size + 1 < w3.heap.size := blk_lt BH3.out
  have l5 : w2.heap.size < w3.heap.size := blk_lt BA3.out
  clear p0 p1 p2 p3 p4 p5 p6 q0 q1 q2 q3 hb3
  obtain ⟨p0, p1, p2, p3, p4, p5, p6⟩ := cells7 BW3.out
  obtain ⟨q0, q1, q2, q3⟩ := cells4 BH3.out
  obtain ⟨s0, s1, s2, s3⟩ := cells4 BA3.out
  go_wp2_with fail
  go_ret
  exact ⟨by first | rfl | (simp; done), by repeat (first | exact HB3.out | (refine Below.alloc ?_ (by first | omega | (simp; omega)) _))⟩
set_option maxHeartbeats 4000000 in
set_option maxRecDepth 100000 in
theorem made (f0 f4 f5 : ByteArray) (f3 : Int) (A6 : Option Addr) (c6 : Nat) (l6 : List S50) (h0 h3 : Int) (h1 h2 : ByteArray) (n : Int) (w : World) (hr : Kd.C k50 w A6 l6.length l6) (hc : l6.length ≤ c6) :
    Calls Try.prog 7 #[.agg #[.string f0, .bool false, .bool true, .int .u64 f3, .string f4, .string f5, .slice A6 l6.length c6], .agg #[.int .u64 h0, .string h1, .string h2, .int .i64 h3], .int .i64 n] w fun e w' => e = .returned (.bool true) ∧ Below w.heap.size w w' := by
  have hu38 := Try.underlying38
  have hu40 := Try.underlying40
  have HR := Aside0.mk hr
  have HC := Aside0.mk hc
  clear hr hc
  go_enter Try.func7, Try.ntmps7
  go_wp2_with fail
  refine (loesslaw16_awake.calls true _ rfl).mono ?_
  rintro e w1 ⟨rfl, hb1⟩
  have HB1 := Aside0.mk (Below.trans (B := w.heap.size) (a := w) (by repeat (first | exact Below.refl _ _ | (refine Below.alloc ?_ (by first | omega | simp) _))) (hb1.mono (by simp; omega)))
  have BW1 : Aside0 (w1.heap[w.heap.size]? = some (.cells #[.string f0, .bool false, .bool true, .int .u64 f3, .string f4, .string f5, .slice A6 l6.length c6] 38 (0, 0))) := ⟨blk_below (blk_alloc (blk_new w _) _) hb1⟩
  have BH1 : Aside0 (w1.heap[w.heap.size + 1]? = some (.cells #[.int .u64 h0, .string h1, .string h2, .int .i64 h3] 40 (0, 0))) := ⟨blk_below (second w _ _) hb1⟩
  obtain ⟨p0, p1, p2, p3, p4, p5, p6⟩ := cells7 BW1.out
  obtain ⟨q0, q1, q2, q3⟩ := cells4 BH1.out
  clear hb1
  go_wp2_with fail
  refine (block_Account.calls f0 false true f3 f4 f5 A6 c6 l6 h0 h1 h2 h3 true n _ _ _ _ _ _ (Kd.C_below HR.out HB1.out) HC.out rfl).mono ?_
  rintro e w2 ⟨rfl, hb2⟩
  have HB2 := Aside0.mk (HB1.out.trans (hb2.mono HB1.out.size))
  have BW2 := Aside0.mk (blk_below BW1.out hb2)
  have BH2 := Aside0.mk (blk_below BH1.out hb2)
  have l1 : w.heap.size < w2.heap.size := blk_lt BW2.out
  have l2 : w.heap.size + 1 < w2.heap.size := blk_lt BH2.out
  clear p0 p1 p2 p3 p4 p5 p6 q0 q1 q2 q3 hb2
  obtain ⟨p0, p1, p2, p3, p4, p5, p6⟩ := cells7 BW2.out
  obtain ⟨q0, q1, q2, q3⟩ := cells4 BH2.out
  go_wp2_with fail
  refine (block_Account.calls f0 false true f3 f4 f5 A6 c6 l6 h0 h1 h2 h3 false n _ _ _ _ _ _ (Kd.C_alloc (Kd.C_below HR.out HB2.out) _) HC.out rfl).mono ?_
  rintro e w3 ⟨rfl, hb3⟩
  have HB3 := Aside0.mk (Below.trans (B := w.heap.size) (a := w) (by repeat (first | exact HB2.out | (refine Below.alloc ?_ (by first | omega | (simp; omega)) _))) (hb3.mono (by simp; omega)))
  have BW3 := Aside0.mk (blk_below (blk_alloc BW2.out _) hb3)
  have BH3 := Aside0.mk (blk_below (blk_alloc BH2.out _) hb3)
  have BA3 : Aside0 (w3.heap[w2.heap.size]? = some (.cells #[.int .u64 f3, .string f4, .string f5, .int .i64 n] 40 (0, 0))) := ⟨blk_below (blk_new w2 _) hb3⟩
  have l3 : w.heap.size < w3.heap.size := blk_lt BW3.out
  have l4 : w.heap.size + 1 < w3.heap.size := blk_lt BH3.out
  have l5 : w2.heap.size < w3.heap.size := blk_lt BA3.out
  clear p0 p1 p2 p3 p4 p5 p6 q0 q1 q2 q3 hb3
  obtain ⟨p0, p1, p2, p3, p4, p5, p6⟩ := cells7 BW3.out
  obtain ⟨q0, q1, q2, q3⟩ := cells4 BH3.out
  obtain ⟨s0, s1, s2, s3⟩ := cells4 BA3.out
  go_wp2_with fail
  go_ret
  exact ⟨by first | rfl | (simp; done), by repeat (first | exact HB3.out | (refine Below.alloc ?_ (by first | omega | (simp; omega)) _))⟩
set_option maxHeartbeats 4000000 in
set_option maxRecDepth 100000 in
theorem kept (f0 f4 f5 : ByteArray) (f3 : Int) (A6 : Option Addr) (c6 : Nat) (l6 : List S50) (h0 h3 : Int) (h1 h2 : ByteArray) (n : Int) (w : World) (hr : Kd.C k50 w A6 l6.length l6) (hc : l6.length ≤ c6) :
    Calls Try.prog 7 #[.agg #[.string f0, .bool false, .bool false, .int .u64 f3, .string f4, .string f5, .slice A6 l6.length c6], .agg #[.int .u64 h0, .string h1, .string h2, .int .i64 h3], .int .i64 n] w fun e w' => e = .returned (.bool true) ∧ Below w.heap.size w w' := by
  have hu38 := Try.underlying38
  have hu40 := Try.underlying40
  have HR := Aside0.mk hr
  have HC := Aside0.mk hc
  clear hr hc
  go_enter Try.func7, Try.ntmps7
  go_wp2_with fail
  refine (loesslaw16_awake.calls true _ rfl).mono ?_
  rintro e w1 ⟨rfl, hb1⟩
  have HB1 := Aside0.mk (Below.trans (B := w.heap.size) (a := w) (by repeat (first | exact Below.refl _ _ | (refine Below.alloc ?_ (by first | omega | simp) _))) (hb1.mono (by simp; omega)))
  have BW1 : Aside0 (w1.heap[w.heap.size]? = some (.cells #[.string f0, .bool false, .bool false, .int .u64 f3, .string f4, .string f5, .slice A6 l6.length c6] 38 (0, 0))) := ⟨blk_below (blk_alloc (blk_new w _) _) hb1⟩
  have BH1 : Aside0 (w1.heap[w.heap.size + 1]? = some (.cells #[.int .u64 h0, .string h1, .string h2, .int .i64 h3] 40 (0, 0))) := ⟨blk_below (second w _ _) hb1⟩
  obtain ⟨p0, p1, p2, p3, p4, p5, p6⟩ := cells7 BW1.out
  obtain ⟨q0, q1, q2, q3⟩ := cells4 BH1.out
  clear hb1
  go_wp2_with fail
  refine (block_Account.calls f0 false false f3 f4 f5 A6 c6 l6 h0 h1 h2 h3 true n _ _ _ _ _ _ (Kd.C_below HR.out HB1.out) HC.out rfl).mono ?_
  rintro e w2 ⟨rfl, hb2⟩
  have HB2 := Aside0.mk (HB1.out.trans (hb2.mono HB1.out.size))
  have BW2 := Aside0.mk (blk_below BW1.out hb2)
  have BH2 := Aside0.mk (blk_below BH1.out hb2)
  have l1 : w.heap.size < w2.heap.size := blk_lt BW2.out
  have l2 : w.heap.size + 1 < w2.heap.size := blk_lt BH2.out
  clear p0 p1 p2 p3 p4 p5 p6 q0 q1 q2 q3 hb2
  obtain ⟨p0, p1, p2, p3, p4, p5, p6⟩ := cells7 BW2.out
  obtain ⟨q0, q1, q2, q3⟩ := cells4 BH2.out
  go_wp2_with fail
  refine (block_Account.calls f0 false false f3 f4 f5 A6 c6 l6 h0 h1 h2 h3 false n _ _ _ _ _ _ (Kd.C_alloc (Kd.C_below HR.out HB2.out) _) HC.out rfl).mono ?_
  rintro e w3 ⟨rfl, hb3⟩
  have HB3 := Aside0.mk (Below.trans (B := w.heap.size) (a := w) (by repeat (first | exact HB2.out | (refine Below.alloc ?_ (by first | omega | (simp; omega)) _))) (hb3.mono (by simp; omega)))
  have BW3 := Aside0.mk (blk_below (blk_alloc BW2.out _) hb3)
  have BH3 := Aside0.mk (blk_below (blk_alloc BH2.out _) hb3)
  have BA3 : Aside0 (w3.heap[w2.heap.size]? = some (.cells #[.int .u64 f3, .string f4, .string f5, .int .i64 h3] 40 (0, 0))) := ⟨blk_below (blk_new w2 _) hb3⟩
  have l3 : w.heap.size < w3.heap.size := blk_lt BW3.out
  have l4 : w.heap.size + 1 < w3.heap.size := blk_lt BH3.out
  have l5 : w2.heap.size < w3.heap.size := blk_lt BA3.out
  clear p0 p1 p2 p3 p4 p5 p6 q0 q1 q2 q3 hb3
  obtain ⟨p0, p1, p2, p3, p4, p5, p6⟩ := cells7 BW3.out
  obtain ⟨q0, q1, q2, q3⟩ := cells4 BH3.out
  obtain ⟨s0, s1, s2, s3⟩ := cells4 BA3.out
  go_wp2_with fail
  go_ret
  exact ⟨by first | rfl | (simp; done), by repeat (first | exact HB3.out | (refine Below.alloc ?_ (by first | omega | (simp; omega)) _))⟩
theorem law (x : S38) (A6 : Option Addr) (c6 : Nat) (y : S40) (n : Int) (w : World) (hr : Kd.C k50 w A6 x.f6.length x.f6) (hc : x.f6.length ≤ c6) (_ : Go.Proofs.Ytenbofpmbdibjaa.RE.fitWrite x) (_ : Go.Proofs.Ytenbofpmbdibjaa.RE.fitAccount y) (_ : (Lit.int .i64 n).wf = true) :
    Calls Try.prog 7 #[.agg #[.string x.f0, .bool x.f1, .bool x.f2, .int .u64 x.f3, .string x.f4, .string x.f5, .slice A6 x.f6.length c6], .agg #[.int .u64 y.f0, .string y.f1, .string y.f2, .int .i64 y.f3], .int .i64 n] w fun e w' => e = .returned (.bool true) ∧ Below w.heap.size w w' := by
  obtain ⟨f0, f1, f2, f3, f4, f5, l6⟩ := x
  obtain ⟨h0, h1, h2, h3⟩ := y
  cases f1
  · cases f2
    · exact kept f0 f4 f5 f3 A6 c6 l6 h0 h3 h1 h2 n w hr hc
    · exact made f0 f4 f5 f3 A6 c6 l6 h0 h3 h1 h2 n w hr hc
  · exact gone f0 f4 f5 f3 f2 A6 c6 l6 h0 h3 h1 h2 n w hr hc
end Gone
end Go.Proofs.Ytenbofpmbdibjaa.P
