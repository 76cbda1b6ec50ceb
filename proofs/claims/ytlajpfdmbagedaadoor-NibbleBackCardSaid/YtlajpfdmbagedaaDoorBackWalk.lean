/- NibbleBack: the walk through the law, out of what the functions that it calls come to: bytes become a row and are bytes again; a row is packed and read again; no two rows are packed alike. -/
import Derived.Test.YtlajpfdmbagedaaDoorNibAwake
import Derived.Lib.Hide
namespace Go.Proofs.YtlajpfdmbagedaaDoor.P
open Go.RowKit Go.Proofs.YtlajpfdmbagedaaDoorW.PrintWords Go.Proofs.YtlajpfdmbagedaaDoorW.PrintLast Go.Proofs.YtlajpfdmbagedaaDoorW.PrintMore Go.Proofs.YtlajpfdmbagedaaDoor.RE Go.Proofs.YtlajpfdmbagedaaDoorW.Nib Go.Proofs.YtlajpfdmbagedaaDoor.NE
attribute [local go_sem] max2_int min2_int max_two min_two max_three min_three max_four min_four
set_option linter.unusedVariables false
set_option linter.unusedSimpArgs false
def Gives (f : FuncId) (args : Array Value) (v : Value) : Prop := ∀ w, Calls Tryd.prog f args w fun e w' => e = .returned v ∧ Below w.heap.size w w'
theorem Gives.calls {f : FuncId} {args : Array Value} {v : Value} (h : Gives f args v) (w : World) : Calls Tryd.prog f args w fun e w' => e = .returned v ∧ Below w.heap.size w w' := h w
theorem gives_awake : Gives 9 #[] (.bool true) := by
  intro w
  obtain ⟨k, hk⟩ := Ev.rounds ev_awake
  exact loesslaw03_awake.calls k true w hk
theorem gives_Of (s : Bs) (h : s.length ≤ 70000000000000) : Gives 10 #[.string (ba s)] (.string (ba (nib s))) := by
  intro w
  obtain ⟨k, hk⟩ := Ev.rounds (ev_Of s h)
  exact nibble_Of.calls k _ _ w hk
theorem gives_Bytes (s : Bs) (h : s.length ≤ 140737488351232) : Gives 17 #[.string (ba s)] (.tuple #[.string (bytesR (Go.Proofs.YtlajpfdmbagedaaDoorW.Nib.bytes s)).1, .bool (bytesR (Go.Proofs.YtlajpfdmbagedaaDoorW.Nib.bytes s)).2]) := by
  intro w
  obtain ⟨k, hk⟩ := Ev.rounds (ev_Bytes s h)
  exact nibble_Bytes.calls k _ _ _ w hk
theorem gives_Right (s : Bs) (h : s.length ≤ 140737488351232) (w : World) : Calls Tryd.prog 16 #[.string (ba s)] w fun e w' => e = .returned (.bool (right s)) ∧ Drawn0 w w' := by
  obtain ⟨k, hk⟩ := Ev.rounds (ev_Right s h)
  exact nibble_Right.calls k _ _ w hk
theorem gives_Pack (s : Bs) (leaf : Bool) (h : s.length ≤ 140737488351232) : Gives 15 #[.string (ba s), .bool leaf] (.tuple #[.string (packR (pack s leaf)).1, .int .i64 (packR (pack s leaf)).2]) := by
  intro w
  obtain ⟨k, hk⟩ := Ev.rounds (ev_Pack s leaf h)
  exact nibble_Pack.calls k _ _ _ _ w hk
theorem gives_Unpack (s : Bs) (h : s.length ≤ 70000000000000) : Gives 14 #[.string (ba s)] (.tuple #[.string (unpackR (unpack s)).1, .bool (unpackR (unpack s)).2.1, .int .i64 (unpackR (unpack s)).2.2]) := by
  intro w
  obtain ⟨k, hk⟩ := Ev.rounds (ev_Unpack s h)
  exact nibble_Unpack.calls k _ _ _ _ w hk
set_option maxHeartbeats 8000000 in
set_option maxRecDepth 100000 in
theorem back_up (s t : ByteArray) (la lb : Bool) (w : World) (h : 3000 < s.size ∨ 3000 < t.size) :
    Calls Tryd.prog 8 #[.string s, .string t, .agg #[.bool la, .bool lb]] w fun e w' => e = .returned (.bool true) ∧ Below w.heap.size w w' := by
  have GW := Aside0.mk gives_awake
  by_cases h1 : 3000 < s.size
  · have d1 : decide (3000 < (s.size : Int)) = true := decide_eq_true (by omega)
    have d1' : decide (3000 < s.size) = true := decide_eq_true h1
    clear h h1
    go_enter Tryd.func8, Tryd.ntmps8
    go_wp2_with (first
      | ((with_reducible refine gate_dst (N := 5) rfl ?_); refine box_event ?hg (N := 5) ?hd (cs := #[.bool la, .bool lb]) (t := 36) ?hr ?_; (case hd => rfl); (case hg => rfl); (case hr => first | (go_simp; done) | (go_simp; rfl)); intro g1 hg w4 hbox hb; have HB := Aside0.mk hb; have BK := Aside0.mk hbox; clear hb hbox hg; have hcz0 : w4.cell? ⟨g1, 0, none⟩ = some (.bool la) := (blk_cell BK.out 0).trans rfl; have hcz1 : w4.cell? ⟨g1, 1, none⟩ = some (.bool lb) := (blk_cell BK.out 1).trans rfl; have hlt := blk_lt BK.out)
      | (go_at_call 9; (first | (with_reducible refine (Gives.calls GW.out _).mono ?_)); rintro e w5 ⟨rfl, hb⟩; have HB' := Aside0.mk (below_step (by repeat (first | exact HB.out | apply pw_below_drewN)) hb); have hcy0 : w5.cell? ⟨g1, 0, none⟩ = some (.bool la) := cb_cell (by first | exact hcz0 | (simp only [World.cell?_drewN]; exact hcz0)) hb; have hcy1 : w5.cell? ⟨g1, 1, none⟩ = some (.bool lb) := cb_cell (by first | exact hcz1 | (simp only [World.cell?_drewN]; exact hcz1)) hb; clear hcz0 hcz1 HB hb; have HB := HB'; have hcz0 := hcy0; have hcz1 := hcy1; clear HB' hcy0 hcy1))
    go_ret
    exact ⟨by first | rfl | (simp; done), by repeat (first | exact HB.out | apply pw_below_drewN)⟩
  · have d1 : decide (3000 < (s.size : Int)) = false := decide_eq_false (by omega)
    have d1' : decide (3000 < s.size) = false := decide_eq_false h1
    have d2 : decide (3000 < (t.size : Int)) = true := decide_eq_true (by omega)
    have d2' : decide (3000 < t.size) = true := decide_eq_true (by omega)
    clear h h1
    go_enter Tryd.func8, Tryd.ntmps8
    go_wp2_with (first
      | ((with_reducible refine gate_dst (N := 5) rfl ?_); refine box_event ?hg (N := 5) ?hd (cs := #[.bool la, .bool lb]) (t := 36) ?hr ?_; (case hd => rfl); (case hg => rfl); (case hr => first | (go_simp; done) | (go_simp; rfl)); intro g1 hg w4 hbox hb; have HB := Aside0.mk hb; have BK := Aside0.mk hbox; clear hb hbox hg; have hcz0 : w4.cell? ⟨g1, 0, none⟩ = some (.bool la) := (blk_cell BK.out 0).trans rfl; have hcz1 : w4.cell? ⟨g1, 1, none⟩ = some (.bool lb) := (blk_cell BK.out 1).trans rfl; have hlt := blk_lt BK.out)
      | (go_at_call 9; (first | (with_reducible refine (Gives.calls GW.out _).mono ?_)); rintro e w5 ⟨rfl, hb⟩; have HB' := Aside0.mk (below_step (by repeat (first | exact HB.out | apply pw_below_drewN)) hb); have hcy0 : w5.cell? ⟨g1, 0, none⟩ = some (.bool la) := cb_cell (by first | exact hcz0 | (simp only [World.cell?_drewN]; exact hcz0)) hb; have hcy1 : w5.cell? ⟨g1, 1, none⟩ = some (.bool lb) := cb_cell (by first | exact hcz1 | (simp only [World.cell?_drewN]; exact hcz1)) hb; clear hcz0 hcz1 HB hb; have HB := HB'; have hcz0 := hcy0; have hcz1 := hcy1; clear HB' hcy0 hcy1))
    go_ret
    exact ⟨by first | rfl | (simp; done), by repeat (first | exact HB.out | apply pw_below_drewN)⟩
set_option maxHeartbeats 8000000 in
set_option maxRecDepth 100000 in
theorem back_main (s t A C P Q : ByteArray) (la lb : Bool) (w : World) (hs : s.size ≤ 3000) (ht : t.size ≤ 3000) (gs : Gives 10 #[.string s] (.string A)) (gt : Gives 10 #[.string t] (.string C))
    (gb : Gives 17 #[.string A] (.tuple #[.string s, .bool true])) (gr : ∀ w, Calls Tryd.prog 16 #[.string A] w fun e w' => e = .returned (.bool true) ∧ Drawn0 w w')
    (hA : A.size = 2 * s.size) (hC : C.size ≤ 6000)
    (gp : Gives 15 #[.string A, .bool la] (.tuple #[.string P, .int .i64 0])) (gu : Gives 14 #[.string P] (.tuple #[.string A, .bool la, .int .i64 0]))
    (gq : Gives 15 #[.string (if C.size = 0 then C else C.extract 1 C.size), .bool lb] (.tuple #[.string Q, .int .i64 0])) (gv : Gives 14 #[.string Q] (.tuple #[.string (if C.size = 0 then C else C.extract 1 C.size), .bool lb, .int .i64 0]))
    (hpq : P.toList ≠ Q.toList ∨ (P = Q ∧ A = (if C.size = 0 then C else C.extract 1 C.size) ∧ la = lb)) :
    Calls Tryd.prog 8 #[.string s, .string t, .agg #[.bool la, .bool lb]] w fun e w' => e = .returned (.bool true) ∧ Below w.heap.size w w' := by
  have GW := Aside0.mk gives_awake
  have GS := Aside0.mk gs
  have GT := Aside0.mk gt
  have GB := Aside0.mk gb
  have GR := Aside0.mk gr
  have d1 : decide (3000 < (s.size : Int)) = false := decide_eq_false (by omega)
  have d1' : decide (3000 < s.size) = false := decide_eq_false (by omega)
  have d2 : decide (3000 < (t.size : Int)) = false := decide_eq_false (by omega)
  have d2' : decide (3000 < t.size) = false := decide_eq_false (by omega)
  have d3 : ((A.size : Int) != 2 * (s.size : Int)) = false := by rw [bne_eq_false_iff_eq]; omega
  have d3' : ((A.size : Int) == 2 * (s.size : Int)) = true := by rw [beq_iff_eq]; omega
  have d3'' : (A.size == 2 * s.size) = true := by rw [beq_iff_eq]; omega
  have HA := Lib.hid hA
  clear gs gt gb gr hA
  by_cases h0 : C.size = 0
  · rw [if_pos h0] at gq gv hpq
    have e1 : decide (0 < (C.size : Int)) = false := decide_eq_false (by omega)
    have e1' : decide (0 < C.size) = false := decide_eq_false (by omega)
    clear h0
    rcases hpq with h | ⟨rfl, rfl, rfl⟩
    · have GP := Aside0.mk gp
      have GQ := Aside0.mk gq
      have GU := Aside0.mk gu
      have GV := Aside0.mk gv
      have d4 : (P.toList != Q.toList) = true := bne_iff_ne.mpr h
      have d4' : (P.toList == Q.toList) = false := beq_eq_false_iff_ne.mpr h
      clear h gp gq gu gv
      go_enter Tryd.func8, Tryd.ntmps8
      go_wp2_with (first
        | ((with_reducible refine gate_dst (N := 5) rfl ?_); refine box_event ?hg (N := 5) ?hd (cs := #[.bool la, .bool lb]) (t := 36) ?hr ?_; (case hd => rfl); (case hg => rfl); (case hr => first | (go_simp; done) | (go_simp; rfl)); intro g1 hg w4 hbox hb; have HB := Aside0.mk hb; have BK := Aside0.mk hbox; clear hb hbox hg; have hcz0 : w4.cell? ⟨g1, 0, none⟩ = some (.bool la) := (blk_cell BK.out 0).trans rfl; have hcz1 : w4.cell? ⟨g1, 1, none⟩ = some (.bool lb) := (blk_cell BK.out 1).trans rfl; have hlt := blk_lt BK.out)
        | (go_at_call 9; (first | (with_reducible refine (Gives.calls GW.out _).mono ?_)); rintro e w5 ⟨rfl, hb⟩; have HB' := Aside0.mk (below_step (by repeat (first | exact HB.out | apply pw_below_drewN)) hb); have hcy0 : w5.cell? ⟨g1, 0, none⟩ = some (.bool la) := cb_cell (by first | exact hcz0 | (simp only [World.cell?_drewN]; exact hcz0)) hb; have hcy1 : w5.cell? ⟨g1, 1, none⟩ = some (.bool lb) := cb_cell (by first | exact hcz1 | (simp only [World.cell?_drewN]; exact hcz1)) hb; clear hcz0 hcz1 HB hb; have HB := HB'; have hcz0 := hcy0; have hcz1 := hcy1; clear HB' hcy0 hcy1)
        | (go_at_call 10; (first | (with_reducible refine (Gives.calls GS.out _).mono ?_) | (with_reducible refine (Gives.calls GT.out _).mono ?_)); rintro e w5 ⟨rfl, hb⟩; have HB' := Aside0.mk (below_step (by repeat (first | exact HB.out | apply pw_below_drewN)) hb); have hcy0 : w5.cell? ⟨g1, 0, none⟩ = some (.bool la) := cb_cell (by first | exact hcz0 | (simp only [World.cell?_drewN]; exact hcz0)) hb; have hcy1 : w5.cell? ⟨g1, 1, none⟩ = some (.bool lb) := cb_cell (by first | exact hcz1 | (simp only [World.cell?_drewN]; exact hcz1)) hb; clear hcz0 hcz1 HB hb; have HB := HB'; have hcz0 := hcy0; have hcz1 := hcy1; clear HB' hcy0 hcy1)
        | (go_at_call 17; (first | (with_reducible refine (Gives.calls GB.out _).mono ?_)); rintro e w5 ⟨rfl, hb⟩; have HB' := Aside0.mk (below_step (by repeat (first | exact HB.out | apply pw_below_drewN)) hb); have hcy0 : w5.cell? ⟨g1, 0, none⟩ = some (.bool la) := cb_cell (by first | exact hcz0 | (simp only [World.cell?_drewN]; exact hcz0)) hb; have hcy1 : w5.cell? ⟨g1, 1, none⟩ = some (.bool lb) := cb_cell (by first | exact hcz1 | (simp only [World.cell?_drewN]; exact hcz1)) hb; clear hcz0 hcz1 HB hb; have HB := HB'; have hcz0 := hcy0; have hcz1 := hcy1; clear HB' hcy0 hcy1)
        | (go_at_call 16; (with_reducible refine (GR.out _).mono ?_); rintro e w' ⟨rfl, ⟨nd, rfl⟩⟩)
        | (go_at_call 15; (first | (with_reducible refine (Gives.calls GP.out _).mono ?_) | (with_reducible refine (Gives.calls GQ.out _).mono ?_)); rintro e w5 ⟨rfl, hb⟩; have HB' := Aside0.mk (below_step (by repeat (first | exact HB.out | apply pw_below_drewN)) hb); have hcy0 : w5.cell? ⟨g1, 0, none⟩ = some (.bool la) := cb_cell (by first | exact hcz0 | (simp only [World.cell?_drewN]; exact hcz0)) hb; have hcy1 : w5.cell? ⟨g1, 1, none⟩ = some (.bool lb) := cb_cell (by first | exact hcz1 | (simp only [World.cell?_drewN]; exact hcz1)) hb; clear hcz0 hcz1 HB hb; have HB := HB'; have hcz0 := hcy0; have hcz1 := hcy1; clear HB' hcy0 hcy1)
        | (go_at_call 14; (first | (with_reducible refine (Gives.calls GU.out _).mono ?_) | (with_reducible refine (Gives.calls GV.out _).mono ?_)); rintro e w5 ⟨rfl, hb⟩; have HB' := Aside0.mk (below_step (by repeat (first | exact HB.out | apply pw_below_drewN)) hb); have hcy0 : w5.cell? ⟨g1, 0, none⟩ = some (.bool la) := cb_cell (by first | exact hcz0 | (simp only [World.cell?_drewN]; exact hcz0)) hb; have hcy1 : w5.cell? ⟨g1, 1, none⟩ = some (.bool lb) := cb_cell (by first | exact hcz1 | (simp only [World.cell?_drewN]; exact hcz1)) hb; clear hcz0 hcz1 HB hb; have HB := HB'; have hcz0 := hcy0; have hcz1 := hcy1; clear HB' hcy0 hcy1))
      go_ret
      exact ⟨by first | rfl | (simp; done), by repeat (first | exact HB.out | apply pw_below_drewN)⟩
    · have GP := Aside0.mk gp
      have GQ := Aside0.mk gq
      have GU := Aside0.mk gu
      have GV := Aside0.mk gv
      clear gp gq gu gv
      go_enter Tryd.func8, Tryd.ntmps8
      go_wp2_with (first
        | ((with_reducible refine gate_dst (N := 5) rfl ?_); refine box_event ?hg (N := 5) ?hd (cs := #[.bool la, .bool la]) (t := 36) ?hr ?_; (case hd => rfl); (case hg => rfl); (case hr => first | (go_simp; done) | (go_simp; rfl)); intro g1 hg w4 hbox hb; have HB := Aside0.mk hb; have BK := Aside0.mk hbox; clear hb hbox hg; have hcz0 : w4.cell? ⟨g1, 0, none⟩ = some (.bool la) := (blk_cell BK.out 0).trans rfl; have hcz1 : w4.cell? ⟨g1, 1, none⟩ = some (.bool la) := (blk_cell BK.out 1).trans rfl; have hlt := blk_lt BK.out)
        | (go_at_call 9; (first | (with_reducible refine (Gives.calls GW.out _).mono ?_)); rintro e w5 ⟨rfl, hb⟩; have HB' := Aside0.mk (below_step (by repeat (first | exact HB.out | apply pw_below_drewN)) hb); have hcy0 : w5.cell? ⟨g1, 0, none⟩ = some (.bool la) := cb_cell (by first | exact hcz0 | (simp only [World.cell?_drewN]; exact hcz0)) hb; have hcy1 : w5.cell? ⟨g1, 1, none⟩ = some (.bool la) := cb_cell (by first | exact hcz1 | (simp only [World.cell?_drewN]; exact hcz1)) hb; clear hcz0 hcz1 HB hb; have HB := HB'; have hcz0 := hcy0; have hcz1 := hcy1; clear HB' hcy0 hcy1)
        | (go_at_call 10; (first | (with_reducible refine (Gives.calls GS.out _).mono ?_) | (with_reducible refine (Gives.calls GT.out _).mono ?_)); rintro e w5 ⟨rfl, hb⟩; have HB' := Aside0.mk (below_step (by repeat (first | exact HB.out | apply pw_below_drewN)) hb); have hcy0 : w5.cell? ⟨g1, 0, none⟩ = some (.bool la) := cb_cell (by first | exact hcz0 | (simp only [World.cell?_drewN]; exact hcz0)) hb; have hcy1 : w5.cell? ⟨g1, 1, none⟩ = some (.bool la) := cb_cell (by first | exact hcz1 | (simp only [World.cell?_drewN]; exact hcz1)) hb; clear hcz0 hcz1 HB hb; have HB := HB'; have hcz0 := hcy0; have hcz1 := hcy1; clear HB' hcy0 hcy1)
        | (go_at_call 17; (first | (with_reducible refine (Gives.calls GB.out _).mono ?_)); rintro e w5 ⟨rfl, hb⟩; have HB' := Aside0.mk (below_step (by repeat (first | exact HB.out | apply pw_below_drewN)) hb); have hcy0 : w5.cell? ⟨g1, 0, none⟩ = some (.bool la) := cb_cell (by first | exact hcz0 | (simp only [World.cell?_drewN]; exact hcz0)) hb; have hcy1 : w5.cell? ⟨g1, 1, none⟩ = some (.bool la) := cb_cell (by first | exact hcz1 | (simp only [World.cell?_drewN]; exact hcz1)) hb; clear hcz0 hcz1 HB hb; have HB := HB'; have hcz0 := hcy0; have hcz1 := hcy1; clear HB' hcy0 hcy1)
        | (go_at_call 16; (with_reducible refine (GR.out _).mono ?_); rintro e w' ⟨rfl, ⟨nd, rfl⟩⟩)
        | (go_at_call 15; (first | (with_reducible refine (Gives.calls GP.out _).mono ?_) | (with_reducible refine (Gives.calls GQ.out _).mono ?_)); rintro e w5 ⟨rfl, hb⟩; have HB' := Aside0.mk (below_step (by repeat (first | exact HB.out | apply pw_below_drewN)) hb); have hcy0 : w5.cell? ⟨g1, 0, none⟩ = some (.bool la) := cb_cell (by first | exact hcz0 | (simp only [World.cell?_drewN]; exact hcz0)) hb; have hcy1 : w5.cell? ⟨g1, 1, none⟩ = some (.bool la) := cb_cell (by first | exact hcz1 | (simp only [World.cell?_drewN]; exact hcz1)) hb; clear hcz0 hcz1 HB hb; have HB := HB'; have hcz0 := hcy0; have hcz1 := hcy1; clear HB' hcy0 hcy1)
        | (go_at_call 14; (first | (with_reducible refine (Gives.calls GU.out _).mono ?_) | (with_reducible refine (Gives.calls GV.out _).mono ?_)); rintro e w5 ⟨rfl, hb⟩; have HB' := Aside0.mk (below_step (by repeat (first | exact HB.out | apply pw_below_drewN)) hb); have hcy0 : w5.cell? ⟨g1, 0, none⟩ = some (.bool la) := cb_cell (by first | exact hcz0 | (simp only [World.cell?_drewN]; exact hcz0)) hb; have hcy1 : w5.cell? ⟨g1, 1, none⟩ = some (.bool la) := cb_cell (by first | exact hcz1 | (simp only [World.cell?_drewN]; exact hcz1)) hb; clear hcz0 hcz1 HB hb; have HB := HB'; have hcz0 := hcy0; have hcz1 := hcy1; clear HB' hcy0 hcy1))
      go_ret
      exact ⟨by first | rfl | (simp; done), by repeat (first | exact HB.out | apply pw_below_drewN)⟩
  · rw [if_neg h0] at gq gv hpq
    have e1 : decide (0 < (C.size : Int)) = true := decide_eq_true (by omega)
    have e1' : decide (0 < C.size) = true := decide_eq_true (by omega)
    have e2 : 1 ≤ C.size := by omega
    have e2' : decide ((1 : Int) ≤ (C.size : Int)) = true := decide_eq_true (by omega)
    clear h0
    rcases hpq with h | ⟨rfl, rfl, rfl⟩
    · have GP := Aside0.mk gp
      have GQ := Aside0.mk gq
      have GU := Aside0.mk gu
      have GV := Aside0.mk gv
      have d4 : (P.toList != Q.toList) = true := bne_iff_ne.mpr h
      have d4' : (P.toList == Q.toList) = false := beq_eq_false_iff_ne.mpr h
      clear h gp gq gu gv
      go_enter Tryd.func8, Tryd.ntmps8
      go_wp2_with (first
        | ((with_reducible refine gate_dst (N := 5) rfl ?_); refine box_event ?hg (N := 5) ?hd (cs := #[.bool la, .bool lb]) (t := 36) ?hr ?_; (case hd => rfl); (case hg => rfl); (case hr => first | (go_simp; done) | (go_simp; rfl)); intro g1 hg w4 hbox hb; have HB := Aside0.mk hb; have BK := Aside0.mk hbox; clear hb hbox hg; have hcz0 : w4.cell? ⟨g1, 0, none⟩ = some (.bool la) := (blk_cell BK.out 0).trans rfl; have hcz1 : w4.cell? ⟨g1, 1, none⟩ = some (.bool lb) := (blk_cell BK.out 1).trans rfl; have hlt := blk_lt BK.out)
        | (go_at_call 9; (first | (with_reducible refine (Gives.calls GW.out _).mono ?_)); rintro e w5 ⟨rfl, hb⟩; have HB' := Aside0.mk (below_step (by repeat (first | exact HB.out | apply pw_below_drewN)) hb); have hcy0 : w5.cell? ⟨g1, 0, none⟩ = some (.bool la) := cb_cell (by first | exact hcz0 | (simp only [World.cell?_drewN]; exact hcz0)) hb; have hcy1 : w5.cell? ⟨g1, 1, none⟩ = some (.bool lb) := cb_cell (by first | exact hcz1 | (simp only [World.cell?_drewN]; exact hcz1)) hb; clear hcz0 hcz1 HB hb; have HB := HB'; have hcz0 := hcy0; have hcz1 := hcy1; clear HB' hcy0 hcy1)
        | (go_at_call 10; (first | (with_reducible refine (Gives.calls GS.out _).mono ?_) | (with_reducible refine (Gives.calls GT.out _).mono ?_)); rintro e w5 ⟨rfl, hb⟩; have HB' := Aside0.mk (below_step (by repeat (first | exact HB.out | apply pw_below_drewN)) hb); have hcy0 : w5.cell? ⟨g1, 0, none⟩ = some (.bool la) := cb_cell (by first | exact hcz0 | (simp only [World.cell?_drewN]; exact hcz0)) hb; have hcy1 : w5.cell? ⟨g1, 1, none⟩ = some (.bool lb) := cb_cell (by first | exact hcz1 | (simp only [World.cell?_drewN]; exact hcz1)) hb; clear hcz0 hcz1 HB hb; have HB := HB'; have hcz0 := hcy0; have hcz1 := hcy1; clear HB' hcy0 hcy1)
        | (go_at_call 17; (first | (with_reducible refine (Gives.calls GB.out _).mono ?_)); rintro e w5 ⟨rfl, hb⟩; have HB' := Aside0.mk (below_step (by repeat (first | exact HB.out | apply pw_below_drewN)) hb); have hcy0 : w5.cell? ⟨g1, 0, none⟩ = some (.bool la) := cb_cell (by first | exact hcz0 | (simp only [World.cell?_drewN]; exact hcz0)) hb; have hcy1 : w5.cell? ⟨g1, 1, none⟩ = some (.bool lb) := cb_cell (by first | exact hcz1 | (simp only [World.cell?_drewN]; exact hcz1)) hb; clear hcz0 hcz1 HB hb; have HB := HB'; have hcz0 := hcy0; have hcz1 := hcy1; clear HB' hcy0 hcy1)
        | (go_at_call 16; (with_reducible refine (GR.out _).mono ?_); rintro e w' ⟨rfl, ⟨nd, rfl⟩⟩)
        | (go_at_call 15; (first | (with_reducible refine (Gives.calls GP.out _).mono ?_) | (with_reducible refine (Gives.calls GQ.out _).mono ?_)); rintro e w5 ⟨rfl, hb⟩; have HB' := Aside0.mk (below_step (by repeat (first | exact HB.out | apply pw_below_drewN)) hb); have hcy0 : w5.cell? ⟨g1, 0, none⟩ = some (.bool la) := cb_cell (by first | exact hcz0 | (simp only [World.cell?_drewN]; exact hcz0)) hb; have hcy1 : w5.cell? ⟨g1, 1, none⟩ = some (.bool lb) := cb_cell (by first | exact hcz1 | (simp only [World.cell?_drewN]; exact hcz1)) hb; clear hcz0 hcz1 HB hb; have HB := HB'; have hcz0 := hcy0; have hcz1 := hcy1; clear HB' hcy0 hcy1)
        | (go_at_call 14; (first | (with_reducible refine (Gives.calls GU.out _).mono ?_) | (with_reducible refine (Gives.calls GV.out _).mono ?_)); rintro e w5 ⟨rfl, hb⟩; have HB' := Aside0.mk (below_step (by repeat (first | exact HB.out | apply pw_below_drewN)) hb); have hcy0 : w5.cell? ⟨g1, 0, none⟩ = some (.bool la) := cb_cell (by first | exact hcz0 | (simp only [World.cell?_drewN]; exact hcz0)) hb; have hcy1 : w5.cell? ⟨g1, 1, none⟩ = some (.bool lb) := cb_cell (by first | exact hcz1 | (simp only [World.cell?_drewN]; exact hcz1)) hb; clear hcz0 hcz1 HB hb; have HB := HB'; have hcz0 := hcy0; have hcz1 := hcy1; clear HB' hcy0 hcy1))
      go_ret
      exact ⟨by first | rfl | (simp; done), by repeat (first | exact HB.out | apply pw_below_drewN)⟩
    · have GP := Aside0.mk gp
      have GQ := Aside0.mk gq
      have GU := Aside0.mk gu
      have GV := Aside0.mk gv
      have hAs := HA.out
      rw [ByteArray.size_extract] at hAs
      have d5 : (((C.size - 1 : Nat) : Int) != 2 * (s.size : Int)) = false := by rw [bne_eq_false_iff_eq]; omega
      have d5' : ((C.size - 1 : Nat) == 2 * s.size) = true := by rw [beq_iff_eq]; omega
      clear hAs
      clear gp gq gu gv
      go_enter Tryd.func8, Tryd.ntmps8
      go_wp2_with (first
        | ((with_reducible refine gate_dst (N := 5) rfl ?_); refine box_event ?hg (N := 5) ?hd (cs := #[.bool la, .bool la]) (t := 36) ?hr ?_; (case hd => rfl); (case hg => rfl); (case hr => first | (go_simp; done) | (go_simp; rfl)); intro g1 hg w4 hbox hb; have HB := Aside0.mk hb; have BK := Aside0.mk hbox; clear hb hbox hg; have hcz0 : w4.cell? ⟨g1, 0, none⟩ = some (.bool la) := (blk_cell BK.out 0).trans rfl; have hcz1 : w4.cell? ⟨g1, 1, none⟩ = some (.bool la) := (blk_cell BK.out 1).trans rfl; have hlt := blk_lt BK.out)
        | (go_at_call 9; (first | (with_reducible refine (Gives.calls GW.out _).mono ?_)); rintro e w5 ⟨rfl, hb⟩; have HB' := Aside0.mk (below_step (by repeat (first | exact HB.out | apply pw_below_drewN)) hb); have hcy0 : w5.cell? ⟨g1, 0, none⟩ = some (.bool la) := cb_cell (by first | exact hcz0 | (simp only [World.cell?_drewN]; exact hcz0)) hb; have hcy1 : w5.cell? ⟨g1, 1, none⟩ = some (.bool la) := cb_cell (by first | exact hcz1 | (simp only [World.cell?_drewN]; exact hcz1)) hb; clear hcz0 hcz1 HB hb; have HB := HB'; have hcz0 := hcy0; have hcz1 := hcy1; clear HB' hcy0 hcy1)
        | (go_at_call 10; (first | (with_reducible refine (Gives.calls GS.out _).mono ?_) | (with_reducible refine (Gives.calls GT.out _).mono ?_)); rintro e w5 ⟨rfl, hb⟩; have HB' := Aside0.mk (below_step (by repeat (first | exact HB.out | apply pw_below_drewN)) hb); have hcy0 : w5.cell? ⟨g1, 0, none⟩ = some (.bool la) := cb_cell (by first | exact hcz0 | (simp only [World.cell?_drewN]; exact hcz0)) hb; have hcy1 : w5.cell? ⟨g1, 1, none⟩ = some (.bool la) := cb_cell (by first | exact hcz1 | (simp only [World.cell?_drewN]; exact hcz1)) hb; clear hcz0 hcz1 HB hb; have HB := HB'; have hcz0 := hcy0; have hcz1 := hcy1; clear HB' hcy0 hcy1)
        | (go_at_call 17; (first | (with_reducible refine (Gives.calls GB.out _).mono ?_)); rintro e w5 ⟨rfl, hb⟩; have HB' := Aside0.mk (below_step (by repeat (first | exact HB.out | apply pw_below_drewN)) hb); have hcy0 : w5.cell? ⟨g1, 0, none⟩ = some (.bool la) := cb_cell (by first | exact hcz0 | (simp only [World.cell?_drewN]; exact hcz0)) hb; have hcy1 : w5.cell? ⟨g1, 1, none⟩ = some (.bool la) := cb_cell (by first | exact hcz1 | (simp only [World.cell?_drewN]; exact hcz1)) hb; clear hcz0 hcz1 HB hb; have HB := HB'; have hcz0 := hcy0; have hcz1 := hcy1; clear HB' hcy0 hcy1)
        | (go_at_call 16; (with_reducible refine (GR.out _).mono ?_); rintro e w' ⟨rfl, ⟨nd, rfl⟩⟩)
        | (go_at_call 15; (first | (with_reducible refine (Gives.calls GP.out _).mono ?_) | (with_reducible refine (Gives.calls GQ.out _).mono ?_)); rintro e w5 ⟨rfl, hb⟩; have HB' := Aside0.mk (below_step (by repeat (first | exact HB.out | apply pw_below_drewN)) hb); have hcy0 : w5.cell? ⟨g1, 0, none⟩ = some (.bool la) := cb_cell (by first | exact hcz0 | (simp only [World.cell?_drewN]; exact hcz0)) hb; have hcy1 : w5.cell? ⟨g1, 1, none⟩ = some (.bool la) := cb_cell (by first | exact hcz1 | (simp only [World.cell?_drewN]; exact hcz1)) hb; clear hcz0 hcz1 HB hb; have HB := HB'; have hcz0 := hcy0; have hcz1 := hcy1; clear HB' hcy0 hcy1)
        | (go_at_call 14; (first | (with_reducible refine (Gives.calls GU.out _).mono ?_) | (with_reducible refine (Gives.calls GV.out _).mono ?_)); rintro e w5 ⟨rfl, hb⟩; have HB' := Aside0.mk (below_step (by repeat (first | exact HB.out | apply pw_below_drewN)) hb); have hcy0 : w5.cell? ⟨g1, 0, none⟩ = some (.bool la) := cb_cell (by first | exact hcz0 | (simp only [World.cell?_drewN]; exact hcz0)) hb; have hcy1 : w5.cell? ⟨g1, 1, none⟩ = some (.bool la) := cb_cell (by first | exact hcz1 | (simp only [World.cell?_drewN]; exact hcz1)) hb; clear hcz0 hcz1 HB hb; have HB := HB'; have hcz0 := hcy0; have hcz1 := hcy1; clear HB' hcy0 hcy1))
      go_ret
      exact ⟨by first | rfl | (simp; done), by repeat (first | exact HB.out | apply pw_below_drewN)⟩
end Go.Proofs.YtlajpfdmbagedaaDoor.P
