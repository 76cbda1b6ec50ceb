/- What Go functions of the program come to: a Lean function and its contract for each. Written by a program of this session over the kit's printer, some contracts by hand. -/
import Derived.Test.YtkkammncpkgodaaP0
import Derived.Test.YtkkammncpkgodaaP5
import Derived.Test.YtkkammncpkgodaaP7
namespace Go.Proofs.Ytkkammncpkgodaa.P
open Go.RowKit Go.Proofs.YtkkammncpkgodaaW.PrintWords Go.Proofs.YtkkammncpkgodaaW.PrintLast Go.Proofs.YtkkammncpkgodaaW.PrintMore
attribute [local go_sem] max2_int min2_int max_two min_two max_three min_three max_four min_four   -- for this text's walks alone
set_option linter.unusedVariables false
set_option linter.unusedSimpArgs false

/-! ### rlp_Encode_1: function 32, by hand -/
def rlp_Encode_1.ok (a0_0 : Bool) (a0_1 : ByteArray) (l0_2 : List S25) (a1 : Int) (b : Bool) : Bool :=
  b && (decide (a1 ≤ 16) && ((a0_1.toList == ([] : List UInt8) || !a0_0) && (decide (l0_2.length = 0) || a0_0)))
mutual
def rlp_Encode_1.l0 : Nat → List S25 → Int → Int → List ByteArray → Bool → Option (ByteArray × Bool)
  | 0, _, _, _, _, _ => none
  | k + 1, l, a1, i, out, b => if i < (l.length : Int) then (if 0 ≤ i then (rlp_Encode_1.f k (rd_T25 l i).f0 (rd_T25 l i).f1 (rd_T25 l i).f2 (wrap64 (a1 + 1)) b).bind fun t => if out.length < 8796093022208 then rlp_Encode_1.l0 k l a1 (wrap64 (i + 1)) (out ++ [t.1]) t.2 else none else none) else (rlp_List.f k out).bind fun t => some (t, b)
def rlp_Encode_1.f : Nat → Bool → ByteArray → List S25 → Int → Bool → Option (ByteArray × Bool)
  | 0, _, _, _, _, _ => none
  | k + 1, a0_0, a0_1, l0_2, a1, b => if rlp_Encode_1.ok a0_0 a0_1 l0_2 a1 b = true then (if a0_0 = true then rlp_Encode_1.l0 k l0_2 a1 0 [] true else (rlp_Bytes.f k a0_1).bind fun t => some (t, true)) else some ((⟨#[]⟩ : ByteArray), false)
end
theorem rlp_Encode_1.mono_l : ∀ k, (∀ y0 y1 y2 y3 y4, LeO (rlp_Encode_1.f k y0 y1 y2 y3 y4) (rlp_Encode_1.f (k + 1) y0 y1 y2 y3 y4)) ∧ (∀ y0 y1 y2 y3 y4, LeO (rlp_Encode_1.l0 k y0 y1 y2 y3 y4) (rlp_Encode_1.l0 (k + 1) y0 y1 y2 y3 y4))
  | 0 => ⟨fun _ _ _ _ _ r h => by simp [rlp_Encode_1.f] at h, fun _ _ _ _ _ r h => by simp [rlp_Encode_1.l0] at h⟩
  | k + 1 => by
    obtain ⟨ih0, ih1⟩ := rlp_Encode_1.mono_l k
    refine ⟨?_, ?_⟩
    · intro y0 y1 y2 y3 y4
      unfold rlp_Encode_1.f
      repeat' first
      | (with_reducible exact ih0 _ _ _ _ _)
      | (with_reducible exact ih1 _ _ _ _ _)
      | (with_reducible exact rlp_Bytes.mono _ _)
      | (with_reducible exact LeO.refl _)
      | (with_reducible refine LeO.ite ?_ ?_)
      | (with_reducible refine LeO.bind ?_ (fun _ => ?_))
    · intro y0 y1 y2 y3 y4
      unfold rlp_Encode_1.l0
      repeat' first
      | (with_reducible exact ih0 _ _ _ _ _)
      | (with_reducible exact ih1 _ _ _ _ _)
      | (with_reducible exact rlp_List.mono _ _)
      | (with_reducible exact LeO.refl _)
      | (with_reducible refine LeO.ite ?_ ?_)
      | (with_reducible refine LeO.bind ?_ (fun _ => ?_))
theorem rlp_Encode_1.mono : ∀ a0 a1 a2 a3 a4 k, LeO (rlp_Encode_1.f k a0 a1 a2 a3 a4) (rlp_Encode_1.f (k + 1) a0 a1 a2 a3 a4) := fun a0 a1 a2 a3 a4 k => (rlp_Encode_1.mono_l k).1 a0 a1 a2 a3 a4
def rlp_Encode_1.self (cr cw : Nat) : Value := .func (.func 32) #[] #[.pointer (some ⟨cr, 0, none⟩), .pointer (some ⟨cw, 0, none⟩)]
set_option maxHeartbeats 4000000 in
set_option maxRecDepth 100000 in
theorem rlp_Encode_1.calls (k : Nat) : ∀ (a0_0 : Bool) (a0_1 : ByteArray) (A0_2 : Option Addr) (c0_2 : Nat) (l0_2 : List (S25)) (a1 : Int) (b : Bool) (r : ByteArray) (b' : Bool) (cr cw : Nat) (w0 w : World)
    (hr : Kd.C k25 w0 A0_2 l0_2.length l0_2) (hc : l0_2.length ≤ c0_2) (hB : Below w0.heap.size w0 w) (hge : w0.heap.size ≤ cr) (hcr : w.heap[cr]? = some (.cells #[.bool b] 4 (0, 0)))
    (hcw : w.heap[cw]? = some (.cells #[rlp_Encode_1.self cr cw] 57 (0, 0))) (h : rlp_Encode_1.f k a0_0 a0_1 l0_2 a1 b = some (r, b')),
    Calls Try.prog 32 #[.agg #[.bool a0_0, .string a0_1, .slice A0_2 l0_2.length c0_2], .int .i64 a1, .pointer (some ⟨cr, 0, none⟩), .pointer (some ⟨cw, 0, none⟩)] w
      fun e w' => e = .returned (.string r) ∧ Below w0.heap.size w0 w' ∧ KeepBut w w' cr none ∧ w'.heap[cr]? = some (.cells #[.bool b'] 4 (0, 0)) := by
  induction k using Nat.strongRecOn with
  | _ k ih =>
  intro a0_0 a0_1 A0_2 c0_2 l0_2 a1 b r b' cr cw w0 w hr hc hB hge hcr hcw h
  cases k with
  | zero => exact absurd h (by simp [rlp_Encode_1.f])
  | succ k =>
  simp only [rlp_Encode_1.f] at h
  have hu25 := Try.underlying25
  have hne : cw ≠ cr := by
    rintro rfl
    rw [hcr] at hcw
    injection hcw with hcw
    injection hcw with _ hcw
    exact absurd hcw (by decide)
  have HR := Aside0.mk hr
  have HC := Aside0.mk hc
  have HB := Aside0.mk hB
  have HGE := Aside0.mk hge
  have HCR := Aside0.mk hcr
  have HCW := Aside0.mk hcw
  have HNE := Aside0.mk hne
  have HCRL := Aside0.mk (blk_lt hcr)
  have HCWL := Aside0.mk (blk_lt hcw)
  have H := Aside0.mk h
  have HSZ := Aside0.mk hB.size
  clear hr hc hB hge hcr hcw h hne
  go_enter Try.func32, Try.ntmps32
  go_upto_region 1 with (first | ((with_reducible refine gate_dst (N := 4) rfl ?_); refine box_event ?hg (N := 4) ?hd (cs := #[.bool a0_0, .string a0_1, .slice A0_2 l0_2.length c0_2]) (t := 25) ?hr ?_; (case hd => rfl); (case hg => rfl); (case hr => first | (go_simp; done) | (go_simp; rfl)); intro g1 hg w4 hbox hb; have HB4 := Aside0.mk (below_step HB.out hb); have HCR4 := Aside0.mk (blk_below HCR.out hb); have HCW4 := Aside0.mk (blk_below HCW.out hb); have HK4 := Aside0.mk (KeepBut.of_below hb cr none); have BK := Aside0.mk hbox; have HG1 := Aside0.mk (Nat.le_of_eq hg.symm); have HS4 := Aside0.mk hb.size; clear hb hbox hg))
  (try simp only [Act.put, List.setIfInBounds_toArray, List.set_cons_zero, List.set_cons_succ])
  have hcz0 : w4.cell? ⟨g1, 0, none⟩ = some (.bool a0_0) := (blk_cell BK.out 0).trans rfl
  have hcz1 : w4.cell? ⟨g1, 1, none⟩ = some (.string a0_1) := (blk_cell BK.out 1).trans rfl
  have hcz2 : w4.cell? ⟨g1, 2, none⟩ = some (.slice A0_2 l0_2.length c0_2) := (blk_cell BK.out 2).trans rfl
  have hcr0 : w4.cell? ⟨cr, 0, none⟩ = some (.bool b) := (blk_cell HCR4.out 0).trans rfl
  have hfr0 := blk_frozen HCR4.out 0
  go_cut [34] (fun v34 wc => Aside0 (wc.heap[cr]? = some (.cells #[.bool (rlp_Encode_1.ok a0_0 a0_1 l0_2 a1 b)] 4 (0, 0))) ∧ Aside0 (Below w0.heap.size w0 wc) ∧ Aside0 (KeepBut w wc cr none) ∧ Aside0 (wc.heap[g1]? = some (.cells #[.bool a0_0, .string a0_1, .slice A0_2 l0_2.length c0_2] 25 (0, 0))))
  case first =>
    have HN1 := Aside0.mk (show g1 ≠ cr from fun e => by have := HG1.out; have := HCRL.out; omega)
    have fin : ∀ X : Bool, X = rlp_Encode_1.ok a0_0 a0_1 l0_2 a1 b → Aside0 ((w4.setCell ⟨cr, 0, none⟩ (.bool X)).heap[cr]? = some (.cells #[.bool (rlp_Encode_1.ok a0_0 a0_1 l0_2 a1 b)] 4 (0, 0))) ∧ Aside0 (Below w0.heap.size w0 (w4.setCell ⟨cr, 0, none⟩ (.bool X))) ∧ Aside0 (KeepBut w (w4.setCell ⟨cr, 0, none⟩ (.bool X)) cr none) ∧ Aside0 ((w4.setCell ⟨cr, 0, none⟩ (.bool X)).heap[g1]? = some (.cells #[.bool a0_0, .string a0_1, .slice A0_2 l0_2.length c0_2] 25 (0, 0))) := by
      intro X hX
      rw [← hX]
      exact ⟨⟨blk_put HCR4.out 0 (.bool X) rfl⟩, ⟨below_set HB4.out HGE.out⟩, ⟨KeepBut.set_ HK4.out 0 _⟩, ⟨blk_far BK.out HN1.out _⟩⟩
    have FIN := Aside0.mk fin
    clear fin
    cases b with
    | false =>
      go_wp2
      go_meet
      case rel => exact FIN.out false (by simp [rlp_Encode_1.ok])
    | true =>
    by_cases c5 : a1 ≤ 16
    · have c5b : decide (a1 ≤ 16) = true := decide_eq_true c5
      by_cases c6 : a0_1.toList = ([] : List UInt8)
      · have c6b : (a0_1.toList == ([] : List UInt8)) = true := beq_iff_eq.mpr c6
        by_cases c7 : l0_2.length = 0
        · have c7b : ((l0_2.length : Int) == 0) = true := beq_iff_eq.mpr (by omega)
          have C6 := Aside0.mk c6
          have C7 := Aside0.mk c7
          clear c6 c7
          go_wp2
          go_meet
          case rel => exact FIN.out true (by simp [rlp_Encode_1.ok, c5, C6.out, C7.out])
        · have c7b : ((l0_2.length : Int) == 0) = false := beq_eq_false_iff_ne.mpr (by omega)
          have C6 := Aside0.mk c6
          have C7 := Aside0.mk c7
          clear c6 c7
          cases a0_0 with
          | true =>
            go_wp2
            go_meet
            case rel => exact FIN.out true (by simp [rlp_Encode_1.ok, c5, C6.out])
          | false =>
            go_wp2
            go_meet
            case rel => exact FIN.out false (by simp [rlp_Encode_1.ok, c5, C6.out, C7.out])
      · have c6b : (a0_1.toList == ([] : List UInt8)) = false := beq_eq_false_iff_ne.mpr c6
        have C6 := Aside0.mk c6b
        clear c6
        cases a0_0 with
        | true =>
          go_wp2
          go_meet
          case rel => exact FIN.out false (by simp [rlp_Encode_1.ok, C6.out])
        | false =>
          by_cases c7 : l0_2.length = 0
          · have c7b : ((l0_2.length : Int) == 0) = true := beq_iff_eq.mpr (by omega)
            have C7 := Aside0.mk c7
            clear c7
            go_wp2
            go_meet
            case rel => exact FIN.out true (by simp [rlp_Encode_1.ok, c5, C7.out])
          · have c7b : ((l0_2.length : Int) == 0) = false := beq_eq_false_iff_ne.mpr (by omega)
            have C7 := Aside0.mk c7
            clear c7
            go_wp2
            go_meet
            case rel => exact FIN.out false (by simp [rlp_Encode_1.ok, C7.out])
    · have c5b : decide (a1 ≤ 16) = false := decide_eq_false c5
      go_wp2
      go_meet
      case rel => exact FIN.out false (by rw [rlp_Encode_1.ok, c5b]; rfl)
  case rest =>
    clear hcz0 hcz1 hcz2 hcr0 hfr0 HB4 HK4 HCR4 HCW4 BK HS4
    obtain ⟨HCR4, HB4, HK4, BK⟩ := hcut
    have h := H.out
    clear H
    generalize rlp_Encode_1.ok a0_0 a0_1 l0_2 a1 b = okb at *
    have hcr0 : wc.cell? ⟨cr, 0, none⟩ = some (.bool okb) := (blk_cell HCR4.out 0).trans rfl
    have hcz0 : wc.cell? ⟨g1, 0, none⟩ = some (.bool a0_0) := (blk_cell BK.out 0).trans rfl
    have hcz1 : wc.cell? ⟨g1, 1, none⟩ = some (.string a0_1) := (blk_cell BK.out 1).trans rfl
    have hcz2 : wc.cell? ⟨g1, 2, none⟩ = some (.slice A0_2 l0_2.length c0_2) := (blk_cell BK.out 2).trans rfl
    cases okb with
    | false =>
      rw [if_neg (by simp)] at h
      simp only [Option.some.injEq, Prod.mk.injEq] at h
      obtain ⟨rfl, rfl⟩ := h
      go_wp2
      go_ret
      exact ⟨by first | rfl | (simp; done), HB4.out, HK4.out, HCR4.out⟩
    | true =>
      rw [if_pos rfl] at h
      cases a0_0 with
      | false =>
        rw [if_neg (by simp)] at h
        replace h := Option.bind_eq_some_iff.mp h
        obtain ⟨t, A1, h⟩ := h
        simp only [Option.some.injEq, Prod.mk.injEq] at h
        obtain ⟨rfl, rfl⟩ := h
        have A1' := Aside0.mk A1
        clear A1
        go_wp2_with ((with_reducible refine gate_callee (f := 19) rfl ?_); refine goesL_ (some 42) rfl rfl Try.func19 (by kernel_rfl) rfl #[.string a0_1] rfl (by (try simp only [List.map_toArray, List.map_cons, List.map_nil]); first | done | rfl) ?_; (with_reducible refine (rlp_Bytes.calls k a0_1 t _ A1'.out).mono ?_); rintro e w33 ⟨rfl, hb⟩; refine ⟨_, rfl, ?_⟩; have HBe := Aside0.mk (below_step HB4.out hb); have HKe := Aside0.mk (HK4.out.trans (KeepBut.of_below hb cr none) (.inl rfl)); have HCRe := Aside0.mk (blk_below HCR4.out hb); clear hb)
        go_ret
        exact ⟨by first | rfl | (simp; done), HBe.out, HKe.out, HCRe.out⟩
      | true =>
        rw [if_pos rfl] at h
        have H' := Aside0.mk h
        clear h
        go_wp2
        go_loopg [7, 46] k (fun kq v7 v46 w' => ∃ (xs : List ByteArray) (i : Int) (b1 : Bool), v46 = .int .i64 i ∧ Aside0 (rlp_Encode_1.l0 kq l0_2 a1 i xs b1 = some (r, b')) ∧ Aside0 (kq ≤ k) ∧ Aside0 (Kd.R Kd.string 9 w' w0.heap.size (fun z => w.heap.size ≤ z) v7 xs) ∧ Aside0 (w'.heap[cr]? = some (.cells #[.bool b1] 4 (0, 0))) ∧ Aside0 (Below w0.heap.size w0 w') ∧ Aside0 (KeepBut w w' cr none))
        case atStart => exact ⟨[], 0, true, by first | rfl | (simp; done), H', ⟨Nat.le_refl _⟩, ⟨Kd.R_nil _ _ _ _ _⟩, HCR4, HB4, HK4⟩
        case round =>
          clear H' hcr0 hcz0 hcz1 hcz2 HCR4 HB4 HK4 BK
          obtain ⟨xs, i, b1, rfl, HA, HK1, HO, HCR4, HB4, HK4⟩ := hrel
          cases gk with
          | zero => exact absurd HA.out (by simp [rlp_Encode_1.l0])
          | succ k1 =>
            have H := HA.out
            clear HA
            simp only [rlp_Encode_1.l0] at H
            by_cases c1 : i < (l0_2.length : Int)
            · rw [if_pos c1] at H
              by_cases c2 : 0 ≤ i
              · rw [if_pos c2] at H
                replace H := Option.bind_eq_some_iff.mp H
                obtain ⟨⟨t, tb⟩, A1, H⟩ := H
                have A1' := Aside0.mk A1
                clear A1
                by_cases c3 : xs.length < 8796093022208
                · rw [if_pos c3] at H
                  have H' := Aside0.mk H
                  have LM := Aside0.mk c3
                  clear H c3
                  have p130 := c2
                  have q130 := c1
                  have c1b : decide (i < (l0_2.length : Int)) = true := decide_eq_true c1
                  have c2b : decide (0 ≤ i) = true := decide_eq_true c2
                  obtain ⟨ad, A2, c2', e130, hx0, hx1, hx2, hl2, hi2⟩ := at_T25 HR.out i p130 q130
                  cases e130
                  replace hx0 := (HB4.out.cell (World.block_lt_of_cell? w0 _ hx0)).trans hx0
                  replace hx1 := (HB4.out.cell (World.block_lt_of_cell? w0 _ hx1)).trans hx1
                  replace hx2 := (HB4.out.cell (World.block_lt_of_cell? w0 _ hx2)).trans hx2
                  have HR2 := Aside0.mk hi2
                  have HC2 := Aside0.mk hl2
                  clear hi2 hl2 c1 c2
                  replace p130 := eq_true p130
                  replace q130 := eq_true q130
                  go_wp2_with (first
                    | ((with_reducible refine gate_dst (N := 9) rfl ?_); refine box_event ?hg (N := 9) ?hd (cs := #[.bool false, .string (⟨#[]⟩ : ByteArray), .slice none 0 0]) (t := 25) ?hr ?_; (case hd => rfl); (case hg => rfl); (case hr => first | (go_simp; done) | (go_simp; rfl)); intro g2 hg w23 hbox hb; have HO2 := Aside0.mk (Kd.R_below HO.out hb); have HB5 := Aside0.mk (below_step HB4.out hb); have HK5 := Aside0.mk (HK4.out.trans (KeepBut.of_below hb cr none) (.inl rfl)); have HCR5 := Aside0.mk (blk_below HCR4.out hb); have BK2 := Aside0.mk hbox; have HG2 := Aside0.mk (show w.heap.size ≤ g2 by rw [hg]; exact HK4.out.1); have HG3 := Aside0.mk (Nat.le_trans HSZ.out HG2.out); have HN2 := Aside0.mk (show cr ≠ g2 from fun e => by have := HG2.out; have := HCRL.out; omega); have HN3 := Aside0.mk (show cw ≠ g2 from fun e => by have := HG2.out; have := HCWL.out; omega); have HCW5 := Aside0.mk (KeepBut.blk HK5.out HCW.out HNE.out (by simp)); clear hb hbox hg; clear HO HB4 HK4 HCR4; have hcw0 : w23.cell? ⟨cw, 0, none⟩ = some (rlp_Encode_1.self cr cw) := (blk_cell HCW5.out 0).trans rfl; have hn1 : (g2 = cw) = False := eq_false (Ne.symm HN3.out); have hn2 : (cw = g2) = False := eq_false HN3.out; have hcz0 : w23.cell? ⟨g2, 0, none⟩ = some (.bool false) := (blk_cell BK2.out 0).trans rfl; have hcz1 : w23.cell? ⟨g2, 1, none⟩ = some (.string (⟨#[]⟩ : ByteArray)) := (blk_cell BK2.out 1).trans rfl; have hcz2 : w23.cell? ⟨g2, 2, none⟩ = some (.slice none 0 0) := (blk_cell BK2.out 2).trans rfl; have hfz0 := blk_frozen BK2.out 0; have hfz1 := blk_frozen BK2.out 1; have hfz2 := blk_frozen BK2.out 2)
                    | ((with_reducible refine gate_tmp rfl ?_); refine goesC_ (some 55) rfl rfl Try.func32 (by kernel_rfl) rfl #[.agg #[.bool (rd_T25 l0_2 i).f0, .string (rd_T25 l0_2 i).f1, .slice A2 (rd_T25 l0_2 i).f2.length c2'], .int .i64 (wrap64 (a1 + 1))] #[.pointer (some ⟨cr, 0, none⟩), .pointer (some ⟨cw, 0, none⟩)] #[.agg #[.bool (rd_T25 l0_2 i).f0, .string (rd_T25 l0_2 i).f1, .slice A2 (rd_T25 l0_2 i).f2.length c2'], .int .i64 (wrap64 (a1 + 1)), .pointer (some ⟨cr, 0, none⟩), .pointer (some ⟨cw, 0, none⟩)] rfl rfl rfl (by (try simp only [List.map_toArray, List.map_cons, List.map_nil]); first | done | rfl) ?_; (with_reducible refine (ih k1 (by have := HK1.out; omega) _ _ _ _ (rd_T25 l0_2 i).f2 (wrap64 (a1 + 1)) b1 t tb cr cw w0 _ HR2.out HC2.out ?s3 HGE.out ?s5 ?s6 A1'.out).mono ?_); (case s3 => repeat (first | exact HB5.out | refine below_set ?_ HG3.out)); (case s5 => repeat (first | exact HCR5.out | refine blk_far ?_ HN2.out _)); (case s6 => repeat (first | exact HCW5.out | refine blk_far ?_ HN3.out _)); rintro e w26 ⟨rfl, hb, hk, hcr⟩; refine ⟨_, rfl, ?_⟩; have HO3 := Aside0.mk (Kd.R_keep (Kd.R_mono (Kd.R_far (p := ⟨g2, 2, none⟩) (Kd.R_far (p := ⟨g2, 1, none⟩) (Kd.R_far (p := ⟨g2, 0, none⟩) (Kd.R_types HO2.out BK2.out (by decide)) (fun _ hk => hk.2) _) (fun _ hk => hk.2) _) (fun _ hk => hk.2) _) (fun _ h_ => h_.1)) hk (fun z hz e => by have := HCRL.out; omega)); have HB6 := Aside0.mk hb; have HK6 := Aside0.mk (KeepBut.trans (keep_far (keep_far (keep_far HK5.out (p := ⟨g2, 0, none⟩) HG2.out _) (p := ⟨g2, 1, none⟩) HG2.out _) (p := ⟨g2, 2, none⟩) HG2.out _) hk (.inl rfl)); have HCR6 := Aside0.mk hcr; clear hb hk hcr)
                    | ((with_reducible refine gate_builtin (b := .append) (xs := #[.tmp 50, .tmp 56]) rfl ?_); at_builtin; refine Kd.R_append Kd.string (w0 := w0) w0.heap.size rfl (.tmp 50) (.tmp 56) 38 9 (.string ⟨#[]⟩) 16 rfl Try.underlying38 info9 rfl (by decide) (by omega) u7 xs t [.string t] (fun z => w.heap.size ≤ z) (fun _ => False) rfl rfl ?aP (fun _ hk => hk.elim) ?aF ?aO ?aB ?aS ?aL ?_; (case aP => exact rfl); (case aB => exact HB6.out); (case aF => exact fun _ h => Nat.le_trans (keep_size HK6.out) h); (case aO => exact HO3.out); (case aS => exact HB6.out.size); (case aL => have := LM.out; omega); intro v134 w27 ho hb hg hat; have HB7 := Aside0.mk hb; have HO7 := Aside0.mk ho; have HK7 := Aside0.mk (HK6.out.trans (KeepBut.of_grown hg cr) (by cases hz : u7.ownBlock with | none => exact .inl rfl | some z => exact .inr ⟨z, rfl, HO3.out.1 z hz⟩)); have HCR7 := Aside0.mk (blk_grown HCR6.out hg (by intro e; have := HO3.out.1 cr e.symm; have := HCRL.out; omega)); clear ho hb hg hat))
                  go_roundg k1
                  case measure => have := HK1.out; omega
                  case rel => exact ⟨_, _, tb, by first | rfl | (simp; done), H', ⟨by have := HK1.out; omega⟩, HO7, HCR7, HB7, HK7⟩
                · rw [if_neg c3] at H
                  exact absurd H (by simp)
              · rw [if_neg c2] at H
                exact absurd H (by simp)
            · rw [if_neg c1] at H
              replace H := Option.bind_eq_some_iff.mp H
              obtain ⟨t, A1, H⟩ := H
              simp only [Option.some.injEq, Prod.mk.injEq] at H
              obtain ⟨rfl, rfl⟩ := H
              have A1' := Aside0.mk A1
              clear A1
              have c1b : decide (i < (l0_2.length : Int)) = false := decide_eq_false c1
              clear c1
              obtain ⟨Ao, co, eo⟩ := Kd.R_slice HO.out
              subst eo
              go_wp2_with ((with_reducible refine gate_callee (f := 20) rfl ?_); refine goesL_ (some 60) rfl rfl Try.func20 (by kernel_rfl) rfl #[.slice Ao xs.length co] rfl (by (try simp only [List.map_toArray, List.map_cons, List.map_nil]); first | done | rfl) ?_; (with_reducible refine (rlp_List.calls k1 _ _ xs t _ ?side1 ?side2 A1'.out).mono ?_); (case side1 => exact (Kd.R_reads' HO.out).2.2); (case side2 => exact (Kd.R_reads' HO.out).2.1); rintro e w30 ⟨rfl, hb⟩; refine ⟨_, rfl, ?_⟩; have HBe := Aside0.mk (below_step HB4.out hb); have HKe := Aside0.mk (HK4.out.trans (KeepBut.of_below hb cr none) (.inl rfl)); have HCRe := Aside0.mk (blk_below HCR4.out hb); clear hb)
              go_ret
              exact ⟨by first | rfl | (simp; done), HBe.out, HKe.out, HCRe.out⟩

end Go.Proofs.Ytkkammncpkgodaa.P
