/- What Go functions of the program come to: a Lean function and its contract for each. Written by a program of this session over the kit's printer, some contracts by hand. -/
import Derived.Test.YtlajpfdmbagedaaDoorP0
import Derived.Test.YtlajpfdmbagedaaDoorP12
namespace Go.Proofs.YtlajpfdmbagedaaDoor.P
open Go.RowKit Go.Proofs.YtlajpfdmbagedaaDoorW.PrintWords Go.Proofs.YtlajpfdmbagedaaDoorW.PrintLast Go.Proofs.YtlajpfdmbagedaaDoorW.PrintMore
attribute [local go_sem] max2_int min2_int max_two min_two max_three min_three max_four min_four   -- for this text's walks alone
set_option linter.unusedVariables false
set_option linter.unusedSimpArgs false

/-! ### loessref03_Pack: function 19 -/
def loessref03_Pack.f (k : Nat) (a0 : ByteArray) (a1 : Bool) : Option (ByteArray × Int) := (loessref03_Right.f k a0).bind fun t182 => (if t182 = true then (if a1 = true then ((some (([16 * 2] : List Int) : List Int)).bind fun y183 => (if ((a0.size : Int) % 2) = 1 then (if 0 < (a0.size : Int) then (if 0 < (y183.length : Int) then ((some (y183.set (0 : Int).toNat (((16 * (2 + 1)) + (bt a0 0)) % 256) : List Int)).bind fun y186 => (if 1 ≤ (a0.size : Int) then ((loessref03_Bytes.f k (a0.extract 1 a0.size)).bind fun bt187 => (if (strOfNums y186).size + bt187.1.size ≤ 9223372036854775807 then (some ((strOfNums y186) ++ bt187.1, 0)) else (none))) else (none))) else (none)) else (none)) else ((loessref03_Bytes.f k a0).bind fun bt189 => (if (strOfNums y183).size + bt189.1.size ≤ 9223372036854775807 then (some ((strOfNums y183) ++ bt189.1, 0)) else (none))))) else ((some (([16 * 0] : List Int) : List Int)).bind fun y191 => (if ((a0.size : Int) % 2) = 1 then (if 0 < (a0.size : Int) then (if 0 < (y191.length : Int) then ((some (y191.set (0 : Int).toNat (((16 * (0 + 1)) + (bt a0 0)) % 256) : List Int)).bind fun y194 => (if 1 ≤ (a0.size : Int) then ((loessref03_Bytes.f k (a0.extract 1 a0.size)).bind fun bt195 => (if (strOfNums y194).size + bt195.1.size ≤ 9223372036854775807 then (some ((strOfNums y194) ++ bt195.1, 0)) else (none))) else (none))) else (none)) else (none)) else ((loessref03_Bytes.f k a0).bind fun bt197 => (if (strOfNums y191).size + bt197.1.size ≤ 9223372036854775807 then (some ((strOfNums y191) ++ bt197.1, 0)) else (none)))))) else (some ((⟨#[]⟩ : ByteArray), 1)))
theorem loessref03_Pack.mono : ∀ a0 a1 k, LeO (loessref03_Pack.f k a0 a1) (loessref03_Pack.f (k + 1) a0 a1) := by
  intro a0 a1 k
  unfold loessref03_Pack.f
  repeat' first
      | (with_reducible exact loessref03_Bytes.mono _ _)
      | (with_reducible exact loessref03_Right.mono _ _)
      | (with_reducible exact LeO.refl _)
      | (with_reducible exact LeO.none _)
      | (with_reducible refine LeO.ite ?_ ?_)
      | (with_reducible refine LeO.bind ?_ (fun _ => ?_))
      | exact loessref03_Bytes.mono _ _
      | exact loessref03_Right.mono _ _
      | exact LeO.none _
      | refine LeO.ite ?_ ?_
      | refine LeO.bind ?_ (fun _ => ?_)
set_option maxHeartbeats 8000000 in
set_option maxRecDepth 100000 in
theorem loessref03_Pack.calls (k : Nat) (a0 : ByteArray) (a1 : Bool) (r1 : ByteArray) (r2 : Int) (w : World) (h : loessref03_Pack.f k a0 a1 = some (r1, r2)) :
    Calls Tryd.prog 19 #[.string a0, .bool a1] w fun e w' => e = .returned (.tuple #[.string r1, .int .i64 r2]) ∧ Below w.heap.size w w' := by
  have HB := Aside0.mk (Below.refl w.heap.size w)
  have H : ((loessref03_Right.f k a0).bind fun t182 => (if t182 = true then (if a1 = true then ((some (([16 * 2] : List Int) : List Int)).bind fun y183 => (if ((a0.size : Int) % 2) = 1 then (if 0 < (a0.size : Int) then (if 0 < (y183.length : Int) then ((some (y183.set (0 : Int).toNat (((16 * (2 + 1)) + (bt a0 0)) % 256) : List Int)).bind fun y186 => (if 1 ≤ (a0.size : Int) then ((loessref03_Bytes.f k (a0.extract 1 a0.size)).bind fun bt187 => (if (strOfNums y186).size + bt187.1.size ≤ 9223372036854775807 then (some ((strOfNums y186) ++ bt187.1, 0)) else (none))) else (none))) else (none)) else (none)) else ((loessref03_Bytes.f k a0).bind fun bt189 => (if (strOfNums y183).size + bt189.1.size ≤ 9223372036854775807 then (some ((strOfNums y183) ++ bt189.1, 0)) else (none))))) else ((some (([16 * 0] : List Int) : List Int)).bind fun y191 => (if ((a0.size : Int) % 2) = 1 then (if 0 < (a0.size : Int) then (if 0 < (y191.length : Int) then ((some (y191.set (0 : Int).toNat (((16 * (0 + 1)) + (bt a0 0)) % 256) : List Int)).bind fun y194 => (if 1 ≤ (a0.size : Int) then ((loessref03_Bytes.f k (a0.extract 1 a0.size)).bind fun bt195 => (if (strOfNums y194).size + bt195.1.size ≤ 9223372036854775807 then (some ((strOfNums y194) ++ bt195.1, 0)) else (none))) else (none))) else (none)) else (none)) else ((loessref03_Bytes.f k a0).bind fun bt197 => (if (strOfNums y191).size + bt197.1.size ≤ 9223372036854775807 then (some ((strOfNums y191) ++ bt197.1, 0)) else (none)))))) else (some ((⟨#[]⟩ : ByteArray), 1)))) = some (r1, r2) := h
  clear h
  replace H := Option.bind_eq_some_iff.mp H
  obtain ⟨t182, A30, H⟩ := H
  replace H : (if t182 = true then (if a1 = true then ((some (([16 * 2] : List Int) : List Int)).bind fun y183 => (if ((a0.size : Int) % 2) = 1 then (if 0 < (a0.size : Int) then (if 0 < (y183.length : Int) then ((some (y183.set (0 : Int).toNat (((16 * (2 + 1)) + (bt a0 0)) % 256) : List Int)).bind fun y186 => (if 1 ≤ (a0.size : Int) then ((loessref03_Bytes.f k (a0.extract 1 a0.size)).bind fun bt187 => (if (strOfNums y186).size + bt187.1.size ≤ 9223372036854775807 then (some ((strOfNums y186) ++ bt187.1, 0)) else (none))) else (none))) else (none)) else (none)) else ((loessref03_Bytes.f k a0).bind fun bt189 => (if (strOfNums y183).size + bt189.1.size ≤ 9223372036854775807 then (some ((strOfNums y183) ++ bt189.1, 0)) else (none))))) else ((some (([16 * 0] : List Int) : List Int)).bind fun y191 => (if ((a0.size : Int) % 2) = 1 then (if 0 < (a0.size : Int) then (if 0 < (y191.length : Int) then ((some (y191.set (0 : Int).toNat (((16 * (0 + 1)) + (bt a0 0)) % 256) : List Int)).bind fun y194 => (if 1 ≤ (a0.size : Int) then ((loessref03_Bytes.f k (a0.extract 1 a0.size)).bind fun bt195 => (if (strOfNums y194).size + bt195.1.size ≤ 9223372036854775807 then (some ((strOfNums y194) ++ bt195.1, 0)) else (none))) else (none))) else (none)) else (none)) else ((loessref03_Bytes.f k a0).bind fun bt197 => (if (strOfNums y191).size + bt197.1.size ≤ 9223372036854775807 then (some ((strOfNums y191) ++ bt197.1, 0)) else (none)))))) else (some ((⟨#[]⟩ : ByteArray), 1))) = some (r1, r2) := H
  have A3 := Aside0.mk A30
  clear A30
  by_cases c4 : t182 = true
  · subst c4
    have H1 : (if a1 = true then ((some (([16 * 2] : List Int) : List Int)).bind fun y183 => (if ((a0.size : Int) % 2) = 1 then (if 0 < (a0.size : Int) then (if 0 < (y183.length : Int) then ((some (y183.set (0 : Int).toNat (((16 * (2 + 1)) + (bt a0 0)) % 256) : List Int)).bind fun y186 => (if 1 ≤ (a0.size : Int) then ((loessref03_Bytes.f k (a0.extract 1 a0.size)).bind fun bt187 => (if (strOfNums y186).size + bt187.1.size ≤ 9223372036854775807 then (some ((strOfNums y186) ++ bt187.1, 0)) else (none))) else (none))) else (none)) else (none)) else ((loessref03_Bytes.f k a0).bind fun bt189 => (if (strOfNums y183).size + bt189.1.size ≤ 9223372036854775807 then (some ((strOfNums y183) ++ bt189.1, 0)) else (none))))) else ((some (([16 * 0] : List Int) : List Int)).bind fun y191 => (if ((a0.size : Int) % 2) = 1 then (if 0 < (a0.size : Int) then (if 0 < (y191.length : Int) then ((some (y191.set (0 : Int).toNat (((16 * (0 + 1)) + (bt a0 0)) % 256) : List Int)).bind fun y194 => (if 1 ≤ (a0.size : Int) then ((loessref03_Bytes.f k (a0.extract 1 a0.size)).bind fun bt195 => (if (strOfNums y194).size + bt195.1.size ≤ 9223372036854775807 then (some ((strOfNums y194) ++ bt195.1, 0)) else (none))) else (none))) else (none)) else (none)) else ((loessref03_Bytes.f k a0).bind fun bt197 => (if (strOfNums y191).size + bt197.1.size ≤ 9223372036854775807 then (some ((strOfNums y191) ++ bt197.1, 0)) else (none)))))) = some (r1, r2) := by rw [if_pos rfl] at H; exact H
    clear H
    have H := H1
    clear H1
    by_cases c5 : a1 = true
    · subst c5
      have H1 : ((some (([16 * 2] : List Int) : List Int)).bind fun y183 => (if ((a0.size : Int) % 2) = 1 then (if 0 < (a0.size : Int) then (if 0 < (y183.length : Int) then ((some (y183.set (0 : Int).toNat (((16 * (2 + 1)) + (bt a0 0)) % 256) : List Int)).bind fun y186 => (if 1 ≤ (a0.size : Int) then ((loessref03_Bytes.f k (a0.extract 1 a0.size)).bind fun bt187 => (if (strOfNums y186).size + bt187.1.size ≤ 9223372036854775807 then (some ((strOfNums y186) ++ bt187.1, 0)) else (none))) else (none))) else (none)) else (none)) else ((loessref03_Bytes.f k a0).bind fun bt189 => (if (strOfNums y183).size + bt189.1.size ≤ 9223372036854775807 then (some ((strOfNums y183) ++ bt189.1, 0)) else (none))))) = some (r1, r2) := by rw [if_pos rfl] at H; exact H
      clear H
      have H := H1
      clear H1
      obtain ⟨y183, hy183⟩ : ∃ y_ : List Int, y_ = (([16 * 2] : List Int)) := ⟨_, rfl⟩
      replace H : (if ((a0.size : Int) % 2) = 1 then (if 0 < (a0.size : Int) then (if 0 < (y183.length : Int) then ((some (y183.set (0 : Int).toNat (((16 * (2 + 1)) + (bt a0 0)) % 256) : List Int)).bind fun y186 => (if 1 ≤ (a0.size : Int) then ((loessref03_Bytes.f k (a0.extract 1 a0.size)).bind fun bt187 => (if (strOfNums y186).size + bt187.1.size ≤ 9223372036854775807 then (some ((strOfNums y186) ++ bt187.1, 0)) else (none))) else (none))) else (none)) else (none)) else ((loessref03_Bytes.f k a0).bind fun bt189 => (if (strOfNums y183).size + bt189.1.size ≤ 9223372036854775807 then (some ((strOfNums y183) ++ bt189.1, 0)) else (none)))) = some (r1, r2) := by first | (rw [hy183]; with_reducible exact H) | (have H2_ := (Option.bind_some _ _).symm.trans H; rw [hy183]; with_reducible exact H2_) | (have H2_ := (Option.bind_some _ _).symm.trans H; with_reducible exact H2_) | with_reducible exact H | (rw [hy183]; exact H) | exact H
      have Ny183 := Aside0.mk hy183
      clear hy183
      by_cases c6 : ((a0.size : Int) % 2) = 1
      · rw [if_pos c6] at H
        have c6b0 : (((a0.size : Int) % 2) == 1) = true := beq_iff_eq.mpr c6
        have c6b1 : (((a0.size : Int) % 2) != 1) = false := bne_eq_false_iff_eq.mpr c6
        clear c6
        by_cases c7 : 0 < (a0.size : Int)
        · rw [if_pos c7] at H
          have c7b0 : decide (0 < (a0.size : Int)) = true := decide_eq_true c7
          have c7b1 : decide (0 < a0.size) = true := decide_eq_true (by omega)
          clear c7
          by_cases c9 : 0 < (y183.length : Int)
          · rw [if_pos c9] at H
            have c9b0 : decide (0 < (y183.length : Int)) = true := decide_eq_true c9
            have c9b1 : decide (0 < y183.length) = true := decide_eq_true (by omega)
            clear c9
            obtain ⟨y186, hy186⟩ : ∃ y_ : List Int, y_ = (y183.set (0 : Int).toNat (((16 * (2 + 1)) + (bt a0 0)) % 256)) := ⟨_, rfl⟩
            replace H : (if 1 ≤ (a0.size : Int) then ((loessref03_Bytes.f k (a0.extract 1 a0.size)).bind fun bt187 => (if (strOfNums y186).size + bt187.1.size ≤ 9223372036854775807 then (some ((strOfNums y186) ++ bt187.1, 0)) else (none))) else (none)) = some (r1, r2) := by first | (rw [hy186]; with_reducible exact H) | (have H2_ := (Option.bind_some _ _).symm.trans H; rw [hy186]; with_reducible exact H2_) | (have H2_ := (Option.bind_some _ _).symm.trans H; with_reducible exact H2_) | with_reducible exact H | (rw [hy186]; exact H) | exact H
            have Ny186 := Aside0.mk hy186
            clear hy186
            by_cases c11 : 1 ≤ (a0.size : Int)
            · rw [if_pos c11] at H
              have c11b0 := eq_true c11
              have c11b1 : decide (1 ≤ (a0.size : Int)) = true := decide_eq_true c11
              clear c11
              replace H := Option.bind_eq_some_iff.mp H
              obtain ⟨⟨t187, t188⟩, A120, H⟩ := H
              replace H : (if (strOfNums y186).size + t187.size ≤ 9223372036854775807 then (some ((strOfNums y186) ++ t187, 0)) else (none)) = some (r1, r2) := H
              have A12 := Aside0.mk A120
              clear A120
              by_cases c13 : (strOfNums y186).size + t187.size ≤ 9223372036854775807
              · rw [if_pos c13] at H
                have c13b0 := eq_true c13
                have c13b1 : decide ((strOfNums y186).size + t187.size ≤ 9223372036854775807) = true := decide_eq_true c13
                try have c13b2 : (9223372036854775807 < (strOfNums y186).size + t187.size) = False := eq_false (Nat.not_lt.2 c13)
                simp only [Option.some.injEq, Prod.mk.injEq] at H
                obtain ⟨rfl, rfl⟩ := H
                go_enter Tryd.func19, Tryd.ntmps19
                go_wp2_with (first | ((with_reducible refine gate_callee (f := 23) rfl ?_); refine goesL_ (some 12) rfl rfl Tryd.func23 (by kernel_rfl) rfl #[.string a0] rfl (by (try simp only [List.map_toArray, List.map_cons, List.map_nil]); first | done | rfl | (simp only [List.length_drop, List.length_take]; rfl)) ?_; (with_reducible refine (loessref03_Right.calls k a0 true _ A3.out).mono ?_); rintro e w' ⟨rfl, ⟨nd, rfl⟩⟩; refine ⟨_, rfl, ?_⟩) | ((with_reducible refine gate_dst (N := 18) rfl ?_); refine Kd.R_lit (Kd.int .u8) _ 5 ?hg (N := 18) ?hd (xs := ([16 * 2] : List Int)) (inner := [.int .u8 (16 * 2)]) (ok := fun _ => True) (okp := fun _ => True) ?hr ?hp (fun _ hk => hk) trivial (Below.refl _ _) (Nat.le_refl _) (by simp) ?_; (case hd => rfl); (case hg => rfl); (case hr => first | (go_simp; done) | (go_simp; rfl)); (case hp => exact (Reps.one (show Kd.M (Kd.int .u8) _ _ _ (16 * 2) [.int .u8 (16 * 2)] from rfl) (Reps.none _ _))); intro v184 w14 ho15 hb hg_ hnew_; clear hg_ hnew_; (first | rw [← Ny183.out] at ho15 | (simp only [Int.reduceToNat] at ho15; rw [← Ny183.out] at ho15)); have n0_ := Aside0.mk (Kd.R_lower ho15 (below_size (by repeat (first | (with_reducible first | exact HB.out | apply below_alloc | apply pw_below_drewN | apply below_drew1) | exact HB.out)))); have n1_ := Aside0.mk (below_step (by repeat (first | (with_reducible first | exact HB.out | apply below_alloc | apply pw_below_drewN | apply below_drew1) | exact HB.out)) hb); clear HB; have HO185 := n0_; have HB := n1_; clear n0_ n1_; clear hb ho15; have p8 : 0 ≤ (0 : Int) := (by omega); have q8 : 0 < a0.size := (by have : (0 : Int) < (a0.size : Int) := of_decide_eq_true (by first | (with_reducible assumption) | assumption); omega); have hx8 : ∀ h : 0 < a0.size, ((a0[0]'h).toNat : Int) = bt a0 0 := bt_at a0 0; clear p8; have qi8 : (0 < (a0.size : Int)) = True := eq_true (of_decide_eq_true (by first | (with_reducible assumption) | assumption)); replace q8 := eq_true q8; have p10 : 0 ≤ (0 : Int) := (by omega); have q10 : (0 : Int) < ((y183.length : Int) : Int) := of_decide_eq_true (by first | (with_reducible assumption) | assumption); have qi10 : (0 < y183.length) = True := eq_true (by omega); obtain ⟨go10, co10, eo10, gb10, gl10, cl10, HG10⟩ := Kd.R_form HO185.out (by omega); (first | cases eo10 | (injection eo10 with ea_ en_ ec_; (first | subst ea_ | (injection ea_ with ea_; subst ea_)); subst ec_; clear en_)); have GB10 := Aside0.mk gb10; have GG10 := Aside0.mk HG10; clear gb10 gl10 HG10; obtain ⟨hx10_0, hf10_0⟩ := Kd.R_celln 0 HO185.out (0 : Int) p10 q10; (try rw [show ((0 : Int)).toNat = 0 from rfl] at hx10_0); (try simp only [Nat.reduceMul, Nat.zero_mul, Nat.zero_add, Nat.reduceAdd] at hx10_0); (try rw [show ((0 : Int)).toNat = 0 from rfl] at hf10_0); (try simp only [Nat.reduceMul, Nat.zero_mul, Nat.zero_add, Nat.reduceAdd] at hf10_0); replace p10 := eq_true p10; replace q10 := eq_true q10; obtain ⟨hy16_, hz16_⟩ := Kd.R_celln 0 HO185.out (0 : Int) (by omega) (of_decide_eq_true (by first | (with_reducible assumption) | assumption)); (try simp only [Int.reduceToNat, Int.toNat_zero, Int.toNat_ofNat, Nat.reduceMul, Nat.zero_mul, Nat.zero_add] at hy16_ hz16_); (try rw [show ((0 : Int)).toNat = 0 from rfl] at hy16_); (try rw [show ((0 : Int)).toNat = 0 from rfl] at hz16_); have HP16 := Kd.R_putg HO185.out (0 : Int) (((16 * (2 + 1)) + (bt a0 0)) % 256)) | ((with_reducible refine gate_store (t := 5) (p := 30) rfl ?_); refine store_event (t := 5) (p := 30) (v := ?vo_w17) (w1 := (w14.setCell ⟨go10, (0 : Int).toNat, none⟩ (.int .u8 (((16 * (2 + 1)) + (bt a0 0)) % 256)))) ?hg ?ho ?hn ?hr ?_; (case ho => rfl); (case hg => rfl); (case hn => rfl); (case hr => first | (go_simp; done) | (go_simp; rfl)); intro w17 hw; have hg : w14.grownBy w17 (some go10) := (by rw [hw]; exact HP16.2); have hp_ : Kd.R (Kd.int .u8) 5 w17 w.heap.size (fun _ => True) (.slice (some ⟨go10, 0, none⟩) y183.length co10) y186 := (by rw [hw, Ny186.out]; exact HP16.1); clear HP16; have n0_ := Aside0.mk (hp_); have n1_ := Aside0.mk ((by rw [hw]; exact below_set (HB.out) GB10.out : Below w.heap.size w w17)); clear HO185; clear HB; have HO185 := n0_; have HB := n1_; clear n0_ n1_; clear hg hw hp_) | ((with_reducible refine gate_callee (f := 18) rfl ?_); refine goesL_ (some 35) rfl rfl Tryd.func18 (by kernel_rfl) rfl #[.string (a0.extract 1 a0.size)] rfl (by (try simp only [List.map_toArray, List.map_cons, List.map_nil]); first | done | rfl | (simp only [List.length_drop, List.length_take]; rfl)) ?_; (with_reducible refine (loessref03_Bytes.calls k (a0.extract 1 a0.size) t187 t188 _ A12.out).mono ?_); rintro e w18 ⟨rfl, hb⟩; refine ⟨_, rfl, ?_⟩; have n0_ := Aside0.mk (Kd.R_below (by (with_reducible repeat (first | apply Kd.R_alloc | apply Kd.R_drewN | apply Kd.R_drew)); exact HO185.out) hb); have n1_ := Aside0.mk (below_step (by repeat (first | (with_reducible first | exact HB.out | apply below_alloc | apply pw_below_drewN | apply below_drew1) | exact HB.out)) hb); clear HO185; clear HB; have HO185 := n0_; have HB := n1_; clear n0_ n1_; (try clear hb); (try clear hb2); (try clear hk); (try clear hi); have hcv19 := own_string (P := Tryd.prog) Tryd.underlying38 Tryd.underlying5 Tryd.underlying9 (Kd.own_of_R HO185.out)))
                go_ret2
                exact ⟨by first | rfl | (simp [errW_none, errW_some] <;> rfl) | (simp [*, errW_none, errW_some] <;> rfl), by repeat (first | (with_reducible first | exact HB.out | apply below_alloc | apply pw_below_drewN | apply below_drew1) | exact HB.out)⟩
              · rw [if_neg c13] at H
                exact absurd H (by simp)
            · rw [if_neg c11] at H
              exact absurd H (by simp)
          · rw [if_neg c9] at H
            exact absurd H (by simp)
        · rw [if_neg c7] at H
          exact absurd H (by simp)
      · rw [if_neg c6] at H
        have c6b0 : (((a0.size : Int) % 2) == 1) = false := beq_eq_false_iff_ne.mpr c6
        have c6b1 : (((a0.size : Int) % 2) != 1) = true := bne_iff_ne.mpr c6
        replace H := Option.bind_eq_some_iff.mp H
        obtain ⟨⟨t189, t190⟩, A200, H⟩ := H
        replace H : (if (strOfNums y183).size + t189.size ≤ 9223372036854775807 then (some ((strOfNums y183) ++ t189, 0)) else (none)) = some (r1, r2) := H
        have A20 := Aside0.mk A200
        clear A200
        by_cases c21 : (strOfNums y183).size + t189.size ≤ 9223372036854775807
        · rw [if_pos c21] at H
          have c21b0 := eq_true c21
          have c21b1 : decide ((strOfNums y183).size + t189.size ≤ 9223372036854775807) = true := decide_eq_true c21
          try have c21b2 : (9223372036854775807 < (strOfNums y183).size + t189.size) = False := eq_false (Nat.not_lt.2 c21)
          simp only [Option.some.injEq, Prod.mk.injEq] at H
          obtain ⟨rfl, rfl⟩ := H
          go_enter Tryd.func19, Tryd.ntmps19
          go_wp2_with (first | ((with_reducible refine gate_callee (f := 23) rfl ?_); refine goesL_ (some 12) rfl rfl Tryd.func23 (by kernel_rfl) rfl #[.string a0] rfl (by (try simp only [List.map_toArray, List.map_cons, List.map_nil]); first | done | rfl | (simp only [List.length_drop, List.length_take]; rfl)) ?_; (with_reducible refine (loessref03_Right.calls k a0 true _ A3.out).mono ?_); rintro e w' ⟨rfl, ⟨nd, rfl⟩⟩; refine ⟨_, rfl, ?_⟩) | ((with_reducible refine gate_dst (N := 18) rfl ?_); refine Kd.R_lit (Kd.int .u8) _ 5 ?hg (N := 18) ?hd (xs := ([16 * 2] : List Int)) (inner := [.int .u8 (16 * 2)]) (ok := fun _ => True) (okp := fun _ => True) ?hr ?hp (fun _ hk => hk) trivial (Below.refl _ _) (Nat.le_refl _) (by simp) ?_; (case hd => rfl); (case hg => rfl); (case hr => first | (go_simp; done) | (go_simp; rfl)); (case hp => exact (Reps.one (show Kd.M (Kd.int .u8) _ _ _ (16 * 2) [.int .u8 (16 * 2)] from rfl) (Reps.none _ _))); intro v184 w22 ho23 hb hg_ hnew_; clear hg_ hnew_; (first | rw [← Ny183.out] at ho23 | (simp only [Int.reduceToNat] at ho23; rw [← Ny183.out] at ho23)); have n0_ := Aside0.mk (Kd.R_lower ho23 (below_size (by repeat (first | (with_reducible first | exact HB.out | apply below_alloc | apply pw_below_drewN | apply below_drew1) | exact HB.out)))); have n1_ := Aside0.mk (below_step (by repeat (first | (with_reducible first | exact HB.out | apply below_alloc | apply pw_below_drewN | apply below_drew1) | exact HB.out)) hb); clear HB; have HO185 := n0_; have HB := n1_; clear n0_ n1_; clear hb ho23) | ((with_reducible refine gate_callee (f := 18) rfl ?_); refine goesL_ (some 35) rfl rfl Tryd.func18 (by kernel_rfl) rfl #[.string a0] rfl (by (try simp only [List.map_toArray, List.map_cons, List.map_nil]); first | done | rfl | (simp only [List.length_drop, List.length_take]; rfl)) ?_; (with_reducible refine (loessref03_Bytes.calls k a0 t189 t190 _ A20.out).mono ?_); rintro e w24 ⟨rfl, hb⟩; refine ⟨_, rfl, ?_⟩; have n0_ := Aside0.mk (Kd.R_below (by (with_reducible repeat (first | apply Kd.R_alloc | apply Kd.R_drewN | apply Kd.R_drew)); exact HO185.out) hb); have n1_ := Aside0.mk (below_step (by repeat (first | (with_reducible first | exact HB.out | apply below_alloc | apply pw_below_drewN | apply below_drew1) | exact HB.out)) hb); clear HO185; clear HB; have HO185 := n0_; have HB := n1_; clear n0_ n1_; (try clear hb); (try clear hb2); (try clear hk); (try clear hi); have hcv25 := own_string (P := Tryd.prog) Tryd.underlying38 Tryd.underlying5 Tryd.underlying9 (Kd.own_of_R HO185.out)))
          go_ret2
          exact ⟨by first | rfl | (simp [errW_none, errW_some] <;> rfl) | (simp [*, errW_none, errW_some] <;> rfl), by repeat (first | (with_reducible first | exact HB.out | apply below_alloc | apply pw_below_drewN | apply below_drew1) | exact HB.out)⟩
        · rw [if_neg c21] at H
          exact absurd H (by simp)
    · replace c5 := Bool.eq_false_iff.mpr c5
      subst c5
      have H1 : ((some (([16 * 0] : List Int) : List Int)).bind fun y191 => (if ((a0.size : Int) % 2) = 1 then (if 0 < (a0.size : Int) then (if 0 < (y191.length : Int) then ((some (y191.set (0 : Int).toNat (((16 * (0 + 1)) + (bt a0 0)) % 256) : List Int)).bind fun y194 => (if 1 ≤ (a0.size : Int) then ((loessref03_Bytes.f k (a0.extract 1 a0.size)).bind fun bt195 => (if (strOfNums y194).size + bt195.1.size ≤ 9223372036854775807 then (some ((strOfNums y194) ++ bt195.1, 0)) else (none))) else (none))) else (none)) else (none)) else ((loessref03_Bytes.f k a0).bind fun bt197 => (if (strOfNums y191).size + bt197.1.size ≤ 9223372036854775807 then (some ((strOfNums y191) ++ bt197.1, 0)) else (none))))) = some (r1, r2) := by rw [if_neg (show ¬ (false = true) by decide)] at H; exact H
      clear H
      have H := H1
      clear H1
      obtain ⟨y191, hy191⟩ : ∃ y_ : List Int, y_ = (([16 * 0] : List Int)) := ⟨_, rfl⟩
      replace H : (if ((a0.size : Int) % 2) = 1 then (if 0 < (a0.size : Int) then (if 0 < (y191.length : Int) then ((some (y191.set (0 : Int).toNat (((16 * (0 + 1)) + (bt a0 0)) % 256) : List Int)).bind fun y194 => (if 1 ≤ (a0.size : Int) then ((loessref03_Bytes.f k (a0.extract 1 a0.size)).bind fun bt195 => (if (strOfNums y194).size + bt195.1.size ≤ 9223372036854775807 then (some ((strOfNums y194) ++ bt195.1, 0)) else (none))) else (none))) else (none)) else (none)) else ((loessref03_Bytes.f k a0).bind fun bt197 => (if (strOfNums y191).size + bt197.1.size ≤ 9223372036854775807 then (some ((strOfNums y191) ++ bt197.1, 0)) else (none)))) = some (r1, r2) := by first | (rw [hy191]; with_reducible exact H) | (have H2_ := (Option.bind_some _ _).symm.trans H; rw [hy191]; with_reducible exact H2_) | (have H2_ := (Option.bind_some _ _).symm.trans H; with_reducible exact H2_) | with_reducible exact H | (rw [hy191]; exact H) | exact H
      have Ny191 := Aside0.mk hy191
      clear hy191
      by_cases c26 : ((a0.size : Int) % 2) = 1
      · rw [if_pos c26] at H
        have c26b0 : (((a0.size : Int) % 2) == 1) = true := beq_iff_eq.mpr c26
        have c26b1 : (((a0.size : Int) % 2) != 1) = false := bne_eq_false_iff_eq.mpr c26
        clear c26
        by_cases c27 : 0 < (a0.size : Int)
        · rw [if_pos c27] at H
          have c27b0 : decide (0 < (a0.size : Int)) = true := decide_eq_true c27
          have c27b1 : decide (0 < a0.size) = true := decide_eq_true (by omega)
          clear c27
          by_cases c29 : 0 < (y191.length : Int)
          · rw [if_pos c29] at H
            have c29b0 : decide (0 < (y191.length : Int)) = true := decide_eq_true c29
            have c29b1 : decide (0 < y191.length) = true := decide_eq_true (by omega)
            clear c29
            obtain ⟨y194, hy194⟩ : ∃ y_ : List Int, y_ = (y191.set (0 : Int).toNat (((16 * (0 + 1)) + (bt a0 0)) % 256)) := ⟨_, rfl⟩
            replace H : (if 1 ≤ (a0.size : Int) then ((loessref03_Bytes.f k (a0.extract 1 a0.size)).bind fun bt195 => (if (strOfNums y194).size + bt195.1.size ≤ 9223372036854775807 then (some ((strOfNums y194) ++ bt195.1, 0)) else (none))) else (none)) = some (r1, r2) := by first | (rw [hy194]; with_reducible exact H) | (have H2_ := (Option.bind_some _ _).symm.trans H; rw [hy194]; with_reducible exact H2_) | (have H2_ := (Option.bind_some _ _).symm.trans H; with_reducible exact H2_) | with_reducible exact H | (rw [hy194]; exact H) | exact H
            have Ny194 := Aside0.mk hy194
            clear hy194
            by_cases c31 : 1 ≤ (a0.size : Int)
            · rw [if_pos c31] at H
              have c31b0 := eq_true c31
              have c31b1 : decide (1 ≤ (a0.size : Int)) = true := decide_eq_true c31
              clear c31
              replace H := Option.bind_eq_some_iff.mp H
              obtain ⟨⟨t195, t196⟩, A320, H⟩ := H
              replace H : (if (strOfNums y194).size + t195.size ≤ 9223372036854775807 then (some ((strOfNums y194) ++ t195, 0)) else (none)) = some (r1, r2) := H
              have A32 := Aside0.mk A320
              clear A320
              by_cases c33 : (strOfNums y194).size + t195.size ≤ 9223372036854775807
              · rw [if_pos c33] at H
                have c33b0 := eq_true c33
                have c33b1 : decide ((strOfNums y194).size + t195.size ≤ 9223372036854775807) = true := decide_eq_true c33
                try have c33b2 : (9223372036854775807 < (strOfNums y194).size + t195.size) = False := eq_false (Nat.not_lt.2 c33)
                simp only [Option.some.injEq, Prod.mk.injEq] at H
                obtain ⟨rfl, rfl⟩ := H
                go_enter Tryd.func19, Tryd.ntmps19
                go_wp2_with (first | ((with_reducible refine gate_callee (f := 23) rfl ?_); refine goesL_ (some 12) rfl rfl Tryd.func23 (by kernel_rfl) rfl #[.string a0] rfl (by (try simp only [List.map_toArray, List.map_cons, List.map_nil]); first | done | rfl | (simp only [List.length_drop, List.length_take]; rfl)) ?_; (with_reducible refine (loessref03_Right.calls k a0 true _ A3.out).mono ?_); rintro e w' ⟨rfl, ⟨nd, rfl⟩⟩; refine ⟨_, rfl, ?_⟩) | ((with_reducible refine gate_dst (N := 18) rfl ?_); refine Kd.R_lit (Kd.int .u8) _ 5 ?hg (N := 18) ?hd (xs := ([16 * 0] : List Int)) (inner := [.int .u8 (16 * 0)]) (ok := fun _ => True) (okp := fun _ => True) ?hr ?hp (fun _ hk => hk) trivial (Below.refl _ _) (Nat.le_refl _) (by simp) ?_; (case hd => rfl); (case hg => rfl); (case hr => first | (go_simp; done) | (go_simp; rfl)); (case hp => exact (Reps.one (show Kd.M (Kd.int .u8) _ _ _ (16 * 0) [.int .u8 (16 * 0)] from rfl) (Reps.none _ _))); intro v192 w34 ho35 hb hg_ hnew_; clear hg_ hnew_; (first | rw [← Ny191.out] at ho35 | (simp only [Int.reduceToNat] at ho35; rw [← Ny191.out] at ho35)); have n0_ := Aside0.mk (Kd.R_lower ho35 (below_size (by repeat (first | (with_reducible first | exact HB.out | apply below_alloc | apply pw_below_drewN | apply below_drew1) | exact HB.out)))); have n1_ := Aside0.mk (below_step (by repeat (first | (with_reducible first | exact HB.out | apply below_alloc | apply pw_below_drewN | apply below_drew1) | exact HB.out)) hb); clear HB; have HO193 := n0_; have HB := n1_; clear n0_ n1_; clear hb ho35; have p28 : 0 ≤ (0 : Int) := (by omega); have q28 : 0 < a0.size := (by have : (0 : Int) < (a0.size : Int) := of_decide_eq_true (by first | (with_reducible assumption) | assumption); omega); have hx28 : ∀ h : 0 < a0.size, ((a0[0]'h).toNat : Int) = bt a0 0 := bt_at a0 0; clear p28; have qi28 : (0 < (a0.size : Int)) = True := eq_true (of_decide_eq_true (by first | (with_reducible assumption) | assumption)); replace q28 := eq_true q28; have p30 : 0 ≤ (0 : Int) := (by omega); have q30 : (0 : Int) < ((y191.length : Int) : Int) := of_decide_eq_true (by first | (with_reducible assumption) | assumption); have qi30 : (0 < y191.length) = True := eq_true (by omega); obtain ⟨go30, co30, eo30, gb30, gl30, cl30, HG30⟩ := Kd.R_form HO193.out (by omega); (first | cases eo30 | (injection eo30 with ea_ en_ ec_; (first | subst ea_ | (injection ea_ with ea_; subst ea_)); subst ec_; clear en_)); have GB30 := Aside0.mk gb30; have GG30 := Aside0.mk HG30; clear gb30 gl30 HG30; obtain ⟨hx30_0, hf30_0⟩ := Kd.R_celln 0 HO193.out (0 : Int) p30 q30; (try rw [show ((0 : Int)).toNat = 0 from rfl] at hx30_0); (try simp only [Nat.reduceMul, Nat.zero_mul, Nat.zero_add, Nat.reduceAdd] at hx30_0); (try rw [show ((0 : Int)).toNat = 0 from rfl] at hf30_0); (try simp only [Nat.reduceMul, Nat.zero_mul, Nat.zero_add, Nat.reduceAdd] at hf30_0); replace p30 := eq_true p30; replace q30 := eq_true q30; obtain ⟨hy36_, hz36_⟩ := Kd.R_celln 0 HO193.out (0 : Int) (by omega) (of_decide_eq_true (by first | (with_reducible assumption) | assumption)); (try simp only [Int.reduceToNat, Int.toNat_zero, Int.toNat_ofNat, Nat.reduceMul, Nat.zero_mul, Nat.zero_add] at hy36_ hz36_); (try rw [show ((0 : Int)).toNat = 0 from rfl] at hy36_); (try rw [show ((0 : Int)).toNat = 0 from rfl] at hz36_); have HP36 := Kd.R_putg HO193.out (0 : Int) (((16 * (0 + 1)) + (bt a0 0)) % 256)) | ((with_reducible refine gate_store (t := 5) (p := 30) rfl ?_); refine store_event (t := 5) (p := 30) (v := ?vo_w37) (w1 := (w34.setCell ⟨go30, (0 : Int).toNat, none⟩ (.int .u8 (((16 * (0 + 1)) + (bt a0 0)) % 256)))) ?hg ?ho ?hn ?hr ?_; (case ho => rfl); (case hg => rfl); (case hn => rfl); (case hr => first | (go_simp; done) | (go_simp; rfl)); intro w37 hw; have hg : w34.grownBy w37 (some go30) := (by rw [hw]; exact HP36.2); have hp_ : Kd.R (Kd.int .u8) 5 w37 w.heap.size (fun _ => True) (.slice (some ⟨go30, 0, none⟩) y191.length co30) y194 := (by rw [hw, Ny194.out]; exact HP36.1); clear HP36; have n0_ := Aside0.mk (hp_); have n1_ := Aside0.mk ((by rw [hw]; exact below_set (HB.out) GB30.out : Below w.heap.size w w37)); clear HO193; clear HB; have HO193 := n0_; have HB := n1_; clear n0_ n1_; clear hg hw hp_) | ((with_reducible refine gate_callee (f := 18) rfl ?_); refine goesL_ (some 35) rfl rfl Tryd.func18 (by kernel_rfl) rfl #[.string (a0.extract 1 a0.size)] rfl (by (try simp only [List.map_toArray, List.map_cons, List.map_nil]); first | done | rfl | (simp only [List.length_drop, List.length_take]; rfl)) ?_; (with_reducible refine (loessref03_Bytes.calls k (a0.extract 1 a0.size) t195 t196 _ A32.out).mono ?_); rintro e w38 ⟨rfl, hb⟩; refine ⟨_, rfl, ?_⟩; have n0_ := Aside0.mk (Kd.R_below (by (with_reducible repeat (first | apply Kd.R_alloc | apply Kd.R_drewN | apply Kd.R_drew)); exact HO193.out) hb); have n1_ := Aside0.mk (below_step (by repeat (first | (with_reducible first | exact HB.out | apply below_alloc | apply pw_below_drewN | apply below_drew1) | exact HB.out)) hb); clear HO193; clear HB; have HO193 := n0_; have HB := n1_; clear n0_ n1_; (try clear hb); (try clear hb2); (try clear hk); (try clear hi); have hcv39 := own_string (P := Tryd.prog) Tryd.underlying38 Tryd.underlying5 Tryd.underlying9 (Kd.own_of_R HO193.out)))
                go_ret2
                exact ⟨by first | rfl | (simp [errW_none, errW_some] <;> rfl) | (simp [*, errW_none, errW_some] <;> rfl), by repeat (first | (with_reducible first | exact HB.out | apply below_alloc | apply pw_below_drewN | apply below_drew1) | exact HB.out)⟩
              · rw [if_neg c33] at H
                exact absurd H (by simp)
            · rw [if_neg c31] at H
              exact absurd H (by simp)
          · rw [if_neg c29] at H
            exact absurd H (by simp)
        · rw [if_neg c27] at H
          exact absurd H (by simp)
      · rw [if_neg c26] at H
        have c26b0 : (((a0.size : Int) % 2) == 1) = false := beq_eq_false_iff_ne.mpr c26
        have c26b1 : (((a0.size : Int) % 2) != 1) = true := bne_iff_ne.mpr c26
        replace H := Option.bind_eq_some_iff.mp H
        obtain ⟨⟨t197, t198⟩, A400, H⟩ := H
        replace H : (if (strOfNums y191).size + t197.size ≤ 9223372036854775807 then (some ((strOfNums y191) ++ t197, 0)) else (none)) = some (r1, r2) := H
        have A40 := Aside0.mk A400
        clear A400
        by_cases c41 : (strOfNums y191).size + t197.size ≤ 9223372036854775807
        · rw [if_pos c41] at H
          have c41b0 := eq_true c41
          have c41b1 : decide ((strOfNums y191).size + t197.size ≤ 9223372036854775807) = true := decide_eq_true c41
          try have c41b2 : (9223372036854775807 < (strOfNums y191).size + t197.size) = False := eq_false (Nat.not_lt.2 c41)
          simp only [Option.some.injEq, Prod.mk.injEq] at H
          obtain ⟨rfl, rfl⟩ := H
          go_enter Tryd.func19, Tryd.ntmps19
          go_wp2_with (first | ((with_reducible refine gate_callee (f := 23) rfl ?_); refine goesL_ (some 12) rfl rfl Tryd.func23 (by kernel_rfl) rfl #[.string a0] rfl (by (try simp only [List.map_toArray, List.map_cons, List.map_nil]); first | done | rfl | (simp only [List.length_drop, List.length_take]; rfl)) ?_; (with_reducible refine (loessref03_Right.calls k a0 true _ A3.out).mono ?_); rintro e w' ⟨rfl, ⟨nd, rfl⟩⟩; refine ⟨_, rfl, ?_⟩) | ((with_reducible refine gate_dst (N := 18) rfl ?_); refine Kd.R_lit (Kd.int .u8) _ 5 ?hg (N := 18) ?hd (xs := ([16 * 0] : List Int)) (inner := [.int .u8 (16 * 0)]) (ok := fun _ => True) (okp := fun _ => True) ?hr ?hp (fun _ hk => hk) trivial (Below.refl _ _) (Nat.le_refl _) (by simp) ?_; (case hd => rfl); (case hg => rfl); (case hr => first | (go_simp; done) | (go_simp; rfl)); (case hp => exact (Reps.one (show Kd.M (Kd.int .u8) _ _ _ (16 * 0) [.int .u8 (16 * 0)] from rfl) (Reps.none _ _))); intro v192 w42 ho43 hb hg_ hnew_; clear hg_ hnew_; (first | rw [← Ny191.out] at ho43 | (simp only [Int.reduceToNat] at ho43; rw [← Ny191.out] at ho43)); have n0_ := Aside0.mk (Kd.R_lower ho43 (below_size (by repeat (first | (with_reducible first | exact HB.out | apply below_alloc | apply pw_below_drewN | apply below_drew1) | exact HB.out)))); have n1_ := Aside0.mk (below_step (by repeat (first | (with_reducible first | exact HB.out | apply below_alloc | apply pw_below_drewN | apply below_drew1) | exact HB.out)) hb); clear HB; have HO193 := n0_; have HB := n1_; clear n0_ n1_; clear hb ho43) | ((with_reducible refine gate_callee (f := 18) rfl ?_); refine goesL_ (some 35) rfl rfl Tryd.func18 (by kernel_rfl) rfl #[.string a0] rfl (by (try simp only [List.map_toArray, List.map_cons, List.map_nil]); first | done | rfl | (simp only [List.length_drop, List.length_take]; rfl)) ?_; (with_reducible refine (loessref03_Bytes.calls k a0 t197 t198 _ A40.out).mono ?_); rintro e w44 ⟨rfl, hb⟩; refine ⟨_, rfl, ?_⟩; have n0_ := Aside0.mk (Kd.R_below (by (with_reducible repeat (first | apply Kd.R_alloc | apply Kd.R_drewN | apply Kd.R_drew)); exact HO193.out) hb); have n1_ := Aside0.mk (below_step (by repeat (first | (with_reducible first | exact HB.out | apply below_alloc | apply pw_below_drewN | apply below_drew1) | exact HB.out)) hb); clear HO193; clear HB; have HO193 := n0_; have HB := n1_; clear n0_ n1_; (try clear hb); (try clear hb2); (try clear hk); (try clear hi); have hcv45 := own_string (P := Tryd.prog) Tryd.underlying38 Tryd.underlying5 Tryd.underlying9 (Kd.own_of_R HO193.out)))
          go_ret2
          exact ⟨by first | rfl | (simp [errW_none, errW_some] <;> rfl) | (simp [*, errW_none, errW_some] <;> rfl), by repeat (first | (with_reducible first | exact HB.out | apply below_alloc | apply pw_below_drewN | apply below_drew1) | exact HB.out)⟩
        · rw [if_neg c41] at H
          exact absurd H (by simp)
  · replace c4 := Bool.eq_false_iff.mpr c4
    subst c4
    have H1 : (some ((⟨#[]⟩ : ByteArray), 1)) = some (r1, r2) := by rw [if_neg (show ¬ (false = true) by decide)] at H; exact H
    clear H
    have H := H1
    clear H1
    simp only [Option.some.injEq, Prod.mk.injEq] at H
    obtain ⟨rfl, rfl⟩ := H
    go_enter Tryd.func19, Tryd.ntmps19
    go_wp2_with (first | ((with_reducible refine gate_callee (f := 23) rfl ?_); refine goesL_ (some 12) rfl rfl Tryd.func23 (by kernel_rfl) rfl #[.string a0] rfl (by (try simp only [List.map_toArray, List.map_cons, List.map_nil]); first | done | rfl | (simp only [List.length_drop, List.length_take]; rfl)) ?_; (with_reducible refine (loessref03_Right.calls k a0 false _ A3.out).mono ?_); rintro e w' ⟨rfl, ⟨nd, rfl⟩⟩; refine ⟨_, rfl, ?_⟩))
    go_ret2
    exact ⟨by first | rfl | (simp [errW_none, errW_some] <;> rfl) | (simp [*, errW_none, errW_some] <;> rfl), by repeat (first | (with_reducible first | exact HB.out | apply below_alloc | apply pw_below_drewN | apply below_drew1) | exact HB.out)⟩

/-! ### loessref03_Of: function 22 -/
def loessref03_Of.l0 : Nat → ByteArray → List Int → Int → Option (ByteArray)
  | 0, _, _, _ => none
  | k + 1, x0, x3, x4 => if x4 < (x0.size : Int) then (if 0 ≤ x4 then ((some (([(Int.tdiv (bt x0 x4) 16) % 256, Int.tmod (bt x0 x4) 16] : List Int) : List Int)).bind fun y199 => (if x3.length + y199.length < 140737488355328 then (loessref03_Of.l0 k x0 (x3 ++ y199) (wrap64 (x4 + 1))) else (none))) else (none)) else (some (strOfNums x3))
def loessref03_Of.f (k : Nat) (a0 : ByteArray) : Option (ByteArray) := loessref03_Of.l0 k a0 ([] : List Int) 0
theorem loessref03_Of.mono_l : ∀ k, (∀ y0 y1 y2, LeO (loessref03_Of.l0 k y0 y1 y2) (loessref03_Of.l0 (k + 1) y0 y1 y2))
  | 0 => fun _ _ _ r h => by simp [loessref03_Of.l0] at h
  | k + 1 => by
    have ih0 := loessref03_Of.mono_l k
    · intro y0 y1 y2
      unfold loessref03_Of.l0
      repeat' first
      | (with_reducible exact ih0 _ _ _)
      | (with_reducible exact LeO.refl _)
      | (with_reducible exact LeO.none _)
      | (with_reducible refine LeO.ite ?_ ?_)
      | (with_reducible refine LeO.bind ?_ (fun _ => ?_))
      | exact ih0 _ _ _
      | exact LeO.none _
      | refine LeO.ite ?_ ?_
      | refine LeO.bind ?_ (fun _ => ?_)
theorem loessref03_Of.mono : ∀ a0 k, LeO (loessref03_Of.f k a0) (loessref03_Of.f (k + 1) a0) := by
  intro a0 k
  have ih0 := loessref03_Of.mono_l k
  unfold loessref03_Of.f
  repeat' first
      | (with_reducible exact ih0 _ _ _)
      | (with_reducible exact LeO.refl _)
      | (with_reducible exact LeO.none _)
      | (with_reducible refine LeO.ite ?_ ?_)
      | (with_reducible refine LeO.bind ?_ (fun _ => ?_))
      | exact ih0 _ _ _
      | exact LeO.none _
      | refine LeO.ite ?_ ?_
      | refine LeO.bind ?_ (fun _ => ?_)
def loessref03_Of.T5 : Bool × List (List Nat × List Nat) := (true, [([], []), ([], []), ([], []), ([1, 2], [1, 2]), ([3], [3]), ([], []), ([], []), ([5, 6], [5, 6]), ([7], [7]), ([4, 8], [4, 8]), ([0, 9], [0, 9]), ([10, 10, 0, 1, 2, 3, 4, 5, 6, 7, 8, 9, 10], [0, 10])])
def loessref03_Of.B5 : List Nat := [0, 0, 0, 6, 14, 0, 0, 96, 224, 510, 1023, 2047]
theorem loessref03_Of.tab5 : rtab .any (opsOf Tryd.f22 5) = loessref03_Of.T5 := by kernel_rfl
theorem loessref03_Of.bits5 : waitsOk loessref03_Of.T5.2 loessref03_Of.B5 = true := by kernel_rfl
set_option maxHeartbeats 8000000 in
set_option maxRecDepth 100000 in
theorem loessref03_Of.calls (k : Nat) (a0 : ByteArray) (r : ByteArray) (w : World) (h : loessref03_Of.f k a0 = some r) :
    Calls Tryd.prog 22 #[.string a0] w fun e w' => e = .returned (.string r) ∧ Below w.heap.size w w' := by
  have HB := Aside0.mk (Below.refl w.heap.size w)
  have H : (loessref03_Of.l0 k a0 ([] : List Int) 0) = some r := h
  clear h
  have H' := Aside0.mk H
  clear H
  go_enter Tryd.func22, Tryd.ntmps22
  go_wp2
  go_loopg [3, 4] k (fun kq v3 v4 w' => ∃ (x3_1 : List Int) (x4_1 : Int), v4 = .int .i64 x4_1 ∧ Aside0 (loessref03_Of.l0 kq a0 x3_1 x4_1 = some r) ∧ Aside0 (kq ≤ k) ∧ Aside0 (Kd.R (Kd.int .u8) 5 w' w.heap.size (fun _ => True) v3 x3_1) ∧ Aside0 (Below w.heap.size w w'))
  case atStart => exact ⟨(([] : List Int)), (0), (by first | rfl | (simp; done) | (simp [*]; done)), H', ⟨Nat.le_refl _⟩, ⟨by first | exact Kd.R_nil _ _ _ _ _ | exact Kd.N_nil _ _ _ _ _ | exact Kd.V_nil _ _ _ _ _ | exact Kd.Q_nil _ _ _ _ _ | exact Kd.S_nil _ _ _ _ _⟩, ⟨by repeat (first | (with_reducible first | exact HB.out | apply below_alloc | apply pw_below_drewN | apply below_drew1) | exact HB.out)⟩⟩
  case round =>
    clear H'
    obtain ⟨x3_1, x4_1, rfl, HA, HK1, HO_3, HB⟩ := hrel
    cases gk with
    | zero => exact absurd HA.out (by simp [loessref03_Of.l0])
    | succ k1 =>
      have H := HA.out
      clear HA
      simp only [loessref03_Of.l0] at H
      by_cases c2 : x4_1 < (a0.size : Int)
      · rw [if_pos c2] at H
        have c2b0 : decide (x4_1 < (a0.size : Int)) = true := decide_eq_true c2
        clear c2
        by_cases c3 : 0 ≤ x4_1
        · rw [if_pos c3] at H
          have c3b0 : decide (0 ≤ x4_1) = true := decide_eq_true c3
          clear c3
          obtain ⟨y199, hy199⟩ : ∃ y_ : List Int, y_ = (([(Int.tdiv (bt a0 x4_1) 16) % 256, Int.tmod (bt a0 x4_1) 16] : List Int)) := ⟨_, rfl⟩
          replace H : (if x3_1.length + y199.length < 140737488355328 then (loessref03_Of.l0 k1 a0 (x3_1 ++ y199) (wrap64 (x4_1 + 1))) else (none)) = some r := by first | (rw [hy199]; with_reducible exact H) | (have H2_ := (Option.bind_some _ _).symm.trans H; rw [hy199]; with_reducible exact H2_) | (have H2_ := (Option.bind_some _ _).symm.trans H; with_reducible exact H2_) | with_reducible exact H | (rw [hy199]; exact H) | exact H
          have Ny199 := Aside0.mk hy199
          clear hy199
          by_cases c6 : x3_1.length + y199.length < 140737488355328
          · rw [if_pos c6] at H
            have LMc6 := Aside0.mk c6
            clear c6
            obtain ⟨y202, hy202⟩ : ∃ y_ : List Int, y_ = (x3_1 ++ y199) := ⟨_, rfl⟩
            replace H : (loessref03_Of.l0 k1 a0 y202 (wrap64 (x4_1 + 1))) = some r := by first | (rw [hy202]; with_reducible exact H) | (have H2_ := (Option.bind_some _ _).symm.trans H; rw [hy202]; with_reducible exact H2_) | (have H2_ := (Option.bind_some _ _).symm.trans H; with_reducible exact H2_) | with_reducible exact H | (rw [hy202]; exact H) | exact H
            have Ny202 := Aside0.mk hy202
            clear hy202
            have H' := Aside0.mk H
            clear H
            try go_wp2
            have n0_ := Aside0.mk (Kd.R_drew HO_3.out)
            have n1_ := Aside0.mk (below_drew1 HB.out)
            clear HO_3
            clear HB
            have HO_3 := n0_
            have HB := n1_
            clear n0_ n1_
            have p4 : 0 ≤ (x4_1 : Int) := of_decide_eq_true (by first | (with_reducible assumption) | assumption)
            have q4 : x4_1 < (a0.size : Int) := of_decide_eq_true (by first | (with_reducible assumption) | assumption)
            have hx4 := bt_at a0 x4_1
            replace p4 := eq_true p4
            replace q4 := eq_true q4
            have p5 : 0 ≤ (x4_1 : Int) := of_decide_eq_true (by first | (with_reducible assumption) | assumption)
            have q5 : x4_1 < (a0.size : Int) := of_decide_eq_true (by first | (with_reducible assumption) | assumption)
            have hx5 := bt_at a0 x4_1
            replace p5 := eq_true p5
            replace q5 := eq_true q5
            refine start_ (n := 12) (S := fun w' => True) (ds := []) #[false, false, false, false, false, false, false, false, false, false, false, false] (by kernel_rfl) rfl rfl trivial (fun hHeld => ?_); refine with_tabW loessref03_Of.tab5 loessref03_Of.bits5 (fun HT_ HW_ => ?_)
            generalize wr.drew = w7 at HO_3 HB hHeld ⊢
            refine pure_ (i := 0) (N := some 11) (v := ?_) (a' := ?_) #[true, false, false, false, false, false, false, false, false, false, false, false] rfl rfl (any_of HT_.out (by kernel_rfl)) (fun _ _ _ h => h) (Or.inl ⟨by rfl, ?_⟩) ?_ ?_
            rotate_left
            · intro w'
              go_simp
              with_reducible rfl
            rotate_left
            · simp only [Act.put, List.setIfInBounds_toArray, List.set_cons_zero, List.set_cons_succ, i64_w, i32_w]
              rfl
            refine pure_ (i := 1) (N := some 12) (v := ?_) (a' := ?_) #[true, true, false, false, false, false, false, false, false, false, false, false] rfl rfl (any_of HT_.out (by kernel_rfl)) (fun _ _ _ h => h) (Or.inl ⟨by rfl, ?_⟩) ?_ ?_
            rotate_left
            · intro w'
              go_simp
              with_reducible rfl
            rotate_left
            · simp only [Act.put, List.setIfInBounds_toArray, List.set_cons_zero, List.set_cons_succ, i64_w, i32_w]
              rfl
            refine pure_ (i := 2) (N := some 13) (v := ?_) (a' := ?_) #[true, true, true, false, false, false, false, false, false, false, false, false] rfl rfl (any_of HT_.out (by kernel_rfl)) (fun _ _ _ h => h) (Or.inl ⟨by rfl, ?_⟩) ?_ ?_
            rotate_left
            · intro w'
              go_simp
              with_reducible rfl
            rotate_left
            · simp only [Act.put, List.setIfInBounds_toArray, List.set_cons_zero, List.set_cons_succ, i64_w, i32_w]
              rfl
            refine pure_ (i := 5) (N := some 16) (v := ?_) (a' := ?_) #[true, true, true, false, false, true, false, false, false, false, false, false] rfl rfl (any_of HT_.out (by kernel_rfl)) (fun _ _ _ h => h) (Or.inl ⟨by rfl, ?_⟩) ?_ ?_
            rotate_left
            · intro w'
              go_simp
              with_reducible rfl
            rotate_left
            · simp only [Act.put, List.setIfInBounds_toArray, List.set_cons_zero, List.set_cons_succ, i64_w, i32_w]
              rfl
            refine pure_ (i := 6) (N := some 17) (v := ?_) (a' := ?_) #[true, true, true, false, false, true, true, false, false, false, false, false] rfl rfl (any_of HT_.out (by kernel_rfl)) (fun _ _ _ h => h) (Or.inl ⟨by rfl, ?_⟩) ?_ ?_
            rotate_left
            · intro w'
              go_simp
              with_reducible rfl
            rotate_left
            · simp only [Act.put, List.setIfInBounds_toArray, List.set_cons_zero, List.set_cons_succ, i64_w, i32_w]
              rfl
            refine take_ (i := 3) (N := some 14) (v := ?_) (a' := ?_) #[true, true, true, true, false, true, true, false, false, false, false, false] rfl rfl (take_ofW HT_.out HW_.out (by kernel_rfl)) (fun _ _ _ h => h) (Or.inl ⟨by rfl, ?_⟩) hHeld ?_ ?_
            rotate_left
            · intro w' _
              go_simp
              with_reducible rfl
            rotate_left
            · simp only [Act.put, List.setIfInBounds_toArray, List.set_cons_zero, List.set_cons_succ, i64_w, i32_w]
              rfl
            refine pure_ (i := 4) (N := some 15) (v := ?_) (a' := ?_) #[true, true, true, true, true, true, true, false, false, false, false, false] rfl rfl (any_of HT_.out (by kernel_rfl)) (fun _ _ _ h => h) (Or.inl ⟨by rfl, ?_⟩) ?_ ?_
            rotate_left
            · intro w'
              go_simp
              with_reducible rfl
            rotate_left
            · simp only [Act.put, List.setIfInBounds_toArray, List.set_cons_zero, List.set_cons_succ, i64_w, i32_w]
              rfl
            refine take_ (i := 7) (N := some 18) (v := ?_) (a' := ?_) #[true, true, true, true, true, true, true, true, false, false, false, false] rfl rfl (take_ofW HT_.out HW_.out (by kernel_rfl)) (fun _ _ _ h => h) (Or.inl ⟨by rfl, ?_⟩) hHeld ?_ ?_
            rotate_left
            · intro w' _
              go_simp
              with_reducible rfl
            rotate_left
            · simp only [Act.put, List.setIfInBounds_toArray, List.set_cons_zero, List.set_cons_succ, i64_w, i32_w]
              rfl
            refine pure_ (i := 8) (N := some 19) (v := ?_) (a' := ?_) #[true, true, true, true, true, true, true, true, true, false, false, false] rfl rfl (any_of HT_.out (by kernel_rfl)) (fun _ _ _ h => h) (Or.inl ⟨by rfl, ?_⟩) ?_ ?_
            rotate_left
            · intro w'
              go_simp
              with_reducible rfl
            rotate_left
            · simp only [Act.put, List.setIfInBounds_toArray, List.set_cons_zero, List.set_cons_succ, i64_w, i32_w]
              rfl
            refine one_ (i := 9) (N := some 20) #[true, true, true, true, true, true, true, true, true, true, false, false] rfl rfl (one_of HT_.out (by kernel_rfl)) (by decide) (fun K hK => ?_)
            refine Kd.R_lit_step (Kd.int .u8) _ 5 ?hg (N := 20) ?hd (xs := ([(Int.tdiv (bt a0 x4_1) 16) % 256, Int.tmod (bt a0 x4_1) 16] : List Int)) (inner := [.int .u8 ((Int.tdiv (bt a0 x4_1) 16) % 256), .int .u8 (Int.tmod (bt a0 x4_1) 16)]) (ok := fun _ => True) (okp := fun _ => True) ?hr ?hp (fun _ hk => hk) trivial (Below.refl _ _) (Nat.le_refl _) (by simp) ?_; (case hd => rfl); (case hg => rfl); (case hr => first | (go_simp; done) | (go_simp; rfl)); (case hp => exact (Reps.one (show Kd.M (Kd.int .u8) _ _ _ ((Int.tdiv (bt a0 x4_1) 16) % 256) [.int .u8 ((Int.tdiv (bt a0 x4_1) 16) % 256)] from rfl) (Reps.one (show Kd.M (Kd.int .u8) _ _ _ (Int.tmod (bt a0 x4_1) 16) [.int .u8 (Int.tmod (bt a0 x4_1) 16)] from rfl) (Reps.none _ _))))
            intro v200 w8 ho9 hb hg_ hnew_
            clear hg_ hnew_
            (first | rw [← Ny199.out] at ho9 | (simp only [Int.reduceToNat] at ho9; rw [← Ny199.out] at ho9))
            have n0_ := Aside0.mk (Kd.R_elder' (by (with_reducible repeat (first | apply Kd.R_alloc | apply Kd.R_drewN | apply Kd.R_drew)); exact HO_3.out) (Kd.R_base ho9) hb)
            have n1_ := Aside0.mk (Kd.R_lower (Kd.R_new' ho9 (Kd.R_lt (by (with_reducible repeat (first | apply Kd.R_alloc | apply Kd.R_drewN | apply Kd.R_drew)); exact HO_3.out))) (below_size (by repeat (first | (with_reducible first | exact HB.out | apply below_alloc | apply pw_below_drewN | apply below_drew1) | exact HB.out))))
            have n2_ := Aside0.mk (below_step (by repeat (first | (with_reducible first | exact HB.out | apply below_alloc | apply pw_below_drewN | apply below_drew1) | exact HB.out)) hb)
            clear HO_3
            clear HB
            have HO_3 := n0_
            have HO201 := n1_
            have HB := n2_
            clear n0_ n1_ n2_
            clear hb ho9
            obtain ⟨Ao11, co11, eo11⟩ := Kd.R_slice HO201.out
            (first | subst eo11 | (injection eo11 with f1_ f2_ f3_; have f4_ := f1_.symm; have f5_ := f3_.symm; clear f1_ f2_ f3_; subst f4_; subst f5_))
            refine hK.out _ _ trivial (fun hHeld => ?_)
            clear hK K
            refine norm_ (a' := ?_) ?_ ?_
            rotate_left
            · show Act.put _ (some 20) _ = _
              simp only [Act.put, List.setIfInBounds_toArray, List.set_cons_zero, List.set_cons_succ, i64_w, i32_w]
              rfl
            refine one_ (i := 10) (N := some 21) #[true, true, true, true, true, true, true, true, true, true, true, false] rfl rfl (one_of HT_.out (by kernel_rfl)) (by decide) (fun K hK => ?_)
            refine Kd.R_append_rows_step (Kd.int .u8) (w0 := w) w.heap.size (by rfl) (.tmp 11) (.tmp 20) 38 5 (.int .u8 0) 1 rfl Tryd.underlying38 info5 rfl (by decide) (by omega) u3 x3_1 y199 _ _ _ (fun k_ => some k_ ≠ (.slice Ao11 y199.length co11 : Value).ownBlock) (fun _ => False) rfl rfl ?aO ?aR (fun _ _ h => h) (fun _ h => h.elim) ?aF ?aB ?aS ?aL ?_
            (case aR => repeat (first | exact (Kd.R_reads' HO201.out).2.2 | (with_reducible refine Kd.C_alloc ?_ _) | (with_reducible refine Kd.C_drewN ?_ _) | (with_reducible refine Kd.C_drew ?_)))
            (case aB => exact (by repeat (first | (with_reducible first | exact HB.out | apply below_alloc | apply pw_below_drewN | apply below_drew1) | exact HB.out)))
            (case aF => exact (fun k_ hk => Kd.fresh' (Kd.R_lt (by (with_reducible repeat (first | apply Kd.R_alloc | apply Kd.R_drewN | apply Kd.R_drew)); exact HO201.out)) k_ hk))
            (case aO => exact (by (with_reducible repeat (first | apply Kd.R_alloc | apply Kd.R_drewN | apply Kd.R_drew)); exact Kd.R_mono HO_3.out (fun _ hk => hk.2)))
            (case aS => exact (below_size (by repeat (first | (with_reducible first | exact HB.out | apply below_alloc | apply pw_below_drewN | apply below_drew1) | exact HB.out))))
            (case aL => have := LMc6.out; omega)
            intro v203 w10 ho hb hg hat
            rw [← Ny202.out] at ho
            have n0_ := Aside0.mk (Kd.R_after (ok := (fun _ => True)) (by (with_reducible repeat (first | apply Kd.R_alloc | apply Kd.R_drewN | apply Kd.R_drew)); exact HO201.out) hg hat)
            have n1_ := Aside0.mk (hb)
            have n2_ := Aside0.mk (ho)
            clear HO201
            clear HB
            clear HO_3
            have HO201 := n0_
            have HB := n1_
            have HO204 := n2_
            clear n0_ n1_ n2_
            clear ho hb hg hat
            refine hK.out _ _ trivial (fun hHeld => ?_)
            clear hK K
            refine norm_ (a' := ?_) ?_ ?_
            rotate_left
            · show Act.put _ (some 21) _ = _
              simp only [Act.put, List.setIfInBounds_toArray, List.set_cons_zero, List.set_cons_succ, i64_w, i32_w]
              rfl
            refine pure_ (i := 11) (N := some 3) (v := ?_) (a' := ?_) #[true, true, true, true, true, true, true, true, true, true, true, true] rfl rfl (any_of HT_.out (by kernel_rfl)) (fun _ _ _ h => h) (Or.inl ⟨by rfl, ?_⟩) ?_ ?_
            rotate_left
            · intro w'
              go_simp
              with_reducible rfl
            rotate_left
            · simp only [Act.put, List.setIfInBounds_toArray, List.set_cons_zero, List.set_cons_succ, i64_w, i32_w]
              rfl
            refine done_ (done_of HT_.out (by kernel_rfl)) ?_
            try go_wp2
            go_roundg k1
            case measure => have := HK1.out; omega
            case rel => exact ⟨(y202), (wrap64 (x4_1 + 1)), (by first | rfl | (simp; done) | (simp [*]; done)), H', ⟨by have := HK1.out; omega⟩, ⟨by (with_reducible repeat (first | apply Kd.R_alloc | apply Kd.R_drewN | apply Kd.R_drew)); exact Kd.R_mono HO204.out (fun _ hk => trivial)⟩, ⟨by repeat (first | (with_reducible first | exact HB.out | apply below_alloc | apply pw_below_drewN | apply below_drew1) | exact HB.out)⟩⟩
          · rw [if_neg c6] at H
            exact absurd H (by simp)
        · rw [if_neg c3] at H
          exact absurd H (by simp)
      · rw [if_neg c2] at H
        have c2b0 : decide (x4_1 < (a0.size : Int)) = false := decide_eq_false c2
        clear c2
        obtain rfl := Option.some.inj H
        have hcv12 := own_string (P := Tryd.prog) Tryd.underlying38 Tryd.underlying5 Tryd.underlying9 (Kd.own_of_R HO_3.out)
        go_wp2
        go_ret
        exact ⟨by first | rfl | (simp [errW_none, errW_some] <;> rfl) | (simp [*, errW_none, errW_some] <;> rfl), by repeat (first | (with_reducible first | exact HB.out | apply below_alloc | apply pw_below_drewN | apply below_drew1) | exact HB.out)⟩

end Go.Proofs.YtlajpfdmbagedaaDoor.P
