/- What Go functions of the program come to: a Lean function and its contract for each. Written by a program of this session over the kit's printer, some contracts by hand. -/
import Derived.Test.YtlajpfdmbagedaaDoorP0
import Derived.Test.YtlajpfdmbagedaaDoorP1
import Derived.Test.YtlajpfdmbagedaaDoorP3
namespace Go.Proofs.YtlajpfdmbagedaaDoor.P
open Go.RowKit Go.Proofs.YtlajpfdmbagedaaDoorW.PrintWords Go.Proofs.YtlajpfdmbagedaaDoorW.PrintLast Go.Proofs.YtlajpfdmbagedaaDoorW.PrintMore
attribute [local go_sem] max2_int min2_int max_two min_two max_three min_three max_four min_four   -- for this text's walks alone
set_option linter.unusedVariables false
set_option linter.unusedSimpArgs false

/-! ### nibble_Next: function 12, by hand -/
def nibble_Next.up (t : ByteArray) : List Int := (t.data.toList.map fun b => (b.toNat : Int)).set (t.size - 1) ((bt t ((t.size : Int) - 1) + 1) % 256)
def nibble_Next.f (k : Nat) (a0 : ByteArray) : Option (ByteArray × Bool) :=
  (nibble_Right.f k a0).bind fun ok => if ok = true then
    (strings_TrimRight.f k a0 (⟨#[15]⟩ : ByteArray)).bind fun t => if t.size = 0 then some ((⟨#[]⟩ : ByteArray), false) else if 140737488355328 < t.size then none else some (strOfNums (nibble_Next.up t), true)
  else some ((⟨#[]⟩ : ByteArray), false)
theorem nibble_Next.mono : ∀ a0 k, LeO (nibble_Next.f k a0) (nibble_Next.f (k + 1) a0) := by
  intro a0 k
  unfold nibble_Next.f
  repeat' first
      | (with_reducible exact nibble_Right.mono _ _)
      | (with_reducible exact strings_TrimRight.mono _ _ _)
      | (with_reducible exact LeO.refl _)
      | (with_reducible exact LeO.none _)
      | (with_reducible refine LeO.ite ?_ ?_)
      | (with_reducible refine LeO.bind ?_ (fun _ => ?_))
theorem nibble_Next.conv (w : World) (n1 n2 : Nat) (t : ByteArray) (x : Int) (hm1 : 1 ≤ t.size) (hx : bt t ((t.size : Int) - 1) = x) :
    ∃ w2 cap, (convert 9 38 (.string t)).run Tryd.prog (w.drewN (n1 + n2)) = .ok (.slice (some ⟨w.heap.size, 0, none⟩) t.size cap) w2 ∧
      w2.cell? ⟨w.heap.size, t.size - 1, none⟩ = some (.int .u8 x) ∧ w2.frozen? ⟨w.heap.size, t.size - 1, none⟩ = false ∧ Below w.heap.size w w2 ∧
      (convert 38 9 (.slice (some ⟨w.heap.size, 0, none⟩) t.size cap)).run Tryd.prog (w2.setCell ⟨w.heap.size, t.size - 1, none⟩ (.int .u8 ((x + 1) % 256))) = .ok (.string (strOfNums (nibble_Next.up t))) (w2.setCell ⟨w.heap.size, t.size - 1, none⟩ (.int .u8 ((x + 1) % 256))) := by
  have h0 := Lib.run_convert_string_bytes (P := Tryd.prog) (w.drewN (n1 + n2)) 9 38 5 t Tryd.underlying9 Tryd.underlying38 Tryd.underlying5
  have hxs : x = (t.data.toList.getD (t.size - 1) 0).toNat := by
    rw [← hx]
    have := bt_at t ((t.size : Int) - 1) (by omega)
    rw [← this]
    have e : ((t.size : Int) - 1).toNat = t.size - 1 := by omega
    simp only [e]
    rw [List.getD_eq_getElem?_getD, List.getElem?_eq_getElem (by rw [Array.length_toList]; show t.size - 1 < t.size; omega)]
    rfl
  have hcell := fun j hj => Lib.bytesWorld_cell (w.drewN (n1 + n2)) 5 t j hj
  have hnew := Lib.bytesWorld_at_new (w.drewN (n1 + n2)) 5 t
  have hold := fun j hj => Lib.bytesWorld_at_old (w.drewN (n1 + n2)) 5 t j hj
  have hsize := Lib.bytesWorld_size (w.drewN (n1 + n2)) 5 t
  have hbel : Below w.heap.size w (Lib.bytesWorld (w.drewN (n1 + n2)) 5 t) := ⟨rfl, rfl, rfl, by rw [hsize]; exact Nat.le_succ _, fun j hj => hold j hj⟩
  have hcs : t.size ≤ (Lib.bytesCells (w.drewN (n1 + n2)) 5 t).size := by
    simp only [Lib.bytesCells, Array.size_append, Array.size_map]
    exact Nat.le_add_right _ _
  refine ⟨_, _, h0, ?_, ?_, hbel, ?_⟩
  · rw [hxs]; exact hcell (t.size - 1) (by omega)
  · unfold World.frozen?
    rw [show (w.drewN (n1 + n2)).heap.size = w.heap.size from rfl] at hnew
    simp only [hnew]
    simp
    omega
  · refine run_convert_bytes_arg _ 38 5 Tryd.underlying38 Tryd.underlying5 w.heap.size 0 t.size _ (nibble_Next.up t) (by simp [nibble_Next.up]) (fun i hi => ?_) 9 Tryd.underlying9
    have hc := hcell i hi
    rw [show (w.drewN (n1 + n2)).heap.size = w.heap.size from rfl] at hc
    rw [Nat.zero_add]
    have hlen : t.data.toList.length = t.size := by rw [Array.length_toList]; rfl
    by_cases e : i = t.size - 1
    · subst e
      rw [World.cell?_setCell_same _ _ _ hc]
      rw [hxs]
      simp only [nibble_Next.up, hx, ← hxs]
      rw [List.getD_eq_getElem?_getD, List.getElem?_set_self (by rw [List.length_map, hlen]; omega)]
      rfl
    · rw [World.cell?_setCell_other _ _ _ _ (by intro q; injection q with _ q _; exact e q.symm), hc]
      simp only [nibble_Next.up]
      rw [List.getD_eq_getElem?_getD, List.getD_eq_getElem?_getD, List.getElem?_set_ne (fun q => e q.symm), List.getElem?_map, List.getElem?_eq_getElem (by rw [hlen]; exact hi)]
      rfl
set_option maxHeartbeats 4000000 in
set_option maxRecDepth 100000 in
theorem nibble_Next.calls (k : Nat) (a0 : ByteArray) (r1 : ByteArray) (r2 : Bool) (w : World) (h : nibble_Next.f k a0 = some (r1, r2)) :
    Calls Tryd.prog 12 #[.string a0] w fun e w' => e = .returned (.tuple #[.string r1, .bool r2]) ∧ Below w.heap.size w w' := by
  unfold nibble_Next.f at h
  replace h := Option.bind_eq_some_iff.mp h
  obtain ⟨ok, A0, h⟩ := h
  have A := Aside0.mk A0
  clear A0
  have HB := Aside0.mk (Below.refl w.heap.size w)
  cases ok with
  | false =>
    rw [if_neg (by simp)] at h
    simp only [Option.some.injEq, Prod.mk.injEq] at h
    obtain ⟨rfl, rfl⟩ := h
    go_enter Tryd.func12, Tryd.ntmps12
    go_wp2_with (go_at_call 16; (with_reducible refine (nibble_Right.calls k _ _ _ A.out).mono ?_); rintro e w' ⟨rfl, ⟨nd, rfl⟩⟩)
    go_ret2
    exact ⟨by first | rfl | (simp; done), by repeat (first | exact HB.out | apply pw_below_drewN)⟩
  | true =>
    rw [if_pos rfl] at h
    replace h := Option.bind_eq_some_iff.mp h
    obtain ⟨t, B0, h⟩ := h
    have B := Aside0.mk B0
    clear B0
    by_cases c1 : t.size = 0
    · rw [if_pos c1] at h
      simp only [Option.some.injEq, Prod.mk.injEq] at h
      obtain ⟨rfl, rfl⟩ := h
      have he0 : t.toList = ([] : List UInt8) := by
        have : t.data = #[] := Array.eq_empty_of_size_eq_zero c1
        cases t; simp_all
      have he0' : (t.toList == ([] : List UInt8)) = true := by rw [he0]; rfl
      have he0e : t.toList.isEmpty = true := by rw [he0]; rfl
      have HE := Lib.hid he0
      clear c1 he0
      go_enter Tryd.func12, Tryd.ntmps12
      go_wp2_with (first
        | (go_at_call 16; (with_reducible refine (nibble_Right.calls k _ _ _ A.out).mono ?_); rintro e w' ⟨rfl, ⟨nd, rfl⟩⟩)
        | (go_at_call 27; (with_reducible refine (strings_TrimRight.calls k _ _ _ _ B.out).mono ?_); rintro e w' ⟨rfl, ⟨nd, rfl⟩⟩))
      go_ret2
      exact ⟨by first | rfl | (simp; done), by repeat (first | exact HB.out | apply pw_below_drewN)⟩
    rw [if_neg c1] at h
    by_cases c2 : 140737488355328 < t.size
    · rw [if_pos c2] at h; exact absurd h (by simp)
    rw [if_neg c2] at h
    simp only [Option.some.injEq, Prod.mk.injEq] at h
    obtain ⟨rfl, rfl⟩ := h
    have hne : (t.toList == ([] : List UInt8)) = false := by
      rw [beq_eq_false_iff_ne]
      intro e
      exact c1 (by rw [ByteArray.size]; simpa [ByteArray.toList_eq] using congrArg List.length e)
    have hem0 : t.toList.isEmpty = false := by
      cases hz : t.toList with
      | nil => rw [hz] at hne; simp at hne
      | cons _ _ => rfl
    obtain ⟨x, hx⟩ : ∃ x, bt t ((t.size : Int) - 1) = x := ⟨_, rfl⟩
    have hr := bt_range t ((t.size : Int) - 1)
    rw [hx] at hr
    have hr0 : 0 ≤ x := hr.1
    have hr1 : x ≤ 255 := hr.2
    have hm1 : 1 ≤ t.size := by omega
    have hm2 : t.size ≤ 140737488355328 := by omega
    have HX := Lib.hid hx
    clear c1 c2 hx hr
    go_enter Tryd.func12, Tryd.ntmps12
    go_wp2_with (first
      | (go_at_call 16; (with_reducible refine (nibble_Right.calls k _ _ _ A.out).mono ?_); rintro e w' ⟨rfl, ⟨n1, rfl⟩⟩)
      | (go_at_call 27; (with_reducible refine (strings_TrimRight.calls k _ _ _ _ B.out).mono ?_); rintro e w' ⟨rfl, ⟨n2, rfl⟩⟩; have hcs := nibble_Next.conv w n1 n2 t x hm1 HX.out; obtain ⟨w2, cap, hcs, hc1, hf1, hb2, hc3⟩ := hcs; have HB2 := Aside0.mk hb2; clear hb2))
    go_ret2
    exact ⟨by first | rfl | (simp; done), below_set HB2.out (Nat.le_refl _)⟩

end Go.Proofs.YtlajpfdmbagedaaDoor.P
