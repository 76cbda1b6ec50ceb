/- NibbleShares: the walk through the law, out of what Prefix comes to: how much two rows share does not hang on their order; it is shared, and no more is; of three the least two shares are the same. For any three texts. -/
import Derived.Test.YtlajpfdmbagedaaDoorNibAwake
import Derived.Lib.Hide
namespace Go.Proofs.YtlajpfdmbagedaaDoor.P
open Go.RowKit Go.Proofs.YtlajpfdmbagedaaDoorW.PrintWords Go.Proofs.YtlajpfdmbagedaaDoorW.PrintLast Go.Proofs.YtlajpfdmbagedaaDoorW.PrintMore Go.Proofs.YtlajpfdmbagedaaDoor.RE Go.Proofs.YtlajpfdmbagedaaDoorW.Nib Go.Proofs.YtlajpfdmbagedaaDoor.NE
attribute [local go_sem] max2_int min2_int max_two min_two max_three min_three max_four min_four
set_option linter.unusedVariables false
set_option linter.unusedSimpArgs false
def PreIs (a b : ByteArray) (n : Int) : Prop := ∀ w, Calls Tryd.prog 13 #[.string a, .string b] w fun e w' => e = .returned (.int .i64 n) ∧ Drawn0 w w'
theorem preIs (s t : Bs) (h : s.length ≤ 140737488351232) : PreIs (ba s) (ba t) ((pre s t : Nat) : Int) := by
  intro w
  obtain ⟨k, hk⟩ := Ev.rounds (ev_Prefix s t h)
  exact nibble_Prefix.calls k _ _ _ w hk
theorem PreIs.calls {a b : ByteArray} {n : Int} (h : PreIs a b n) (w : World) : Calls Tryd.prog 13 #[.string a, .string b] w fun e w' => e = .returned (.int .i64 n) ∧ Drawn0 w w' := h w
theorem awake_any (w : World) : Calls Tryd.prog 9 #[] w fun e w' => e = .returned (.bool true) ∧ Below w.heap.size w w' := by
  obtain ⟨k, hk⟩ := Ev.rounds ev_awake
  exact loesslaw03_awake.calls k true w hk
def BelowA (w W : World) : Prop := Below w.heap.size w W
set_option maxHeartbeats 4000000 in
set_option maxRecDepth 100000 in
theorem shares_up (a b c : ByteArray) (w : World) (h : 500 < a.size ∨ 500 < b.size ∨ 500 < c.size) :
    Calls Tryd.prog 5 #[.string a, .string b, .string c] w fun e w' => e = .returned (.bool true) ∧ Below w.heap.size w w' := by
  by_cases h1 : 500 < a.size
  · have d1 : decide (500 < (a.size : Int)) = true := decide_eq_true (by omega)
    have d1' : decide (500 < a.size) = true := decide_eq_true h1
    clear h h1
    go_enter Tryd.func5, Tryd.ntmps5
    go_wp2_with (go_at_call 9; (with_reducible refine (awake_any _).mono ?_); rintro e w1 ⟨rfl, hb⟩; have HB := Aside0.mk hb; clear hb)
    go_ret
    exact ⟨by first | rfl | (simp; done), by repeat (first | exact HB.out | apply pw_below_drewN)⟩
  · have d1 : decide (500 < (a.size : Int)) = false := decide_eq_false (by omega)
    have d1' : decide (500 < a.size) = false := decide_eq_false h1
    by_cases h2 : 500 < b.size
    · have d2 : decide (500 < (b.size : Int)) = true := decide_eq_true (by omega)
      have d2' : decide (500 < b.size) = true := decide_eq_true h2
      clear h h1 h2
      go_enter Tryd.func5, Tryd.ntmps5
      go_wp2_with (go_at_call 9; (with_reducible refine (awake_any _).mono ?_); rintro e w1 ⟨rfl, hb⟩; have HB := Aside0.mk hb; clear hb)
      go_ret
      exact ⟨by first | rfl | (simp; done), by repeat (first | exact HB.out | apply pw_below_drewN)⟩
    · have d2 : decide (500 < (b.size : Int)) = false := decide_eq_false (by omega)
      have d2' : decide (500 < b.size) = false := decide_eq_false h2
      have d3 : decide (500 < (c.size : Int)) = true := decide_eq_true (by omega)
      have d3' : decide (500 < c.size) = true := decide_eq_true (by omega)
      clear h h1 h2
      go_enter Tryd.func5, Tryd.ntmps5
      go_wp2_with (go_at_call 9; (with_reducible refine (awake_any _).mono ?_); rintro e w1 ⟨rfl, hb⟩; have HB := Aside0.mk hb; clear hb)
      go_ret
      exact ⟨by first | rfl | (simp; done), by repeat (first | exact HB.out | apply pw_below_drewN)⟩
/-- How the three shares stand to each other. -/
inductive Stand (N M K : Int) : Prop
  | a : M < N → K = M → Stand N M K
  | b : N < M → K = N → Stand N M K
  | c : M = N → K = N → Stand N M K
  | d : M = N → N < K → Stand N M K
set_option maxHeartbeats 8000000 in
set_option maxRecDepth 100000 in
theorem shares_main (a b c : ByteArray) (N M K : Int) (w : World) (ha : a.size ≤ 500) (hb : b.size ≤ 500) (hc : c.size ≤ 500) (cab : PreIs a b N) (cbc : PreIs b c M) (cac : PreIs a c K) (cba : PreIs b a N) (caa : PreIs a a (a.size : Int))
    (n0 : 0 ≤ N) (na : N ≤ a.size) (nb : N ≤ b.size) (heq : (a.extract 0 N.toNat).toList = (b.extract 0 N.toNat).toList) (hnx : N < a.size → N < b.size → bt a N ≠ bt b N) (hs : Stand N M K) :
    Calls Tryd.prog 5 #[.string a, .string b, .string c] w fun e w' => e = .returned (.bool true) ∧ Below w.heap.size w w' := by
  have d1 : decide (500 < (a.size : Int)) = false := decide_eq_false (by omega)
  have d1' : decide (500 < a.size) = false := decide_eq_false (by omega)
  have d2 : decide (500 < (b.size : Int)) = false := decide_eq_false (by omega)
  have d2' : decide (500 < b.size) = false := decide_eq_false (by omega)
  have d3 : decide (500 < (c.size : Int)) = false := decide_eq_false (by omega)
  have d3' : decide (500 < c.size) = false := decide_eq_false (by omega)
  have e1 : decide ((a.size : Int) < N) = false := decide_eq_false (by omega)
  have e2 : decide ((b.size : Int) < N) = false := decide_eq_false (by omega)
  have e3 : ((a.extract 0 N.toNat).toList != (b.extract 0 N.toNat).toList) = false := bne_eq_false_iff_eq.mpr heq
  have e3' : ((a.extract 0 N.toNat).toList == (b.extract 0 N.toNat).toList) = true := beq_iff_eq.mpr heq
  have CAB := Aside0.mk cab
  have CBC := Aside0.mk cbc
  have CBA := Aside0.mk cba
  have CAA := Aside0.mk caa
  have HQ := Lib.hid heq
  have hxa : ∀ h : N.toNat < a.size, ((a[N.toNat]'h).toNat : Int) = bt a N := bt_at a N
  have hxb : ∀ h : N.toNat < b.size, ((b[N.toNat]'h).toNat : Int) = bt b N := bt_at b N
  clear cab cbc cba caa heq
  have q : ∀ P : Prop, (N = a.size → P) → (N < a.size → N = b.size → P) → (N < a.size → N < b.size → bt a N ≠ bt b N → P) → P := by
    intro P p1 p2 p3
    by_cases g1 : N = a.size
    · exact p1 g1
    · by_cases g2 : N = b.size
      · exact p2 (by omega) g2
      · exact p3 (by omega) (by omega) (hnx (by omega) (by omega))
  clear hnx
  cases hs with
  | a h1 h2 =>
    subst h2
    have CAC := Aside0.mk cac
    have f1 : decide (K < N) = true := decide_eq_true h1
    have f2 : (N == K) = false := beq_eq_false_iff_ne.mpr (by omega)
    clear h1 cac
    refine q _ (fun g1 => ?_) (fun g1 g2 => ?_) (fun g1 g2 g3 => ?_)
    · have k1 : decide (N < (a.size : Int)) = false := decide_eq_false (by omega)
      clear g1 q
      go_enter Tryd.func5, Tryd.ntmps5
      go_wp2_with (first
        | (go_at_call 9; (with_reducible refine (awake_any _).mono ?_); rintro e w1 ⟨rfl, hb⟩; have HB := Aside0.mk hb; clear hb)
        | (go_at_call 13; (first | (with_reducible refine (PreIs.calls CAB.out _).mono ?_) | (with_reducible refine (PreIs.calls CBC.out _).mono ?_) | (with_reducible refine (PreIs.calls CAC.out _).mono ?_) | (with_reducible refine (PreIs.calls CBA.out _).mono ?_) | (with_reducible refine (PreIs.calls CAA.out _).mono ?_)); rintro e w' ⟨rfl, ⟨nd, rfl⟩⟩))
      repeat (go_quiet (first | (go_at_call 13; (first | (with_reducible refine (PreIs.calls CAB.out _).mono ?_) | (with_reducible refine (PreIs.calls CBC.out _).mono ?_) | (with_reducible refine (PreIs.calls CAC.out _).mono ?_) | (with_reducible refine (PreIs.calls CBA.out _).mono ?_) | (with_reducible refine (PreIs.calls CAA.out _).mono ?_)); rintro e w' ⟨rfl, ⟨nd, rfl⟩⟩; (try first | exact ⟨rfl, _, World.drewN_drewN _ _ _⟩ | exact ⟨rfl, _, Eq.trans (World.drewN_drewN _ _ _) (congrArg (World.drewN _) (Nat.add_assoc _ _ _))⟩))); try go_wp2_with (first | (go_at_call 13; (first | (with_reducible refine (PreIs.calls CAB.out _).mono ?_) | (with_reducible refine (PreIs.calls CBC.out _).mono ?_) | (with_reducible refine (PreIs.calls CAC.out _).mono ?_) | (with_reducible refine (PreIs.calls CBA.out _).mono ?_) | (with_reducible refine (PreIs.calls CAA.out _).mono ?_)); rintro e w' ⟨rfl, ⟨nd, rfl⟩⟩)))
      go_ret
      exact ⟨by first | rfl | (simp; done), by repeat (first | exact HB.out | apply pw_below_drewN)⟩
    · have k1 : decide (N < (a.size : Int)) = true := decide_eq_true g1
      have k2 : decide (N < (b.size : Int)) = false := decide_eq_false (by omega)
      clear g1 g2 q
      go_enter Tryd.func5, Tryd.ntmps5
      go_wp2_with (first
        | (go_at_call 9; (with_reducible refine (awake_any _).mono ?_); rintro e w1 ⟨rfl, hb⟩; have HB := Aside0.mk hb; clear hb)
        | (go_at_call 13; (first | (with_reducible refine (PreIs.calls CAB.out _).mono ?_) | (with_reducible refine (PreIs.calls CBC.out _).mono ?_) | (with_reducible refine (PreIs.calls CAC.out _).mono ?_) | (with_reducible refine (PreIs.calls CBA.out _).mono ?_) | (with_reducible refine (PreIs.calls CAA.out _).mono ?_)); rintro e w' ⟨rfl, ⟨nd, rfl⟩⟩))
      repeat (go_quiet (first | (go_at_call 13; (first | (with_reducible refine (PreIs.calls CAB.out _).mono ?_) | (with_reducible refine (PreIs.calls CBC.out _).mono ?_) | (with_reducible refine (PreIs.calls CAC.out _).mono ?_) | (with_reducible refine (PreIs.calls CBA.out _).mono ?_) | (with_reducible refine (PreIs.calls CAA.out _).mono ?_)); rintro e w' ⟨rfl, ⟨nd, rfl⟩⟩; (try first | exact ⟨rfl, _, World.drewN_drewN _ _ _⟩ | exact ⟨rfl, _, Eq.trans (World.drewN_drewN _ _ _) (congrArg (World.drewN _) (Nat.add_assoc _ _ _))⟩))); try go_wp2_with (first | (go_at_call 13; (first | (with_reducible refine (PreIs.calls CAB.out _).mono ?_) | (with_reducible refine (PreIs.calls CBC.out _).mono ?_) | (with_reducible refine (PreIs.calls CAC.out _).mono ?_) | (with_reducible refine (PreIs.calls CBA.out _).mono ?_) | (with_reducible refine (PreIs.calls CAA.out _).mono ?_)); rintro e w' ⟨rfl, ⟨nd, rfl⟩⟩)))
      go_ret
      exact ⟨by first | rfl | (simp; done), by repeat (first | exact HB.out | apply pw_below_drewN)⟩
    · have k1 : decide (N < (a.size : Int)) = true := decide_eq_true g1
      have k2 : decide (N < (b.size : Int)) = true := decide_eq_true g2
      have k3 : (bt a N == bt b N) = false := beq_eq_false_iff_ne.mpr g3
      clear g3 q
      go_enter Tryd.func5, Tryd.ntmps5
      go_wp2_with (first
        | (go_at_call 9; (with_reducible refine (awake_any _).mono ?_); rintro e w1 ⟨rfl, hb⟩; have HB := Aside0.mk hb; clear hb)
        | (go_at_call 13; (first | (with_reducible refine (PreIs.calls CAB.out _).mono ?_) | (with_reducible refine (PreIs.calls CBC.out _).mono ?_) | (with_reducible refine (PreIs.calls CAC.out _).mono ?_) | (with_reducible refine (PreIs.calls CBA.out _).mono ?_) | (with_reducible refine (PreIs.calls CAA.out _).mono ?_)); rintro e w' ⟨rfl, ⟨nd, rfl⟩⟩))
      repeat (go_quiet (first | (go_at_call 13; (first | (with_reducible refine (PreIs.calls CAB.out _).mono ?_) | (with_reducible refine (PreIs.calls CBC.out _).mono ?_) | (with_reducible refine (PreIs.calls CAC.out _).mono ?_) | (with_reducible refine (PreIs.calls CBA.out _).mono ?_) | (with_reducible refine (PreIs.calls CAA.out _).mono ?_)); rintro e w' ⟨rfl, ⟨nd, rfl⟩⟩; (try first | exact ⟨rfl, _, World.drewN_drewN _ _ _⟩ | exact ⟨rfl, _, Eq.trans (World.drewN_drewN _ _ _) (congrArg (World.drewN _) (Nat.add_assoc _ _ _))⟩))); try go_wp2_with (first | (go_at_call 13; (first | (with_reducible refine (PreIs.calls CAB.out _).mono ?_) | (with_reducible refine (PreIs.calls CBC.out _).mono ?_) | (with_reducible refine (PreIs.calls CAC.out _).mono ?_) | (with_reducible refine (PreIs.calls CBA.out _).mono ?_) | (with_reducible refine (PreIs.calls CAA.out _).mono ?_)); rintro e w' ⟨rfl, ⟨nd, rfl⟩⟩)))
      go_ret
      exact ⟨by first | rfl | (simp; done), by repeat (first | exact HB.out | apply pw_below_drewN)⟩
  | b h1 h2 =>
    subst h2
    have CAC := Aside0.mk cac
    have f1 : decide (M < K) = false := decide_eq_false (by omega)
    have f2 : (M == K) = false := beq_eq_false_iff_ne.mpr (by omega)
    clear h1 cac
    refine q _ (fun g1 => ?_) (fun g1 g2 => ?_) (fun g1 g2 g3 => ?_)
    · have k1 : decide (K < (a.size : Int)) = false := decide_eq_false (by omega)
      clear g1 q
      go_enter Tryd.func5, Tryd.ntmps5
      go_wp2_with (first
        | (go_at_call 9; (with_reducible refine (awake_any _).mono ?_); rintro e w1 ⟨rfl, hb⟩; have HB := Aside0.mk hb; clear hb)
        | (go_at_call 13; (first | (with_reducible refine (PreIs.calls CAB.out _).mono ?_) | (with_reducible refine (PreIs.calls CBC.out _).mono ?_) | (with_reducible refine (PreIs.calls CAC.out _).mono ?_) | (with_reducible refine (PreIs.calls CBA.out _).mono ?_) | (with_reducible refine (PreIs.calls CAA.out _).mono ?_)); rintro e w' ⟨rfl, ⟨nd, rfl⟩⟩))
      repeat (go_quiet (first | (go_at_call 13; (first | (with_reducible refine (PreIs.calls CAB.out _).mono ?_) | (with_reducible refine (PreIs.calls CBC.out _).mono ?_) | (with_reducible refine (PreIs.calls CAC.out _).mono ?_) | (with_reducible refine (PreIs.calls CBA.out _).mono ?_) | (with_reducible refine (PreIs.calls CAA.out _).mono ?_)); rintro e w' ⟨rfl, ⟨nd, rfl⟩⟩; (try first | exact ⟨rfl, _, World.drewN_drewN _ _ _⟩ | exact ⟨rfl, _, Eq.trans (World.drewN_drewN _ _ _) (congrArg (World.drewN _) (Nat.add_assoc _ _ _))⟩))); try go_wp2_with (first | (go_at_call 13; (first | (with_reducible refine (PreIs.calls CAB.out _).mono ?_) | (with_reducible refine (PreIs.calls CBC.out _).mono ?_) | (with_reducible refine (PreIs.calls CAC.out _).mono ?_) | (with_reducible refine (PreIs.calls CBA.out _).mono ?_) | (with_reducible refine (PreIs.calls CAA.out _).mono ?_)); rintro e w' ⟨rfl, ⟨nd, rfl⟩⟩)))
      go_ret
      exact ⟨by first | rfl | (simp; done), by repeat (first | exact HB.out | apply pw_below_drewN)⟩
    · have k1 : decide (K < (a.size : Int)) = true := decide_eq_true g1
      have k2 : decide (K < (b.size : Int)) = false := decide_eq_false (by omega)
      clear g1 g2 q
      go_enter Tryd.func5, Tryd.ntmps5
      go_wp2_with (first
        | (go_at_call 9; (with_reducible refine (awake_any _).mono ?_); rintro e w1 ⟨rfl, hb⟩; have HB := Aside0.mk hb; clear hb)
        | (go_at_call 13; (first | (with_reducible refine (PreIs.calls CAB.out _).mono ?_) | (with_reducible refine (PreIs.calls CBC.out _).mono ?_) | (with_reducible refine (PreIs.calls CAC.out _).mono ?_) | (with_reducible refine (PreIs.calls CBA.out _).mono ?_) | (with_reducible refine (PreIs.calls CAA.out _).mono ?_)); rintro e w' ⟨rfl, ⟨nd, rfl⟩⟩))
      repeat (go_quiet (first | (go_at_call 13; (first | (with_reducible refine (PreIs.calls CAB.out _).mono ?_) | (with_reducible refine (PreIs.calls CBC.out _).mono ?_) | (with_reducible refine (PreIs.calls CAC.out _).mono ?_) | (with_reducible refine (PreIs.calls CBA.out _).mono ?_) | (with_reducible refine (PreIs.calls CAA.out _).mono ?_)); rintro e w' ⟨rfl, ⟨nd, rfl⟩⟩; (try first | exact ⟨rfl, _, World.drewN_drewN _ _ _⟩ | exact ⟨rfl, _, Eq.trans (World.drewN_drewN _ _ _) (congrArg (World.drewN _) (Nat.add_assoc _ _ _))⟩))); try go_wp2_with (first | (go_at_call 13; (first | (with_reducible refine (PreIs.calls CAB.out _).mono ?_) | (with_reducible refine (PreIs.calls CBC.out _).mono ?_) | (with_reducible refine (PreIs.calls CAC.out _).mono ?_) | (with_reducible refine (PreIs.calls CBA.out _).mono ?_) | (with_reducible refine (PreIs.calls CAA.out _).mono ?_)); rintro e w' ⟨rfl, ⟨nd, rfl⟩⟩)))
      go_ret
      exact ⟨by first | rfl | (simp; done), by repeat (first | exact HB.out | apply pw_below_drewN)⟩
    · have k1 : decide (K < (a.size : Int)) = true := decide_eq_true g1
      have k2 : decide (K < (b.size : Int)) = true := decide_eq_true g2
      have k3 : (bt a K == bt b K) = false := beq_eq_false_iff_ne.mpr g3
      clear g3 q
      go_enter Tryd.func5, Tryd.ntmps5
      go_wp2_with (first
        | (go_at_call 9; (with_reducible refine (awake_any _).mono ?_); rintro e w1 ⟨rfl, hb⟩; have HB := Aside0.mk hb; clear hb)
        | (go_at_call 13; (first | (with_reducible refine (PreIs.calls CAB.out _).mono ?_) | (with_reducible refine (PreIs.calls CBC.out _).mono ?_) | (with_reducible refine (PreIs.calls CAC.out _).mono ?_) | (with_reducible refine (PreIs.calls CBA.out _).mono ?_) | (with_reducible refine (PreIs.calls CAA.out _).mono ?_)); rintro e w' ⟨rfl, ⟨nd, rfl⟩⟩))
      repeat (go_quiet (first | (go_at_call 13; (first | (with_reducible refine (PreIs.calls CAB.out _).mono ?_) | (with_reducible refine (PreIs.calls CBC.out _).mono ?_) | (with_reducible refine (PreIs.calls CAC.out _).mono ?_) | (with_reducible refine (PreIs.calls CBA.out _).mono ?_) | (with_reducible refine (PreIs.calls CAA.out _).mono ?_)); rintro e w' ⟨rfl, ⟨nd, rfl⟩⟩; (try first | exact ⟨rfl, _, World.drewN_drewN _ _ _⟩ | exact ⟨rfl, _, Eq.trans (World.drewN_drewN _ _ _) (congrArg (World.drewN _) (Nat.add_assoc _ _ _))⟩))); try go_wp2_with (first | (go_at_call 13; (first | (with_reducible refine (PreIs.calls CAB.out _).mono ?_) | (with_reducible refine (PreIs.calls CBC.out _).mono ?_) | (with_reducible refine (PreIs.calls CAC.out _).mono ?_) | (with_reducible refine (PreIs.calls CBA.out _).mono ?_) | (with_reducible refine (PreIs.calls CAA.out _).mono ?_)); rintro e w' ⟨rfl, ⟨nd, rfl⟩⟩)))
      go_ret
      exact ⟨by first | rfl | (simp; done), by repeat (first | exact HB.out | apply pw_below_drewN)⟩
  | c h1 h2 =>
    subst h1
    subst h2
    have CAC := Aside0.mk cac
    clear cac
    refine q _ (fun g1 => ?_) (fun g1 g2 => ?_) (fun g1 g2 g3 => ?_)
    · have k1 : decide (K < (a.size : Int)) = false := decide_eq_false (by omega)
      clear g1 q
      go_enter Tryd.func5, Tryd.ntmps5
      go_wp2_with (first
        | (go_at_call 9; (with_reducible refine (awake_any _).mono ?_); rintro e w1 ⟨rfl, hb⟩; have HB := Aside0.mk hb; clear hb)
        | (go_at_call 13; (first | (with_reducible refine (PreIs.calls CAB.out _).mono ?_) | (with_reducible refine (PreIs.calls CBC.out _).mono ?_) | (with_reducible refine (PreIs.calls CAC.out _).mono ?_) | (with_reducible refine (PreIs.calls CBA.out _).mono ?_) | (with_reducible refine (PreIs.calls CAA.out _).mono ?_)); rintro e w' ⟨rfl, ⟨nd, rfl⟩⟩))
      repeat (go_quiet (first | (go_at_call 13; (first | (with_reducible refine (PreIs.calls CAB.out _).mono ?_) | (with_reducible refine (PreIs.calls CBC.out _).mono ?_) | (with_reducible refine (PreIs.calls CAC.out _).mono ?_) | (with_reducible refine (PreIs.calls CBA.out _).mono ?_) | (with_reducible refine (PreIs.calls CAA.out _).mono ?_)); rintro e w' ⟨rfl, ⟨nd, rfl⟩⟩; (try first | exact ⟨rfl, _, World.drewN_drewN _ _ _⟩ | exact ⟨rfl, _, Eq.trans (World.drewN_drewN _ _ _) (congrArg (World.drewN _) (Nat.add_assoc _ _ _))⟩))); try go_wp2_with (first | (go_at_call 13; (first | (with_reducible refine (PreIs.calls CAB.out _).mono ?_) | (with_reducible refine (PreIs.calls CBC.out _).mono ?_) | (with_reducible refine (PreIs.calls CAC.out _).mono ?_) | (with_reducible refine (PreIs.calls CBA.out _).mono ?_) | (with_reducible refine (PreIs.calls CAA.out _).mono ?_)); rintro e w' ⟨rfl, ⟨nd, rfl⟩⟩)))
      go_ret
      exact ⟨by first | rfl | (simp; done), by repeat (first | exact HB.out | apply pw_below_drewN)⟩
    · have k1 : decide (K < (a.size : Int)) = true := decide_eq_true g1
      have k2 : decide (K < (b.size : Int)) = false := decide_eq_false (by omega)
      clear g1 g2 q
      go_enter Tryd.func5, Tryd.ntmps5
      go_wp2_with (first
        | (go_at_call 9; (with_reducible refine (awake_any _).mono ?_); rintro e w1 ⟨rfl, hb⟩; have HB := Aside0.mk hb; clear hb)
        | (go_at_call 13; (first | (with_reducible refine (PreIs.calls CAB.out _).mono ?_) | (with_reducible refine (PreIs.calls CBC.out _).mono ?_) | (with_reducible refine (PreIs.calls CAC.out _).mono ?_) | (with_reducible refine (PreIs.calls CBA.out _).mono ?_) | (with_reducible refine (PreIs.calls CAA.out _).mono ?_)); rintro e w' ⟨rfl, ⟨nd, rfl⟩⟩))
      repeat (go_quiet (first | (go_at_call 13; (first | (with_reducible refine (PreIs.calls CAB.out _).mono ?_) | (with_reducible refine (PreIs.calls CBC.out _).mono ?_) | (with_reducible refine (PreIs.calls CAC.out _).mono ?_) | (with_reducible refine (PreIs.calls CBA.out _).mono ?_) | (with_reducible refine (PreIs.calls CAA.out _).mono ?_)); rintro e w' ⟨rfl, ⟨nd, rfl⟩⟩; (try first | exact ⟨rfl, _, World.drewN_drewN _ _ _⟩ | exact ⟨rfl, _, Eq.trans (World.drewN_drewN _ _ _) (congrArg (World.drewN _) (Nat.add_assoc _ _ _))⟩))); try go_wp2_with (first | (go_at_call 13; (first | (with_reducible refine (PreIs.calls CAB.out _).mono ?_) | (with_reducible refine (PreIs.calls CBC.out _).mono ?_) | (with_reducible refine (PreIs.calls CAC.out _).mono ?_) | (with_reducible refine (PreIs.calls CBA.out _).mono ?_) | (with_reducible refine (PreIs.calls CAA.out _).mono ?_)); rintro e w' ⟨rfl, ⟨nd, rfl⟩⟩)))
      go_ret
      exact ⟨by first | rfl | (simp; done), by repeat (first | exact HB.out | apply pw_below_drewN)⟩
    · have k1 : decide (K < (a.size : Int)) = true := decide_eq_true g1
      have k2 : decide (K < (b.size : Int)) = true := decide_eq_true g2
      have k3 : (bt a K == bt b K) = false := beq_eq_false_iff_ne.mpr g3
      clear g3 q
      go_enter Tryd.func5, Tryd.ntmps5
      go_wp2_with (first
        | (go_at_call 9; (with_reducible refine (awake_any _).mono ?_); rintro e w1 ⟨rfl, hb⟩; have HB := Aside0.mk hb; clear hb)
        | (go_at_call 13; (first | (with_reducible refine (PreIs.calls CAB.out _).mono ?_) | (with_reducible refine (PreIs.calls CBC.out _).mono ?_) | (with_reducible refine (PreIs.calls CAC.out _).mono ?_) | (with_reducible refine (PreIs.calls CBA.out _).mono ?_) | (with_reducible refine (PreIs.calls CAA.out _).mono ?_)); rintro e w' ⟨rfl, ⟨nd, rfl⟩⟩))
      repeat (go_quiet (first | (go_at_call 13; (first | (with_reducible refine (PreIs.calls CAB.out _).mono ?_) | (with_reducible refine (PreIs.calls CBC.out _).mono ?_) | (with_reducible refine (PreIs.calls CAC.out _).mono ?_) | (with_reducible refine (PreIs.calls CBA.out _).mono ?_) | (with_reducible refine (PreIs.calls CAA.out _).mono ?_)); rintro e w' ⟨rfl, ⟨nd, rfl⟩⟩; (try first | exact ⟨rfl, _, World.drewN_drewN _ _ _⟩ | exact ⟨rfl, _, Eq.trans (World.drewN_drewN _ _ _) (congrArg (World.drewN _) (Nat.add_assoc _ _ _))⟩))); try go_wp2_with (first | (go_at_call 13; (first | (with_reducible refine (PreIs.calls CAB.out _).mono ?_) | (with_reducible refine (PreIs.calls CBC.out _).mono ?_) | (with_reducible refine (PreIs.calls CAC.out _).mono ?_) | (with_reducible refine (PreIs.calls CBA.out _).mono ?_) | (with_reducible refine (PreIs.calls CAA.out _).mono ?_)); rintro e w' ⟨rfl, ⟨nd, rfl⟩⟩)))
      go_ret
      exact ⟨by first | rfl | (simp; done), by repeat (first | exact HB.out | apply pw_below_drewN)⟩
  | d h1 h2 =>
    subst h1
    have CAC := Aside0.mk cac
    have f1 : decide (K < M) = false := decide_eq_false (by omega)
    have f2 : (K == M) = false := beq_eq_false_iff_ne.mpr (by omega)
    clear h2 cac
    refine q _ (fun g1 => ?_) (fun g1 g2 => ?_) (fun g1 g2 g3 => ?_)
    · have k1 : decide (M < (a.size : Int)) = false := decide_eq_false (by omega)
      clear g1 q
      go_enter Tryd.func5, Tryd.ntmps5
      go_wp2_with (first
        | (go_at_call 9; (with_reducible refine (awake_any _).mono ?_); rintro e w1 ⟨rfl, hb⟩; have HB := Aside0.mk hb; clear hb)
        | (go_at_call 13; (first | (with_reducible refine (PreIs.calls CAB.out _).mono ?_) | (with_reducible refine (PreIs.calls CBC.out _).mono ?_) | (with_reducible refine (PreIs.calls CAC.out _).mono ?_) | (with_reducible refine (PreIs.calls CBA.out _).mono ?_) | (with_reducible refine (PreIs.calls CAA.out _).mono ?_)); rintro e w' ⟨rfl, ⟨nd, rfl⟩⟩))
      repeat (go_quiet (first | (go_at_call 13; (first | (with_reducible refine (PreIs.calls CAB.out _).mono ?_) | (with_reducible refine (PreIs.calls CBC.out _).mono ?_) | (with_reducible refine (PreIs.calls CAC.out _).mono ?_) | (with_reducible refine (PreIs.calls CBA.out _).mono ?_) | (with_reducible refine (PreIs.calls CAA.out _).mono ?_)); rintro e w' ⟨rfl, ⟨nd, rfl⟩⟩; (try first | exact ⟨rfl, _, World.drewN_drewN _ _ _⟩ | exact ⟨rfl, _, Eq.trans (World.drewN_drewN _ _ _) (congrArg (World.drewN _) (Nat.add_assoc _ _ _))⟩))); try go_wp2_with (first | (go_at_call 13; (first | (with_reducible refine (PreIs.calls CAB.out _).mono ?_) | (with_reducible refine (PreIs.calls CBC.out _).mono ?_) | (with_reducible refine (PreIs.calls CAC.out _).mono ?_) | (with_reducible refine (PreIs.calls CBA.out _).mono ?_) | (with_reducible refine (PreIs.calls CAA.out _).mono ?_)); rintro e w' ⟨rfl, ⟨nd, rfl⟩⟩)))
      go_ret
      exact ⟨by first | rfl | (simp; done), by repeat (first | exact HB.out | apply pw_below_drewN)⟩
    · have k1 : decide (M < (a.size : Int)) = true := decide_eq_true g1
      have k2 : decide (M < (b.size : Int)) = false := decide_eq_false (by omega)
      clear g1 g2 q
      go_enter Tryd.func5, Tryd.ntmps5
      go_wp2_with (first
        | (go_at_call 9; (with_reducible refine (awake_any _).mono ?_); rintro e w1 ⟨rfl, hb⟩; have HB := Aside0.mk hb; clear hb)
        | (go_at_call 13; (first | (with_reducible refine (PreIs.calls CAB.out _).mono ?_) | (with_reducible refine (PreIs.calls CBC.out _).mono ?_) | (with_reducible refine (PreIs.calls CAC.out _).mono ?_) | (with_reducible refine (PreIs.calls CBA.out _).mono ?_) | (with_reducible refine (PreIs.calls CAA.out _).mono ?_)); rintro e w' ⟨rfl, ⟨nd, rfl⟩⟩))
      repeat (go_quiet (first | (go_at_call 13; (first | (with_reducible refine (PreIs.calls CAB.out _).mono ?_) | (with_reducible refine (PreIs.calls CBC.out _).mono ?_) | (with_reducible refine (PreIs.calls CAC.out _).mono ?_) | (with_reducible refine (PreIs.calls CBA.out _).mono ?_) | (with_reducible refine (PreIs.calls CAA.out _).mono ?_)); rintro e w' ⟨rfl, ⟨nd, rfl⟩⟩; (try first | exact ⟨rfl, _, World.drewN_drewN _ _ _⟩ | exact ⟨rfl, _, Eq.trans (World.drewN_drewN _ _ _) (congrArg (World.drewN _) (Nat.add_assoc _ _ _))⟩))); try go_wp2_with (first | (go_at_call 13; (first | (with_reducible refine (PreIs.calls CAB.out _).mono ?_) | (with_reducible refine (PreIs.calls CBC.out _).mono ?_) | (with_reducible refine (PreIs.calls CAC.out _).mono ?_) | (with_reducible refine (PreIs.calls CBA.out _).mono ?_) | (with_reducible refine (PreIs.calls CAA.out _).mono ?_)); rintro e w' ⟨rfl, ⟨nd, rfl⟩⟩)))
      go_ret
      exact ⟨by first | rfl | (simp; done), by repeat (first | exact HB.out | apply pw_below_drewN)⟩
    · have k1 : decide (M < (a.size : Int)) = true := decide_eq_true g1
      have k2 : decide (M < (b.size : Int)) = true := decide_eq_true g2
      have k3 : (bt a M == bt b M) = false := beq_eq_false_iff_ne.mpr g3
      clear g3 q
      go_enter Tryd.func5, Tryd.ntmps5
      go_wp2_with (first
        | (go_at_call 9; (with_reducible refine (awake_any _).mono ?_); rintro e w1 ⟨rfl, hb⟩; have HB := Aside0.mk hb; clear hb)
        | (go_at_call 13; (first | (with_reducible refine (PreIs.calls CAB.out _).mono ?_) | (with_reducible refine (PreIs.calls CBC.out _).mono ?_) | (with_reducible refine (PreIs.calls CAC.out _).mono ?_) | (with_reducible refine (PreIs.calls CBA.out _).mono ?_) | (with_reducible refine (PreIs.calls CAA.out _).mono ?_)); rintro e w' ⟨rfl, ⟨nd, rfl⟩⟩))
      repeat (go_quiet (first | (go_at_call 13; (first | (with_reducible refine (PreIs.calls CAB.out _).mono ?_) | (with_reducible refine (PreIs.calls CBC.out _).mono ?_) | (with_reducible refine (PreIs.calls CAC.out _).mono ?_) | (with_reducible refine (PreIs.calls CBA.out _).mono ?_) | (with_reducible refine (PreIs.calls CAA.out _).mono ?_)); rintro e w' ⟨rfl, ⟨nd, rfl⟩⟩; (try first | exact ⟨rfl, _, World.drewN_drewN _ _ _⟩ | exact ⟨rfl, _, Eq.trans (World.drewN_drewN _ _ _) (congrArg (World.drewN _) (Nat.add_assoc _ _ _))⟩))); try go_wp2_with (first | (go_at_call 13; (first | (with_reducible refine (PreIs.calls CAB.out _).mono ?_) | (with_reducible refine (PreIs.calls CBC.out _).mono ?_) | (with_reducible refine (PreIs.calls CAC.out _).mono ?_) | (with_reducible refine (PreIs.calls CBA.out _).mono ?_) | (with_reducible refine (PreIs.calls CAA.out _).mono ?_)); rintro e w' ⟨rfl, ⟨nd, rfl⟩⟩)))
      go_ret
      exact ⟨by first | rfl | (simp; done), by repeat (first | exact HB.out | apply pw_below_drewN)⟩
end Go.Proofs.YtlajpfdmbagedaaDoor.P
