/- What the examples of the law's chapter come to, by the plain laws; and small words for the laws of nibble. -/
import Derived.Test.YtlajpfdmbagedaaDoorNibEv
import Derived.Test.YtlajpfdmbagedaaDoorP9
namespace Go.Proofs.YtlajpfdmbagedaaDoor.NE
open Go.RowKit Go.Proofs.YtlajpfdmbagedaaDoor.P Go.Proofs.YtlajpfdmbagedaaDoorW.PrintWords Go.Proofs.YtlajpfdmbagedaaDoorW.PrintLast Go.Proofs.YtlajpfdmbagedaaDoor.RE Go.Proofs.YtlajpfdmbagedaaDoorW.Nib
set_option linter.unusedVariables false
set_option linter.unusedSimpArgs false
theorem ev_awake : Ev (fun k => loesslaw03_awake.f k) true := by
  unfold loesslaw03_awake.f
  refine Ev.bind (Ev.eq (ev_Pack [1, 2, 3, 4, 5] false (by decide)) (show packR (pack [1, 2, 3, 4, 5] false) = (ba [17, 35, 69], 0) from by rw [show pack [1, 2, 3, 4, 5] false = some [17, 35, 69] from by decide +kernel]; rfl)) ?_
  refine Ev.bind (Ev.eq (ev_Pack [15, 1, 12, 11, 8] true (by decide)) (show packR (pack [15, 1, 12, 11, 8] true) = (ba [63, 28, 184], 0) from by rw [show pack [15, 1, 12, 11, 8] true = some [63, 28, 184] from by decide +kernel]; rfl)) ?_
  refine Ev.bind (Ev.eq (ev_Unpack [32, 15, 28, 184] (by decide)) (show unpackR (unpack [32, 15, 28, 184]) = (ba [0, 15, 1, 12, 11, 8], true, 0) from by rw [show unpack [32, 15, 28, 184] = some ([0, 15, 1, 12, 11, 8], true) from by decide +kernel]; rfl)) ?_
  refine Ev.bind (Ev.eq (ev_Next [1, 2, 15] (by decide)) (show nextR (if right [1, 2, 15] = true then next [1, 2, 15] else none) = (ba [1, 3], true) from by rw [show (if right [1, 2, 15] = true then next [1, 2, 15] else none) = some [1, 3] from by decide +kernel]; rfl)) ?_
  refine Ev.bind (Ev.eq (ev_Next [15] (by decide)) (show nextR (if right [15] = true then next [15] else none) = (ba [], false) from by rw [show (if right [15] = true then next [15] else none) = none from by decide +kernel]; rfl)) ?_
  refine Ev.bind (Ev.eq (ev_Of [26, 43] (by decide)) (show ba (nib [26, 43]) = ba [1, 10, 2, 11] from by rw [show nib [26, 43] = [1, 10, 2, 11] from by decide +kernel])) ?_
  refine Ev.ite_pos (ba_toList _) (Ev.ite_pos (ba_toList _) (Ev.ite_pos rfl (Ev.ite_pos (ba_toList _) (Ev.ite_pos (ba_toList _) (Ev.ite_pos rfl (Ev.ite_pos rfl (Ev.ite_pos (ba_toList _) (Ev.ite_pos rfl (Ev.ite_neg (by simp) ?_)))))))))
  refine Ev.bind (Ev.eq (ev_Prefix [97, 98] [97, 99] (by decide)) (show ((pre [97, 98] [97, 99] : Nat) : Int) = 1 from by rw [show pre [97, 98] [97, 99] = 1 from by decide +kernel]; rfl)) (Ev.ite_pos rfl ?_)
  refine Ev.bind (Ev.eq (ev_Less [97] [97, 98]) (show less [97] [97, 98] = true from by decide +kernel)) (Ev.now _)
theorem pre_app (a m : Bs) : pre a (a ++ m) = a.length := by
  induction a with
  | nil => cases m <;> rfl
  | cons x a ih => simp [pre, ih]
theorem ev_NextN (l : Bs) (h : l.length ≤ 140737488351232) (hr : right l = true) : Ev (fun k => nibble_Next.f k (ba l)) (nextR (next l)) := by
  have := ev_Next l h
  rwa [if_pos hr] at this
theorem right_app {a b : Bs} (ha : right a = true) (hb : right b = true) : right (a ++ b) = true := by
  unfold right at *
  rw [List.all_append, ha, hb]; rfl
end Go.Proofs.YtlajpfdmbagedaaDoor.NE
