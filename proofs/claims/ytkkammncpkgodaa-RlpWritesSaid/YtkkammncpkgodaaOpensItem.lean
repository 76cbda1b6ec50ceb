/- What reads as data at api.Item is an item of the printed words; all its texts and lists are of the sizes that can be. -/
import Derived.Test.YtkkammncpkgodaaOpens
import Derived.Test.YtkkammncpkgodaaRlpEv6
namespace Go.Proofs.Ytkkammncpkgodaa.RE
open Go.RowKit Go.Proofs.Ytkkammncpkgodaa.P Go.Proofs.YtkkammncpkgodaaW.PrintWords Go.Proofs.YtkkammncpkgodaaW.PrintLast Go.Proofs.YtkkammncpkgodaaW.Opens
set_option linter.unusedVariables false
mutual
def fits : It → Prop
  | ⟨_, s, l⟩ => s.size ≤ 9223372036854775807 ∧ l.length ≤ 9223372036854775807 ∧ fitsL l
def fitsL : List It → Prop
  | [] => True
  | x :: t => fits x ∧ fitsL t
end
theorem fitsL_of (l : List It) (h : ∀ x ∈ l, fits x) : fitsL l := by
  induction l with
  | nil => trivial
  | cons x t ih => exact ⟨h x (by simp), ih (fun y hy => h y (by simp [hy]))⟩
theorem fitsL_get (l : List It) (h : fitsL l) (x : It) (hx : x ∈ l) : fits x := by
  induction l with
  | nil => simp at hx
  | cons y t ih =>
    rcases List.mem_cons.1 hx with rfl | hx
    · exact h.1
    · exact ih h.2 hx
theorem opens_item (n : Nat) : OpensTo Try.prog 25 k25 fits n := by
  induction n with
  | zero =>
    intro H enc w base spare held fuel cs x hfu h
    obtain rfl : fuel = 0 := by omega
    simp [DataW.trod] at h
  | succ n ih =>
    intro H enc w base spare held fuel cs x hfu h
    obtain ⟨xs, m, rfl, rfl, hl, hlen, hf⟩ := DataW.trod_struct Try.underlying25 h
    rw [show Try.prog.cellsOf 25 = 3 from by kernel_rfl] at hl
    obtain ⟨v0, v1, v2, rfl⟩ : ∃ a b c, cs = [a, b, c] := by
      match cs, hl with
      | [a, b, c], _ => exact ⟨a, b, c, rfl⟩
    obtain ⟨y0, y1, y2, rfl⟩ : ∃ a b c, xs = [a, b, c] := by
      match xs, hlen with
      | [a, b, c], _ => exact ⟨a, b, c, rfl⟩
    have f0 : DataW.trod enc Try.prog w base spare held m 4 (([v0, v1, v2].drop 0).take (Try.prog.cellsOf 4)) = some y0 := hf 0 _ rfl
    have f1 : DataW.trod enc Try.prog w base spare held m 9 (([v0, v1, v2].drop 1).take (Try.prog.cellsOf 9)) = some y1 := hf 1 _ rfl
    have f2 : DataW.trod enc Try.prog w base spare held m 23 (([v0, v1, v2].drop 2).take (Try.prog.cellsOf 23)) = some y2 := hf 2 _ rfl
    simp only [show Try.prog.cellsOf 4 = 1 from by kernel_rfl, show Try.prog.cellsOf 9 = 1 from by kernel_rfl, show Try.prog.cellsOf 23 = 1 from by kernel_rfl, List.drop_zero, List.drop_succ_cons, List.take_succ_cons, List.take_zero] at f0 f1 f2
    obtain ⟨b, hb, _⟩ := opens_bool (P := Try.prog) Try.underlying4 m enc w base spare held m _ _ (Nat.le_refl _) f0
    obtain ⟨s, hs, gs⟩ := opens_string (P := Try.prog) Try.underlying9 m enc w base spare held m _ _ (Nat.le_refl _) f1
    obtain ⟨l, ⟨A2, c2, hl2, hle, hC⟩, gl⟩ := opens_slice (P := Try.prog) Try.underlying23 (show Try.prog.cellsOf 25 = k25.sz from by kernel_rfl) ih enc w base spare held m _ _ (by omega) f2
    have e0 : [v0] = [Value.bool b] := hb
    have e1 : [v1] = [Value.string s] := hs
    simp only [List.cons.injEq, and_true] at e0 e1 hl2
    subst e0 e1 hl2
    exact ⟨⟨b, s, l⟩, k25_mk w ⟨b, s, l⟩ hle hC, gs, gl.1, fitsL_of l gl.2⟩
end Go.Proofs.Ytkkammncpkgodaa.RE
