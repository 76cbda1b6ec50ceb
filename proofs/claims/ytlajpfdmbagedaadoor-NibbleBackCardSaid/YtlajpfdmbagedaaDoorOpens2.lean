/- What a reading of the form tells of an array of two bools, or of two bytes. -/
import Derived.Test.YtlajpfdmbagedaaDoorOwn
import Derived.OpenShut
import Derived.WideShapes
import Derived.ChangeArms
import Derived.KernelRfl
import Derived.ProofKit
namespace Go.Proofs.YtlajpfdmbagedaaDoorW.Opens
open Go.ChangeShapes Go.WideShapes Go.RowKit
variable {H : Type} {enc : TypeId × Value → H} {w : World} {base : Nat} {spare : Nat → Bool} {held : Bool} {P : Program}
theorem okWide_array {r : Reach} {t e : TypeId} {n : Nat} {v : Value} (ht : P.underlying t = some (.array n e)) (h : Value.okWide P w r base t v) : ∃ cs, v = .agg cs ∧ cs.size = P.cellsOf t := by
  simp only [Value.okWide, ht] at h
  obtain ⟨cs, h1, h2, _⟩ := h
  exact ⟨cs, h1, h2⟩
theorem open_bool2 {t e : TypeId} {v : Value} {d : DataW H} {p : List MemPlace} {w0 : World} {b0 : Nat} {r : Reach} (ht : P.underlying t = some (.array 2 e)) (he : P.underlying e = some .bool) (hc : P.cellsOf e = 1) (hct : P.cellsOf t = 2)
    (hv : Value.okWide P w0 r b0 t v) (h : DataW.Trod enc P w base spare held t v d p) : ∃ x y, v = .agg #[.bool x, .bool y] := by
  obtain ⟨cs, rfl, hs⟩ := okWide_array ht hv
  obtain ⟨fuel, hf⟩ := h
  obtain ⟨xs, m, _, _, hl, hn, hel⟩ := DataW.trod_array ht hf
  have h0 := hel 0 (by omega)
  have h1 := hel 1 (by omega)
  rw [List.getElem?_eq_getElem (by omega)] at h0 h1
  rw [hc] at h0 h1
  rw [hct] at hs
  obtain ⟨x, e0, _⟩ := DataW.trod_bool he h0
  obtain ⟨y, e1, _⟩ := DataW.trod_bool he h1
  refine ⟨x, y, ?_⟩
  obtain ⟨l⟩ := cs
  match l, hs with
  | [a, b], _ =>
    simp only [Value.cells] at e0 e1
    simp at e0 e1
    rw [e0, e1]
end Go.Proofs.YtlajpfdmbagedaaDoorW.Opens
