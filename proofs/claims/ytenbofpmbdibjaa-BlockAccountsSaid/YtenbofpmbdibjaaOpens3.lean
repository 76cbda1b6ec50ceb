/- What reads as data is of a kind, and is of the sizes that can be: from the form's reading of an argument, and its weights, to the printed words' kinds. -/
import Derived.Test.YtenbofpmbdibjaaOpens
import Derived.SizedLaws
namespace Go.Proofs.YtenbofpmbdibjaaW.Opens
open Go.RowKit Go.Proofs.YtenbofpmbdibjaaW.PrintWords
set_option linter.unusedVariables false
/-- Every reading of these cells at this type, with at most n rounds, no weight of which passes the form's reach, is a value of the kind, with what G says. -/
def OpensS (P : Program) (t : TypeId) {α : Type} (k : Kd α) (G : α → Prop) (n : Nat) : Prop :=
  ∀ {H : Type} (enc : TypeId × Value → H) (w : World) (base : Nat) (spare : Nat → Bool) (held : Bool) (fuel : Nat) (cs : List Value) (x : DataW H × List MemPlace), fuel ≤ n →
    DataW.trod enc P w base spare held fuel t cs = some x → (∀ m ∈ x.1.weights P t, m ≤ reachBytes) → ∃ a, k.K w a cs ∧ G a
theorem OpensTo.sized {P : Program} {t : TypeId} {α : Type} {k : Kd α} {G : α → Prop} {n : Nat} (h : OpensTo P t k G n) : OpensS P t k G n :=
  fun enc w base spare held fuel cs x hf hx _ => h enc w base spare held fuel cs x hf hx
theorem opensS_string {P : Program} {t : TypeId} (ht : P.underlying t = some .string) (n : Nat) : OpensS P t Kd.string (fun a => a.size ≤ reachBytes) n := by
  intro H enc w base spare held fuel cs x _ h hw
  cases fuel with
  | zero => simp [DataW.trod] at h
  | succ m =>
    unfold DataW.trod at h
    rw [ht] at h
    split at h <;> simp_all
    obtain ⟨h1, rfl⟩ := h
    refine ⟨_, rfl, ?_⟩
    have := hw _ (by simp [DataW.weights]; rfl)
    simpa using this
theorem weightsAll_mem {H : Type} {P : Program} {e : TypeId} : ∀ {l : List (DataW H)} {d : DataW H}, d ∈ l → ∀ m ∈ d.weights P e, m ∈ DataW.weightsAll P e l
  | a :: l, d, hd, m, hm => by
    simp only [DataW.weightsAll, List.mem_append]
    rcases List.mem_cons.1 hd with rfl | hd
    · exact .inl hm
    · exact .inr (weightsAll_mem hd m hm)
theorem opensS_slice {P : Program} {t e : TypeId} {α : Type} {k : Kd α} {G : α → Prop} {n : Nat} (ht : P.underlying t = some (.slice e)) (hc : P.cellsOf e = k.sz) (he : OpensS P e k G n) :
    OpensS P t (Kd.slice e k) (fun xs => xs.length * P.bytesOf e ≤ reachBytes ∧ xs.length ≤ 9223372036854775807 ∧ ∀ x ∈ xs, G x) (n + 1) := by
  intro H enc w base spare held fuel cs x hfu h hw
  rcases DataW.trod_slice ht h with ⟨rfl, _⟩ | ⟨a, len, cap, elems, rest, m, rfl, rfl, rfl, hb, hl, hcap, hel, hget, _⟩
  · exact ⟨[], ⟨none, 0, rfl, Nat.le_refl _, Kd.C_nil _ _⟩, by simp, by simp, by simp⟩
  · have hcap' : cap ≤ 9223372036854775807 := by unfold maxLen at hcap; omega
    have hwt : ∀ m ∈ ((elems.map (·.1)).length + (rest.map (·.1)).length) * P.bytesOf e :: (DataW.weightsAll P e (elems.map (·.1)) ++ DataW.weightsAll P e (rest.map (·.1))), m ≤ reachBytes := by
      intro q hq
      refine hw q ?_
      simp only [DataW.weights, ht]
      exact hq
    obtain ⟨xs, hxl, hxs⟩ := list_of len (fun i a' => ∃ c, w.cells? base (a.add (i * P.cellsOf e)) (P.cellsOf e) = some c ∧ k.K w a' c ∧ G a') (fun i hi => by
      have h1 := hget i hi
      have hlt : i < elems.length := by omega
      rw [List.getElem?_eq_getElem hlt] at h1
      obtain ⟨c, h2, h3⟩ := Option.bind_eq_some_iff.1 h1
      obtain ⟨a', h4, h5⟩ := he enc w base spare held m c _ (by omega) h3 (fun q hq => hwt q (by
        refine List.mem_cons_of_mem _ (List.mem_append_left _ (weightsAll_mem (d := (elems[i]'hlt).1) ?_ q hq))
        exact List.mem_map_of_mem (List.getElem_mem hlt)))
      exact ⟨a', c, h2, h4, h5⟩)
    have hbytes := hwt _ (List.mem_cons_self)
    subst hxl
    have hbytes' : xs.length * P.bytesOf e ≤ reachBytes := by
      refine Nat.le_trans (Nat.mul_le_mul_right _ ?_) hbytes
      rw [List.length_map, List.length_map]; omega
    refine ⟨xs, ⟨some a, cap, rfl, hl, ⟨rfl, by omega, fun _ => ⟨a, rfl, fun j p hj => ?_⟩⟩⟩, hbytes', by omega, fun y hy => ?_⟩
    · obtain ⟨c, h2, h3, _⟩ := hxs j p hj
      refine ⟨c, k.K_len h3, h3, fun i u hu => ?_⟩
      obtain ⟨h4, h5, h6⟩ := World.cells?_some h2
      rw [← hc, ← add_add]
      exact (h6 i (by rw [← h5]; exact (List.getElem?_eq_some_iff.1 hu).1)).trans hu
    · obtain ⟨j, hj⟩ := List.getElem?_of_mem hy
      obtain ⟨_, _, _, h⟩ := hxs j y hj
      exact h
/-- A struct's fields, one cell each: each is read by itself, and weighs no more than the whole. -/
theorem fields_of {H : Type} {P : Program} {t : TypeId} {fs : Array Field} {enc : TypeId × Value → H} {w : World} {base : Nat} {spare : Nat → Bool} {held : Bool} {fuel : Nat} {cs : List Value} {x : DataW H × List MemPlace}
    (ht : P.underlying t = some (.struct fs)) (h : DataW.trod enc P w base spare held fuel t cs = some x) (hw : ∀ m ∈ x.1.weights P t, m ≤ reachBytes) :
    ∃ m, fuel = m + 1 ∧ cs.length = P.cellsOf t ∧ ∀ (i : Nat) (f : Field), fs[i]? = some f → ∃ y, DataW.trod enc P w base spare held m f.type ((cs.drop f.offset).take (P.cellsOf f.type)) = some y ∧ ∀ q ∈ y.1.weights P f.type, q ≤ reachBytes := by
  obtain ⟨xs, m, rfl, rfl, hl, hlen, hf⟩ := DataW.trod_struct ht h
  refine ⟨m, rfl, hl, fun i f hif => ?_⟩
  have hi : i < fs.size := (Array.getElem?_eq_some_iff.1 hif).1
  have h1 := hf i f hif
  rw [List.getElem?_eq_getElem (by omega)] at h1
  refine ⟨_, h1, fun q hq => hw q ?_⟩
  simp only [DataW.weights, ht]
  refine DataW.weights_mem_each (j := i) (t := f.type) (d := (xs[i]'(by omega)).1) ?_ ?_ q hq
  · rw [List.getElem?_map, Array.getElem?_toList, hif]; rfl
  · rw [List.getElem?_map, List.getElem?_eq_getElem (by omega)]; rfl
end Go.Proofs.YtenbofpmbdibjaaW.Opens
