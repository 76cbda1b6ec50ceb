/- What reads as data is of a kind: from the form's reading of an argument to the printed words' kinds. -/
import Derived.Test.YtenbofpmbdibjaaWMore
import Derived.ChangeArms
import Derived.OpenShut
import Derived.DataReads
import Derived.ChangeShapes
namespace Go.Proofs.YtenbofpmbdibjaaW.Opens
open Go.RowKit Go.Proofs.YtenbofpmbdibjaaW.PrintWords
set_option linter.unusedVariables false
/-- Every reading of these cells at this type, with at most n rounds, is a value of the kind, with what G says. -/
def OpensTo (P : Program) (t : TypeId) {α : Type} (k : Kd α) (G : α → Prop) (n : Nat) : Prop :=
  ∀ {H : Type} (enc : TypeId × Value → H) (w : World) (base : Nat) (spare : Nat → Bool) (held : Bool) (fuel : Nat) (cs : List Value) (x : DataW H × List MemPlace), fuel ≤ n →
    DataW.trod enc P w base spare held fuel t cs = some x → ∃ a, k.K w a cs ∧ G a
theorem OpensTo.mono {P : Program} {t : TypeId} {α : Type} {k : Kd α} {G G' : α → Prop} {n : Nat} (h : OpensTo P t k G n) (hg : ∀ a, G a → G' a) : OpensTo P t k G' n :=
  fun enc w base spare held fuel cs x hf hx => let ⟨a, ha, hga⟩ := h enc w base spare held fuel cs x hf hx; ⟨a, ha, hg a hga⟩
theorem opens_bool {P : Program} {t : TypeId} (ht : P.underlying t = some .bool) (n : Nat) : OpensTo P t Kd.bool (fun _ => True) n := by
  intro H enc w base spare held fuel cs x _ h
  cases fuel with
  | zero => simp [DataW.trod] at h
  | succ m =>
    unfold DataW.trod at h
    rw [ht] at h
    split at h
    all_goals first | exact ⟨_, rfl, trivial⟩ | (exfalso; simp_all; done)
theorem opens_int {P : Program} {t : TypeId} {k : IntKind} (ht : P.underlying t = some (.int k)) (n : Nat) : OpensTo P t (Kd.int k) (fun a => (Lit.int k a).wf = true) n := by
  intro H enc w base spare held fuel cs x _ h
  cases fuel with
  | zero => simp [DataW.trod] at h
  | succ m =>
    unfold DataW.trod at h
    rw [ht] at h
    split at h <;> simp_all
    exact ⟨_, rfl, h.1.2⟩
theorem opens_string {P : Program} {t : TypeId} (ht : P.underlying t = some .string) (n : Nat) : OpensTo P t Kd.string (fun a => a.size ≤ 9223372036854775807) n := by
  intro H enc w base spare held fuel cs x _ h
  cases fuel with
  | zero => simp [DataW.trod] at h
  | succ m =>
    unfold DataW.trod at h
    rw [ht] at h
    split at h <;> simp_all
    refine ⟨_, rfl, ?_⟩
    have := h.1
    unfold maxLen at this
    omega
theorem list_of {α : Type} (n : Nat) (p : Nat → α → Prop) (h : ∀ i, i < n → ∃ a, p i a) : ∃ xs : List α, xs.length = n ∧ ∀ i a, xs[i]? = some a → p i a := by
  induction n with
  | zero => exact ⟨[], rfl, fun i a h => by simp at h⟩
  | succ n ih =>
    obtain ⟨xs, hl, hp⟩ := ih (fun i hi => h i (by omega))
    obtain ⟨a, ha⟩ := h n (by omega)
    refine ⟨xs ++ [a], by simp [hl], fun i b hb => ?_⟩
    rcases Nat.lt_or_ge i xs.length with hi | hi
    · rw [List.getElem?_append_left hi] at hb; exact hp i b hb
    · rw [List.getElem?_append_right hi] at hb
      have : i - xs.length = 0 := by
        rcases Nat.lt_or_ge (i - xs.length) 1 with h1 | h1
        · omega
        · rw [List.getElem?_eq_none (by simpa using h1)] at hb; cases hb
      rw [this] at hb
      simp only [List.getElem?_cons_zero, Option.some.injEq] at hb
      subst hb
      rw [show i = n from by omega]; exact ha
theorem opens_slice {P : Program} {t e : TypeId} {α : Type} {k : Kd α} {G : α → Prop} {n : Nat} (ht : P.underlying t = some (.slice e)) (hc : P.cellsOf e = k.sz) (he : OpensTo P e k G n) :
    OpensTo P t (Kd.slice e k) (fun xs => xs.length ≤ 9223372036854775807 ∧ ∀ x ∈ xs, G x) (n + 1) := by
  intro H enc w base spare held fuel cs x hfu h
  rcases DataW.trod_slice ht h with ⟨rfl, _⟩ | ⟨a, len, cap, elems, rest, m, rfl, rfl, _, hb, hl, hcap, hel, hget, _⟩
  · exact ⟨[], ⟨none, 0, rfl, Nat.le_refl _, Kd.C_nil _ _⟩, by simp, by simp⟩
  · have hcap' : cap ≤ 9223372036854775807 := by unfold maxLen at hcap; omega
    obtain ⟨xs, hxl, hxs⟩ := list_of len (fun i a' => ∃ c, w.cells? base (a.add (i * P.cellsOf e)) (P.cellsOf e) = some c ∧ k.K w a' c ∧ G a') (fun i hi => by
      have h1 := hget i hi
      rw [List.getElem?_eq_getElem (by omega)] at h1
      obtain ⟨c, h2, h3⟩ := Option.bind_eq_some_iff.1 h1
      obtain ⟨a', h4, h5⟩ := he enc w base spare held m c _ (by omega) h3
      exact ⟨a', c, h2, h4, h5⟩)
    subst hxl
    refine ⟨xs, ⟨some a, cap, rfl, hl, ⟨rfl, by omega, fun _ => ⟨a, rfl, fun j p hj => ?_⟩⟩⟩, by omega, fun y hy => ?_⟩
    · obtain ⟨c, h2, h3, _⟩ := hxs j p hj
      refine ⟨c, k.K_len h3, h3, fun i u hu => ?_⟩
      obtain ⟨h4, h5, h6⟩ := World.cells?_some h2
      rw [← hc, ← add_add]
      exact (h6 i (by rw [← h5]; exact (List.getElem?_eq_some_iff.1 hu).1)).trans hu
    · obtain ⟨j, hj⟩ := List.getElem?_of_mem hy
      obtain ⟨_, _, _, h⟩ := hxs j y hj
      exact h
end Go.Proofs.YtenbofpmbdibjaaW.Opens
