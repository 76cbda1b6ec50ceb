/- RlpRows: things written one behind the other are split off again one by one, and so they stand in a list (any texts, of each that is of 300 bytes at most and stands among the first 40, as bytes or as lists of themselves). -/
import Derived.Test.YtkkammncpkgodaaRlpEv8
import Derived.Test.YtkkammncpkgodaaP20
namespace Go.Proofs.Ytkkammncpkgodaa.Pure
open Go.RowKit Go.Proofs.Ytkkammncpkgodaa.P Go.Proofs.YtkkammncpkgodaaW.PrintWords Go.Proofs.YtkkammncpkgodaaW.PrintLast Go.Proofs.YtkkammncpkgodaaW.Rlp Go.Proofs.Ytkkammncpkgodaa.RE
set_option linter.unusedVariables false
/-- A row of the law: a text, as bytes or as a list of itself. -/
abbrev Rw := Bool × Bs
def pay (r : Rw) : Bs := if r.1 = true then byt r.2 else r.2
def part (r : Rw) : Bs := wrap r.1 (pay r)
def itm (r : Rw) : It := if r.1 = true then ⟨true, ba [], [⟨false, ba r.2, []⟩]⟩ else ⟨false, ba r.2, []⟩
def flat (rs : List Rw) : Bs := (rs.map part).flatten
theorem flat_cons (r : Rw) (t : List Rw) : flat (r :: t) = part r ++ flat t := rfl
theorem flat_snoc (r : Rw) (t : List Rw) : flat (t ++ [r]) = flat t ++ part r := by simp [flat]
theorem enc_itm (r : Rw) : enc (itm r) = part r := by
  obtain ⟨b, t⟩ := r
  cases b <;> simp [itm, part, pay, enc, encL, wrap, ba_data]
theorem encL_itm (rs : List Rw) : encL (rs.map itm) = flat rs := by
  induction rs with
  | nil => rfl
  | cons r t ih => rw [List.map_cons, enc_cons, enc_itm, ih, flat_cons]
theorem good_itm (r : Rw) : good (itm r) 15 = true := by
  obtain ⟨b, t⟩ := r
  cases b <;> simp [itm, good, goodL, ba_data]
theorem goodL_itm (rs : List Rw) : goodL (rs.map itm) 15 = true := by
  induction rs with
  | nil => rfl
  | cons r t ih => rw [List.map_cons]; simp only [goodL, good_itm, ih, Bool.and_self]
theorem pay_len (r : Rw) (h : r.2.length ≤ 300) : (pay r).length ≤ 309 := by
  unfold pay
  split
  · have := bytes_len r.2 (by omega); omega
  · omega
theorem part_len (r : Rw) (h : r.2.length ≤ 300) : (part r).length ≤ 318 := by
  have := pay_len r h
  unfold part wrap
  split
  · have := list_len (pay r) (by omega); omega
  · have := bytes_len (pay r) (by omega); omega
theorem flat_len (rs : List Rw) (h : ∀ r ∈ rs, r.2.length ≤ 300) : (flat rs).length ≤ 318 * rs.length := by
  induction rs with
  | nil => simp [flat]
  | cons r t ih =>
    have := part_len r (h r (by simp))
    have := ih (fun x hx => h x (by simp [hx]))
    rw [flat_cons, List.length_append, List.length_cons]; omega
theorem rd_parts (rs : List Rw) (f : Rw → Bs) (i : Nat) (h : i < rs.length) : rdOf ByteArray.empty (rs.map fun r => ba (f r)) (i : Int) = ba (f (rs[i]'h)) := by
  unfold rdOf
  rw [Int.toNat_natCast, List.getD_eq_getElem?_getD, List.getElem?_map, List.getElem?_eq_getElem h]; rfl
abbrev parts (rs : List Rw) : List ByteArray := rs.map fun r => ba (part r)
abbrev texts (rs : List Rw) : List ByteArray := rs.map fun r => ba r.2
/-- The second loop: from the i-th on. -/
theorem rows_l1 (rs : List Rw) (hl : rs.length ≤ 40) (h : ∀ r ∈ rs, r.2.length ≤ 300) : ∀ (d i : Nat), i + d = rs.length →
    Ev (fun k => loesslaw02_RlpRows.l1 k true (parts rs) (texts rs) (ba (flat (rs.drop i))) (i : Int) true (ba []) (rs.map itm)) true := by
  intro d
  induction d with
  | zero =>
    intro i hi
    refine Ev.step (fun k => loesslaw02_RlpRows.l1.eq_2 _ _ _ _ _ _ _ _ k) ?_
    refine Ev.ite_neg (by rw [List.length_map]; omega) (Ev.ite_pos rfl (Ev.eq (Ev.now _) ?_))
    rw [List.drop_eq_nil_of_le (by omega), ba_toList]; rfl
  | succ d ih =>
    intro i hi
    have hlt : i < rs.length := by omega
    have hm : rs[i]'hlt ∈ rs := List.getElem_mem hlt
    have e : rs.drop i = rs[i]'hlt :: rs.drop (i + 1) := List.drop_eq_getElem_cons hlt
    have hf := flat_len rs h
    have hfd := flat_len (rs.drop i) (fun x hx => h x (List.mem_of_mem_drop hx))
    have hfe := flat_len (rs.drop (i + 1)) (fun x hx => h x (List.mem_of_mem_drop hx))
    rw [List.length_drop] at hfd hfe
    have hit : rd_T25 (rs.map itm) (i : Int) = itm (rs[i]'hlt) := by rw [rd_it _ i (by simpa using hlt), List.getElem_map]
    have hp := pay_len _ (h _ hm)
    have hq := part_len _ (h _ hm)
    have hspl : split (flat (rs.drop i)) = some (pay (rs[i]'hlt), (rs[i]'hlt).1, flat (rs.drop (i + 1))) := by
      rw [e, flat_cons]; exact split_wrap _ _ _ (by omega)
    have hsize : (ba (flat (rs.drop i))).size = (part (rs[i]'hlt)).length + (flat (rs.drop (i + 1))).length := by rw [ba_size, e, flat_cons, List.length_append]
    have go := ih (i + 1) (by omega)
    generalize hr : rs[i]'hlt = r at *
    refine Ev.step (fun k => loesslaw02_RlpRows.l1.eq_2 _ _ _ _ _ _ _ _ k) ?_
    refine Ev.ite_pos (by rw [List.length_map]; omega) (Ev.bind (ev_Split _ (by omega)) ?_)
    rw [hspl, hit, rd_parts rs part i hlt, rd_parts rs (fun r => r.2) i hlt, hsize, hr, w64 (n := (i : Int) + 1) (by omega) (by omega), show (i : Int) + 1 = ((i + 1 : Nat) : Int) from by omega]
    dsimp only [out]
    refine Ev.ite_pos (by omega) (Ev.ite_pos (by rw [List.length_map]; omega) (Ev.ite_pos rfl ?_))
    obtain ⟨b, t⟩ := r
    have ht : t.length ≤ 300 := by have := h _ hm; exact this
    refine Ev.ite_neg (by cases b <;> simp [itm]) (Ev.ite_pos (by rw [ba_size, ba_size, w64 (by omega) (by omega)]; omega) ?_)
    cases b with
    | true =>
      refine Ev.ite_pos rfl (Ev.ite_pos (by rw [List.length_map]; omega) (Ev.bind (ev_Bytes t (by omega)) (Ev.ite_pos rfl (Ev.ite_pos rfl go))))
    | false =>
      refine Ev.ite_neg (by simp) (Ev.ite_pos (by rw [List.length_map]; omega) (Ev.ite_pos rfl (Ev.ite_pos rfl go)))
/-- What stands behind the first loop. -/
theorem rows_end (x0 : List ByteArray) (x1 : List Bool) (rs : List Rw) (hl : rs.length ≤ 40) (h : ∀ r ∈ rs, r.2.length ≤ 300) (i : Int) :
    Ev (fun k => loesslaw02_RlpRows.j1 k x0 x1 true (parts rs) (texts rs) (ba (flat rs)) i false) true := by
  have hf := flat_len rs h
  have hX : (enc ⟨true, ba [], rs.map itm⟩) = lst (flat rs) := by rw [enc, if_pos rfl, encL_itm]
  have hg : good ⟨true, ba [], rs.map itm⟩ 16 = true := by simp [good, goodL_itm, ba_data]
  have hle := list_len (flat rs) (by omega)
  have hE := ev_List (rs.map part) (by rw [List.length_map]; omega) (by show (flat rs).length ≤ _; omega)
  rw [List.map_map] at hE
  have hD := ev_Decode (lst (flat rs)) (by omega)
  rw [← hX, dec_enc _ hg (by rw [hX]; omega), hX] at hD
  refine Ev.step (fun k => loesslaw02_RlpRows.j1.eq_2 _ _ _ _ _ _ _ _ k) ?_
  refine Ev.ite_neg (by simp) (Ev.bind hE (Ev.bind hD (Ev.ite_pos rfl (Ev.ite_pos rfl ?_))))
  refine Ev.step (fun k => loesslaw02_RlpRows.j3.eq_2 _ _ _ _ _ _ _ _ k) ?_
  refine Ev.ite_neg (by simp) ?_
  exact rows_l1 rs hl h rs.length 0 (by omega)
/-- The first loop: from the i-th on. -/
theorem rows_l0 (x0 : List ByteArray) (x1 : List Bool) : ∀ (d i : Nat) (rs : List Rw), i + d = 40 → rs.length ≤ i → (∀ r ∈ rs, r.2.length ≤ 300) →
    Ev (fun k => loesslaw02_RlpRows.l0 k x0 x1 true (parts rs) (texts rs) (ba (flat rs)) (i : Int)) true := by
  intro d
  induction d with
  | zero =>
    intro i rs hi hl h
    refine Ev.step (fun k => loesslaw02_RlpRows.l0.eq_2 _ _ _ _ _ _ _ k) ?_
    rw [show decide ((i : Int) < 40) = false from decide_eq_false (by omega)]
    by_cases h0 : (i : Int) < (x0.length : Int)
    · exact Ev.ite_pos h0 (rows_end x0 x1 rs (by omega) h _)
    · exact Ev.ite_neg h0 (rows_end x0 x1 rs (by omega) h _)
  | succ d ih =>
    intro i rs hi hl h
    refine Ev.step (fun k => loesslaw02_RlpRows.l0.eq_2 _ _ _ _ _ _ _ k) ?_
    rw [show decide ((i : Int) < 40) = true from decide_eq_true (by omega)]
    by_cases h0 : (i : Int) < (x0.length : Int)
    · refine Ev.ite_pos h0 ?_
      obtain ⟨t, ht⟩ := exists_ba (rdOf ByteArray.empty x0 (i : Int))
      have hf := flat_len rs h
      have next := ih (i + 1)
      refine Ev.step (fun k => loesslaw02_RlpRows.j1.eq_2 _ _ _ _ _ _ _ _ k) ?_
      rw [ht, ba_size, w64 (by omega) (by omega), show (i : Int) + 1 = ((i + 1 : Nat) : Int) from by omega]
      refine Ev.ite_pos rfl (Ev.ite_pos (by omega) (Ev.ite_pos h0 ?_))
      by_cases h1 : (t.length : Int) > 300
      · exact Ev.ite_pos h1 (next rs (by omega) (by omega) h)
      · refine Ev.ite_neg h1 (Ev.bind (ev_Bytes t (by omega)) ?_)
        have ht3 : t.length ≤ 300 := by omega
        have hB := bytes_len t (by omega)
        have more (b : Bool) := next (rs ++ [(b, t)]) (by omega) (by simp; omega) (by
          intro r hr
          rcases List.mem_append.1 hr with hr | hr
          · exact h r hr
          · simp at hr; subst hr; exact ht3)
        have eqs (b : Bool) : parts (rs ++ [(b, t)]) = parts rs ++ [ba (part (b, t))] ∧ texts (rs ++ [(b, t)]) = texts rs ++ [ba t] ∧ ba (flat (rs ++ [(b, t)])) = ba (flat rs) ++ ba (part (b, t)) :=
          ⟨by simp [parts], by simp [texts], by rw [flat_snoc, ba_app]⟩
        have j2 : ∀ b : Bool, Ev (fun k => loesslaw02_RlpRows.j2 k x0 x1 true (parts rs) (texts rs) (ba (flat rs)) (i : Int) (ba (byt t)) b) true := by
          intro b
          have m := more b
          rw [(eqs b).1, (eqs b).2.1, (eqs b).2.2] at m
          have hpl := part_len (b, t) ht3
          refine Ev.step (fun k => loesslaw02_RlpRows.j2.eq_2 _ _ _ _ _ _ _ _ _ k) ?_
          rw [ht, w64 (by omega) (by omega), show (i : Int) + 1 = ((i + 1 : Nat) : Int) from by omega]
          cases b with
          | true =>
            have hE := ev_List [byt t] (by simp) (by simp; omega)
            rw [show [byt t].flatten = byt t from by simp] at hE
            refine Ev.ite_pos rfl (Ev.ite_pos (by omega) (Ev.ite_pos h0 (Ev.bind (ev_Bytes t (by omega)) (Ev.bind hE (Ev.ite_pos (by rw [List.length_map]; omega) (Ev.ite_pos (by rw [List.length_map]; omega) (Ev.ite_pos ?_ m)))))))
            rw [ba_size, ba_size]
            change _ + (part (true, t)).length ≤ _
            omega
          | false =>
            refine Ev.ite_neg (by simp) (Ev.ite_pos (by rw [List.length_map]; omega) (Ev.ite_pos (by omega) (Ev.ite_pos h0 (Ev.ite_pos (by rw [List.length_map]; omega) (Ev.ite_pos ?_ m)))))
            rw [ba_size, ba_size]
            omega
        by_cases h2 : (i : Int) < (x1.length : Int)
        · exact Ev.ite_pos h2 (j2 _)
        · exact Ev.ite_neg h2 (j2 _)
    · exact Ev.ite_neg h0 (rows_end x0 x1 rs (by omega) h _)
theorem RlpRows (l : List ByteArray) (lists : List Bool) : ∃ k, loesslaw02_RlpRows.f k l lists = some true := by
  refine Ev.rounds (g := fun k => loesslaw02_RlpRows.f k l lists) ?_
  unfold loesslaw02_RlpRows.f
  simp only [loesslaw02_awake.f, Option.bind_some]
  exact rows_l0 l lists 40 0 [] (by omega) (by simp) (by simp)
end Go.Proofs.Ytkkammncpkgodaa.Pure
