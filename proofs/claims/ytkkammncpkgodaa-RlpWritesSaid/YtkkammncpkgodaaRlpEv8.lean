/- Things as bytes: what Encode comes to, and that it and Decode are each other's inverse. -/
import Derived.Test.YtkkammncpkgodaaRlpEv6
import Derived.Test.YtkkammncpkgodaaP11
import Derived.Test.YtkkammncpkgodaaP12
namespace Go.Proofs.Ytkkammncpkgodaa.RE
open Go.RowKit Go.Proofs.Ytkkammncpkgodaa.P Go.Proofs.YtkkammncpkgodaaW.PrintWords Go.Proofs.YtkkammncpkgodaaW.PrintLast Go.Proofs.YtkkammncpkgodaaW.Rlp
set_option linter.unusedVariables false
set_option linter.unusedSimpArgs false
mutual
def enc : It → Bs
  | ⟨b, s, l⟩ => if b = true then lst (encL l) else byt s.data.toList
def encL : List It → Bs
  | [] => []
  | x :: t => enc x ++ encL t
end
mutual
/-- A thing that may be: at most m deep, a list without bytes, bytes without items. -/
def good : It → Nat → Bool
  | ⟨b, s, l⟩, m => decide (1 ≤ m) && ((s.data.toList == ([] : Bs) || !b) && ((decide (l.length = 0) || b) && goodL l (m - 1)))
def goodL : List It → Nat → Bool
  | [], _ => true
  | x :: t, m => good x m && goodL t m
end
mutual
def wt : It → Nat
  | ⟨_, s, l⟩ => 1 + s.size + wtL l
def wtL : List It → Nat
  | [] => 0
  | x :: t => wt x + wtL t
end
theorem size_data (s : ByteArray) : s.size = s.data.toList.length := by rw [Array.length_toList]; rfl
theorem enc_cons (x : It) (t : List It) : encL (x :: t) = enc x ++ encL t := rfl
theorem len_wtL (l : List It) : l.length ≤ wtL l := by
  induction l with
  | nil => simp [wtL]
  | cons x t ih => cases x; simp only [wtL, wt, List.length_cons]; omega
/-- What may be is read again. -/
theorem row_enc (n : Nat) : ∀ (l : List It) (m : Nat), (encL l).length ≤ n → goodL l m = true → (encL l).length < 2 ^ 39 → row n (encL l) m = some l := by
  induction n with
  | zero =>
    intro l m h _ _
    cases l with
    | nil => rfl
    | cons x t =>
      exfalso
      have h0 : encL (x :: t) = [] := List.length_eq_zero_iff.1 (by omega)
      rw [enc_cons] at h0
      have h1 : enc x = [] := (List.append_eq_nil_iff.1 h0).1
      cases x with
      | mk b s i =>
        cases b with
        | true => exact wrap_ne_nil true (encL i) (by simpa [enc, wrap] using h1)
        | false => exact wrap_ne_nil false s.data.toList (by simpa [enc, wrap] using h1)
  | succ n ih =>
    intro l m h hg hs
    cases l with
    | nil => simp [row, encL]
    | cons x t =>
      cases x with
      | mk b s i =>
        simp only [goodL, good, Bool.and_eq_true, decide_eq_true_eq, Bool.or_eq_true, beq_iff_eq, Bool.not_eq_true'] at hg
        obtain ⟨⟨h1, h2, h3, h4⟩, h5⟩ := hg
        rw [enc_cons] at h hs ⊢
        cases b with
        | true =>
          have h2' : s.data.toList = [] := by simpa using h2
          have hsE : s = ba [] := by rw [← ba_of s, h2']
          have hE : enc ⟨true, s, i⟩ = lst (encL i) := by simp [enc]
          rw [hE] at h hs ⊢
          have hw := wrap_len true (encL i)
          have hw' : (encL i).length < (lst (encL i)).length := hw.2.2 rfl
          rw [List.length_append] at h hs
          have hsp := split_list (encL i) (encL t) (by omega)
          have hne : lst (encL i) ++ encL t ≠ [] := by intro e; exact wrap_ne_nil true (encL i) (List.append_eq_nil_iff.1 e).1
          simp only [row]
          rw [if_neg hne, hsp]
          dsimp only
          rw [if_neg (by omega), if_pos rfl, ih i (m - 1) (by omega) h4 (by omega)]
          simp only [Option.bind_some]
          rw [ih t m (by omega) h5 (by omega), hsE]
          rfl
        | false =>
          have h3' : i = [] := by
            have : i.length = 0 := by simpa using h3
            exact List.length_eq_zero_iff.1 this
          subst h3'
          have hE : enc ⟨false, s, []⟩ = byt s.data.toList := by simp [enc]
          rw [hE] at h hs ⊢
          have hw := wrap_len false s.data.toList
          have hw1 : s.data.toList.length ≤ (byt s.data.toList).length := hw.1
          have hw2 : 1 ≤ (byt s.data.toList).length := hw.2.1
          rw [List.length_append] at h hs
          have hsp := split_bytes s.data.toList (encL t) (by omega)
          have hne : byt s.data.toList ++ encL t ≠ [] := by intro e; exact wrap_ne_nil false s.data.toList (List.append_eq_nil_iff.1 e).1
          simp only [row]
          rw [if_neg hne, hsp]
          dsimp only
          rw [if_neg (by omega), if_neg (by simp), ih t m (by omega) h5 (by omega), ba_of]
          rfl
/-- What is read may be, and its bytes are these. -/
theorem row_inv (n : Nat) : ∀ (s : Bs) (m : Nat) (l : List It), s.length ≤ n → row n s m = some l → encL l = s ∧ goodL l m = true := by
  induction n with
  | zero =>
    intro s m l h hr
    have h0 : s = [] := List.length_eq_zero_iff.1 (by omega)
    simp only [row, Option.some.injEq] at hr
    subst hr
    exact ⟨h0.symm, rfl⟩
  | succ n ih =>
    intro s m l hn h
    simp only [row] at h
    by_cases h1 : s = []
    · rw [if_pos h1] at h
      simp only [Option.some.injEq] at h
      subst h
      exact ⟨h1.symm, rfl⟩
    · rw [if_neg h1] at h
      rcases splitM s with h2 | ⟨p, b, r, h2⟩
      · rw [h2] at h; cases h
      · rw [h2] at h
        dsimp only at h
        have hl := split_len h2
        have hs := split_inv h2
        by_cases h3 : m = 0
        · rw [if_pos h3] at h; cases h
        · rw [if_neg h3] at h
          cases b with
          | true =>
            rw [if_pos rfl] at h
            obtain ⟨items, h4, h⟩ := Option.bind_eq_some_iff.1 h
            obtain ⟨t, h5, h⟩ := Option.bind_eq_some_iff.1 h
            simp only [Option.some.injEq] at h
            subst h
            obtain ⟨e1, g1⟩ := ih p (m - 1) items (by have := hl.2.2 rfl; omega) h4
            obtain ⟨e2, g2⟩ := ih r m t (by omega) h5
            refine ⟨?_, ?_⟩
            · rw [enc_cons, e2, hs]; simp [enc, e1, wrap]
            · simp [goodL, good, g1, g2, ba_data]; omega
          | false =>
            rw [if_neg (by simp)] at h
            obtain ⟨t, h5, h⟩ := Option.bind_eq_some_iff.1 h
            simp only [Option.some.injEq] at h
            subst h
            obtain ⟨e2, g2⟩ := ih r m t (by omega) h5
            refine ⟨?_, ?_⟩
            · rw [enc_cons, e2, hs]; simp [enc, wrap, ba_data]
            · simp [goodL, good, g2]; omega
theorem dec_enc (x : It) (hg : good x 16 = true) (hs : (enc x).length < 2 ^ 39) : dec (enc x) = (x.f0, x.f1, x.f2, 0) := by
  have e : encL [x] = enc x := by rw [enc_cons]; simp [encL]
  have := row_enc (enc x).length [x] 16 (by rw [e]; exact Nat.le_refl _) (by simp [goodL, hg]) (by rw [e]; exact hs)
  rw [e] at this
  unfold dec
  rw [this]; rfl
theorem dec_inv (s : Bs) (h : (dec s).2.2.2 = 0) : good ⟨(dec s).1, (dec s).2.1, (dec s).2.2.1⟩ 16 = true ∧ enc ⟨(dec s).1, (dec s).2.1, (dec s).2.2.1⟩ = s := by
  unfold dec thing at h ⊢
  split
  · rename_i x hx
    obtain ⟨e, g⟩ := row_inv s.length s 16 [x] (Nat.le_refl _) hx
    rw [enc_cons] at e
    simp only [encL, List.append_nil] at e
    simp only [goodL, Bool.and_true] at g
    cases x
    exact ⟨g, e⟩
  · rename_i hno
    exfalso
    split at h
    · rename_i x hx; exact hno x hx
    · simp at h
theorem cntL_get' (l : List It) (i : Nat) (h : i < l.length) : cnt (l[i]'h) ≤ cntL l := by
  induction l generalizing i with
  | nil => simp at h
  | cons x t ih =>
    cases i with
    | zero => simp only [List.getElem_cons_zero, cntL]; omega
    | succ i =>
      have := ih i (by simpa using h)
      simp only [List.getElem_cons_succ, cntL]; omega
theorem wtL_get' (l : List It) (i : Nat) (h : i < l.length) : wt (l[i]'h) ≤ wtL l := by
  induction l generalizing i with
  | nil => simp at h
  | cons x t ih =>
    cases i with
    | zero => simp only [List.getElem_cons_zero, wtL]; omega
    | succ i =>
      have := ih i (by simpa using h)
      simp only [List.getElem_cons_succ, wtL]; omega
theorem enc_len : ∀ (n : Nat) (x : It), cnt x ≤ n → wt x < 2 ^ 40 → (enc x).length ≤ 10 * wt x := by
  intro n
  induction n with
  | zero => intro x h; cases x; simp only [cnt] at h; omega
  | succ n ih =>
    intro x h hw
    cases x with
    | mk b s l =>
      simp only [cnt] at h
      simp only [wt] at hw ⊢
      have hL : ∀ l : List It, cntL l ≤ n → wtL l < 2 ^ 40 → (encL l).length ≤ 10 * wtL l := by
        intro l
        induction l with
        | nil => intro _ _; simp [encL]
        | cons y t iht =>
          intro hc hw2
          simp only [cntL] at hc
          simp only [wtL] at hw2 ⊢
          have h1 := ih y (by omega) (by omega)
          have h2 := iht (by omega) (by omega)
          rw [enc_cons, List.length_append]; omega
      have hl := hL l (by omega) (by omega)
      have hsz := size_data s
      simp only [enc]
      cases b with
      | true =>
        rw [if_pos rfl]
        have := list_len (encL l) (by omega)
        omega
      | false =>
        rw [if_neg (by simp)]
        have := bytes_len s.data.toList (by omega)
        omega
theorem good_deep (x : It) : good x 0 = false := by cases x; simp [good]
theorem goodL_drop (l : List It) (m i : Nat) (h : i < l.length) : goodL (l.drop i) m = (good (l[i]'h) m && goodL (l.drop (i + 1)) m) := by
  rw [List.drop_eq_getElem_cons h]; rfl
theorem wtL_drop (l : List It) (i : Nat) (h : i < l.length) : wtL (l.drop i) = wt (l[i]'h) + wtL (l.drop (i + 1)) := by
  rw [List.drop_eq_getElem_cons h]; rfl
theorem encL_drop (l : List It) (i : Nat) (h : i < l.length) : encL (l.drop i) = enc (l[i]'h) ++ encL (l.drop (i + 1)) := by
  rw [List.drop_eq_getElem_cons h]; rfl
theorem rd_it (l : List It) (i : Nat) (h : i < l.length) : rd_T25 l (i : Int) = l[i]'h := by
  unfold rd_T25
  rw [Int.toNat_natCast, List.getD_eq_getElem?_getD, List.getElem?_eq_getElem h]; rfl
def encR (w : Nat) (g : Bool) (e : Bs) (r : ByteArray × Bool) : Prop := ∃ t : Bs, r.1 = ba t ∧ t.length ≤ 10 * w ∧ r.2 = g ∧ (g = true → t = e)
theorem ok_eq (a0_0 : Bool) (a0_1 : ByteArray) (l : List It) (m : Nat) (hm : m ≤ 16) (b : Bool) :
    rlp_Encode_1.ok a0_0 a0_1 l ((17 - m : Nat) : Int) b = (b && (decide (1 ≤ m) && ((a0_1.data.toList == ([] : Bs) || !a0_0) && (decide (l.length = 0) || a0_0)))) := by
  unfold rlp_Encode_1.ok
  rw [ByteArray.toList_eq, show decide (((17 - m : Nat) : Int) ≤ 16) = decide (1 ≤ m) from by rw [decide_eq_decide]; omega]
theorem enc_f : ∀ (n : Nat) (x : It) (m : Nat) (b : Bool), cnt x ≤ n → m ≤ 16 → wt x < 2 ^ 40 →
    ∃ r, Ev (fun k => rlp_Encode_1.f k x.f0 x.f1 x.f2 ((17 - m : Nat) : Int) b) r ∧ encR (wt x) (b && good x m) (enc x) r := by
  intro n
  induction n with
  | zero => intro x m b h; cases x; simp only [cnt] at h; omega
  | succ n ih =>
    intro x m b h hm hw
    cases x with
    | mk f0 f1 l =>
      simp only [cnt] at h
      have hlen := len_wtL l
      have hw' := hw
      simp only [wt] at hw'
      have hsz := size_data f1
      by_cases hok : rlp_Encode_1.ok f0 f1 l ((17 - m : Nat) : Int) b = true
      · have hok' := hok
        rw [ok_eq f0 f1 l m hm b] at hok'
        simp only [Bool.and_eq_true, decide_eq_true_eq, Bool.or_eq_true, beq_iff_eq, Bool.not_eq_true'] at hok'
        obtain ⟨hb, h1, h2, h3⟩ := hok'
        subst hb
        cases f0 with
        | false =>
          have hl0 : l = [] := by
            have : l.length = 0 := by simpa using h3
            exact List.length_eq_zero_iff.1 this
          subst hl0
          refine ⟨(ba (byt f1.data.toList), true), ?_, byt f1.data.toList, rfl, ?_, ?_, fun _ => by simp [enc]⟩
          · refine Ev.step (fun k => rlp_Encode_1.f.eq_2 _ _ _ _ _ k) (Ev.ite_pos hok (Ev.ite_neg (by simp) ?_))
            have hB := ev_Bytes f1.data.toList (by omega)
            rw [ba_of] at hB
            exact Ev.bind hB (Ev.now _)
          · have := bytes_len f1.data.toList (by omega)
            simp only [wt]; omega
          · simp [good, goodL, h1]
        | true =>
          have h2' : f1.data.toList = [] := by simpa using h2
          have loop : ∀ (d i : Nat) (b : Bool) (outs : List Bs), i + d = l.length → outs.length = i → outs.flatten.length + 10 * wtL (l.drop i) ≤ 10 * wtL l →
              ∃ r, Ev (fun k => rlp_Encode_1.l0 k l ((17 - m : Nat) : Int) (i : Int) (outs.map ba) b) r ∧ encR (1 + wtL l) (b && goodL (l.drop i) (m - 1)) (lst (outs.flatten ++ encL (l.drop i))) r := by
            intro d
            induction d with
            | zero =>
              intro i b outs hi ho hL
              rw [List.drop_of_length_le (by omega)] at hL ⊢
              simp only [wtL, Nat.mul_zero, Nat.add_zero] at hL
              refine ⟨(ba (lst outs.flatten), b), ?_, lst outs.flatten, rfl, ?_, by simp [goodL], fun _ => by simp [encL]⟩
              · refine Ev.step (fun k => rlp_Encode_1.l0.eq_2 _ _ _ _ _ k) (Ev.ite_neg (by omega) ?_)
                exact Ev.bind (ev_List outs (by omega) (by omega)) (Ev.now _)
              · have := list_len outs.flatten (by omega)
                omega
            | succ d ihd =>
              intro i b outs hi ho hL
              have hlt : i < l.length := by omega
              have hwd := wtL_drop l i hlt
              have hcl := cntL_get' l i hlt
              obtain ⟨⟨r1, r2⟩, hE, t, ht, htl, hg, he⟩ := ih (l[i]'hlt) (m - 1) b (by omega) (by omega) (by have := wtL_get' l i hlt; omega)
              dsimp only at ht hg
              subst ht hg
              obtain ⟨r, hE2, hR⟩ := ihd (i + 1) (b && good (l[i]'hlt) (m - 1)) (outs ++ [t]) (by omega) (by simp [ho]) (by simp only [List.flatten_append, List.length_append, List.flatten_cons, List.flatten_nil, List.append_nil]; omega)
              refine ⟨r, ?_, ?_⟩
              · refine Ev.step (fun k => rlp_Encode_1.l0.eq_2 _ _ _ _ _ k) (Ev.ite_pos (by omega) (Ev.ite_pos (by omega) ?_))
                rw [rd_it l i hlt, w64 (n := ((17 - m : Nat) : Int) + 1) (by omega) (by omega), show ((17 - m : Nat) : Int) + 1 = ((17 - (m - 1) : Nat) : Int) from by omega, w64 (by omega) (by omega), show (i : Int) + 1 = ((i + 1 : Nat) : Int) from by omega]
                refine Ev.bind hE (Ev.ite_pos (by simp; omega) ?_)
                simpa using hE2
              · obtain ⟨t2, h4, h5, h6, h7⟩ := hR
                refine ⟨t2, h4, h5, ?_, ?_⟩
                · rw [h6, goodL_drop l (m - 1) i hlt, Bool.and_assoc]
                · intro hg2
                  rw [goodL_drop l (m - 1) i hlt, ← Bool.and_assoc] at hg2
                  rw [h7 hg2, encL_drop l i hlt, ← he (by rw [Bool.and_eq_true] at hg2; exact hg2.1)]
                  simp
          obtain ⟨r, hE, t, ht, htl, hg, he⟩ := loop l.length 0 true [] (by omega) rfl (by simp)
          refine ⟨r, ?_, t, ht, ?_, ?_, ?_⟩
          · refine Ev.step (fun k => rlp_Encode_1.f.eq_2 _ _ _ _ _ k) (Ev.ite_pos hok (Ev.ite_pos rfl ?_))
            exact hE
          · simp only [wt]; omega
          · rw [hg]; simp [good, h1, h2']
          · intro hgg
            rw [he ?_]
            · simp [enc]
            · simpa [good, h1, h2'] using hgg
      · refine ⟨((⟨#[]⟩ : ByteArray), false), ?_, [], rfl, by simp, ?_, ?_⟩
        · exact Ev.step (fun k => rlp_Encode_1.f.eq_2 _ _ _ _ _ k) (Ev.ite_neg hok (Ev.now _))
        · rw [ok_eq f0 f1 l m hm b] at hok
          simp only [good]
          revert hok
          generalize decide (1 ≤ m) = p1
          generalize (f1.data.toList == ([] : Bs) || !f0) = p2
          generalize (decide (l.length = 0) || f0) = p3
          generalize goodL l (m - 1) = p4
          revert b p1 p2 p3 p4
          decide
        · intro hgg
          exfalso
          rw [ok_eq f0 f1 l m hm b] at hok
          simp only [good] at hgg
          revert hok hgg
          generalize decide (1 ≤ m) = p1
          generalize (f1.data.toList == ([] : Bs) || !f0) = p2
          generalize (decide (l.length = 0) || f0) = p3
          generalize goodL l (m - 1) = p4
          revert b p1 p2 p3 p4
          decide
def enc16 (x : It) : ByteArray × Int := if good x 16 = true then (ba (enc x), 0) else (ba [], 1)
theorem ev_Encode (x : It) (hw : wt x < 2 ^ 40) : Ev (fun k => rlp_Encode.f k x.f0 x.f1 x.f2) (enc16 x) := by
  obtain ⟨⟨r1, r2⟩, hE, t, ht, htl, hg, he⟩ := enc_f (cnt x) x 16 true (Nat.le_refl _) (by omega) hw
  unfold rlp_Encode.f enc16
  refine Ev.bind hE ?_
  dsimp only at ht hg ⊢
  subst ht hg
  simp only [Bool.true_and] at he ⊢
  by_cases h : good x 16 = true
  · rw [if_pos h, if_pos h, he h]; exact Ev.now _
  · rw [if_neg h, if_neg h]; exact Ev.now _
end Go.Proofs.Ytkkammncpkgodaa.RE
