/- The first thing that bytes begin with: what the reference's Split comes to. -/
import Derived.Test.YtkkammncpkgodaaRlpEv2
import Derived.Test.YtkkammncpkgodaaRlpEv4
import Derived.Test.YtkkammncpkgodaaP17
namespace Go.Proofs.Ytkkammncpkgodaa.RE
open Go.RowKit Go.Proofs.Ytkkammncpkgodaa.P Go.Proofs.YtkkammncpkgodaaW.PrintWords Go.Proofs.YtkkammncpkgodaaW.PrintLast Go.Proofs.YtkkammncpkgodaaW.Rlp
set_option linter.unusedVariables false
set_option linter.unusedSimpArgs false

theorem cut_ok (s : Bs) (l : Bool) (n at_ : Nat) (h : at_ ≤ s.length) (hn : ¬ s.length - at_ < n) (hs : ¬ (l = false ∧ n = 1 ∧ small ((s.drop at_).take 1) = true)) :
    (((ba s).extract at_ (at_ + n), l, (ba s).extract (at_ + n) (ba s).size, 0) : ByteArray × Bool × ByteArray × Int) = out (fin l n (s.drop at_)) := by
  unfold fin
  rw [if_neg (by simp; omega), if_neg hs, ba_extract, ba_extract, ba_size, List.take_length]
  simp only [out, List.drop_drop]
  rw [List.drop_take, Nat.add_sub_cancel_left]
theorem bt_drop (s : Bs) (i : Nat) (h : i < s.length) : bt (ba (s.drop i)) 0 = bt (ba s) (i : Int) := by
  have h1 := ba_bt (s.drop i) 0 (by simp; omega)
  rw [ba_bt s i h]
  rw [show ((0 : Nat) : Int) = 0 from rfl] at h1
  rw [h1]
  simp
theorem small_drop (s : Bs) (i : Nat) (h : i < s.length) : small ((s.drop i).take 1) = true ↔ bt (ba s) (i : Int) < 128 := by
  rw [small_take (s.drop i) (by simp; omega), bt_drop s i h]
theorem fin_short (s : Bs) (l : Bool) (n at_ : Nat) (h : s.length - at_ < n) : out (fin l n (s.drop at_)) = rlp_Split.bad := by
  unfold fin; rw [if_pos (by simp; omega)]; rfl
theorem fin_small (s : Bs) (at_ : Nat) (h : small ((s.drop at_).take 1) = true) (hn : ¬ s.length - at_ < 1) : out (fin false 1 (s.drop at_)) = rlp_Split.bad := by
  unfold fin; rw [if_neg (by simp; omega), if_pos ⟨rfl, rfl, h⟩]; rfl
theorem refSplit_j1 (s : Bs) (l : Bool) (x8 : Int) (at_ n : Nat) (hW : wrap64 (wrap64 (1 + x8) - 55) = (at_ : Int)) (hat : at_ ≤ s.length) (hs : s.length < 2 ^ 40) (hn : n ≤ s.length) (k : Nat) :
    loessref02_Split.j1 (k + 1) (ba s) l x8 (n : Int) false = some (out (fin l n (s.drop at_))) := by
  simp only [loessref02_Split.j1]
  rw [hW, w64 (n := (n : Int)) (by omega) (by omega), w64 (n := (at_ : Int) + (n : Int)) (by omega) (by omega), w64 (n := ((ba s).size : Int) - (at_ : Int)) (by rw [ba_size]; omega) (by rw [ba_size]; omega), if_neg (by simp)]
  rw [show ((at_ : Int)).toNat = at_ from Int.toNat_natCast _, show ((at_ : Int) + (n : Int)).toNat = at_ + n from by omega]
  by_cases c1 : s.length - at_ < n
  · rw [if_pos (by rw [ba_size]; omega), fin_short s l n at_ c1]; rfl
  · rw [if_neg (by rw [ba_size]; omega)]
    have h1 : (0 : Int) ≤ (at_ : Int) := by omega
    have h2 : (at_ : Int) ≤ (at_ : Int) + (n : Int) := by omega
    have h3 : (at_ : Int) + (n : Int) ≤ ((ba s).size : Int) := by rw [ba_size]; omega
    have h4 : (0 : Int) ≤ (at_ : Int) + (n : Int) := by omega
    cases l with
    | true =>
      rw [if_pos rfl, if_pos h1, if_pos h2, if_pos h3, if_pos h4]
      exact congrArg some (cut_ok s true n at_ hat c1 (by simp))
    | false =>
      rw [if_neg (by simp)]
      by_cases c2 : n = 1
      · subst c2
        rw [if_pos (show ((1 : Nat) : Int) = 1 from rfl), if_pos h1, if_pos (by rw [ba_size]; omega)]
        by_cases c3 : bt (ba s) (at_ : Int) < 128
        · rw [if_pos c3, fin_small s at_ ((small_drop s at_ (by omega)).2 c3) c1]; rfl
        · rw [if_neg c3, if_pos h2, if_pos h3, if_pos h4]
          exact congrArg some (cut_ok s false 1 at_ hat c1 (fun z => c3 ((small_drop s at_ (by omega)).1 z.2.2)))
      · rw [if_neg (by omega), if_pos h1, if_pos h2, if_pos h3, if_pos h4]
        exact congrArg some (cut_ok s false n at_ hat c1 (fun z => c2 z.2.1))
theorem refSplit_j1_bad (s : Bs) (l : Bool) (x8 v : Int) (k : Nat) : loessref02_Split.j1 (k + 1) (ba s) l x8 v true = some rlp_Split.bad := by
  simp only [loessref02_Split.j1, if_true]; rfl
theorem Ev.at1 {α : Type} {g : Nat → Option α} {r : α} (h : ∀ k, g (k + 1) = some r) : Ev g r := by
  refine ⟨1, fun k hk => ?_⟩
  obtain ⟨m, rfl⟩ : ∃ m, k = m + 1 := ⟨k - 1, by omega⟩
  exact h m
/-- Behind the first byte: the rest of the way, in the plain law's words. -/
def behind (l : Bool) (m : Nat) (rest : Bs) : Option (Bs × Bool × Bs) :=
  if m ≤ 55 then fin l m rest else
  if rest.length < m - 55 then none else if lead (rest.take (m - 55)) = false then none else if val (rest.take (m - 55)) ≤ 55 then none else
  if rest.length < val (rest.take (m - 55)) then none else fin l (val (rest.take (m - 55))) (rest.drop (m - 55))
theorem split_cons (b : UInt8) (rest : Bs) (h : ¬ b.toNat < 128) : split (b :: rest) = behind (decide (192 ≤ b.toNat)) ((b.toNat - 128) % 64) rest := by
  simp only [split, behind]
  rw [if_neg h]
theorem ev_refSplit_j0 (b : UInt8) (rest : Bs) (l : Bool) (m : Nat) (hm : m < 64) (hs : rest.length < 2 ^ 39) :
    Ev (fun k => loessref02_Split.j0 k (ba (b :: rest)) l (m : Int)) (out (behind l m rest)) := by
  have hsz : (ba (b :: rest)).size = rest.length + 1 := by rw [ba_size]; rfl
  unfold behind
  by_cases c0 : m ≤ 55
  · refine Ev.at1 (fun k => ?_)
    simp only [loessref02_Split.j0]
    rw [if_neg (by omega), if_pos c0, w64 (n := ((ba (b :: rest)).size : Int) - 1) (by omega) (by omega), w64 (n := 1 + (m : Int)) (by omega) (by omega),
      show (1 + (m : Int)).toNat = 1 + m from by omega]
    have hd : (b :: rest).drop 1 = rest := rfl
    have hl1 : (b :: rest).length - 1 = rest.length := by simp
    by_cases c1 : rest.length < m
    · rw [if_pos (by omega)]
      have := fin_short (b :: rest) l m 1 (by omega)
      rw [hd] at this
      rw [this]; rfl
    · rw [if_neg (by omega)]
      have h1 : (1 : Int) ≤ 1 + (m : Int) := by omega
      have h2 : 1 + (m : Int) ≤ ((ba (b :: rest)).size : Int) := by omega
      have h3 : (0 : Int) ≤ 1 + (m : Int) := by omega
      cases l with
      | true =>
        rw [if_pos rfl, if_pos h1, if_pos h2, if_pos h3]
        have := cut_ok (b :: rest) true m 1 (by simp) (by omega) (by simp)
        rw [hd] at this
        exact congrArg some this
      | false =>
        rw [if_neg (by simp)]
        by_cases c2 : m = 1
        · subst c2
          rw [if_pos (show ((1 : Nat) : Int) = 1 from rfl), if_pos (by omega)]
          by_cases c3 : bt (ba (b :: rest)) 1 < 128
          · rw [if_pos c3]
            have := fin_small (b :: rest) 1 ((small_drop (b :: rest) 1 (by simp; omega)).2 c3) (by omega)
            rw [hd] at this
            rw [this]; rfl
          · rw [if_neg c3, if_pos h1, if_pos h2, if_pos h3]
            have := cut_ok (b :: rest) false 1 1 (by simp) (by omega) (fun z => c3 ((small_drop (b :: rest) 1 (by simp; omega)).1 z.2.2))
            rw [hd] at this
            exact congrArg some this
        · rw [if_neg (by omega), if_pos h1, if_pos h2, if_pos h3]
          have := cut_ok (b :: rest) false m 1 (by simp) (by omega) (fun z => c2 z.2.1)
          rw [hd] at this
          exact congrArg some this
  · rw [if_neg c0]
    have hW : wrap64 (wrap64 (1 + (m : Int)) - 55) = ((m - 54 : Nat) : Int) := by rw [w64 (n := 1 + (m : Int)) (by omega) (by omega), w64 (by omega) (by omega)]; omega
    refine Ev.step (fun k => loessref02_Split.j0.eq_2 _ _ _ k) ?_
    refine Ev.ite_pos (by omega) ?_
    simp only [hW, hsz]
    by_cases c1 : rest.length < m - 55
    · rw [if_pos c1]
      exact Ev.ite_pos (by omega) (Ev.now _)
    · rw [if_neg c1]
      refine Ev.ite_neg (by omega) (Ev.ite_pos (by omega) (Ev.ite_pos (by omega) ?_))
      have he : (ba (b :: rest)).extract 1 (((m - 54 : Nat) : Int)).toNat = ba (rest.take (m - 55)) := by
        rw [Int.toNat_natCast, ba_extract, show m - 54 = (m - 55) + 1 from by omega, List.take_succ_cons]; rfl
      simp only [he]
      refine Ev.bind (ev_refUint (rest.take (m - 55))) ?_
      have hl8 : (rest.take (m - 55)).length ≤ 8 := by simp; omega
      have hdrop : (b :: rest).drop (m - 54) = rest.drop (m - 55) := by rw [show m - 54 = (m - 55) + 1 from by omega]; rfl
      unfold uint
      by_cases c2 : lead (rest.take (m - 55)) = false
      · rw [if_neg (fun z => by rw [c2] at z; simp at z), if_pos c2]
        exact Ev.ite_neg (by simp) (Ev.at1 (fun k => refSplit_j1_bad (b :: rest) l _ _ k))
      · rw [if_pos ⟨hl8, by simpa using c2⟩, if_neg c2]
        refine Ev.ite_pos rfl ?_
        by_cases c3 : val (rest.take (m - 55)) ≤ 55
        · rw [if_pos c3]
          exact Ev.ite_pos (by show (((val (rest.take (m - 55)) : Nat)) : Int) < 56; omega) (Ev.at1 (fun k => refSplit_j1_bad (b :: rest) l _ _ k))
        · rw [if_neg c3]
          refine Ev.ite_neg (by show ¬ (((val (rest.take (m - 55)) : Nat)) : Int) < 56; omega) ?_
          rw [wu64 (n := ((rest.length + 1 : Nat) : Int)) (by omega) (by omega)]
          by_cases c4 : (((val (rest.take (m - 55)) : Nat)) : Int) > ((rest.length + 1 : Nat) : Int)
          · rw [if_pos (by omega), decide_eq_true c4]
            exact Ev.at1 (fun k => refSplit_j1_bad (b :: rest) l _ _ k)
          · rw [decide_eq_false c4]
            refine Ev.at1 (fun k => ?_)
            have hj := refSplit_j1 (b :: rest) l (m : Int) (m - 54) (val (rest.take (m - 55))) hW (by simp; omega) (by simp; omega) (by simp; omega) k
            rw [hdrop] at hj
            refine hj.trans (congrArg some ?_)
            by_cases c5 : rest.length < val (rest.take (m - 55))
            · rw [if_pos c5]
              unfold fin
              rw [if_pos (by simp; omega)]
            · rw [if_neg c5]
theorem ev_refSplit (s : Bs) (h : s.length < 2 ^ 39) : Ev (fun k => loessref02_Split.f k (ba s)) (out (split s)) := by
  unfold loessref02_Split.f
  cases s with
  | nil => exact Ev.ite_pos (by rw [ba_size]; rfl) (Ev.now _)
  | cons b rest =>
    have hb := byte_lt b
    simp only [List.length_cons] at h
    refine Ev.ite_neg (by rw [ba_size]; simp only [List.length_cons]; omega) (Ev.ite_pos (by rw [ba_size]; simp only [List.length_cons]; omega) ?_)
    rw [bt_zero, w64 (n := (b.toNat : Int)) (by omega) (by omega)]
    by_cases h1 : b.toNat < 128
    · refine Ev.ite_pos (by omega) (Ev.ite_pos (by omega) (Ev.ite_pos (by rw [ba_size]; simp only [List.length_cons]; omega) ?_))
      rw [ba_extract, ba_extract, ba_size]
      refine Ev.eq (Ev.now _) ?_
      simp [out, split, h1]
    · refine Ev.ite_neg (by omega) ?_
      rw [split_cons b rest h1]
      by_cases h2 : 192 ≤ b.toNat
      · refine Ev.ite_pos (by omega) ?_
        rw [decide_eq_true h2, decide_eq_true (by omega : (b.toNat : Int) ≥ 192), w64 (by omega) (by omega), show (b.toNat : Int) - 192 = (((b.toNat - 128) % 64 : Nat) : Int) from by omega]
        exact ev_refSplit_j0 b rest true _ (by omega) (by omega)
      · refine Ev.ite_neg (by omega) ?_
        rw [decide_eq_false h2, decide_eq_false (by omega : ¬ (b.toNat : Int) ≥ 192), w64 (by omega) (by omega), show (b.toNat : Int) - 128 = (((b.toNat - 128) % 64 : Nat) : Int) from by omega]
        exact ev_refSplit_j0 b rest false _ (by omega) (by omega)
end Go.Proofs.Ytkkammncpkgodaa.RE
