/- The next schedule is the one with the next number: in plain lists. -/
import Derived.Test.YtplfhjahdepphaaExJ
namespace Go.Proofs.Ytplfhjahdepphaa.Ex
open Go.ChangeShapes Go.WideShapes Go.ChangeAt Go.RowKit
set_option linter.unusedVariables false
set_option linter.unusedSimpArgs false
set_option maxRecDepth 100000

def firstNZ : List Nat → Nat → Option Nat
  | [], _ => none
  | x :: xs, i => if x = 0 then firstNZ xs (i + 1) else some i
/-- The next number that may stand there. -/
def nxt (l : List Nat) (p : Nat) : Option Nat := firstNZ ((leftL l).drop (p + 1)) (p + 1)

theorem pick_drop (j : Nat) : ∀ ks r i, j ≤ ks.length → pick ks (sum (ks.take j) + r) i = pick (ks.drop j) r (i + j) := by
  induction j with
  | zero => intro ks r i _; simp [sum]
  | succ j ih =>
    intro ks r i hj
    cases ks with
    | nil => simp at hj
    | cons k ks =>
      rw [List.take_succ_cons, sum_cons, List.drop_succ_cons, pick_cons, if_neg (by omega)]
      rw [show k + sum (ks.take j) + r - k = sum (ks.take j) + r by omega, ih ks r (i + 1) (by simpa using hj)]
      congr 1
      omega
theorem pick_zero (ks : List Nat) : ∀ i q, firstNZ ks i = some q → pick ks 0 i = (q, 0) := by
  induction ks with
  | nil => intro i q h; cases h
  | cons k ks ih =>
    intro i q h
    unfold firstNZ at h
    rw [pick_cons]
    by_cases hk : k = 0
    · rw [if_pos hk] at h
      rw [if_neg (by omega), Nat.zero_sub]
      exact ih _ _ h
    · rw [if_neg hk] at h
      rw [if_pos (by omega)]
      simp only [Option.some.injEq] at h
      rw [h]
theorem firstNZ_none (ks : List Nat) : ∀ i, firstNZ ks i = none ↔ sum ks = 0 := by
  induction ks with
  | nil => intro i; simp [firstNZ, sum]
  | cons k ks ih =>
    intro i
    unfold firstNZ
    rw [sum_cons]
    by_cases hk : k = 0
    · rw [if_pos hk, ih]; omega
    · rw [if_neg hk]
      constructor
      · intro h; cases h
      · intro h; omega
theorem sum_take_drop (l : List Nat) (p : Nat) : sum (l.take p) + sum (l.drop p) = sum l := by
  have key : ∀ a b : List Nat, sum (a ++ b) = sum a + sum b := by
    intro a b
    induction a with
    | nil => simp [sum]
    | cons x a ih => show sum (x :: (a ++ b)) = _; rw [sum_cons, sum_cons, ih]; omega
  rw [← key, List.take_append_drop]

theorem step_ok : goS (fun l => (List.range l.length).all fun p => (l.getD p 0 == 0) ||
    decide (stepF p (nthF (sum l - 1) (lset l p) (cN (lset l p) - 1)) = (match nxt l p with | none => none | some q => some (q :: nthF (sum l - 1) (lset l q) 0)))) 4 [] = true := by decide +kernel
theorem sm_step {l : List Nat} (h : Sm l) (p : Nat) (hp : p < l.length) (h0 : l.getD p 0 ≠ 0) :
    stepF p (nthF (sum l - 1) (lset l p) (cN (lset l p) - 1)) = (match nxt l p with | none => none | some q => some (q :: nthF (sum l - 1) (lset l q) 0)) := by
  have := sm_all _ step_ok l h
  rw [List.all_eq_true] at this
  have := this p (List.mem_range.2 hp)
  simp only [Bool.or_eq_true, beq_iff_eq, decide_eq_true_eq] at this
  rcases this with h1 | h1
  · exact absurd h1 h0
  · exact h1

theorem next_nth (t : Nat) : ∀ l m, Sm l → sum l = t → m < cN l → nextF (nthF t l m) = if m + 1 < cN l then some (nthF t l (m + 1)) else none := by
  induction t with
  | zero =>
    intro l m hs ht hm
    rw [sm_zero hs ht] at hm ⊢
    rw [if_neg (by omega)]
    rfl
  | succ t ih =>
    intro l m hs ht hm
    obtain ⟨h1, h2, h3, h4, h5⟩ := sm_pick hs (by omega) hm
    have hsum := sm_sum hs (by omega)
    have hlen := leftL_length l
    have hun : ∀ n, nthF (t + 1) l n = (pick (leftL l) n 0).1 :: nthF t (lset l (pick (leftL l) n 0).1) (pick (leftL l) n 0).2 := fun n => rfl
    rw [hun m]
    generalize pick (leftL l) m 0 = P at *
    obtain ⟨p, m2⟩ := P
    simp only at h1 h2 h3 h4 h5 ⊢
    have hst := sum_take (leftL l) p (by rw [hlen]; exact h1)
    rw [leftL_get l p h1, if_neg h2] at hst
    have htd := sum_take_drop (leftL l) (p + 1)
    have ihp := ih (lset l p) m2 (sm_lset hs p) (by omega) h3
    unfold nextF
    rw [ihp]
    by_cases hc : m2 + 1 < cN (lset l p)
    · rw [if_pos hc]
      have hm1 : m + 1 < cN l := by omega
      rw [if_pos hm1, hun (m + 1)]
      have hpk : pick (leftL l) (m + 1) 0 = (p, m2 + 1) := by
        rw [show m + 1 = sum ((leftL l).take p) + (m2 + 1) by omega, pick_drop p _ _ _ (by omega)]
        have hd : (leftL l).drop p = cN (lset l p) :: (leftL l).drop (p + 1) := by
          have hjl : p < (leftL l).length := by omega
          have hg := leftL_get l p h1
          rw [if_neg h2, List.getD_eq_getElem?_getD, List.getElem?_eq_getElem hjl] at hg
          rw [List.drop_eq_getElem_cons hjl]
          congr 1
        rw [hd, pick_cons, if_pos hc, Nat.zero_add]
      rw [hpk]
    · rw [if_neg hc]
      have hm2 : m2 = cN (lset l p) - 1 := by omega
      have hsp := sm_step hs p h1 h2
      rw [show sum l - 1 = t by omega, ← hm2] at hsp
      show stepF p (nthF t (lset l p) m2) = _
      rw [hsp]
      unfold nxt
      cases hn : firstNZ ((leftL l).drop (p + 1)) (p + 1) with
      | none =>
        rw [firstNZ_none] at hn
        rw [if_neg (by omega)]
      | some q =>
        have hne : ¬ sum ((leftL l).drop (p + 1)) = 0 := by
          intro h
          rw [(firstNZ_none _ (p + 1)).2 h] at hn
          cases hn
        rw [if_pos (by omega), hun (m + 1)]
        have hpk : pick (leftL l) (m + 1) 0 = (q, 0) := by
          rw [show m + 1 = sum ((leftL l).take (p + 1)) + 0 by omega, pick_drop (p + 1) _ _ _ (by omega), Nat.zero_add]
          exact pick_zero _ _ _ hn
        rw [hpk]

/-- The first schedules are told in order. -/
theorem run_nth (l : List Nat) (hs : Sm l) (t : Nat) (ht : sum l = t) (N : Nat) : ∀ m, m + N ≤ cN l → m < cN l → runF N (nthF t l m) = (List.range N).map fun i => nthF t l (m + i) := by
  induction N with
  | zero => intro m _ _; rfl
  | succ N ih =>
    intro m hN hm
    unfold runF
    rw [next_nth t l m hs ht hm, List.range_succ_eq_map, List.map_cons, Nat.add_zero, List.map_map]
    congr 1
    by_cases h : m + 1 < cN l
    · rw [if_pos h]
      show runF N (nthF t l (m + 1)) = _
      rw [ih (m + 1) (by omega) h]
      apply List.map_congr_left
      intro i _
      show nthF t l (m + 1 + i) = nthF t l (m + (i + 1))
      congr 1; omega
    · rw [if_neg h]
      obtain rfl : N = 0 := by omega
      rfl
end Go.Proofs.Ytplfhjahdepphaa.Ex
