/- The n-th schedule, in plain lists; no program in sight. -/
import Derived.Test.YtplfhjahdepphaaExC
namespace Go.Proofs.Ytplfhjahdepphaa.Ex
open Go.ChangeShapes Go.WideShapes Go.ChangeAt Go.RowKit
set_option linter.unusedVariables false
set_option linter.unusedSimpArgs false
set_option maxRecDepth 100000

/-- Which of some rows of places a number falls into, and where in it. -/
def pick : List Nat → Nat → Nat → Nat × Nat
  | [], n, i => (i, n)
  | k :: ks, n, i => if n < k then (i, n) else pick ks (n - k) (i + 1)
/-- The n-th schedule of so many numbers. -/
def nthF : Nat → List Nat → Nat → List Nat
  | 0, _, _ => []
  | t + 1, l, n => (pick (leftL l) n 0).1 :: nthF t (lset l (pick (leftL l) n 0).1) (pick (leftL l) n 0).2

theorem sum_cons (x : Nat) (l : List Nat) : sum (x :: l) = x + sum l := by
  have key : ∀ (l : List Nat) (a : Nat), l.foldl (· + ·) a = a + l.foldl (· + ·) 0 := by
    intro l
    induction l with
    | nil => intro a; simp
    | cons y l ih => intro a; rw [List.foldl_cons, ih, List.foldl_cons, ih (0 + y)]; omega
  unfold sum
  rw [List.foldl_cons, key]; omega

theorem pick_spec (ks : List Nat) : ∀ n i, n < sum ks → i ≤ (pick ks n i).1 ∧ (pick ks n i).1 < i + ks.length ∧ (pick ks n i).2 < ks.getD ((pick ks n i).1 - i) 0 ∧ n = sum (ks.take ((pick ks n i).1 - i)) + (pick ks n i).2 := by
  induction ks with
  | nil => intro n i h; simp [sum] at h
  | cons k ks ih =>
    intro n i h
    rw [sum_cons] at h
    unfold pick
    by_cases hk : n < k
    · rw [if_pos hk]
      refine ⟨Nat.le_refl _, by simp, ?_, ?_⟩
      · simp only [Nat.sub_self]; exact hk
      · simp only [Nat.sub_self]; simp [sum]
    · rw [if_neg hk]
      obtain ⟨h1, h2, h3, h4⟩ := ih (n - k) (i + 1) (by omega)
      generalize pick ks (n - k) (i + 1) = p at h1 h2 h3 h4 ⊢
      have e : p.1 - i = (p.1 - (i + 1)) + 1 := by omega
      refine ⟨by omega, by simp; omega, ?_, ?_⟩
      · rw [e, List.getD_cons_succ]; exact h3
      · rw [e, List.take_succ_cons, sum_cons]; omega

theorem sums_ok : goS (fun l => (sum l == 0) || (sum (leftL l) == cN l)) 4 [] = true := by decide +kernel
theorem sm_sum {l : List Nat} (h : Sm l) (h0 : 0 < sum l) : sum (leftL l) = cN l := by
  have := sm_all _ sums_ok l h
  simp only [Bool.or_eq_true, beq_iff_eq] at this
  omega
theorem less_ok : goS (fun l => (List.range l.length).all fun p => (l.getD p 0 == 0) || (sum (lset l p) + 1 == sum l)) 4 [] = true := by decide +kernel
theorem sm_less {l : List Nat} (h : Sm l) (p : Nat) (hp : p < l.length) (h0 : l.getD p 0 ≠ 0) : sum (lset l p) + 1 = sum l := by
  have := sm_all _ less_ok l h
  rw [List.all_eq_true] at this
  have := this p (List.mem_range.2 hp)
  simp only [Bool.or_eq_true, beq_iff_eq] at this
  omega
theorem zero_ok : goS (fun l => !(sum l == 0) || (cN l == 1)) 4 [] = true := by decide +kernel
theorem sm_zero {l : List Nat} (h : Sm l) (h0 : sum l = 0) : cN l = 1 := by
  have := sm_all _ zero_ok l h
  simpa [h0] using this
theorem sm_sum12 {l : List Nat} (h : Sm l) : sum l ≤ 12 := by
  have := sum_le l 3 h.2 l.length
  rw [List.take_of_length_le (Nat.le_refl _)] at this
  have := h.1
  omega

/-- What is picked first. -/
theorem sm_pick {l : List Nat} (h : Sm l) (h0 : 0 < sum l) {n : Nat} (hn : n < cN l) :
    (pick (leftL l) n 0).1 < l.length ∧ l.getD (pick (leftL l) n 0).1 0 ≠ 0 ∧ (pick (leftL l) n 0).2 < cN (lset l (pick (leftL l) n 0).1) ∧
    sum (lset l (pick (leftL l) n 0).1) + 1 = sum l ∧ n = sum ((leftL l).take (pick (leftL l) n 0).1) + (pick (leftL l) n 0).2 := by
  obtain ⟨_, h2, h3, h4⟩ := pick_spec (leftL l) n 0 (by rw [sm_sum h h0]; exact hn)
  rw [leftL_length, Nat.zero_add] at h2
  rw [Nat.sub_zero] at h3 h4
  generalize pick (leftL l) n 0 = p at h2 h3 h4 ⊢
  rw [leftL_get l p.1 h2] at h3
  by_cases hz : l.getD p.1 0 = 0
  · rw [if_pos hz] at h3; omega
  · rw [if_neg hz] at h3
    exact ⟨h2, hz, h3, sm_less h p.1 h2 hz, h4⟩

theorem nthF_length (t : Nat) : ∀ l n, (nthF t l n).length = t := by
  induction t with
  | zero => intro l n; rfl
  | succ t ih => intro l n; unfold nthF; rw [List.length_cons, ih]
theorem nthF_lt (t : Nat) : ∀ l n, Sm l → sum l = t → n < cN l → ∀ x ∈ nthF t l n, x < l.length := by
  induction t with
  | zero => intro l n _ _ _ x hx; simp [nthF] at hx
  | succ t ih =>
    intro l n hs ht hn x hx
    obtain ⟨h1, h2, h3, h4, h5⟩ := sm_pick hs (by omega) hn
    unfold nthF at hx
    rcases List.mem_cons.1 hx with rfl | hx
    · exact h1
    · have := ih _ _ (sm_lset hs _) (by omega) h3 x hx
      rwa [lset_length] at this
end Go.Proofs.Ytplfhjahdepphaa.Ex
