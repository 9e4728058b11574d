/- The order of the schedules, in plain lists. -/
import Derived.Test.YtplfhjahdepphaaExJ
namespace Go.Proofs.Ytplfhjahdepphaa.Ex
open Go.ChangeShapes Go.WideShapes Go.ChangeAt Go.RowKit
set_option linter.unusedVariables false
set_option linter.unusedSimpArgs false
set_option maxRecDepth 100000

theorem ends_ok : goS (fun l => (List.range (sum l)).all fun i =>
    ((i == 0) || (decide ((nthF (sum l) l 0).getD (i - 1) 0 ≤ (nthF (sum l) l 0).getD i 0) && decide ((nthF (sum l) l (cN l - 1)).getD i 0 ≤ (nthF (sum l) l (cN l - 1)).getD (i - 1) 0))) &&
    ((nthF (sum l) l 0).getD i 0 == (nthF (sum l) l (cN l - 1)).getD (sum l - 1 - i) 0)) 4 [] = true := by decide +kernel
theorem sm_ends {l : List Nat} (h : Sm l) (i : Nat) (hi : i < sum l) :
    (i = 0 ∨ ((nthF (sum l) l 0).getD (i - 1) 0 ≤ (nthF (sum l) l 0).getD i 0 ∧ (nthF (sum l) l (cN l - 1)).getD i 0 ≤ (nthF (sum l) l (cN l - 1)).getD (i - 1) 0)) ∧
    (nthF (sum l) l 0).getD i 0 = (nthF (sum l) l (cN l - 1)).getD (sum l - 1 - i) 0 := by
  have := sm_all _ ends_ok l h
  rw [List.all_eq_true] at this
  have := this i (List.mem_range.2 hi)
  simp only [Bool.or_eq_true, Bool.and_eq_true, beq_iff_eq, decide_eq_true_eq] at this
  exact this

/-- Is one list less than another one at the first place where they are unlike? -/
def lexB : List Nat → List Nat → Bool
  | x :: X, y :: Y => if x = y then lexB X Y else decide (x < y)
  | _, _ => false
theorem lexB_at (X Y : List Nat) : ∀ i, i < X.length → i < Y.length → (∀ j, j < i → X.getD j 0 = Y.getD j 0) → X.getD i 0 ≠ Y.getD i 0 → lexB X Y = decide (X.getD i 0 < Y.getD i 0) := by
  induction X generalizing Y with
  | nil => intro i h; simp at h
  | cons x X ih =>
    intro i h1 h2 hj hne
    cases Y with
    | nil => simp at h2
    | cons y Y =>
      unfold lexB
      cases i with
      | zero =>
        simp only [List.getD_cons_zero] at hne ⊢
        rw [if_neg hne]
      | succ i =>
        have h0 := hj 0 (by omega)
        simp only [List.getD_cons_zero] at h0
        rw [if_pos h0]
        simp only [List.getD_cons_succ] at hne ⊢
        exact ih Y i (by simpa using h1) (by simpa using h2) (fun j hj' => by
          have := hj (j + 1) (by omega)
          simpa using this) hne
theorem lexB_eq (X : List Nat) : lexB X X = false := by
  induction X with
  | nil => rfl
  | cons x X ih => unfold lexB; rw [if_pos rfl]; exact ih
theorem sum_take_le (l : List Nat) : ∀ p q, p ≤ q → sum (l.take p) ≤ sum (l.take q) := by
  induction l with
  | nil => intro p q _; simp
  | cons x l ih =>
    intro p q h
    cases p with
    | zero => simp [sum]
    | succ p =>
      cases q with
      | zero => omega
      | succ q =>
        rw [List.take_succ_cons, List.take_succ_cons, sum_cons, sum_cons]
        have := ih p q (by omega)
        omega
theorem nth_lex (t : Nat) : ∀ l a b, Sm l → sum l = t → a < cN l → b < cN l → lexB (nthF t l a) (nthF t l b) = decide (a < b) := by
  induction t with
  | zero =>
    intro l a b hs ht ha hb
    rw [sm_zero hs ht] at ha hb
    obtain rfl : a = 0 := by omega
    obtain rfl : b = 0 := by omega
    rfl
  | succ t ih =>
    intro l a b hs ht ha hb
    obtain ⟨a1, a2, a3, a4, a5⟩ := sm_pick hs (by omega) ha
    obtain ⟨b1, b2, b3, b4, b5⟩ := sm_pick hs (by omega) hb
    unfold nthF
    generalize pick (leftL l) a 0 = P at *
    generalize pick (leftL l) b 0 = Q at *
    obtain ⟨p, m⟩ := P
    obtain ⟨q, n⟩ := Q
    simp only at a1 a2 a3 a4 a5 b1 b2 b3 b4 b5 ⊢
    unfold lexB
    have key : ∀ p m q, p < l.length → l.getD p 0 ≠ 0 → m < cN (lset l p) → p < q → sum ((leftL l).take p) + m < sum ((leftL l).take q) := by
      intro p m q h1 h2 h3 h4
      have h5 := sum_take (leftL l) p (by rw [leftL_length]; exact h1)
      rw [leftL_get l p h1, if_neg h2] at h5
      have := sum_take_le (leftL l) (p + 1) q h4
      omega
    by_cases hpq : p = q
    · subst hpq
      rw [if_pos rfl, ih _ m n (sm_lset hs p) (by omega) a3 b3, decide_eq_decide]
      omega
    · rw [if_neg hpq, decide_eq_decide]
      rcases Nat.lt_or_ge p q with h | h
      · have := key p m q a1 a2 a3 h
        constructor
        · intro _; omega
        · intro _; exact h
      · have := key q n p b1 b2 b3 (by omega)
        constructor
        · intro _; omega
        · intro _; omega
theorem nth_inj (t : Nat) (l : List Nat) (a b : Nat) (hs : Sm l) (ht : sum l = t) (ha : a < cN l) (hb : b < cN l) : decide (nthF t l a = nthF t l b) = decide (a = b) := by
  rw [decide_eq_decide]
  constructor
  · intro h
    have h1 := (nthF_valid t l a hs ht ha).2
    have h2 := (nthF_valid t l b hs ht hb).2
    rw [← h1, ← h2, h]
  · rintro rfl; rfl
end Go.Proofs.Ytplfhjahdepphaa.Ex
