/- How many schedules begin with each number, together: in plain lists. -/
import Derived.Test.YtplfhjahdepphaaExJ
namespace Go.Proofs.Ytplfhjahdepphaa.Ex
open Go.ChangeShapes Go.WideShapes Go.ChangeAt Go.RowKit
set_option linter.unusedVariables false
set_option linter.unusedSimpArgs false
set_option maxRecDepth 100000

/-- At most five lengths, each at most five, twelve numbers together. -/
def D5 (l : List Nat) : Prop := l.length ≤ 5 ∧ (∀ x ∈ l, x ≤ 5) ∧ sum l ≤ 12
def goT (p : List Nat → Bool) : Nat → List Nat → Bool
  | 0, acc => decide (12 < sum acc) || p acc
  | n + 1, acc => decide (12 < sum acc) || (p acc && (goT p n (acc ++ [0]) && (goT p n (acc ++ [1]) && (goT p n (acc ++ [2]) && (goT p n (acc ++ [3]) && (goT p n (acc ++ [4]) && goT p n (acc ++ [5])))))))
theorem sum_append (a b : List Nat) : sum (a ++ b) = sum a + sum b := by
  induction a with
  | nil => simp [sum]
  | cons x a ih => show sum (x :: (a ++ b)) = _; rw [sum_cons, sum_cons, ih]; omega
theorem goT_spec (p : List Nat → Bool) : ∀ n acc, goT p n acc = true → ∀ l : List Nat, l.length ≤ n → (∀ x ∈ l, x ≤ 5) → sum (acc ++ l) ≤ 12 → p (acc ++ l) = true := by
  intro n
  induction n with
  | zero =>
    intro acc h l hl _ hs
    obtain rfl : l = [] := List.eq_nil_of_length_eq_zero (by omega)
    rw [List.append_nil] at hs ⊢
    unfold goT at h
    simp only [Bool.or_eq_true, decide_eq_true_eq] at h
    rcases h with h | h
    · omega
    · exact h
  | succ n ih =>
    intro acc h l hl hx hs
    unfold goT at h
    simp only [Bool.or_eq_true, Bool.and_eq_true, decide_eq_true_eq] at h
    rcases h with h | ⟨h0, h1, h2, h3, h4, h5, h6⟩
    · rw [sum_append] at hs; omega
    cases l with
    | nil => simpa using h0
    | cons x l =>
      have hx0 := hx x (List.mem_cons_self ..)
      have hr := fun z hz => hx z (List.mem_cons_of_mem x hz)
      have hll : l.length ≤ n := by simpa using hl
      have e : acc ++ x :: l = (acc ++ [x]) ++ l := by simp
      rw [e] at hs ⊢
      match x, hx0 with
      | 0, _ => exact ih _ h1 l hll hr hs
      | 1, _ => exact ih _ h2 l hll hr hs
      | 2, _ => exact ih _ h3 l hll hr hs
      | 3, _ => exact ih _ h4 l hll hr hs
      | 4, _ => exact ih _ h5 l hll hr hs
      | 5, _ => exact ih _ h6 l hll hr hs
theorem d5_all (p : List Nat → Bool) (h : goT p 5 [] = true) (l : List Nat) (hs : D5 l) : p l = true := by
  simpa using goT_spec p 5 [] h l hs.1 hs.2.1 (by simpa using hs.2.2)

theorem d5_ok : goT (fun l => match cntF l 1 0 with | none => false | some n => decide (n ≤ 10000000) && ((sum l == 0 && n == 1) || (!(sum l == 0) && sum (leftL l) == n))) 5 [] = true := by decide +kernel
theorem d5_cnt {l : List Nat} (h : D5 l) : cntF l 1 0 = some (cN l) ∧ cN l ≤ 10000000 ∧ (sum l = 0 → cN l = 1) ∧ (sum l ≠ 0 → sum (leftL l) = cN l) := by
  have := d5_all _ d5_ok l h
  unfold cN
  cases hc : cntF l 1 0 with
  | none => rw [hc] at this; simp at this
  | some n =>
    rw [hc] at this
    simp only [Bool.and_eq_true, Bool.or_eq_true, decide_eq_true_eq, beq_iff_eq, Bool.not_eq_true', beq_eq_false_iff_ne] at this
    refine ⟨rfl, this.1, fun h0 => ?_, fun h0 => ?_⟩
    · rcases this.2 with h | h
      · exact h.2
      · exact absurd h0 h.1
    · rcases this.2 with h | h
      · exact absurd h.1 h0
      · exact h.2
theorem d5_cntI {l : List Nat} (h : D5 l) : cnt l = (cN l : Int) := by unfold cnt; rw [(d5_cnt h).1]; rfl
theorem sum_set_le (l : List Nat) (i y : Nat) (h : y ≤ l.getD i 0) : sum (l.set i y) ≤ sum l := by
  induction l generalizing i with
  | nil => simp
  | cons x l ih =>
    cases i with
    | zero =>
      rw [List.set_cons_zero, sum_cons, sum_cons]
      simp only [List.getD_cons_zero] at h
      omega
    | succ i =>
      rw [List.set_cons_succ, sum_cons, sum_cons]
      have := ih i (by simpa using h)
      omega
theorem d5_lset {l : List Nat} (h : D5 l) (i : Nat) : D5 (lset l i) := by
  refine ⟨by rw [lset_length]; exact h.1, fun x hx => ?_, Nat.le_trans (sum_set_le l i _ (by omega)) h.2.2⟩
  unfold lset at hx
  rcases List.mem_or_eq_of_mem_set hx with hx | rfl
  · exact h.2.1 x hx
  · by_cases hi : i < l.length
    · have : l.getD i 0 ≤ 5 := by
        rw [List.getD_eq_getElem?_getD, List.getElem?_eq_getElem hi]
        exact h.2.1 _ (List.getElem_mem _)
      omega
    · rw [List.getD_eq_getElem?_getD, List.getElem?_eq_none (by omega)]; simp

theorem inner_pos (r : Nat) : ∀ i n s n' s', 1 ≤ i → i ≤ s + 1 → 1 ≤ n → inner r i n s = some (n', s') → 1 ≤ n' ∧ s' = s + r := by
  induction r with
  | zero => intro i n s n' s' _ _ hn h; simp only [inner, Option.some.injEq, Prod.mk.injEq] at h; omega
  | succ r ih =>
    intro i n s n' s' hi his hn h
    unfold inner at h
    by_cases hb : 10000000 < n * (s + 1) / i
    · rw [if_pos hb] at h; cases h
    · rw [if_neg hb] at h
      have h1 : 1 ≤ n * (s + 1) / i := by
        rw [Nat.le_div_iff_mul_le (by omega), Nat.one_mul]
        exact Nat.le_trans his (Nat.le_mul_of_pos_left _ hn)
      obtain ⟨a, b⟩ := ih (i + 1) _ (s + 1) n' s' (by omega) (by omega) h1 h
      exact ⟨a, by omega⟩
theorem cntF_pos (l : List Nat) : ∀ n s m, 1 ≤ n → cntF l n s = some m → 1 ≤ m := by
  induction l with
  | nil => intro n s m hn h; simp only [cntF, Option.some.injEq] at h; omega
  | cons k l ih =>
    intro n s m hn h
    rw [cntF_cons] at h
    cases hi : inner k 1 n s with
    | none => rw [hi] at h; cases h
    | some p =>
      obtain ⟨n', s'⟩ := p
      rw [hi] at h
      exact ih n' s' m (inner_pos k 1 n s n' s' (by omega) (by omega) hn hi).1 h
theorem cnt_pos (l : List Nat) : 0 < cnt l ∨ cnt l = -1 := by
  unfold cnt
  cases h : cntF l 1 0 with
  | none => exact .inr rfl
  | some m => left; have := cntF_pos l 1 0 m (by omega) h; show (0 : Int) < (m : Int); omega
theorem cntF_zero (l : List Nat) : ∀ n s, cntF (l ++ [0]) n s = cntF l n s := by
  induction l with
  | nil => intro n s; rfl
  | cons k l ih =>
    intro n s
    show cntF (k :: (l ++ [0])) n s = _
    rw [cntF_cons, cntF_cons]
    cases inner k 1 n s with
    | none => rfl
    | some p => exact ih _ _
theorem cnt_zero (l : List Nat) : cnt (l ++ [0]) = cnt l := by unfold cnt; rw [cntF_zero]
end Go.Proofs.Ytplfhjahdepphaa.Ex
