/- Contracts of Before, of the word and of the document's answer. -/
import Derived.Test.YtplfhjahdepphaaWordRefA
namespace Go.Proofs.Ytplfhjahdepphaa.Word
open Go.ChangeShapes Go.WideShapes Go.ChangeAt Go.RowKit
set_option linter.unusedVariables false

/-- Whether one time is ahead of another one. -/
def bfB (a b : Int) : Bool := decide (rdK a = 1) && (decide (rdK b = 3) || decide (rdK b = 1) && decide (a < b))

theorem bool_ret {a b : Bool} (h : a = b) : Ending.returned (.bool a) = .returned (.bool b) := by rw [h]

theorem rread_any (t : Int) (h0 : 0 ≤ t) (hu : t < 18446744073709551616) (w : World) : Calls Try.prog 35 #[.int .u64 t] w fun e w' => e = .returned (.agg #[.int .i64 (rdK t), .int .u64 (rdN t)]) ∧ Below w.heap.size w w' := by
  unfold rdK rdN
  by_cases h1 : t ≤ 1099511627776
  · rw [if_pos h1, if_pos h1]
    go_enter Try.func35, Try.ntmps35
    go_wp2
    exact bodyPost_ret (v := .agg #[.int .i64 1, .int .u64 t]) (by simp [results, Try.results35, go_sem]) rfl ⟨rfl, (Below.refl _ _).alloc (Nat.le_refl _) _⟩
  · rw [if_neg h1, if_neg h1]
    by_cases h2 : t = 2305843009213693952
    · subst h2
      go_enter Try.func35, Try.ntmps35
      go_wp2
      exact bodyPost_ret (v := .agg #[.int .i64 3, .int .u64 0]) (by simp [results, Try.results35, go_sem]) rfl ⟨rfl, (Below.refl _ _).alloc (Nat.le_refl _) _⟩
    · rw [if_neg h2]
      have e2 : (t == 2305843009213693952) = false := beq_eq_false_iff_ne.2 h2
      by_cases h3 : 4611686018427387904 < t ∧ t ≤ 4611686018427453439
      · rw [if_pos h3, if_pos h3]
        obtain ⟨h3, h4⟩ := h3
        go_enter Try.func35, Try.ntmps35
        go_wp2
        exact bodyPost_ret (v := .agg #[.int .i64 2, .int .u64 (t - 4611686018427387904)]) (by simp [results, Try.results35, go_sem]) rfl ⟨rfl, (Below.refl _ _).alloc (Nat.le_refl _) _⟩
      · rw [if_neg h3, if_neg h3]
        by_cases h4 : 4611686018427387904 < t
        · have h5 : 4611686018427453439 < t := by omega
          clear h3
          go_enter Try.func35, Try.ntmps35
          go_wp2
          exact bodyPost_ret (v := .agg #[.int .i64 0, .int .u64 0]) (by simp [results, Try.results35, go_sem]) rfl ⟨rfl, (Below.refl _ _).alloc (Nat.le_refl _) _⟩
        · clear h3
          go_enter Try.func35, Try.ntmps35
          go_wp2
          exact bodyPost_ret (v := .agg #[.int .i64 0, .int .u64 0]) (by simp [results, Try.results35, go_sem]) rfl ⟨rfl, (Below.refl _ _).alloc (Nat.le_refl _) _⟩


theorem before_any (a b : Int) (a0 : 0 ≤ a) (a1 : a < 18446744073709551616) (b0 : 0 ≤ b) (b1 : b < 18446744073709551616) (w : World) :
    Calls Try.prog 29 #[.int .u64 a, .int .u64 b] w fun e w' => e = .returned (.bool (bfB a b)) ∧ Below w.heap.size w w' := by
  have hb : Below w.heap.size w w := Below.refl _ _
  unfold bfB
  generalize hka : rdK a = ka
  generalize hkb : rdK b = kb
  go_enter Try.func29, Try.ntmps29
  go_wp2_with (first | (go_at_call 18; refine (read_any _ (by omega) (by omega) _).mono ?_; rintro e w1 ⟨rfl, hq⟩; replace hb : Below w.heap.size w w1 := (by first | exact hb.trans (hq.mono hb.size) | exact (hb.alloc hb.size _).trans (hq.mono (by have hz := hb.size; simp; omega))); clear hq))
  all_goals
    go_ret
    refine ⟨bool_ret ?_, (hb.alloc hb.size _).alloc (by have := hb.size; simp; omega) _⟩
    simp [*]

theorem rbefore_any (a b : Int) (a0 : 0 ≤ a) (a1 : a < 18446744073709551616) (b0 : 0 ≤ b) (b1 : b < 18446744073709551616) (w : World) :
    Calls Try.prog 36 #[.int .u64 a, .int .u64 b] w fun e w' => e = .returned (.bool (bfB a b)) ∧ Below w.heap.size w w' := by
  have hb : Below w.heap.size w w := Below.refl _ _
  unfold bfB
  generalize hka : rdK a = ka
  generalize hkb : rdK b = kb
  go_enter Try.func36, Try.ntmps36
  go_wp2_with (first | (go_at_call 35; refine (rread_any _ (by omega) (by omega) _).mono ?_; rintro e w1 ⟨rfl, hq⟩; replace hb : Below w.heap.size w w1 := (by first | exact hb.trans (hq.mono hb.size) | exact (hb.alloc hb.size _).trans (hq.mono (by have hz := hb.size; simp; omega))); clear hq))
  all_goals
    go_ret
    refine ⟨bool_ret ?_, (hb.alloc hb.size _).alloc (by have := hb.size; simp; omega) _⟩
    simp [*]

end Go.Proofs.Ytplfhjahdepphaa.Word
