/- Contracts for WordStamps: times, transactions and stamps, of the program and of the document's answer. -/
import Derived.Test.YtplfhjahdepphaaWordBeforeW
namespace Go.Proofs.Ytplfhjahdepphaa.Word
open Go.ChangeShapes Go.WideShapes Go.ChangeAt Go.RowKit
set_option linter.unusedVariables false

def tmV (t : Int) : Int := if t ≤ 1099511627776 then t else 0
def tmB (t : Int) : Bool := decide (t ≤ 1099511627776)
def txV (t : Int) : Int := if 1 ≤ t ∧ t ≤ 65535 then 4611686018427387904 + t else 0
def txB (t : Int) : Bool := decide (1 ≤ t ∧ t ≤ 65535)
def ofV (k n : Int) : Int := if k = 1 then tmV n else if k = 2 then txV n else if k = 3 ∧ n = 0 then 2305843009213693952 else 0
def ofB (k n : Int) : Bool := if k = 1 then tmB n else if k = 2 then txB n else decide (k = 3 ∧ n = 0)

theorem time_any (t : Int) (h0 : 0 ≤ t) (w : World) : Calls Try.prog 28 #[.int .u64 t] w fun e w' => e = .returned (.tuple #[.int .u64 (tmV t), .bool (tmB t)]) ∧ w = w' := by
  unfold tmV tmB
  by_cases h : t ≤ 1099511627776
  · rw [if_pos h, decide_eq_true h]; exact time_yes t h0 h w
  · rw [if_neg h, decide_eq_false h]; exact time_no t (by omega) w
theorem txn_any (t : Int) (w : World) : Calls Try.prog 20 #[.int .i64 t] w fun e w' => e = .returned (.tuple #[.int .u64 (txV t), .bool (txB t)]) ∧ w = w' := by
  unfold txV txB
  by_cases h : 1 ≤ t ∧ t ≤ 65535
  · rw [if_pos h, decide_eq_true h]; exact txn_yes t h.1 h.2 w
  · rw [if_neg h, decide_eq_false h]; exact txn_no t (by omega) w
theorem rtime_any (t : Int) (h0 : 0 ≤ t) (w : World) : Calls Try.prog 30 #[.int .u64 t] w fun e w' => e = .returned (.tuple #[.int .u64 (tmV t), .bool (tmB t)]) ∧ w = w' := by
  unfold tmV tmB
  by_cases h : t ≤ 1099511627776
  · rw [if_pos h, decide_eq_true h]
    go_enter Try.func30, Try.ntmps30
    go_wp2
    go_ret2
    exact ⟨rfl, rfl⟩
  · rw [if_neg h, decide_eq_false h]
    have h' : 1099511627776 < t := by omega
    clear h
    go_enter Try.func30, Try.ntmps30
    go_wp2
    go_ret2
    exact ⟨rfl, rfl⟩
theorem rtxn_any (t : Int) (w : World) : Calls Try.prog 31 #[.int .i64 t] w fun e w' => e = .returned (.tuple #[.int .u64 (txV t), .bool (txB t)]) ∧ w = w' := by
  unfold txV txB
  by_cases h : 1 ≤ t ∧ t ≤ 65535
  · rw [if_pos h, decide_eq_true h]
    obtain ⟨h1, h2⟩ := h
    go_enter Try.func31, Try.ntmps31
    go_wp2
    go_ret2
    exact ⟨rfl, rfl⟩
  · rw [if_neg h, decide_eq_false h]
    by_cases h1 : t < 1
    · clear h
      go_enter Try.func31, Try.ntmps31
      go_wp2
      go_ret2
      exact ⟨rfl, rfl⟩
    · have h2 : 65535 < t := by omega
      clear h
      go_enter Try.func31, Try.ntmps31
      go_wp2
      go_ret2
      exact ⟨rfl, rfl⟩
theorem rforever_any (w : World) : Calls Try.prog 34 #[] w fun e w' => e = .returned (.int .u64 2305843009213693952) ∧ w = w' := by
  go_enter Try.func34, Try.ntmps34
  go_wp2
  go_ret
  exact ⟨rfl, rfl⟩

theorem of_any (k n : Int) (k0 : -9223372036854775808 ≤ k) (k1 : k < 9223372036854775808) (n0 : 0 ≤ n) (n1 : n < 18446744073709551616) (w : World) :
    Calls Try.prog 32 #[.agg #[.int .i64 k, .int .u64 n]] w fun e w' => e = .returned (.tuple #[.int .u64 (ofV k n), .bool (ofB k n)]) ∧ Below w.heap.size w w' := by
  have hb : Below w.heap.size w w := Below.refl _ _
  unfold ofV ofB
  by_cases c1 : k = 1
  · subst c1
    rw [if_pos rfl, if_pos rfl]
    go_enter Try.func32, Try.ntmps32
    go_wp2_with (go_at_call 28; refine (time_any _ (by omega) _).mono ?_; rintro e w' ⟨rfl, rfl⟩)
    go_ret2
    exact ⟨rfl, hb.alloc (Nat.le_refl _) _⟩
  · rw [if_neg c1, if_neg c1]
    have d1 : (k == 1) = false := beq_eq_false_iff_ne.2 c1
    by_cases c2 : k = 2
    · subst c2
      rw [if_pos rfl, if_pos rfl]
      clear c1
      by_cases c : n ≤ 65535
      · go_enter Try.func32, Try.ntmps32
        go_wp2_with (go_at_call 20; refine (txn_any _ _).mono ?_; rintro e w' ⟨rfl, rfl⟩)
        go_ret2
        exact ⟨rfl, hb.alloc (Nat.le_refl _) _⟩
      · unfold txV txB
        rw [if_neg (by omega), decide_eq_false (by omega)]
        have c' : 65535 < n := by omega
        clear c
        go_enter Try.func32, Try.ntmps32
        go_wp2
        go_ret2
        exact ⟨rfl, hb.alloc (Nat.le_refl _) _⟩
    · rw [if_neg c2, if_neg c2]
      have d2 : (k == 2) = false := beq_eq_false_iff_ne.2 c2
      clear c1 c2
      by_cases c3 : k = 3 ∧ n = 0
      · rw [if_pos c3, decide_eq_true c3]
        obtain ⟨rfl, rfl⟩ := c3
        go_enter Try.func32, Try.ntmps32
        go_wp2
        go_ret2
        exact ⟨rfl, hb.alloc (Nat.le_refl _) _⟩
      · rw [if_neg c3, decide_eq_false c3]
        by_cases c4 : k = 3
        · subst c4
          have d3 : (n == 0) = false := beq_eq_false_iff_ne.2 (by omega)
          clear c3
          go_enter Try.func32, Try.ntmps32
          go_wp2
          go_ret2
          exact ⟨rfl, hb.alloc (Nat.le_refl _) _⟩
        · have d3 : (k == 3) = false := beq_eq_false_iff_ne.2 (by omega)
          clear c3 c4
          go_enter Try.func32, Try.ntmps32
          go_wp2
          go_ret2
          exact ⟨rfl, hb.alloc (Nat.le_refl _) _⟩

theorem rof_any (k n : Int) (k0 : -9223372036854775808 ≤ k) (k1 : k < 9223372036854775808) (n0 : 0 ≤ n) (n1 : n < 18446744073709551616) (w : World) :
    Calls Try.prog 33 #[.agg #[.int .i64 k, .int .u64 n]] w fun e w' => e = .returned (.tuple #[.int .u64 (ofV k n), .bool (ofB k n)]) ∧ Below w.heap.size w w' := by
  have hb : Below w.heap.size w w := Below.refl _ _
  unfold ofV ofB
  by_cases c1 : k = 1
  · subst c1
    rw [if_pos rfl, if_pos rfl]
    go_enter Try.func33, Try.ntmps33
    go_wp2_with (go_at_call 30; refine (rtime_any _ (by omega) _).mono ?_; rintro e w' ⟨rfl, rfl⟩)
    go_ret2
    exact ⟨rfl, hb.alloc (Nat.le_refl _) _⟩
  · rw [if_neg c1, if_neg c1]
    have d1 : (k == 1) = false := beq_eq_false_iff_ne.2 c1
    by_cases c2 : k = 2
    · subst c2
      rw [if_pos rfl, if_pos rfl]
      clear c1
      unfold txV txB
      by_cases c : n ≤ 65535
      · by_cases c' : 1 ≤ n
        · rw [if_pos ⟨c', c⟩, decide_eq_true ⟨c', c⟩]
          go_enter Try.func33, Try.ntmps33
          go_wp2
          go_ret2
          exact ⟨rfl, hb.alloc (Nat.le_refl _) _⟩
        · rw [if_neg (by omega), decide_eq_false (by omega)]
          obtain rfl : n = 0 := by omega
          clear c c'
          go_enter Try.func33, Try.ntmps33
          go_wp2
          go_ret2
          exact ⟨rfl, hb.alloc (Nat.le_refl _) _⟩
      · rw [if_neg (by omega), decide_eq_false (by omega)]
        have c' : 65535 < n := by omega
        have c'' : 1 ≤ n := by omega
        clear c
        go_enter Try.func33, Try.ntmps33
        go_wp2
        go_ret2
        exact ⟨rfl, hb.alloc (Nat.le_refl _) _⟩
    · rw [if_neg c2, if_neg c2]
      have d2 : (k == 2) = false := beq_eq_false_iff_ne.2 c2
      clear c1 c2
      by_cases c3 : k = 3 ∧ n = 0
      · rw [if_pos c3, decide_eq_true c3]
        obtain ⟨rfl, rfl⟩ := c3
        go_enter Try.func33, Try.ntmps33
        go_wp2
        go_ret2
        exact ⟨rfl, hb.alloc (Nat.le_refl _) _⟩
      · rw [if_neg c3, decide_eq_false c3]
        by_cases c4 : k = 3
        · subst c4
          have d3 : (n == 0) = false := beq_eq_false_iff_ne.2 (by omega)
          clear c3
          go_enter Try.func33, Try.ntmps33
          go_wp2
          go_ret2
          exact ⟨rfl, hb.alloc (Nat.le_refl _) _⟩
        · have d3 : (k == 3) = false := beq_eq_false_iff_ne.2 (by omega)
          clear c3 c4
          go_enter Try.func33, Try.ntmps33
          go_wp2
          go_ret2
          exact ⟨rfl, hb.alloc (Nat.le_refl _) _⟩

theorem ofV_bd (k n : Int) (n0 : 0 ≤ n) : 0 ≤ ofV k n ∧ ofV k n < 18446744073709551616 := by
  unfold ofV tmV txV
  split
  · split <;> omega
  · split
    · split <;> omega
    · split <;> omega

/-- A stamp that may be is read again as it was. -/
theorem rd_of (k n : Int) (n0 : 0 ≤ n) (h : ofB k n = true) : rdK (ofV k n) = k ∧ rdN (ofV k n) = n := by
  unfold ofB at h
  by_cases c1 : k = 1
  · subst c1
    rw [if_pos rfl] at h
    unfold tmB at h
    have h' := of_decide_eq_true h
    unfold ofV tmV rdK rdN
    rw [if_pos rfl, if_pos h', if_pos h', if_pos h']
    exact ⟨rfl, rfl⟩
  · rw [if_neg c1] at h
    by_cases c2 : k = 2
    · subst c2
      rw [if_pos rfl] at h
      unfold txB at h
      have h' := of_decide_eq_true h
      have hv : ofV 2 n = 4611686018427387904 + n := by unfold ofV txV; rw [if_neg (by decide), if_pos rfl, if_pos h']
      rw [hv]
      have a1 : rdK (4611686018427387904 + n) = 2 := by unfold rdK; rw [if_neg (by omega), if_neg (by omega), if_pos (by omega)]
      have a2 : rdN (4611686018427387904 + n) = n := by unfold rdN; rw [if_neg (by omega), if_pos (by omega)]; omega
      exact ⟨a1, a2⟩
    · rw [if_neg c2] at h
      obtain ⟨rfl, rfl⟩ := of_decide_eq_true h
      exact ⟨rfl, rfl⟩

/-- A word that is one is told again. -/
theorem of_rd (x : Int) (x0 : 0 ≤ x) : (ofB (rdK x) (rdN x) = true ∧ ofV (rdK x) (rdN x) = x ∧ rdK x ≠ 0) ∨ (ofB (rdK x) (rdN x) = false ∧ rdK x = 0 ∧ rdN x = 0) := by
  unfold rdK rdN
  by_cases c1 : x ≤ 1099511627776
  · left
    rw [if_pos c1, if_pos c1]
    refine ⟨by unfold ofB tmB; rw [if_pos rfl]; exact decide_eq_true c1, by unfold ofV tmV; rw [if_pos rfl, if_pos c1], by omega⟩
  · rw [if_neg c1, if_neg c1]
    by_cases c2 : x = 2305843009213693952
    · subst c2; left; exact ⟨rfl, rfl, by decide⟩
    · rw [if_neg c2]
      by_cases c3 : 4611686018427387904 < x ∧ x ≤ 4611686018427453439
      · left
        rw [if_pos c3, if_pos c3]
        refine ⟨by unfold ofB txB; rw [if_neg (by omega), if_pos rfl]; exact decide_eq_true (by omega), by unfold ofV txV; rw [if_neg (by omega), if_pos rfl, if_pos (by omega)]; omega, by omega⟩
      · right
        rw [if_neg c3, if_neg c3]
        exact ⟨rfl, rfl, rfl⟩

theorem rdK_bd (x : Int) : 0 ≤ rdK x ∧ rdK x ≤ 3 := by
  unfold rdK; split
  · omega
  · split
    · omega
    · split <;> omega
theorem rdN_bd (x : Int) (x0 : 0 ≤ x) (x1 : x < 18446744073709551616) : 0 ≤ rdN x ∧ rdN x < 18446744073709551616 := by
  unfold rdN; split
  · omega
  · split <;> omega
end Go.Proofs.Ytplfhjahdepphaa.Word
