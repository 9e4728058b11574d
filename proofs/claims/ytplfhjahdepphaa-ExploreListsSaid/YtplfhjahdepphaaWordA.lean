/- Contracts of package word's functions. -/
import Derived.Test.YtplfhjahdepphaaProg
import Derived.WalkKit
import Derived.ProofKit
import Derived.OpenShut
import Derived.WalkLawsBesides
import Derived.WalkSpells
import Derived.Outline
import Derived.Test.YtplfhjahdepphaaBits
namespace Go.Proofs.Ytplfhjahdepphaa.Word
open Go.ChangeShapes Go.WideShapes Go.ChangeAt Go.RowKit

theorem forever_any (w : World) : Calls Try.prog 19 #[] w fun e w' => e = .returned (.int .u64 2305843009213693952) ∧ w = w' := by
  go_enter Try.func19, Try.ntmps19
  go_wp2
  go_ret
  exact ⟨rfl, rfl⟩

theorem time_yes (t : Int) (h0 : 0 ≤ t) (h1 : t ≤ 1099511627776) (w : World) : Calls Try.prog 28 #[.int .u64 t] w fun e w' => e = .returned (.tuple #[.int .u64 t, .bool true]) ∧ w = w' := by
  go_enter Try.func28, Try.ntmps28
  go_wp2
  go_ret2
  exact ⟨rfl, rfl⟩

theorem time_no (t : Int) (h1 : 1099511627776 < t) (w : World) : Calls Try.prog 28 #[.int .u64 t] w fun e w' => e = .returned (.tuple #[.int .u64 0, .bool false]) ∧ w = w' := by
  go_enter Try.func28, Try.ntmps28
  go_wp2
  go_ret2
  exact ⟨rfl, rfl⟩

theorem txn_yes (t : Int) (h0 : 1 ≤ t) (h1 : t ≤ 65535) (w : World) : Calls Try.prog 20 #[.int .i64 t] w fun e w' => e = .returned (.tuple #[.int .u64 (4611686018427387904 + t), .bool true]) ∧ w = w' := by
  go_enter Try.func20, Try.ntmps20
  go_wp2
  go_ret2
  exact ⟨rfl, rfl⟩

theorem txn_no (t : Int) (h : t < 1 ∨ 65535 < t) (w : World) : Calls Try.prog 20 #[.int .i64 t] w fun e w' => e = .returned (.tuple #[.int .u64 0, .bool false]) ∧ w = w' := by
  by_cases h1 : t < 1
  · clear h
    go_enter Try.func20, Try.ntmps20
    go_wp2
    go_ret2
    exact ⟨rfl, rfl⟩
  · have h2 : 65535 < t := by omega
    clear h
    go_enter Try.func20, Try.ntmps20
    go_wp2
    go_ret2
    exact ⟨rfl, rfl⟩

/-- What Read says of a word: its kind and its number. -/
def rdK (t : Int) : Int := if t ≤ 1099511627776 then 1 else if t = 2305843009213693952 then 3 else if 4611686018427387904 < t ∧ t ≤ 4611686018427453439 then 2 else 0
def rdN (t : Int) : Int := if t ≤ 1099511627776 then t else if 4611686018427387904 < t ∧ t ≤ 4611686018427453439 then t - 4611686018427387904 else 0

theorem read_any (t : Int) (h0 : 0 ≤ t) (hu : t < 18446744073709551616) (w : World) : Calls Try.prog 18 #[.int .u64 t] w fun e w' => e = .returned (.agg #[.int .i64 (rdK t), .int .u64 (rdN t)]) ∧ Below w.heap.size w w' := by
  unfold rdK rdN
  by_cases h1 : t ≤ 1099511627776
  · rw [if_pos h1, if_pos h1]
    go_enter Try.func18, Try.ntmps18
    go_wp2
    exact bodyPost_ret (v := .agg #[.int .i64 1, .int .u64 t]) (by simp [results, Try.results18, go_sem]) rfl ⟨rfl, (Below.refl _ _).alloc (Nat.le_refl _) _⟩
  · rw [if_neg h1, if_neg h1]
    by_cases h2 : t = 2305843009213693952
    · subst h2
      go_enter Try.func18, Try.ntmps18
      go_wp2
      exact bodyPost_ret (v := .agg #[.int .i64 3, .int .u64 0]) (by simp [results, Try.results18, go_sem]) rfl ⟨rfl, (Below.refl _ _).alloc (Nat.le_refl _) _⟩
    · rw [if_neg h2]
      have e2 : (t == 2305843009213693952) = false := beq_eq_false_iff_ne.2 h2
      by_cases h3 : 4611686018427387904 < t ∧ t ≤ 4611686018427453439
      · rw [if_pos h3, if_pos h3]
        obtain ⟨h3, h4⟩ := h3
        go_enter Try.func18, Try.ntmps18
        go_wp2
        exact bodyPost_ret (v := .agg #[.int .i64 2, .int .u64 (t - 4611686018427387904)]) (by simp [results, Try.results18, go_sem]) rfl ⟨rfl, (Below.refl _ _).alloc (Nat.le_refl _) _⟩
      · rw [if_neg h3, if_neg h3]
        by_cases h4 : 4611686018427387904 < t
        · have h5 : 4611686018427453439 < t := by omega
          clear h3
          go_enter Try.func18, Try.ntmps18
          go_wp2
          exact bodyPost_ret (v := .agg #[.int .i64 0, .int .u64 0]) (by simp [results, Try.results18, go_sem]) rfl ⟨rfl, (Below.refl _ _).alloc (Nat.le_refl _) _⟩
        · clear h3
          go_enter Try.func18, Try.ntmps18
          go_wp2
          exact bodyPost_ret (v := .agg #[.int .i64 0, .int .u64 0]) (by simp [results, Try.results18, go_sem]) rfl ⟨rfl, (Below.refl _ _).alloc (Nat.le_refl _) _⟩

theorem mark_any (t : Int) (h0 : 0 ≤ t) (hu : t < 18446744073709551616) (w : World) : Calls Try.prog 23 #[.int .u64 t] w fun e w' => e = .returned (.int .u64 (Bt.mk t)) ∧ w = w' := by
  rw [← Bt.u64_orBit40 t h0 hu]
  go_enter Try.func23, Try.ntmps23
  go_wp2
  go_ret
  exact ⟨rfl, rfl⟩

theorem clear_any (t : Int) (h0 : 0 ≤ t) (hu : t < 18446744073709551616) (w : World) : Calls Try.prog 25 #[.int .u64 t] w fun e w' => e = .returned (.int .u64 (Bt.cl t)) ∧ w = w' := by
  rw [← Bt.u64_andNotBit40 t h0 hu]
  go_enter Try.func25, Try.ntmps25
  go_wp2
  go_ret
  exact ⟨rfl, rfl⟩

theorem link_yes (s t : Int) (h0 : 0 ≤ s) (h1 : s ≤ 65535) (h2 : 0 ≤ t) (h3 : t ≤ 65535) (w : World) : Calls Try.prog 22 #[.int .i64 s, .int .i64 t] w fun e w' => e = .returned (.tuple #[.int .u64 (t * 131072 + (s + 1)), .bool true]) ∧ w = w' := by
  have e1 := Bt.u64_link t (s + 1) h2 h3 (by omega) (by omega)
  go_enter Try.func22, Try.ntmps22
  go_wp2
  go_ret2
  exact ⟨rfl, rfl⟩

theorem link_no (s t : Int) (h : s < 0 ∨ 65535 < s ∨ t < 0 ∨ 65535 < t) (w : World) : Calls Try.prog 22 #[.int .i64 s, .int .i64 t] w fun e w' => e = .returned (.tuple #[.int .u64 0, .bool false]) ∧ w = w' := by
  have hb : (decide (s < 0) || decide (65535 < s) || decide (t < 0) || decide (65535 < t)) = true := by
    simp only [Bool.or_eq_true, decide_eq_true_eq]; omega
  clear h
  by_cases h1 : s < 0
  · clear hb
    go_enter Try.func22, Try.ntmps22
    go_wp2
    go_ret2
    exact ⟨rfl, rfl⟩
  · by_cases h2 : 65535 < s
    · clear hb
      go_enter Try.func22, Try.ntmps22
      go_wp2
      go_ret2
      exact ⟨rfl, rfl⟩
    · by_cases h3 : t < 0
      · clear hb
        go_enter Try.func22, Try.ntmps22
        go_wp2
        go_ret2
        exact ⟨rfl, rfl⟩
      · have h4 : 65535 < t := by simp only [Bool.or_eq_true, decide_eq_true_eq] at hb; omega
        clear hb
        go_enter Try.func22, Try.ntmps22
        go_wp2
        go_ret2
        exact ⟨rfl, rfl⟩

theorem w64_id (x : Int) (h0 : -9223372036854775808 ≤ x) (h1 : x < 9223372036854775808) : wrap64 x = x := by
  unfold wrap64; omega

theorem ret_iib {a b a' b' : Int} {c c' : Bool} (h1 : a = a') (h2 : b = b') (h3 : c = c') : Ending.returned (.tuple #[.int .i64 a, .int .i64 b, .bool c]) = .returned (.tuple #[.int .i64 a', .int .i64 b', .bool c']) := by
  rw [h1, h2, h3]

theorem unlink_any (t : Int) (h0 : 0 ≤ t) (hu : t < 18446744073709551616) (w : World) : Calls Try.prog 24 #[.int .u64 t] w fun e w' => e = .returned (.tuple #[.int .i64 (t % 131072 - 1), .int .i64 (t / 131072 % 65536), .bool (t / 1099511627776 % 2 == 1)]) ∧ w = w' := by
  go_enter Try.func24, Try.ntmps24
  go_wp2
  go_ret3
  refine ⟨ret_iib ?_ ?_ ?_, rfl⟩
  · rw [Bt.u64_and131071, w64_id (t % 131072) (by omega) (by omega), w64_id _ (by omega) (by omega)]
  · rw [Bt.u64_and65535, w64_id _ (by omega) (by omega)]
  · rw [Bt.u64_andBit40 t h0 hu, Bool.eq_iff_iff]
    simp only [bne_iff_ne, beq_iff_eq]
    omega

end Go.Proofs.Ytplfhjahdepphaa.Word
