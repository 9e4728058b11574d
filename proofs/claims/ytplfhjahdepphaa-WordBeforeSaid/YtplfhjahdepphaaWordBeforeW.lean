/- WordBefore: the walk: whatever numbers come in, the law answers true and writes nothing that was there. -/
import Derived.Test.YtplfhjahdepphaaWordBeforeA
namespace Go.Proofs.Ytplfhjahdepphaa.Word
open Go.ChangeShapes Go.WideShapes Go.ChangeAt Go.RowKit
set_option linter.unusedVariables false

theorem rdK_time {t : Int} (h : t ≤ 1099511627776) : rdK t = 1 := by unfold rdK; rw [if_pos h]
theorem rdK_txn {t : Int} (h : 4611686018427387904 < t) (h' : t ≤ 4611686018427453439) : rdK t = 2 := by
  unfold rdK; rw [if_neg (by omega), if_neg (by omega), if_pos ⟨h, h'⟩]
theorem rdK_ever : rdK 2305843009213693952 = 3 := rfl

theorem bf_times {a b : Int} (ha : a ≤ 1099511627776) (hb : b ≤ 1099511627776) : bfB a b = decide (a < b) := by
  unfold bfB; rw [rdK_time ha, rdK_time hb]; simp
theorem bf_ever {a : Int} (ha : a ≤ 1099511627776) : bfB a 2305843009213693952 = true := by
  unfold bfB; rw [rdK_time ha, rdK_ever]; rfl
theorem bf_no {a b : Int} (ha : rdK a ≠ 1) : bfB a b = false := by
  unfold bfB; simp [ha]
theorem bf_txn {a b : Int} (hb : rdK b = 2) : bfB a b = false := by
  unfold bfB; rw [hb]; simp

theorem before_law (a b i : Int) (_ : (Lit.int .u64 a).wf = true) (_ : (Lit.int .u64 b).wf = true) (_ : (Lit.int .i64 i).wf = true) (w : World) :
    Calls Try.prog 8 #[.int .u64 a, .int .u64 b, .int .i64 i] w fun e w' => e = .returned (.bool true) ∧ Below w.heap.size w w' := by
  have hb : Below w.heap.size w w := Below.refl _ _
  obtain ⟨a', ha⟩ : ∃ a', bits .and .u64 a 1099511627775 = a' := ⟨_, rfl⟩
  obtain ⟨b', hb'⟩ : ∃ a', bits .and .u64 b 1099511627775 = a' := ⟨_, rfl⟩
  obtain ⟨i', hi⟩ : ∃ i', bits .and .i64 i 4095 = i' := ⟨_, rfl⟩
  have a0 : 0 ≤ a' := by rw [← ha, Bt.u64_and40]; omega
  have a1 : a' < 1099511627776 := by rw [← ha, Bt.u64_and40]; omega
  have b0 : 0 ≤ b' := by rw [← hb', Bt.u64_and40]; omega
  have b1 : b' < 1099511627776 := by rw [← hb', Bt.u64_and40]; omega
  have i0 : 0 ≤ i' := by rw [← hi, Bt.i64_and4095]; omega
  have i1 : i' < 4096 := by rw [← hi, Bt.i64_and4095]; omega
  have e1 := bf_times (a := a') (b := b') (by omega) (by omega)
  have e2 := bf_ever (a := a') (by omega)
  have e3 := bf_no (a := 2305843009213693952) (b := a') (by rw [rdK_ever]; omega)
  have e4 := bf_no (a := 2305843009213693952) (b := 2305843009213693952) (by rw [rdK_ever]; omega)
  have e5 := bf_no (a := 4611686018427387904 + (i' + 1)) (b := 2305843009213693952) (by rw [rdK_txn (by omega) (by omega)]; omega)
  have e6 := bf_txn (a := a') (b := 4611686018427387904 + (i' + 1)) (rdK_txn (by omega) (by omega))
  have e7 := bf_no (a := 4611686018427387904 + (i' + 1)) (b := a') (by rw [rdK_txn (by omega) (by omega)]; omega)
  have e8 : bfB a' a' = false := by rw [bf_times (by omega) (by omega)]; simp
  go_enter Try.func8, Try.ntmps8
  go_wp2_with (first | (go_at_call 28; first | (refine (time_yes _ (by omega) (by omega) _).mono ?_; rintro e w' ⟨rfl, rfl⟩) | (refine (time_no _ (by omega) _).mono ?_; rintro e w' ⟨rfl, rfl⟩)) | (go_at_call 20; first | (refine (txn_yes _ (by omega) (by omega) _).mono ?_; rintro e w' ⟨rfl, rfl⟩) | (refine (txn_no _ (by omega) _).mono ?_; rintro e w' ⟨rfl, rfl⟩)) | (go_at_call 29; refine (before_any _ _ (by omega) (by omega) (by omega) (by omega) _).mono ?_; rintro e w1 ⟨rfl, hq⟩; replace hb : Below w.heap.size w w1 := (by first | exact hb.trans (hq.mono hb.size) | exact (hb.alloc hb.size _).trans (hq.mono (by have hz := hb.size; simp; omega))); clear hq) | (go_at_call 19; refine (forever_any _).mono ?_; rintro e w' ⟨rfl, rfl⟩) | (go_at_call 21; refine (awake_any _).mono ?_; rintro e w1 ⟨rfl, hq⟩; replace hb : Below w.heap.size w w1 := (by first | exact hb.trans (hq.mono hb.size) | exact (hb.alloc hb.size _).trans (hq.mono (by have hz := hb.size; simp; omega))); clear hq))
  go_ret
  exact ⟨rfl, hb⟩
end Go.Proofs.Ytplfhjahdepphaa.Word
