/- WordApart: the walk: whatever numbers come in, the law answers true and writes nothing that was there. -/
import Derived.Test.YtplfhjahdepphaaWordRefA
namespace Go.Proofs.Ytplfhjahdepphaa.Word
open Go.ChangeShapes Go.WideShapes Go.ChangeAt Go.RowKit
set_option linter.unusedVariables false

set_option maxHeartbeats 4000000 in
theorem apart_law (a b i k s t : Int) (_ : (Lit.int .u64 a).wf = true) (_ : (Lit.int .u64 b).wf = true) (_ : (Lit.int .i64 i).wf = true) (_ : (Lit.int .i64 k).wf = true) (_ : (Lit.int .i64 s).wf = true) (_ : (Lit.int .i64 t).wf = true) (w : World) :
    Calls Try.prog 7 #[.int .u64 a, .int .u64 b, .int .i64 i, .int .i64 k, .int .i64 s, .int .i64 t] w fun e w' => e = .returned (.bool true) ∧ Below w.heap.size w w' := by
  have hb : Below w.heap.size w w := Below.refl _ _
  obtain ⟨a', ha⟩ : ∃ a', bits .and .u64 a 1099511627775 = a' := ⟨_, rfl⟩
  obtain ⟨b', hb'⟩ : ∃ a', bits .and .u64 b 1099511627775 = a' := ⟨_, rfl⟩
  obtain ⟨i', hi⟩ : ∃ i', bits .and .i64 i 65535 = i' := ⟨_, rfl⟩
  obtain ⟨k', hk⟩ : ∃ i', bits .and .i64 k 65535 = i' := ⟨_, rfl⟩
  obtain ⟨s', hs⟩ : ∃ s', bits .and .i64 s 65535 = s' := ⟨_, rfl⟩
  obtain ⟨t', ht⟩ : ∃ t', bits .and .i64 t 65535 = t' := ⟨_, rfl⟩
  have a0 : 0 ≤ a' := by rw [← ha, Bt.u64_and40]; omega
  have a1 : a' < 1099511627776 := by rw [← ha, Bt.u64_and40]; omega
  have b0 : 0 ≤ b' := by rw [← hb', Bt.u64_and40]; omega
  have b1 : b' < 1099511627776 := by rw [← hb', Bt.u64_and40]; omega
  have i0 : 0 ≤ i' := by rw [← hi, Bt.i64_and65535]; omega
  have i1 : i' < 65536 := by rw [← hi, Bt.i64_and65535]; omega
  have k0 : 0 ≤ k' := by rw [← hk, Bt.i64_and65535]; omega
  have k1 : k' < 65536 := by rw [← hk, Bt.i64_and65535]; omega
  have s0 : 0 ≤ s' := by rw [← hs, Bt.i64_and65535]; omega
  have s1 : s' < 65536 := by rw [← hs, Bt.i64_and65535]; omega
  have t0 : 0 ≤ t' := by rw [← ht, Bt.i64_and65535]; omega
  have t1 : t' < 65536 := by rw [← ht, Bt.i64_and65535]; omega
  have e1 : (4611686018427387904 + (i' % 65535 + 1) == 4611686018427387904 + (k' % 65535 + 1)) = (i' % 65535 + 1 == k' % 65535 + 1) := by rw [Bool.eq_iff_iff]; simp only [beq_iff_eq]; omega
  have e2 : (t' * 131072 + (s' + 1) == s' * 131072 + (t' + 1)) = (s' == t') := by rw [Bool.eq_iff_iff]; simp only [beq_iff_eq]; omega
  have e3 : (a' != 4611686018427387904 + (i' % 65535 + 1)) = true := by rw [bne_iff_ne]; omega
  have e4 : (a' != 2305843009213693952) = true := by rw [bne_iff_ne]; omega
  have e5 : (4611686018427387904 + (i' % 65535 + 1) != 2305843009213693952) = true := by rw [bne_iff_ne]; omega
  have e6 : (t' * 131072 + (s' + 1) != 0) = true := by rw [bne_iff_ne]; omega
  go_enter Try.func7, Try.ntmps7
  go_wp2_with (first | (go_at_call 28; first | (refine (time_yes _ (by omega) (by omega) _).mono ?_; rintro e w' ⟨rfl, rfl⟩) | (refine (time_no _ (by omega) _).mono ?_; rintro e w' ⟨rfl, rfl⟩)) | (go_at_call 20; first | (refine (txn_yes _ (by omega) (by omega) _).mono ?_; rintro e w' ⟨rfl, rfl⟩) | (refine (txn_no _ (by omega) _).mono ?_; rintro e w' ⟨rfl, rfl⟩)) | (go_at_call 22; first | (refine (link_yes _ _ (by omega) (by omega) (by omega) (by omega) _).mono ?_; rintro e w' ⟨rfl, rfl⟩) | (refine (link_no _ _ (by omega) _).mono ?_; rintro e w' ⟨rfl, rfl⟩)) | (go_at_call 24; refine (unlink_any _ (by omega) (by omega) _).mono ?_; rintro e w' ⟨rfl, rfl⟩) | (go_at_call 19; refine (forever_any _).mono ?_; rintro e w' ⟨rfl, rfl⟩) | (go_at_call 21; refine (awake_any _).mono ?_; rintro e w1 ⟨rfl, hq⟩; replace hb : Below w.heap.size w w1 := (by first | exact hb.trans (hq.mono hb.size) | exact (hb.alloc hb.size _).trans (hq.mono (by have hz := hb.size; simp; omega))); clear hq))
  go_ret
  exact ⟨rfl, hb⟩
end Go.Proofs.Ytplfhjahdepphaa.Word
