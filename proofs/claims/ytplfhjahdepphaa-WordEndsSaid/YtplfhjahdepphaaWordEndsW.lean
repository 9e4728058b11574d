/- WordEnds: the walk: whatever numbers come in, the law answers true and writes nothing that was there. -/
import Derived.Test.YtplfhjahdepphaaWordRefA
namespace Go.Proofs.Ytplfhjahdepphaa.Word
open Go.ChangeShapes Go.WideShapes Go.ChangeAt Go.RowKit
set_option linter.unusedVariables false

set_option maxHeartbeats 4000000 in
theorem ends_law (t i s g : Int) (_ : (Lit.int .u64 t).wf = true) (_ : (Lit.int .i64 i).wf = true) (_ : (Lit.int .i64 s).wf = true) (_ : (Lit.int .i64 g).wf = true) (w : World) :
    Calls Try.prog 6 #[.int .u64 t, .int .i64 i, .int .i64 s, .int .i64 g] w fun e w' => e = .returned (.bool true) ∧ Below w.heap.size w w' := by
  have hb : Below w.heap.size w w := Below.refl _ _
  obtain ⟨t', ht⟩ : ∃ t', bits .and .u64 t 7 = t' := ⟨_, rfl⟩
  obtain ⟨i', hi⟩ : ∃ i', bits .and .i64 i 7 = i' := ⟨_, rfl⟩
  obtain ⟨s', hs⟩ : ∃ s', bits .and .i64 s 7 = s' := ⟨_, rfl⟩
  obtain ⟨g', hg⟩ : ∃ g', bits .and .i64 g 7 = g' := ⟨_, rfl⟩
  have t0 : 0 ≤ t' := by rw [← ht, Bt.u64_and7]; omega
  have t1 : t' < 8 := by rw [← ht, Bt.u64_and7]; omega
  have i0 : 0 ≤ i' := by rw [← hi, Bt.i64_and7]; omega
  have i1 : i' < 8 := by rw [← hi, Bt.i64_and7]; omega
  have s0 : 0 ≤ s' := by rw [← hs, Bt.i64_and7]; omega
  have s1 : s' < 8 := by rw [← hs, Bt.i64_and7]; omega
  have g0 : 0 ≤ g' := by rw [← hg, Bt.i64_and7]; omega
  have g1 : g' < 8 := by rw [← hg, Bt.i64_and7]; omega
  by_cases ct : t' ≤ 4 <;> by_cases ci : i' ≤ 3 <;> by_cases cs : s' ≤ 3 <;> by_cases cg : g' ≤ 3
  all_goals
    obtain ⟨bt, dt⟩ : ∃ b, decide (1099511627772 + t' ≤ 1099511627776) = b := ⟨_, rfl⟩
    obtain ⟨bi, di⟩ : ∃ b, decide (65532 + i' ≤ 65535) = b := ⟨_, rfl⟩
    obtain ⟨bs, ds⟩ : ∃ b, decide (65532 + s' ≤ 65535) = b := ⟨_, rfl⟩
    obtain ⟨bg, dg⟩ : ∃ b, decide (65532 + g' ≤ 65535) = b := ⟨_, rfl⟩
    have xt : bt = decide (t' ≤ 4) := by rw [← dt, Bool.eq_iff_iff]; simp only [decide_eq_true_eq]; omega
    have xi : bi = decide (i' ≤ 3) := by rw [← di, Bool.eq_iff_iff]; simp only [decide_eq_true_eq]; omega
    have xs : bs = decide (s' ≤ 3) := by rw [← ds, Bool.eq_iff_iff]; simp only [decide_eq_true_eq]; omega
    have xg : bg = decide (g' ≤ 3) := by rw [← dg, Bool.eq_iff_iff]; simp only [decide_eq_true_eq]; omega
    simp only [ct, ci, cs, cg, decide_true, decide_false] at xt xi xs xg
    subst xt xi xs xg
    go_enter Try.func6, Try.ntmps6
    go_wp2_with (first | (go_at_call 28; first | (refine (time_yes _ (by omega) (by omega) _).mono ?_; rintro e w' ⟨rfl, rfl⟩) | (refine (time_no _ (by omega) _).mono ?_; rintro e w' ⟨rfl, rfl⟩)) | (go_at_call 20; first | (refine (txn_yes _ (by omega) (by omega) _).mono ?_; rintro e w' ⟨rfl, rfl⟩) | (refine (txn_no _ (by omega) _).mono ?_; rintro e w' ⟨rfl, rfl⟩)) | (go_at_call 22; first | (refine (link_yes _ _ (by omega) (by omega) (by omega) (by omega) _).mono ?_; rintro e w' ⟨rfl, rfl⟩) | (refine (link_no _ _ (by omega) _).mono ?_; rintro e w' ⟨rfl, rfl⟩)) | (go_at_call 24; refine (unlink_any _ (by omega) (by omega) _).mono ?_; rintro e w' ⟨rfl, rfl⟩) | (go_at_call 21; refine (awake_any _).mono ?_; rintro e w1 ⟨rfl, hq⟩; replace hb : Below w.heap.size w w1 := (by first | exact hb.trans (hq.mono hb.size) | exact (hb.alloc hb.size _).trans (hq.mono (by have hz := hb.size; simp; omega))); clear hq))
    go_ret
    exact ⟨rfl, hb⟩
end Go.Proofs.Ytplfhjahdepphaa.Word
