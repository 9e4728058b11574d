/- Texts of this claim, laid together: Roa, Rob, Roc, Rod, Ovr, Rfw. -/
import Derived.Test.YtdgombgcjeelpaaGreatM24st
import Derived.Test.YtdgombgcjeelpaaGreatM3st
import Derived.Deep.Cut
namespace Go.Proofs.YtdgombgcjeelpaaGreat.Em
open Go.ChangeShapes Go.WideShapes Go.ChangeAt Go.RowKit En
set_option linter.unusedVariables false
set_option linter.unusedSimpArgs false
set_option maxRecDepth 100000
set_option maxHeartbeats 1600000

theorem over_2_1 : overRun 2 1 = true := by decide +kernel
theorem over_3_1 : overRun 3 1 = true := by decide +kernel
theorem over_4_1 : overRun 4 1 = true := by decide +kernel
theorem over_5_1 : overRun 5 1 = true := by decide +kernel
theorem over_6_1 : overRun 6 1 = true := by decide +kernel
theorem over_7_1 : overRun 7 1 = true := by decide +kernel
theorem over_8_1 : overRun 8 1 = true := by decide +kernel
theorem over_9_1 : overRun 9 1 = true := by decide +kernel
theorem over_10_1 : overRun 10 1 = true := by decide +kernel
theorem over_11_1 : overRun 11 1 = true := by decide +kernel
theorem over_12_1 : overRun 12 1 = true := by decide +kernel
theorem over_13_1 : overRun 13 1 = true := by decide +kernel
theorem over_14_1 : overRun 14 1 = true := by decide +kernel
theorem over_15_1 : overRun 15 1 = true := by decide +kernel
theorem over_16_1 : overRun 16 1 = true := by decide +kernel
theorem over_17_1 : overRun 17 1 = true := by decide +kernel
theorem over_18_1 : overRun 18 1 = true := by decide +kernel
theorem over_19_1 : overRun 19 1 = true := by decide +kernel
theorem over_20_1 : overRun 20 1 = true := by decide +kernel
theorem over_21_1 : overRun 21 1 = true := by decide +kernel
theorem over_22_1 : overRun 22 1 = true := by decide +kernel
theorem over_23_1 : overRun 23 1 = true := by decide +kernel
theorem over_24_1 : overRun 24 1 = true := by decide +kernel
theorem over_25_1 : overRun 25 1 = true := by decide +kernel
theorem over_26_1 : overRun 26 1 = true := by decide +kernel
theorem over_27_1 : overRun 27 1 = true := by decide +kernel
theorem over_28_1 : overRun 28 1 = true := by decide +kernel
theorem over_29_1 : overRun 29 1 = true := by decide +kernel
theorem over_30_1 : overRun 30 1 = true := by decide +kernel
theorem over_31_1 : overRun 31 1 = true := by decide +kernel
theorem over_32_1 : overRun 32 1 = true := by decide +kernel
theorem over_33_1 : overRun 33 1 = true := by decide +kernel
theorem over_34_1 : overRun 34 1 = true := by decide +kernel
theorem over_35_1 : overRun 35 1 = true := by decide +kernel
theorem over_36_1 : overRun 36 1 = true := by decide +kernel
theorem over_37_1 : overRun 37 1 = true := by decide +kernel
theorem over_38_1 : overRun 38 1 = true := by decide +kernel
theorem over_39_1 : overRun 39 1 = true := by decide +kernel
theorem over_40_1 : overRun 40 1 = true := by decide +kernel
theorem over_41_1 : overRun 41 1 = true := by decide +kernel
theorem over_l1 (n : Nat) (h1 : 2 ≤ n) (h2 : n ≤ 41) : overRun n 1 = true := by
  match n, h1, h2 with
  | 2, _, _ => exact over_2_1
  | 3, _, _ => exact over_3_1
  | 4, _, _ => exact over_4_1
  | 5, _, _ => exact over_5_1
  | 6, _, _ => exact over_6_1
  | 7, _, _ => exact over_7_1
  | 8, _, _ => exact over_8_1
  | 9, _, _ => exact over_9_1
  | 10, _, _ => exact over_10_1
  | 11, _, _ => exact over_11_1
  | 12, _, _ => exact over_12_1
  | 13, _, _ => exact over_13_1
  | 14, _, _ => exact over_14_1
  | 15, _, _ => exact over_15_1
  | 16, _, _ => exact over_16_1
  | 17, _, _ => exact over_17_1
  | 18, _, _ => exact over_18_1
  | 19, _, _ => exact over_19_1
  | 20, _, _ => exact over_20_1
  | 21, _, _ => exact over_21_1
  | 22, _, _ => exact over_22_1
  | 23, _, _ => exact over_23_1
  | 24, _, _ => exact over_24_1
  | 25, _, _ => exact over_25_1
  | 26, _, _ => exact over_26_1
  | 27, _, _ => exact over_27_1
  | 28, _, _ => exact over_28_1
  | 29, _, _ => exact over_29_1
  | 30, _, _ => exact over_30_1
  | 31, _, _ => exact over_31_1
  | 32, _, _ => exact over_32_1
  | 33, _, _ => exact over_33_1
  | 34, _, _ => exact over_34_1
  | 35, _, _ => exact over_35_1
  | 36, _, _ => exact over_36_1
  | 37, _, _ => exact over_37_1
  | 38, _, _ => exact over_38_1
  | 39, _, _ => exact over_39_1
  | 40, _, _ => exact over_40_1
  | 41, _, _ => exact over_41_1
  | n + 42, _, h => omega
end Go.Proofs.YtdgombgcjeelpaaGreat.Em

namespace Go.Proofs.YtdgombgcjeelpaaGreat.Em
open Go.ChangeShapes Go.WideShapes Go.ChangeAt Go.RowKit En
set_option linter.unusedVariables false
set_option linter.unusedSimpArgs false
set_option maxRecDepth 100000
set_option maxHeartbeats 1600000

theorem over_2_2 : overRun 2 2 = true := by decide +kernel
theorem over_3_2 : overRun 3 2 = true := by decide +kernel
theorem over_4_2 : overRun 4 2 = true := by decide +kernel
theorem over_5_2 : overRun 5 2 = true := by decide +kernel
theorem over_6_2 : overRun 6 2 = true := by decide +kernel
theorem over_7_2 : overRun 7 2 = true := by decide +kernel
theorem over_8_2 : overRun 8 2 = true := by decide +kernel
theorem over_9_2 : overRun 9 2 = true := by decide +kernel
theorem over_10_2 : overRun 10 2 = true := by decide +kernel
theorem over_11_2 : overRun 11 2 = true := by decide +kernel
theorem over_12_2 : overRun 12 2 = true := by decide +kernel
theorem over_13_2 : overRun 13 2 = true := by decide +kernel
theorem over_14_2 : overRun 14 2 = true := by decide +kernel
theorem over_15_2 : overRun 15 2 = true := by decide +kernel
theorem over_16_2 : overRun 16 2 = true := by decide +kernel
theorem over_17_2 : overRun 17 2 = true := by decide +kernel
theorem over_18_2 : overRun 18 2 = true := by decide +kernel
theorem over_19_2 : overRun 19 2 = true := by decide +kernel
theorem over_20_2 : overRun 20 2 = true := by decide +kernel
theorem over_21_2 : overRun 21 2 = true := by decide +kernel
theorem over_22_2 : overRun 22 2 = true := by decide +kernel
theorem over_23_2 : overRun 23 2 = true := by decide +kernel
theorem over_24_2 : overRun 24 2 = true := by decide +kernel
theorem over_25_2 : overRun 25 2 = true := by decide +kernel
theorem over_26_2 : overRun 26 2 = true := by decide +kernel
theorem over_27_2 : overRun 27 2 = true := by decide +kernel
theorem over_28_2 : overRun 28 2 = true := by decide +kernel
theorem over_29_2 : overRun 29 2 = true := by decide +kernel
theorem over_30_2 : overRun 30 2 = true := by decide +kernel
theorem over_31_2 : overRun 31 2 = true := by decide +kernel
theorem over_32_2 : overRun 32 2 = true := by decide +kernel
theorem over_33_2 : overRun 33 2 = true := by decide +kernel
theorem over_34_2 : overRun 34 2 = true := by decide +kernel
theorem over_35_2 : overRun 35 2 = true := by decide +kernel
theorem over_36_2 : overRun 36 2 = true := by decide +kernel
theorem over_37_2 : overRun 37 2 = true := by decide +kernel
theorem over_38_2 : overRun 38 2 = true := by decide +kernel
theorem over_39_2 : overRun 39 2 = true := by decide +kernel
theorem over_40_2 : overRun 40 2 = true := by decide +kernel
theorem over_41_2 : overRun 41 2 = true := by decide +kernel
theorem over_l2 (n : Nat) (h1 : 2 ≤ n) (h2 : n ≤ 41) : overRun n 2 = true := by
  match n, h1, h2 with
  | 2, _, _ => exact over_2_2
  | 3, _, _ => exact over_3_2
  | 4, _, _ => exact over_4_2
  | 5, _, _ => exact over_5_2
  | 6, _, _ => exact over_6_2
  | 7, _, _ => exact over_7_2
  | 8, _, _ => exact over_8_2
  | 9, _, _ => exact over_9_2
  | 10, _, _ => exact over_10_2
  | 11, _, _ => exact over_11_2
  | 12, _, _ => exact over_12_2
  | 13, _, _ => exact over_13_2
  | 14, _, _ => exact over_14_2
  | 15, _, _ => exact over_15_2
  | 16, _, _ => exact over_16_2
  | 17, _, _ => exact over_17_2
  | 18, _, _ => exact over_18_2
  | 19, _, _ => exact over_19_2
  | 20, _, _ => exact over_20_2
  | 21, _, _ => exact over_21_2
  | 22, _, _ => exact over_22_2
  | 23, _, _ => exact over_23_2
  | 24, _, _ => exact over_24_2
  | 25, _, _ => exact over_25_2
  | 26, _, _ => exact over_26_2
  | 27, _, _ => exact over_27_2
  | 28, _, _ => exact over_28_2
  | 29, _, _ => exact over_29_2
  | 30, _, _ => exact over_30_2
  | 31, _, _ => exact over_31_2
  | 32, _, _ => exact over_32_2
  | 33, _, _ => exact over_33_2
  | 34, _, _ => exact over_34_2
  | 35, _, _ => exact over_35_2
  | 36, _, _ => exact over_36_2
  | 37, _, _ => exact over_37_2
  | 38, _, _ => exact over_38_2
  | 39, _, _ => exact over_39_2
  | 40, _, _ => exact over_40_2
  | 41, _, _ => exact over_41_2
  | n + 42, _, h => omega
end Go.Proofs.YtdgombgcjeelpaaGreat.Em

namespace Go.Proofs.YtdgombgcjeelpaaGreat.Em
open Go.ChangeShapes Go.WideShapes Go.ChangeAt Go.RowKit En
set_option linter.unusedVariables false
set_option linter.unusedSimpArgs false
set_option maxRecDepth 100000
set_option maxHeartbeats 1600000

theorem over_2_3 : overRun 2 3 = true := by decide +kernel
theorem over_3_3 : overRun 3 3 = true := by decide +kernel
theorem over_4_3 : overRun 4 3 = true := by decide +kernel
theorem over_5_3 : overRun 5 3 = true := by decide +kernel
theorem over_6_3 : overRun 6 3 = true := by decide +kernel
theorem over_7_3 : overRun 7 3 = true := by decide +kernel
theorem over_8_3 : overRun 8 3 = true := by decide +kernel
theorem over_9_3 : overRun 9 3 = true := by decide +kernel
theorem over_10_3 : overRun 10 3 = true := by decide +kernel
theorem over_11_3 : overRun 11 3 = true := by decide +kernel
theorem over_12_3 : overRun 12 3 = true := by decide +kernel
theorem over_13_3 : overRun 13 3 = true := by decide +kernel
theorem over_14_3 : overRun 14 3 = true := by decide +kernel
theorem over_15_3 : overRun 15 3 = true := by decide +kernel
theorem over_16_3 : overRun 16 3 = true := by decide +kernel
theorem over_17_3 : overRun 17 3 = true := by decide +kernel
theorem over_18_3 : overRun 18 3 = true := by decide +kernel
theorem over_19_3 : overRun 19 3 = true := by decide +kernel
theorem over_20_3 : overRun 20 3 = true := by decide +kernel
theorem over_21_3 : overRun 21 3 = true := by decide +kernel
theorem over_22_3 : overRun 22 3 = true := by decide +kernel
theorem over_23_3 : overRun 23 3 = true := by decide +kernel
theorem over_24_3 : overRun 24 3 = true := by decide +kernel
theorem over_25_3 : overRun 25 3 = true := by decide +kernel
theorem over_26_3 : overRun 26 3 = true := by decide +kernel
theorem over_27_3 : overRun 27 3 = true := by decide +kernel
theorem over_28_3 : overRun 28 3 = true := by decide +kernel
theorem over_29_3 : overRun 29 3 = true := by decide +kernel
theorem over_30_3 : overRun 30 3 = true := by decide +kernel
theorem over_31_3 : overRun 31 3 = true := by decide +kernel
theorem over_32_3 : overRun 32 3 = true := by decide +kernel
theorem over_33_3 : overRun 33 3 = true := by decide +kernel
theorem over_34_3 : overRun 34 3 = true := by decide +kernel
theorem over_35_3 : overRun 35 3 = true := by decide +kernel
theorem over_36_3 : overRun 36 3 = true := by decide +kernel
theorem over_37_3 : overRun 37 3 = true := by decide +kernel
theorem over_38_3 : overRun 38 3 = true := by decide +kernel
theorem over_39_3 : overRun 39 3 = true := by decide +kernel
theorem over_40_3 : overRun 40 3 = true := by decide +kernel
theorem over_41_3 : overRun 41 3 = true := by decide +kernel
theorem over_l3 (n : Nat) (h1 : 2 ≤ n) (h2 : n ≤ 41) : overRun n 3 = true := by
  match n, h1, h2 with
  | 2, _, _ => exact over_2_3
  | 3, _, _ => exact over_3_3
  | 4, _, _ => exact over_4_3
  | 5, _, _ => exact over_5_3
  | 6, _, _ => exact over_6_3
  | 7, _, _ => exact over_7_3
  | 8, _, _ => exact over_8_3
  | 9, _, _ => exact over_9_3
  | 10, _, _ => exact over_10_3
  | 11, _, _ => exact over_11_3
  | 12, _, _ => exact over_12_3
  | 13, _, _ => exact over_13_3
  | 14, _, _ => exact over_14_3
  | 15, _, _ => exact over_15_3
  | 16, _, _ => exact over_16_3
  | 17, _, _ => exact over_17_3
  | 18, _, _ => exact over_18_3
  | 19, _, _ => exact over_19_3
  | 20, _, _ => exact over_20_3
  | 21, _, _ => exact over_21_3
  | 22, _, _ => exact over_22_3
  | 23, _, _ => exact over_23_3
  | 24, _, _ => exact over_24_3
  | 25, _, _ => exact over_25_3
  | 26, _, _ => exact over_26_3
  | 27, _, _ => exact over_27_3
  | 28, _, _ => exact over_28_3
  | 29, _, _ => exact over_29_3
  | 30, _, _ => exact over_30_3
  | 31, _, _ => exact over_31_3
  | 32, _, _ => exact over_32_3
  | 33, _, _ => exact over_33_3
  | 34, _, _ => exact over_34_3
  | 35, _, _ => exact over_35_3
  | 36, _, _ => exact over_36_3
  | 37, _, _ => exact over_37_3
  | 38, _, _ => exact over_38_3
  | 39, _, _ => exact over_39_3
  | 40, _, _ => exact over_40_3
  | 41, _, _ => exact over_41_3
  | n + 42, _, h => omega
end Go.Proofs.YtdgombgcjeelpaaGreat.Em

namespace Go.Proofs.YtdgombgcjeelpaaGreat.Em
open Go.ChangeShapes Go.WideShapes Go.ChangeAt Go.RowKit En
set_option linter.unusedVariables false
set_option linter.unusedSimpArgs false
set_option maxRecDepth 100000
set_option maxHeartbeats 1600000

theorem over_all (n level : Nat) (h1 : 2 ≤ n) (h2 : n ≤ 41) (h3 : 1 ≤ level) (h4 : level ≤ 3) : overRun n level = true := by
  match level, h3, h4 with
  | 1, _, _ => exact over_l1 n h1 h2
  | 2, _, _ => exact over_l2 n h1 h2
  | 3, _, _ => exact over_l3 n h1 h2
end Go.Proofs.YtdgombgcjeelpaaGreat.Em

namespace Go.Proofs.YtdgombgcjeelpaaGreat.Em
open Go.ChangeShapes Go.WideShapes Go.ChangeAt Go.RowKit En
set_option linter.unusedVariables false
set_option linter.unusedSimpArgs false
set_option maxRecDepth 100000
set_option maxHeartbeats 1600000

theorem mask_to (x : Int) (m : Nat) (hm : 0 < m) : ∃ n : Nat, n < m ∧ (bits .and .i64 x 255).tmod (m : Int) = (n : Int) := by
  rw [Bt.i64_and255]
  have h0 : 0 ≤ x % 256 := Int.emod_nonneg _ (by decide)
  have h1 := Int.tmod_nonneg (m : Int) h0
  have h2 := Int.tmod_lt_of_pos (x % 256) (b := (m : Int)) (by omega)
  exact ⟨((x % 256).tmod m).toNat, by omega, by omega⟩
theorem overRun_ok {n level : Nat} (h : overRun n level = true) : ∃ σ1 id σ2 made, beginOk (new 100 n) 1 level = some (σ1, id) ∧ overLoop n level 50 σ1 0 = some (σ2, made) ∧ overEnd n level σ2 made = true := by
  unfold overRun at h
  split at h
  · rename_i σ1 id h1
    split at h
    · rename_i σ2 made h2
      exact ⟨σ1, id, σ2, made, h1, h2, h⟩
    · cases h
  · cases h
theorem overLoop_ok {n level f made m2 : Nat} {σ σ2 : St} (h : overLoop n level (f + 1) σ made = some (σ2, m2)) : σ.word 0 < 18446744073709551616 ∧
    ((σ.now + 2 ≤ n ∧ ∃ σ' r0 r, runWhole 1000 σ 0 level [⟨2, made, 0, 7⟩] = some (σ', [r0, r], 0) ∧ r.over = 3 ∧ overLoop n level f σ' (made + 1) = some (σ2, m2)) ∨ (¬ σ.now + 2 ≤ n ∧ σ = σ2 ∧ made = m2)) := by
  unfold overLoop at h
  split at h
  · rename_i h0
    refine ⟨h0, ?_⟩
    split at h
    · rename_i h1
      split at h
      · rename_i σ' r0 r hw
        split at h
        · rename_i ho
          exact .inl ⟨h1, σ', r0, r, hw, ho, h⟩
        · cases h
      · cases h
    · rename_i h1
      simp only [Option.some.injEq, Prod.mk.injEq] at h
      exact .inr ⟨h1, h.1, h.2⟩
  · cases h
theorem overEnd_ok {n level made : Nat} {σ2 : St} (h : overEnd n level σ2 made = true) : ∃ σ3 σ4 σ5 σ6 r, ((σ2.now < n ∧ ∃ id, beginOk σ2 2 level = some (σ3, id)) ∨ (¬ σ2.now < n ∧ σ3 = σ2)) ∧ beginNot σ3 3 level = some (σ4, 16) ∧ issueOk σ4 1 ⟨6, 0, 0, 0⟩ = some σ5 ∧ runDo 1000 σ5 1 = some (σ6, r, 0) ∧ r.over = 4 ∧ r.reason = 6 ∧ r.e = 14 ∧ σ6.now = n ∧ σ6.pairs.length = made ∧ okPairs σ6 = true ∧ σ6.word 0 < 18446744073709551616 := by
  unfold overEnd at h
  split at h
  · rename_i σ3 h3
    split at h
    · rename_i σ4 er h4
      simp only [Bool.and_eq_true, beq_iff_eq] at h
      obtain ⟨rfl, h⟩ := h
      split at h
      · rename_i σ5 h5
        split at h
        · rename_i σ6 r e6 h6
          simp only [Bool.and_eq_true, beq_iff_eq, decide_eq_true_eq] at h
          obtain ⟨⟨⟨⟨⟨⟨⟨rfl, g1⟩, g2⟩, g3⟩, g4⟩, g5⟩, g6⟩, g7⟩ := h
          refine ⟨σ3, σ4, σ5, σ6, r, ?_, h4, h5, h6, g1, g2, g3, g4, g5, g6, g7⟩
          split at h3
          · rename_i hn
            cases hb : beginOk σ2 2 level with
            | none => rw [hb] at h3; cases h3
            | some y =>
              rw [hb] at h3
              obtain ⟨a, b⟩ := y
              simp only [Option.map_some, Option.some.injEq] at h3
              exact .inl ⟨hn, b, by rw [h3]⟩
          · rename_i hn
            simp only [Option.some.injEq] at h3
            exact .inr ⟨hn, h3.symm⟩
        · cases h
      · cases h
    · cases h
  · cases h
theorem now_lt {σ : St} (h : σ.word 0 < 18446744073709551616) : σ.now < 281474976710656 := by unfold St.now timeOf; omega
theorem over_law (limit level : Int) (w : World) : Calls Tryz.prog 8 #[.int .i64 limit, .int .i64 level] w fun e w' => e = .returned (.bool true) ∧ Below w.heap.size w w' := by
  obtain ⟨n, hn, hns⟩ := mask_to limit 40 (by decide)
  obtain ⟨v, hv, hvs⟩ := mask_to level 3 (by decide)
  rw [show ((40 : Nat) : Int) = 40 from rfl] at hns
  rw [show ((3 : Nat) : Int) = 3 from rfl] at hvs
  have hall := over_all (n + 2) (v + 1) (by omega) (by omega) (by omega) (by omega)
  obtain ⟨σ1, id1, σ2, made, hb1, hlp, hend⟩ := overRun_ok hall
  clear hall
  have n1 : IntKind.u64.wrap (n : Int) = (n : Int) := by rw [IntKind.wrap_u64]; omega
  have n2 : IntKind.u64.wrap ((n : Int) + 2) = (n : Int) + 2 := by rw [IntKind.wrap_u64]; omega
  have n3 : IntKind.i64.wrap ((v : Int) + 1) = (v : Int) + 1 := by rw [IntKind.wrap_i64]; omega
  have HN : Hid (∀ w, Calls Tryz.prog 23 #[.agg #[.int .i64 100, .int .u64 ((n : Int) + 2)]] w fun e w' => ∃ b, e = .returned (.tuple #[.pointer (some ⟨b, 0, none⟩), .int .i64 0]) ∧ EAt b w (new 100 (n + 2)) w') := fun w => new_at 100 (n + 2) (by omega) (by omega) (by omega) (by omega) w
  have HB1 : Hid (∀ b w0 w1, EAt b w0 (new 100 (n + 2)) w1 → Calls Tryz.prog 35 #[.pointer (some ⟨b, 0, none⟩), .int .i64 1, .int .i64 ((v : Int) + 1)] w1 (EB b w0 σ1 (.tuple #[.int .i64 (id1 : Int), .int .i64 0]))) := fun b w0 w1 h => begin_at (s := 1) h (by decide) hb1
  have HLP := Lib.hid hlp
  have HE := Lib.hid hend
  clear hb1 hlp hend
  go_enter Tryz.func8, Tryz.ntmps8
  go_upto_region 2 with fail
  clear hns hvs n1 n2 n3
  have hn2 : n + 2 ≤ 41 := by omega
  generalize hnn : (n : Int) + 2 = nn at *
  generalize hvv : (v : Int) + 1 = vv at *
  go_upto_region 9 with (first | (go_at_call 23; refine (HN.out _).mono ?_; rintro e w1 ⟨b, rfl, q⟩; have T0 := Lib.hid q; clear q) | (go_at_call 35; refine (HB1.out _ _ _ T0.out).mono ?_; rintro e w1 ⟨rfl, q⟩; have T1 := Lib.hid q; clear q T0))
  clear HN HB1
  go_loopw [10] (fun i wr => ∃ (m f : Nat) (σ : St), i = .int .i64 (m : Int) ∧ m + f = 50 ∧ overLoop (n + 2) (v + 1) f σ m = some (σ2, made) ∧ EAt b w σ wr) (fun i _ => 50 - (intOf i).toNat)
  case atStart => exact ⟨0, 50, σ1, rfl, rfl, HLP.out, T1.out⟩
  case round =>
    clear HLP T1
    obtain ⟨m, f, σ, rfl, hmf, hlp, T1⟩ := hrel
    have T1 := Lib.hid T1
    cases f with
    | zero => cases hlp
    | succ f =>
    obtain ⟨hw0, hor⟩ := overLoop_ok hlp
    clear hlp
    have hnl := now_lt hw0
    have HNW : Hid (∀ w1, EAt b w σ w1 → Calls Tryz.prog 24 #[.pointer (some ⟨b, 0, none⟩)] w1 (EB b w σ (.int .u64 (σ.now : Int)))) := fun w1 h => now_at h hw0
    rcases hor with ⟨hc, σ', r0, r, hrun, hro, hnext⟩ | ⟨hc, e1, e2⟩
    · have HWH : Hid (∀ w1, EAt b w σ w1 → Calls Tryz.prog 36 #[.pointer (some ⟨b, 0, none⟩), .int .i64 0, .int .i64 vv, .slice (some ⟨w1.heap.size, 0, none⟩) 1 1] (w1.alloc (.cells #[.int .i64 2, .int .i64 (m : Int), .int .i64 0, .int .i64 7] 31)) fun e w' => ∃ rb ro rc, e = .returned (.tuple #[.slice (some ⟨rb, ro, none⟩) 2 rc, .int .i64 0]) ∧ EAt b w σ' w' ∧ w'.cell? ⟨rb, ro + 5 + 3, none⟩ = some (.int .i64 3)) := fun w1 h => by
        rw [← hvv]
        refine (whole_at h (ops := [⟨2, m, 0, 7⟩]) (level := v + 1) (s := 0) (#[.int .i64 2, .int .i64 (m : Int), .int .i64 0, .int .i64 7]) 1 (by decide) (by decide : (1000 : Nat) ≤ _) hrun rfl rfl (by omega) (by simp)).mono ?_
        rintro e w' ⟨rb, ro, rc, rfl, q1, q2⟩
        have q3 := (q2 1 r rfl).2.2.1
        rw [hro] at q3
        exact ⟨rb, ro, rc, rfl, q1, q3⟩
      have HX := Lib.hid (And.intro hmf hnext)
      have x1 : IntKind.u64.wrap ((σ.now : Int) + 2) = (σ.now : Int) + 2 := by rw [IntKind.wrap_u64]; omega
      have x2 : ((σ.now : Int) + 2 ≤ nn) = True := by simp; omega
      have x3 : decide ((σ.now : Int) + 2 ≤ nn) = true := by simp; omega
      have x4 : IntKind.i64.wrap ((m : Int) + 1) = (m : Int) + 1 := by rw [IntKind.wrap_i64]; omega
      generalize (σ.now : Int) = t at *
      clear hrun hnext hro
      go_wp2_with (first | (go_at_call 24; refine (HNW.out _ T1.out).mono ?_; rintro e w2 ⟨rfl, q⟩; have T2 := Lib.hid q; clear q T1) | (go_at_call 36; refine (HWH.out _ T2.out).mono ?_; rintro e w3 ⟨rb, ro, rc, rfl, q1, q2⟩; have T3 := Lib.hid q1; clear q1 T2))
      exact ⟨⟨m + 1, f, σ', rfl, by have := HX.out.1; omega, HX.out.2, T3.out⟩, by have := HX.out.1; simp [intOf]; omega⟩
    · have hE2 : overEnd (n + 2) (v + 1) σ m = true := by rw [e1, e2]; exact HE.out
      clear HE e1 e2
      obtain ⟨σ3, σ4, σ5, σ6, r, h3, h4, h5, h6, g1, g2, g3, g4, g5, g6, g7⟩ := overEnd_ok hE2
      clear hE2

      have HAW := Lib.hid awake24
      have HT := Lib.hid (And.intro g4 (And.intro g5 (And.intro g1 (And.intro g2 g3))))
      have HB3 : Hid (∀ w1, EAt b w σ3 w1 → Calls Tryz.prog 35 #[.pointer (some ⟨b, 0, none⟩), .int .i64 3, .int .i64 vv] w1 (EB b w σ4 (.tuple #[.int .i64 0, .int .i64 16]))) := fun w1 h => by
        rw [← hvv]
        exact beginNot_at (s := 3) h (by decide) h4
      have HDO : Hid (∀ w1, EAt b w σ4 w1 → Calls Tryz.prog 31 #[.pointer (some ⟨b, 0, none⟩), .int .i64 1, .agg #[.int .i64 6, .int .i64 0, .int .i64 0, .int .i64 0]] w1 fun e w' => ∃ va vn vc, e = .returned (.tuple #[.agg #[.int .i64 14, .int .i64 (r.value : Int), .slice va vn vc, .int .i64 4, .int .i64 6], .int .i64 0]) ∧ EAt b w σ6 w') := fun w1 h => by
        refine (do_at (s := 1) h (o := ⟨6, 0, 0, 0⟩) (by decide) h5 (by decide : (1000 : Nat) ≤ _) h6).mono ?_
        rintro e w' ⟨A, va, vn, vc, rfl, _, e1, e2, e3⟩
        rw [g1, g2, g3]
        exact ⟨va, vn, vc, rfl, A, e1, e2, e3⟩
      have HN6 : Hid (∀ w1, EAt b w σ6 w1 → Calls Tryz.prog 24 #[.pointer (some ⟨b, 0, none⟩)] w1 (EB b w σ6 (.int .u64 nn))) := fun w1 h => by
        have hh := now_at h g7
        rw [g4, show ((n + 2 : Nat) : Int) = nn from hnn] at hh
        exact hh
      have HPS : Hid (∀ w1, EAt b w σ6 w1 → Calls Tryz.prog 29 #[.pointer (some ⟨b, 0, none⟩)] w1 fun e w' => ∃ av cap, e = .returned (.slice av m cap) ∧ EAt b w σ6 w') := fun w1 h => by
        have hh := pairs_at h g6
        rw [g5] at hh
        refine hh.mono ?_
        rintro e w' ⟨av, cap, rfl, _, q⟩
        exact ⟨av, cap, rfl, q⟩
      clear h4 h5 h6 g1 g2 g3 g4 g5 g6 g7

      have x1 : IntKind.u64.wrap ((σ.now : Int) + 2) = (σ.now : Int) + 2 := by rw [IntKind.wrap_u64]; omega
      have x2 : ((σ.now : Int) + 2 ≤ nn) = False := by simp; omega
      have x3 : decide ((σ.now : Int) + 2 ≤ nn) = false := by simp; omega
      rcases h3 with ⟨hlt, id2, hb2⟩ | ⟨hlt, rfl⟩
      · have HB2 : Hid (∀ w1, EAt b w σ w1 → Calls Tryz.prog 35 #[.pointer (some ⟨b, 0, none⟩), .int .i64 2, .int .i64 vv] w1 (EB b w σ3 (.tuple #[.int .i64 (id2 : Int), .int .i64 0]))) := fun w1 h => by
          rw [← hvv]
          exact begin_at (s := 2) h (by decide) hb2
        have y2 : ((σ.now : Int) < nn) = True := by simp; omega
        have y3 : decide ((σ.now : Int) < nn) = true := by simp; omega
        clear hb2
        generalize (σ.now : Int) = t at *
        go_wp2_with (first | (go_at_call 24; refine (HNW.out _ T1.out).mono ?_; rintro e w2 ⟨rfl, q⟩; have T2 := Lib.hid q; clear q T1) | (go_at_call 24; refine (HNW.out _ T2.out).mono ?_; rintro e w2 ⟨rfl, q⟩; have T2b := Lib.hid q; clear q T2) | (go_at_call 35; refine (HB2.out _ T2b.out).mono ?_; rintro e w3 ⟨rfl, q⟩; have T3 := Lib.hid q; clear q T2b) | (go_at_call 35; refine (HB3.out _ T3.out).mono ?_; rintro e w4 ⟨rfl, q⟩; have T4 := Lib.hid q; clear q T3) | (go_at_call 31; refine (HDO.out _ T4.out).mono ?_; rintro e w5 ⟨va, vn, vc, rfl, q⟩; have T5 := Lib.hid q; clear q T4) | (go_at_call 24; refine (HN6.out _ (T5.out.alloc _)).mono ?_; rintro e w6 ⟨rfl, q⟩; have T6 := Lib.hid q; clear q T5) | (go_at_call 29; refine (HPS.out _ T6.out).mono ?_; rintro e w7 ⟨av, acap, rfl, q⟩; have T7 := Lib.hid q; clear q T6) | (go_at_call 22; refine (HAW.out _).mono ?_; rintro e w8 ⟨rfl, q⟩; have T8 := Lib.hid (T7.out.below q); clear q T7))
        go_ret
        exact ⟨rfl, T8.out.toBelow⟩
      · have y2 : ((σ3.now : Int) < nn) = False := by simp; omega
        have y3 : decide ((σ3.now : Int) < nn) = false := by simp; omega
        generalize (σ3.now : Int) = t at *
        go_wp2_with (first | (go_at_call 24; refine (HNW.out _ T1.out).mono ?_; rintro e w2 ⟨rfl, q⟩; have T2 := Lib.hid q; clear q T1) | (go_at_call 24; refine (HNW.out _ T2.out).mono ?_; rintro e w2 ⟨rfl, q⟩; have T3 := Lib.hid q; clear q T2) | (go_at_call 35; refine (HB3.out _ T3.out).mono ?_; rintro e w4 ⟨rfl, q⟩; have T4 := Lib.hid q; clear q T3) | (go_at_call 31; refine (HDO.out _ T4.out).mono ?_; rintro e w5 ⟨va, vn, vc, rfl, q⟩; have T5 := Lib.hid q; clear q T4) | (go_at_call 24; refine (HN6.out _ (T5.out.alloc _)).mono ?_; rintro e w6 ⟨rfl, q⟩; have T6 := Lib.hid q; clear q T5) | (go_at_call 29; refine (HPS.out _ T6.out).mono ?_; rintro e w7 ⟨av, acap, rfl, q⟩; have T7 := Lib.hid q; clear q T6) | (go_at_call 22; refine (HAW.out _).mono ?_; rintro e w8 ⟨rfl, q⟩; have T8 := Lib.hid (T7.out.below q); clear q T7))
        go_ret
        exact ⟨rfl, T8.out.toBelow⟩
end Go.Proofs.YtdgombgcjeelpaaGreat.Em

namespace Go.Proofs.YtdgombgcjeelpaaGreat.Em
open Go.ChangeShapes Go.WideShapes Go.ChangeAt Go.RowKit En
set_option linter.unusedVariables false
set_option linter.unusedSimpArgs false
set_option maxRecDepth 100000
set_option maxHeartbeats 1600000

theorem firstRun_ok {a b wh : Nat} (h : firstRun a b wh = true) : ∃ σ0 rs σ1 i1 σ2 i2 σ3 σ4 r σ5, runWhole 1000 (new 40 1000) 7 1 [⟨2, 3, 0, 10⟩] = some (σ0, rs, 0) ∧ 0 < rs.length ∧ beginOk σ0 0 a = some (σ1, i1) ∧ beginOk σ1 1 b = some (σ2, i2) ∧ issueOk σ2 0 ⟨3, 3, 0, 20⟩ = some σ3 ∧ runDo 1000 σ3 0 = some (σ4, r, 0) ∧ r.e = 0 ∧ firstMid wh σ4 = some σ5 ∧ firstEnd b σ5 = true := by
  unfold firstRun at h
  obtain ⟨⟨σ0, rs, x⟩, h0, h⟩ := thn_ok h
  obtain ⟨g0, h⟩ := and_ok h
  obtain ⟨⟨σ1, i1⟩, h1, h⟩ := thn_ok h
  obtain ⟨⟨σ2, i2⟩, h2, h⟩ := thn_ok h
  obtain ⟨σ3, h3, h⟩ := thn_ok h
  obtain ⟨⟨σ4, r, y⟩, h4, h⟩ := thn_ok h
  obtain ⟨g4, h⟩ := and_ok h
  obtain ⟨σ5, h5, hZ⟩ := thn_ok h
  simp only [Bool.and_eq_true, beq_iff_eq, decide_eq_true_eq] at g0 g4
  obtain ⟨rfl, g0⟩ := g0
  obtain ⟨rfl, g4⟩ := g4
  exact ⟨σ0, rs, σ1, i1, σ2, i2, σ3, σ4, r, σ5, h0, g0, h1, h2, h3, h4, g4, h5, hZ⟩
theorem firstEnd_ok {b : Nat} {σ : St} (h : firstEnd b σ = true) : ∃ σ1 σ2 r σ3 n σ4 r0 r1, issueOk σ 1 ⟨3, 3, 0, 30⟩ = some σ1 ∧ runDo 1000 σ1 1 = some (σ2, r, 0) ∧ r.e = 14 ∧ r.over = 4 ∧ r.reason = 2 ∧ runEnd (List.range 8) (mostOf σ2.live.length) 1000 σ2 0 = some (σ3, n, true) ∧ runWhole 1000 σ3 2 b [⟨3, 3, 0, 40⟩] = some (σ4, [r0, r1], 0) ∧ r1.over = 3 ∧ okPairs σ4 = true ∧ σ4.pairs = [(3, 40)] := by
  unfold firstEnd at h
  obtain ⟨σ1, h1, h⟩ := thn_ok h
  obtain ⟨⟨σ2, r, x⟩, h2, h⟩ := thn_ok h
  obtain ⟨g2, h⟩ := and_ok h
  obtain ⟨⟨σ3, n, ok⟩, h3, h⟩ := thn_ok h
  obtain ⟨g3, h⟩ := and_ok h
  obtain ⟨⟨σ4, rs, y⟩, h4, h⟩ := thn_ok h
  obtain ⟨g4, hZ⟩ := and_ok h
  simp only [Bool.and_eq_true, beq_iff_eq] at g2 g3 g4 hZ
  obtain ⟨⟨⟨rfl, a1⟩, a2⟩, a3⟩ := g2
  obtain ⟨⟨rfl, a4⟩, a5⟩ := g4
  subst g3
  match rs, a4, a5 with
  | [r0, r1], _, a5 => exact ⟨σ1, σ2, r, σ3, n, σ4, r0, r1, h1, h2, a1, a2, a3, h3, h4, a5, hZ.1, hZ.2⟩
theorem runLive_ok {s f : Nat} {σ σ2 : St} (h : runLive s (f + 1) σ = some σ2) : ((σ.status s).live = false ∧ σ = σ2) ∨ ((σ.status s).live = true ∧ ∃ σ' kd r, oneStep σ s = some (σ', kd, r) ∧ runLive s f σ' = some σ2) := by
  unfold runLive at h
  split at h
  · rename_i hl
    exact .inl ⟨hl, Option.some.inj h⟩
  · rename_i hl
    split at h
    · rename_i σ' kd r hs
      exact .inr ⟨by simpa using hl, σ', kd, r, hs, h⟩
    · cases h
/-- Where the loop stands. -/
def MidOk (z : Int) (f : Nat) (σ σ5 : St) : Prop := (z = 2 ∧ runLive 0 f σ = some σ5) ∨ (z ≠ 2 ∧ σ = σ5)
theorem stLive_at {b : Nat} {w0 : World} {σ : St} (s : Nat) (hs : s < 8) (w : World) (h : EAt b w0 σ w) :
    Calls Tryz.prog 18 #[.pointer (some ⟨b, 0, none⟩), .int .i64 (s : Int)] w fun e w' => ∃ y1 y2 y3 y4 y5 y6 y7 y8, e = .returned (.agg #[.bool (σ.status s).live, y1, y2, y3, y4, y5, y6, y7, y8]) ∧ EAt b w0 σ w' :=
  (status_at h s hs).mono fun e w' hh => ⟨_, _, _, _, _, _, _, _, hh.1, hh.2⟩
theorem firstMid_ok {wh : Nat} {z : Int} {σ σ5 : St} (hz : (wh : Int) = z) (hw : wh ≤ 2) (h : firstMid wh σ = some σ5) : (z = 0 ∧ MidOk 0 1000 σ σ5) ∨ ((z = 1 ∨ z = 2) ∧ ∃ σa σb, issueOk σ 0 ⟨6, 0, 0, 0⟩ = some σa ∧ runPrep 1000 σa 0 = some (σb, true) ∧ MidOk z 1000 σb σ5) := by
  unfold firstMid at h
  split at h
  · rename_i h0
    exact .inl ⟨by omega, .inr ⟨by decide, Option.some.inj h⟩⟩
  · rename_i h0
    refine .inr ⟨by omega, ?_⟩
    split at h
    · rename_i σa ha
      split at h
      · rename_i σb hb
        refine ⟨σa, σb, ha, hb, ?_⟩
        split at h
        · exact .inr ⟨by omega, Option.some.inj h⟩
        · exact .inl ⟨by omega, h⟩
      · cases h
    · cases h
theorem first_law (a' b' wh' : Int) (w : World) : Calls Tryz.prog 12 #[.int .i64 a', .int .i64 b', .int .i64 wh'] w fun e w' => e = .returned (.bool true) ∧ Below w.heap.size w w' := by
  obtain ⟨a, ha, has⟩ := mask_to a' 3 (by decide)
  obtain ⟨c, hc, hcs⟩ := mask_to b' 3 (by decide)
  obtain ⟨wh, hwh, hws⟩ := mask_to wh' 3 (by decide)
  rw [show ((3 : Nat) : Int) = 3 from rfl] at has hcs hws
  have hall := first_all (a + 1) (c + 1) wh (by omega) (by omega) (by omega) (by omega) (by omega)
  obtain ⟨σ0, rs0, σ1, i1, σ2, i2, σ3, σ4, r4, σ5, h0, h0l, h1, h2, h3, h4, h4e, h5, hend⟩ := firstRun_ok hall
  obtain ⟨τ1, τ2, s2, τ3, n3, τ4, r0, r1, k1, k2, k2e, k2o, k2r, k3, k4, k4o, k5, k6⟩ := firstEnd_ok hend
  clear hall hend
  have n1 : IntKind.i64.wrap ((a : Int) + 1) = (a : Int) + 1 := by rw [IntKind.wrap_i64]; omega
  have n2 : IntKind.i64.wrap ((c : Int) + 1) = (c : Int) + 1 := by rw [IntKind.wrap_i64]; omega
  have HN : Hid (∀ w, Calls Tryz.prog 23 #[.agg #[.int .i64 40, .int .u64 1000]] w fun e w' => ∃ b, e = .returned (.tuple #[.pointer (some ⟨b, 0, none⟩), .int .i64 0]) ∧ EAt b w (new 40 1000) w') := fun w => new_at 40 1000 (by omega) (by omega) (by omega) (by omega) w
  go_enter Tryz.func12, Tryz.ntmps12
  go_upto_region 2 with fail
  generalize haa : (a : Int) + 1 = aa at *
  generalize hcc : (c : Int) + 1 = cc at *
  clear has hcs hws n1 n2
  go_upto_region 4 with (go_at_call 23; refine (HN.out _).mono ?_; rintro e w1 ⟨b, rfl, q⟩; have T0 := Lib.hid q; clear q)
  clear HN
  have HW0 : Hid (∀ w1, EAt b w (new 40 1000) w1 → Calls Tryz.prog 36 #[.pointer (some ⟨b, 0, none⟩), .int .i64 7, .int .i64 1, .slice (some ⟨w1.heap.size, 0, none⟩) 1 1] (w1.alloc (.cells #[.int .i64 2, .int .i64 3, .int .i64 0, .int .i64 10] 31)) fun e w' => ∃ rb ro rc, e = .returned (.tuple #[.slice (some ⟨rb, ro, none⟩) rs0.length rc, .int .i64 0]) ∧ EAt b w σ0 w') := fun w1 h => by
    refine (whole_at h (ops := [⟨2, 3, 0, 10⟩]) (level := 1) (s := 7) (#[.int .i64 2, .int .i64 3, .int .i64 0, .int .i64 10]) 1 (by decide) (by decide : (1000 : Nat) ≤ _) h0 rfl rfl (by decide) (by exact h0l)).mono ?_
    rintro e w' ⟨rb, ro, rc, rfl, q1, q2⟩
    exact ⟨rb, ro, rc, rfl, q1⟩

  have HB0 : Hid (∀ w1, EAt b w σ0 w1 → Calls Tryz.prog 35 #[.pointer (some ⟨b, 0, none⟩), .int .i64 0, .int .i64 aa] w1 (EB b w σ1 (.tuple #[.int .i64 (i1 : Int), .int .i64 0]))) := fun w1 h => by
    rw [← haa]
    exact begin_at (s := 0) h (by decide) h1

  have HB1 : Hid (∀ w1, EAt b w σ1 w1 → Calls Tryz.prog 35 #[.pointer (some ⟨b, 0, none⟩), .int .i64 1, .int .i64 cc] w1 (EB b w σ2 (.tuple #[.int .i64 (i2 : Int), .int .i64 0]))) := fun w1 h => by
    rw [← hcc]
    exact begin_at (s := 1) h (by decide) h2

  have HD0 : Hid (∀ w1, EAt b w σ2 w1 → Calls Tryz.prog 31 #[.pointer (some ⟨b, 0, none⟩), .int .i64 0, .agg #[.int .i64 3, .int .i64 3, .int .i64 0, .int .i64 20]] w1 (fun e w' => ∃ va vn vc, e = .returned (.tuple #[.agg #[.int .i64 0, .int .i64 (r4.value : Int), .slice va vn vc, .int .i64 (r4.over : Int), .int .i64 (r4.reason : Int)], .int .i64 0]) ∧ EAt b w σ4 w')) := fun w1 h => by
    refine (do_at (s := 0) h (o := ⟨3, 3, 0, 20⟩) (by decide) h3 (by decide : (1000 : Nat) ≤ _) h4).mono ?_
    rintro e w' ⟨A, va, vn, vc, rfl, _, e1, e2, e3⟩
    rw [h4e]
    exact ⟨va, vn, vc, rfl, A, e1, e2, e3⟩

  have HD1 : Hid (∀ w1, EAt b w σ5 w1 → Calls Tryz.prog 31 #[.pointer (some ⟨b, 0, none⟩), .int .i64 1, .agg #[.int .i64 3, .int .i64 3, .int .i64 0, .int .i64 30]] w1 (fun e w' => ∃ va vn vc, e = .returned (.tuple #[.agg #[.int .i64 14, .int .i64 (s2.value : Int), .slice va vn vc, .int .i64 4, .int .i64 2], .int .i64 0]) ∧ EAt b w τ2 w')) := fun w1 h => by
    refine (do_at (s := 1) h (o := ⟨3, 3, 0, 30⟩) (by decide) k1 (by decide : (1000 : Nat) ≤ _) k2).mono ?_
    rintro e w' ⟨A, va, vn, vc, rfl, _, e1, e2, e3⟩
    rw [k2e, k2o, k2r]
    exact ⟨va, vn, vc, rfl, A, e1, e2, e3⟩

  have HE : Hid (∀ w1, EAt b w τ2 w1 → Calls Tryz.prog 40 #[.pointer (some ⟨b, 0, none⟩), .slice none 0 0] w1 (EB b w τ3 (.tuple #[.int .i64 (n3 : Int), .bool true]))) := fun w1 h => by
    exact endNone_at h k3

  have HW1 : Hid (∀ w1, EAt b w τ3 w1 → Calls Tryz.prog 36 #[.pointer (some ⟨b, 0, none⟩), .int .i64 2, .int .i64 cc, .slice (some ⟨w1.heap.size, 0, none⟩) 1 1] (w1.alloc (.cells #[.int .i64 3, .int .i64 3, .int .i64 0, .int .i64 40] 31)) fun e w' => ∃ rb ro rc, e = .returned (.tuple #[.slice (some ⟨rb, ro, none⟩) 2 rc, .int .i64 0]) ∧ EAt b w τ4 w' ∧ w'.cell? ⟨rb, ro + 5 + 3, none⟩ = some (.int .i64 3)) := fun w1 h => by
    rw [← hcc]
    refine (whole_at h (ops := [⟨3, 3, 0, 40⟩]) (level := c + 1) (s := 2) (#[.int .i64 3, .int .i64 3, .int .i64 0, .int .i64 40]) 1 (by decide) (by decide : (1000 : Nat) ≤ _) k4 rfl rfl (by decide) (by simp)).mono ?_
    rintro e w' ⟨rb, ro, rc, rfl, q1, q2⟩
    have q3 := (q2 1 r1 rfl).2.2.1
    rw [k4o] at q3
    exact ⟨rb, ro, rc, rfl, q1, q3⟩

  have HP : Hid (∀ w1, EAt b w τ4 w1 → Calls Tryz.prog 29 #[.pointer (some ⟨b, 0, none⟩)] w1 (fun e w' => ∃ av cap, e = .returned (.slice av 1 cap) ∧ w'.ownsRow w1.heap.size 80 2 (.slice av 1 cap) 1 (pairCs [(3, 40)]) ∧ EAt b w τ4 w')) := fun w1 h => by
    have hh := pairs_at h k5
    rw [k6] at hh
    exact hh

  have HAW := Lib.hid awake24
  clear h0 h0l h1 h2 h3 h4 h4e k1 k2 k2e k2o k2r k3 k4 k4o k5 k6
  generalize hz : (wh : Int) = z at *
  have hmid := firstMid_ok hz (by omega) h5
  clear h5 hz
  go_upto_region 17 with (first | (go_at_call 36; refine (HW0.out _ (T0.out)).mono ?_; rintro e w9 ⟨rb, ro, rc, rfl, q⟩; have T1 := Lib.hid q; clear q T0) | (go_at_call 35; refine (HB0.out _ (T1.out)).mono ?_; rintro e w9 ⟨rfl, q⟩; have T2 := Lib.hid q; clear q T1) | (go_at_call 35; refine (HB1.out _ (T2.out)).mono ?_; rintro e w9 ⟨rfl, q⟩; have T3 := Lib.hid q; clear q T2) | (go_at_call 31; refine (HD0.out _ (T3.out)).mono ?_; rintro e w9 ⟨va, vn, vc, rfl, q⟩; have T4 := Lib.hid q; clear q T3))
  clear HW0 HB0 HB1 HD0
  rcases hmid with ⟨rfl, hm⟩ | ⟨hz, σa, σb, ha, hb, hm⟩
  · have HM := Lib.hid hm
    have T5 := T4
    clear hm T4
    go_upto_region 20 with fail
    go_loopw [17] (fun i wr => ∃ (j f : Nat) (σ : St), i = .int .i64 (j : Int) ∧ j + f = 1000 ∧ MidOk 0 f σ σ5 ∧ EAt b w σ wr) (fun i _ => 1000 - (intOf i).toNat)
    case atStart => exact ⟨0, 1000, _, rfl, rfl, HM.out, T5.out.alloc _⟩
    case round =>
      clear HM T5
      obtain ⟨j, f, σ, rfl, hjf, hm, T6⟩ := hrel
      have T6 := Lib.hid T6
      have j1 : ((j : Int) < 20000) = True := by simp; omega
      have j2 : decide ((j : Int) < 20000) = true := by simp; omega
      obtain rfl : σ = σ5 := by
        rcases hm with ⟨h, _⟩ | ⟨_, h⟩
        · exact absurd h (by decide)
        · exact h
      go_wp2_with (first | (go_at_call 31; refine (HD1.out _ (T6.out)).mono ?_; rintro e w9 ⟨vb, vm, vd, rfl, q⟩; have T7 := Lib.hid q; clear q T6) | (go_at_call 40; refine (HE.out _ (T7.out.alloc _)).mono ?_; rintro e w9 ⟨rfl, q⟩; have T8 := Lib.hid q; clear q T7) | (go_at_call 36; refine (HW1.out _ T8.out).mono ?_; rintro e w9 ⟨rb, ro, rc, rfl, q, qc⟩; have T9 := Lib.hid q; clear q T8) | (go_at_call 29; refine (HP.out _ T9.out).mono ?_; rintro e w10 ⟨av, acap, rfl, q1, q⟩; have T10 := Lib.hid q; have R10 := Lib.hid (own_row q1); clear q q1 T9) | (go_at_call 41; refine (same_pairs _ _ [(3, 40)] _ _ _ (Row.alloc' R10.out _) (row_new _ (pairCs [(3, 40)]) _ 1 2 rfl (by decide))).mono ?_; rintro e w11 ⟨rfl, q⟩; have T11 := Lib.hid ((T10.out.alloc _).below q); clear q T10) | (go_at_call 22; refine (HAW.out _).mono ?_; rintro e w12 ⟨rfl, q⟩; have T12 := Lib.hid (T11.out.below q); clear q T11))
      go_ret
      exact ⟨rfl, T12.out.toBelow⟩
  · have HM := Lib.hid hm
    clear hm
    have HIS : Hid (∀ w1, EAt b w σ4 w1 → Calls Tryz.prog 17 #[.pointer (some ⟨b, 0, none⟩), .int .i64 0, .agg #[.int .i64 6, .int .i64 0, .int .i64 0, .int .i64 0]] w1 (EB b w σa (.int .i64 0))) := fun w1 h => issue_at (s := 0) (o := ⟨6, 0, 0, 0⟩) h (by decide) ha
    have HPP : Hid (∀ w1, EAt b w σa w1 → Calls Tryz.prog 39 #[.pointer (some ⟨b, 0, none⟩), .int .i64 0] w1 (EB b w σb (.bool true))) := fun w1 h => prep_at (s := 0) h (by decide) (by decide : (1000 : Nat) ≤ _) hb
    clear ha hb
    rcases hz with rfl | rfl
    · go_upto_region 20 with (first | (go_at_call 17; refine (HIS.out _ (T4.out.alloc _)).mono ?_; rintro e w9 ⟨rfl, q⟩; have T4b := Lib.hid q; clear q T4) | (go_at_call 39; refine (HPP.out _ (T4b.out)).mono ?_; rintro e w9 ⟨rfl, q⟩; have T5 := Lib.hid q; clear q T4b))
      clear HIS HPP
      go_loopw [17] (fun i wr => ∃ (j f : Nat) (σ : St), i = .int .i64 (j : Int) ∧ j + f = 1000 ∧ MidOk 1 f σ σ5 ∧ EAt b w σ wr) (fun i _ => 1000 - (intOf i).toNat)
      case atStart => exact ⟨0, 1000, _, rfl, rfl, HM.out, T5.out⟩
      case round =>
        clear HM T5
        obtain ⟨j, f, σ, rfl, hjf, hm, T6⟩ := hrel
        have T6 := Lib.hid T6
        have j1 : ((j : Int) < 20000) = True := by simp; omega
        have j2 : decide ((j : Int) < 20000) = true := by simp; omega
        obtain rfl : σ = σ5 := by
          rcases hm with ⟨h, _⟩ | ⟨_, h⟩
          · exact absurd h (by decide)
          · exact h
        go_wp2_with (first | (go_at_call 31; refine (HD1.out _ (T6.out)).mono ?_; rintro e w9 ⟨vb, vm, vd, rfl, q⟩; have T7 := Lib.hid q; clear q T6) | (go_at_call 40; refine (HE.out _ (T7.out.alloc _)).mono ?_; rintro e w9 ⟨rfl, q⟩; have T8 := Lib.hid q; clear q T7) | (go_at_call 36; refine (HW1.out _ T8.out).mono ?_; rintro e w9 ⟨rb, ro, rc, rfl, q, qc⟩; have T9 := Lib.hid q; clear q T8) | (go_at_call 29; refine (HP.out _ T9.out).mono ?_; rintro e w10 ⟨av, acap, rfl, q1, q⟩; have T10 := Lib.hid q; have R10 := Lib.hid (own_row q1); clear q q1 T9) | (go_at_call 41; refine (same_pairs _ _ [(3, 40)] _ _ _ (Row.alloc' R10.out _) (row_new _ (pairCs [(3, 40)]) _ 1 2 rfl (by decide))).mono ?_; rintro e w11 ⟨rfl, q⟩; have T11 := Lib.hid ((T10.out.alloc _).below q); clear q T10) | (go_at_call 22; refine (HAW.out _).mono ?_; rintro e w12 ⟨rfl, q⟩; have T12 := Lib.hid (T11.out.below q); clear q T11))
        go_ret
        exact ⟨rfl, T12.out.toBelow⟩
    · go_upto_region 20 with (first | (go_at_call 17; refine (HIS.out _ (T4.out.alloc _)).mono ?_; rintro e w9 ⟨rfl, q⟩; have T4b := Lib.hid q; clear q T4) | (go_at_call 39; refine (HPP.out _ (T4b.out)).mono ?_; rintro e w9 ⟨rfl, q⟩; have T5 := Lib.hid q; clear q T4b))
      clear HIS HPP
      go_loopw [17] (fun i wr => ∃ (j f : Nat) (σ : St), i = .int .i64 (j : Int) ∧ j + f = 1000 ∧ MidOk 2 f σ σ5 ∧ EAt b w σ wr) (fun i _ => 1000 - (intOf i).toNat)
      case atStart => exact ⟨0, 1000, _, rfl, rfl, HM.out, T5.out⟩
      case round =>
        clear HM T5
        obtain ⟨j, f, σ, rfl, hjf, hm, T6⟩ := hrel
        have T6 := Lib.hid T6
        have j1 : ((j : Int) < 20000) = True := by simp; omega
        have j2 : decide ((j : Int) < 20000) = true := by simp; omega
        have hm : runLive 0 f σ = some σ5 := by
          rcases hm with ⟨_, h⟩ | ⟨h, _⟩
          · exact h
          · exact absurd rfl h
        cases f with
        | zero => cases hm
        | succ f =>
        have hst := stLive_at (b := b) (w0 := w) (σ := σ) 0 (by decide)
        rcases runLive_ok hm with ⟨hl, e1⟩ | ⟨hl, σ', kd, r, hstep, hnext⟩
        · rw [hl] at hst
          have HST := Lib.hid hst
          have HD1' : Hid (EAt b w σ wr → EAt b w σ5 wr) := by rw [e1]; exact fun h => h
          clear hst hm hl
          subst e1
          go_wp2_with (first | (go_at_call 18; refine (HST.out _ T6.out).mono ?_; rintro e w9 ⟨y1, y2, y3, y4, y5, y6, y7, y8, rfl, q⟩; have hf := fld_live (.bool false) y1 y2 y3 y4 y5 y6 y7 y8; have T6b := Lib.hid q; clear q T6) | (go_at_call 31; refine (HD1.out _ (T6b.out)).mono ?_; rintro e w9 ⟨vb, vm, vd, rfl, q⟩; have T7 := Lib.hid q; clear q T6b) | (go_at_call 40; refine (HE.out _ (T7.out.alloc _)).mono ?_; rintro e w9 ⟨rfl, q⟩; have T8 := Lib.hid q; clear q T7) | (go_at_call 36; refine (HW1.out _ T8.out).mono ?_; rintro e w9 ⟨rb, ro, rc, rfl, q, qc⟩; have T9 := Lib.hid q; clear q T8) | (go_at_call 29; refine (HP.out _ T9.out).mono ?_; rintro e w10 ⟨av, acap, rfl, q1, q⟩; have T10 := Lib.hid q; have R10 := Lib.hid (own_row q1); clear q q1 T9) | (go_at_call 41; refine (same_pairs _ _ [(3, 40)] _ _ _ (Row.alloc' R10.out _) (row_new _ (pairCs [(3, 40)]) _ 1 2 rfl (by decide))).mono ?_; rintro e w11 ⟨rfl, q⟩; have T11 := Lib.hid ((T10.out.alloc _).below q); clear q T10) | (go_at_call 22; refine (HAW.out _).mono ?_; rintro e w12 ⟨rfl, q⟩; have T12 := Lib.hid (T11.out.below q); clear q T11))
          go_ret
          exact ⟨rfl, T12.out.toBelow⟩
        · rw [hl] at hst
          have HST := Lib.hid hst
          have HSP : Hid (∀ w1, EAt b w σ w1 → Calls Tryz.prog 19 #[.pointer (some ⟨b, 0, none⟩), .int .i64 0] w1 fun e w' => ∃ va vn vc, e = .returned (.tuple #[.agg #[.int .i64 (kd : Int), .int .i64 (r.e : Int), .int .i64 (r.value : Int), .slice va vn vc, .int .i64 (r.over : Int), .int .i64 (r.reason : Int)], .int .i64 0]) ∧ EAt b w σ' w') := fun w1 h => by
            refine (step_at (s := 0) h (by decide) hstep).mono ?_
            rintro e w' ⟨A, va, vn, vc, rfl, _, e1, e2, e3⟩
            exact ⟨va, vn, vc, rfl, A, e1, e2, e3⟩
          have HX := Lib.hid (And.intro hjf hnext)
          have x4 : IntKind.i64.wrap ((j : Int) + 1) = (j : Int) + 1 := by rw [IntKind.wrap_i64]; omega
          clear hst hm hl hstep hnext
          go_wp2_with (first | (go_at_call 18; refine (HST.out _ T6.out).mono ?_; rintro e w9 ⟨y1, y2, y3, y4, y5, y6, y7, y8, rfl, q⟩; have hf := fld_live (.bool true) y1 y2 y3 y4 y5 y6 y7 y8; have T6b := Lib.hid q; clear q T6) | (go_at_call 19; refine (HSP.out _ T6b.out).mono ?_; rintro e w9 ⟨ua, un, uc, rfl, q⟩; have T7 := Lib.hid q; clear q T6b))
          exact ⟨⟨j + 1, f, σ', rfl, by have := HX.out.1; omega, .inl ⟨rfl, HX.out.2⟩, T7.out⟩, by have := HX.out.1; simp [intOf]; omega⟩
end Go.Proofs.YtdgombgcjeelpaaGreat.Em
