/- NamesNumbers: the walk: the law. -/
import Derived.Test.YtplfhjahdepphaaDoorLawA
import Derived.StillTailTactics
import Derived.WalkSmall
namespace Go.Proofs.YtplfhjahdepphaaDoor.Door
open Go.ChangeShapes Go.WideShapes Go.ChangeAt Go.RowKit
set_option linter.unusedVariables false
set_option linter.unusedSimpArgs false
set_option maxRecDepth 100000

set_option maxHeartbeats 2000000 in
theorem law (w : World) : Calls Tryd.prog 3 #[] w fun e w' => e = .returned (.bool true) ∧ Below w.heap.size w w' := by
  go_enter Tryd.func3, Tryd.ntmps3
  go_wp2_with fail
  refine (all_any _).mono ?_
  rintro z w1 ⟨rfl, rfl⟩
  have hb : Below w.heap.size w (w.alloc (.cells cellsT.toArray 25)) := (Below.refl _ _).alloc (Nat.le_refl _) _
  have hc : ∀ k, k < 83 → (w.alloc (.cells cellsT.toArray 25)).cell? ⟨w.heap.size, k * 2, none⟩ = some (.int .i64 (tab.getD k 0)) ∧ (w.alloc (.cells cellsT.toArray 25)).cell? ⟨w.heap.size, k * 2 + 1, none⟩ = some (.int .i64 (tab.getD k 0)) := by
    intro k hk
    obtain ⟨h1, h2⟩ := cells_at tab k hk
    rw [World.cell?_alloc_at _ _ _ _ rfl, World.cell?_alloc_at _ _ _ _ rfl]
    exact ⟨by unfold cellsT; simpa using h1, by unfold cellsT; simpa using h2⟩
  generalize w.alloc (.cells cellsT.toArray 25) = w1 at *
  obtain ⟨g, hg⟩ : ∃ g, w.heap.size = g := ⟨_, rfl⟩
  rw [hg] at hc
  have HC := Lib.hid hc
  clear hc
  try rw [hg]
  go_wp2_with fail
  go_loopw [2] (fun i wr => ∃ k q : Nat, k ≤ 83 ∧ i = .int .i64 (k : Int) ∧ wr = w1.drewN q) (fun i _ => 83 - (intOf i).toNat)
  case atStart => exact ⟨0, 0, by omega, rfl, rfl⟩
  case round =>
    obtain ⟨k, q, hk, rfl, rfl⟩ := hrel
    by_cases hlt : k < 83
    · obtain ⟨c1, c2⟩ := HC.out k hlt
      generalize tab.getD k 0 = x at c1 c2
      have i1 : (0 : Int) ≤ (k : Int) := by omega
      have i2 : (k : Int) < 83 := by omega
      go_wp2_with fail
      go_quiet (fail)
      go_wp2_with fail
      exact ⟨⟨k + 1, q + nq, by omega, by go_num, rfl⟩, by simp [intOf]; omega⟩
    · obtain rfl : k = 83 := by omega
      clear hlt HC
      have hb2 : Below w.heap.size w (w1.drewN q) := below_drewN hb q
      go_wp2_with fail
      refine (error_65 _).mono ?_
      rintro z w2 ⟨rfl, rfl⟩
      go_wp2_with fail
      refine (error_0 _).mono ?_
      rintro z w2 ⟨rfl, rfl⟩
      go_wp2_with fail
      go_ret
      exact ⟨rfl, hb2⟩
end Go.Proofs.YtplfhjahdepphaaDoor.Door
