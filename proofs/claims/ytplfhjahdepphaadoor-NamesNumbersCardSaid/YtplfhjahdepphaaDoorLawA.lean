/- NamesNumbers: the walk: the table's numbers are what the document says, and two errors' texts are. -/
import Derived.Test.YtplfhjahdepphaaDoorW
import Derived.Below
import Derived.Great.BuildSlice
namespace Go.Proofs.YtplfhjahdepphaaDoor.Door
open Go.ChangeShapes Go.WideShapes Go.ChangeAt Go.RowKit
set_option linter.unusedVariables false
set_option linter.unusedSimpArgs false
set_option maxRecDepth 100000

def tab : List Int := [0, 1, 2, 3, 7, 8, 9, 11, 12, 14, 15, 16, 17, 18, 65, 63, 65535, 256, 12, 2000, 8, 1, 2, 3, 1, 2, 3, 1, 2, 3, 4, 5, 1, 2, 3, 4, 1, 2, 3, 4, 1, 2, 3, 4, 5, 6, 7, 1, 2, 3, 4, 5, 6, 1, 2, 3, 4, 5, 6, 1, 2, 3, 1, 2, 3, 4, 5, 1, 2, 3, 4, 5, 6, 7, 8, 9, 10, 11, 12, 13, 14, 15, 16]
def cellsT : List Value := tab.flatMap fun n => [.int .i64 n, .int .i64 n]
theorem cells_at (l : List Int) : ∀ k, k < l.length → (l.flatMap fun n => [Value.int .i64 n, Value.int .i64 n])[k * 2]? = some (.int .i64 (l.getD k 0)) ∧ (l.flatMap fun n => [Value.int .i64 n, Value.int .i64 n])[k * 2 + 1]? = some (.int .i64 (l.getD k 0)) := by
  induction l with
  | nil => intro k h; simp at h
  | cons n l ih =>
    intro k h
    cases k with
    | zero => exact ⟨rfl, rfl⟩
    | succ k =>
      obtain ⟨h1, h2⟩ := ih k (by simpa using h)
      rw [List.flatMap_cons]
      refine ⟨?_, ?_⟩
      · rw [show (k + 1) * 2 = k * 2 + 1 + 1 by omega]
        simpa using h1
      · rw [show (k + 1) * 2 + 1 = k * 2 + 1 + 1 + 1 by omega]
        simpa using h2
set_option maxHeartbeats 4000000 in
theorem all_any (w : World) : Calls Tryd.prog 4 #[] w fun e w' => e = .returned (.slice (some ⟨w.heap.size, 0, none⟩) 83 83) ∧ w.alloc (.cells cellsT.toArray 25) = w' := by
  go_enter Tryd.func4, Tryd.ntmps4
  go_wp2_with fail
  rename_i hK
  refine Go.wp_buildSlice _ 25 83 _ rfl cellsT.toArray _ _ (by rfl) (by rfl) (by rfl) (by decide) (by decide) (by kernel_rfl) ?_
  refine hK _ _ ?_
  go_wp2_with fail
  go_ret
  exact ⟨rfl, rfl⟩

end Go.Proofs.YtplfhjahdepphaaDoor.Door
