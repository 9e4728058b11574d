/- NamesNumbers: the walk: the table's numbers, two errors' texts. -/
import Derived.Test.YtplfhjahdepphaaDoorProg
import Derived.WalkKit
import Derived.ProofKit
import Derived.LoopTactic
import Derived.Lib.Hide
import Derived.Deep.QuietTactic
import Derived.BigQuiet
import Derived.ChangeOld
namespace Go.Proofs.YtplfhjahdepphaaDoor.Door
open Go.ChangeShapes Go.WideShapes Go.ChangeAt Go.RowKit
set_option linter.unusedVariables false
set_option linter.unusedSimpArgs false
set_option maxRecDepth 100000

theorem small_65 (w : World) : Calls Tryd.prog 9 #[.int .i64 65] w fun e w' => e = .returned (.string ⟨#[54, 53]⟩) ∧ w = w' := by
  go_enter Tryd.func9, Tryd.ntmps9
  go_wp2
  go_ret
  exact ⟨by rfl, rfl⟩
theorem small_0 (w : World) : Calls Tryd.prog 9 #[.int .i64 0] w fun e w' => e = .returned (.string ⟨#[48]⟩) ∧ w = w' := by
  go_enter Tryd.func9, Tryd.ntmps9
  go_wp2
  go_ret
  exact ⟨by rfl, rfl⟩
theorem fmt_65 (w : World) : Calls Tryd.prog 8 #[.int .i64 65, .int .i64 10] w fun e w' => e = .returned (.string ⟨#[54, 53]⟩) ∧ w = w' := by
  go_enter Tryd.func8, Tryd.ntmps8
  go_wp2_with (go_at_call 9; refine (small_65 _).mono ?_; rintro e w' ⟨rfl, rfl⟩)
  go_ret
  exact ⟨rfl, rfl⟩
theorem fmt_0 (w : World) : Calls Tryd.prog 8 #[.int .i64 0, .int .i64 10] w fun e w' => e = .returned (.string ⟨#[48]⟩) ∧ w = w' := by
  go_enter Tryd.func8, Tryd.ntmps8
  go_wp2_with (go_at_call 9; refine (small_0 _).mono ?_; rintro e w' ⟨rfl, rfl⟩)
  go_ret
  exact ⟨rfl, rfl⟩
theorem itoa_65 (w : World) : Calls Tryd.prog 6 #[.int .i64 65] w fun e w' => e = .returned (.string ⟨#[54, 53]⟩) ∧ w = w' := by
  go_enter Tryd.func6, Tryd.ntmps6
  go_wp2_with (first | (go_at_call 8; refine (fmt_65 _).mono ?_; rintro e w' ⟨rfl, rfl⟩) | go_in)
  go_ret
  exact ⟨rfl, rfl⟩
theorem itoa_0 (w : World) : Calls Tryd.prog 6 #[.int .i64 0] w fun e w' => e = .returned (.string ⟨#[48]⟩) ∧ w = w' := by
  go_enter Tryd.func6, Tryd.ntmps6
  go_wp2_with (first | (go_at_call 8; refine (fmt_0 _).mono ?_; rintro e w' ⟨rfl, rfl⟩) | go_in)
  go_ret
  exact ⟨rfl, rfl⟩
theorem error_65 (w : World) : Calls Tryd.prog 5 #[.int .i64 65] w fun e w' => e = .returned (.string ⟨#[101, 114, 114, 111, 114, 32, 54, 53]⟩) ∧ w = w' := by
  go_enter Tryd.func5, Tryd.ntmps5
  go_wp2_with (go_at_call 6; refine (itoa_65 _).mono ?_; rintro e w' ⟨rfl, rfl⟩)
  go_ret
  exact ⟨by rfl, rfl⟩
theorem error_0 (w : World) : Calls Tryd.prog 5 #[.int .i64 0] w fun e w' => e = .returned (.string ⟨#[101, 114, 114, 111, 114, 32, 48]⟩) ∧ w = w' := by
  go_enter Tryd.func5, Tryd.ntmps5
  go_wp2_with (go_at_call 6; refine (itoa_0 _).mono ?_; rintro e w' ⟨rfl, rfl⟩)
  go_ret
  exact ⟨by rfl, rfl⟩
end Go.Proofs.YtplfhjahdepphaaDoor.Door
