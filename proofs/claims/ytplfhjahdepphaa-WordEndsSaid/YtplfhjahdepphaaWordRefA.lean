/- Contracts of the document's answer for layer 1: links. -/
import Derived.Test.YtplfhjahdepphaaWordL
import Derived.Lib.Hide
import Derived.Deep.RegionWith
namespace Go.Proofs.Ytplfhjahdepphaa.Word
open Go.ChangeShapes Go.WideShapes Go.ChangeAt Go.RowKit
set_option linter.unusedVariables false

theorem rlink_yes (s t : Int) (h0 : 0 ≤ s) (h1 : s ≤ 65535) (h2 : 0 ≤ t) (h3 : t ≤ 65535) (w : World) : Calls Try.prog 26 #[.int .i64 s, .int .i64 t] w fun e w' => e = .returned (.tuple #[.int .u64 (t * 131072 + (s + 1)), .bool true]) ∧ w = w' := by
  have e1 := Bt.u64_link t (s + 1) h2 h3 (by omega) (by omega)
  go_enter Try.func26, Try.ntmps26
  go_wp2
  go_ret2
  exact ⟨rfl, rfl⟩

theorem rlink_no (s t : Int) (h : s < 0 ∨ 65535 < s ∨ t < 0 ∨ 65535 < t) (w : World) : Calls Try.prog 26 #[.int .i64 s, .int .i64 t] w fun e w' => e = .returned (.tuple #[.int .u64 0, .bool false]) ∧ w = w' := by
  by_cases h1 : s < 0
  · clear h
    go_enter Try.func26, Try.ntmps26
    go_wp2
    go_ret2
    exact ⟨rfl, rfl⟩
  · by_cases h2 : 65535 < s
    · clear h
      go_enter Try.func26, Try.ntmps26
      go_wp2
      go_ret2
      exact ⟨rfl, rfl⟩
    · by_cases h3 : t < 0
      · clear h
        go_enter Try.func26, Try.ntmps26
        go_wp2
        go_ret2
        exact ⟨rfl, rfl⟩
      · have h4 : 65535 < t := by omega
        clear h
        go_enter Try.func26, Try.ntmps26
        go_wp2
        go_ret2
        exact ⟨rfl, rfl⟩

theorem runlink_any (t : Int) (h0 : 0 ≤ t) (hu : t < 18446744073709551616) (w : World) : Calls Try.prog 27 #[.int .u64 t] w fun e w' => e = .returned (.tuple #[.int .i64 (t % 131072 - 1), .int .i64 (t / 131072 % 65536), .bool (t / 1099511627776 % 2 == 1)]) ∧ w = w' := by
  go_enter Try.func27, Try.ntmps27
  go_wp2
  go_ret3
  refine ⟨ret_iib ?_ ?_ ?_, rfl⟩
  · rw [Bt.u64_and131071, w64_id (t % 131072) (by omega) (by omega), w64_id _ (by omega) (by omega)]
  · rw [Bt.u64_and65535, w64_id _ (by omega) (by omega)]
  · rw [show bits .and .u64 (t / 1099511627776) 1 = t / 1099511627776 % 2 from Bt.and_mask_u64 _ 1 (by omega)]
end Go.Proofs.Ytplfhjahdepphaa.Word
