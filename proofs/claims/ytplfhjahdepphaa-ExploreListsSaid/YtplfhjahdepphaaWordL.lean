/- The layer's waking test, and bounds of a 64-bit number. -/
import Derived.Test.YtplfhjahdepphaaWordA
import Derived.Deep.QuietTactic
import Derived.BigQuiet
import Derived.RegionTactic
import Derived.ChangeAlike
namespace Go.Proofs.Ytplfhjahdepphaa.Word
open Go.ChangeShapes Go.WideShapes Go.ChangeAt Go.RowKit

theorem awake_any (w : World) : Calls Try.prog 21 #[] w fun e w' => e = .returned (.bool true) ∧ Below w.heap.size w w' := by
  have hb : Below w.heap.size w w := Below.refl _ _
  go_enter Try.func21, Try.ntmps21
  go_wp2_with (first | (go_at_call 20; refine (txn_yes _ (by omega) (by omega) _).mono ?_; rintro e w' ⟨rfl, rfl⟩) | (go_at_call 22; refine (link_yes _ _ (by omega) (by omega) (by omega) (by omega) _).mono ?_; rintro e w' ⟨rfl, rfl⟩) | (go_at_call 24; refine (unlink_any _ (by omega) (by omega) _).mono ?_; rintro e w' ⟨rfl, rfl⟩) | (go_at_call 19; refine (forever_any _).mono ?_; rintro e w' ⟨rfl, rfl⟩) | (go_at_call 18; refine (read_any _ (by omega) (by omega) _).mono ?_; rintro e w1 ⟨rfl, hq⟩; replace hb : Below w.heap.size w w1 := (by first | exact hb.trans (hq.mono hb.size) | exact (hb.alloc hb.size _).trans (hq.mono (by have hz := hb.size; simp; omega))); clear hq))
  go_ret
  exact ⟨rfl, hb⟩

theorem u64_bd {t : Int} (h : (Lit.int .u64 t).wf = true) : 0 ≤ t ∧ t < 18446744073709551616 := by
  have := bounds_u64 h
  omega

theorem link_at (s t l : Int) (hl : t * 131072 + (s + 1) = l) (h0 : 0 ≤ s) (h1 : s ≤ 65535) (h2 : 0 ≤ t) (h3 : t ≤ 65535) (w : World) : Calls Try.prog 22 #[.int .i64 s, .int .i64 t] w fun e w' => e = .returned (.tuple #[.int .u64 l, .bool true]) ∧ w = w' := by
  subst hl; exact link_yes s t h0 h1 h2 h3 w
theorem unlink_at (x a b : Int) (c : Bool) (h0 : 0 ≤ x) (hu : x < 18446744073709551616) (ha : x % 131072 - 1 = a) (hb : x / 131072 % 65536 = b) (hc : (x / 1099511627776 % 2 == 1) = c) (w : World) : Calls Try.prog 24 #[.int .u64 x] w fun e w' => e = .returned (.tuple #[.int .i64 a, .int .i64 b, .bool c]) ∧ w = w' := by
  subst ha hb hc; exact unlink_any x h0 hu w
end Go.Proofs.Ytplfhjahdepphaa.Word
