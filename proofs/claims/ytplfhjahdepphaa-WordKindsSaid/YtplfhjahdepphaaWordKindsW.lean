/- WordKinds: the walk: whatever word comes in, the law answers true and writes nothing that was there. -/
import Derived.Test.YtplfhjahdepphaaWordL
namespace Go.Proofs.Ytplfhjahdepphaa.Word
open Go.ChangeShapes Go.WideShapes Go.ChangeAt Go.RowKit

theorem kinds_walk (t : Int) (h0 : 0 ≤ t) (hu : t < 18446744073709551616) (w : World) : Calls Try.prog 3 #[.int .u64 t] w fun e w' => e = .returned (.bool true) ∧ Below w.heap.size w w' := by
  have hb : Below w.heap.size w w := Below.refl _ _
  by_cases h1 : t ≤ 1099511627776
  · have k1 : rdK t = 1 := by unfold rdK; rw [if_pos h1]
    have k2 : rdN t = t := by unfold rdN; rw [if_pos h1]
    have k3 : (t == 2305843009213693952) = false := beq_eq_false_iff_ne.2 (by omega)
    go_enter Try.func3, Try.ntmps3
    go_wp2_with (first | (go_at_call 18; refine (read_any _ (by omega) (by omega) _).mono ?_; rintro e w1 ⟨rfl, hq⟩; replace hb : Below w.heap.size w w1 := (by first | exact hb.trans (hq.mono hb.size) | exact (hb.alloc hb.size _).trans (hq.mono (by have hz := hb.size; simp; omega))); clear hq) | (go_at_call 19; refine (forever_any _).mono ?_; rintro e w' ⟨rfl, rfl⟩) | (go_at_call 21; refine (awake_any _).mono ?_; rintro e w1 ⟨rfl, hq⟩; replace hb : Below w.heap.size w w1 := (by first | exact hb.trans (hq.mono hb.size) | exact (hb.alloc hb.size _).trans (hq.mono (by have hz := hb.size; simp; omega))); clear hq))
    go_ret
    exact ⟨rfl, hb⟩
  · by_cases h2 : t = 2305843009213693952
    · subst h2
      clear h1
      have k1 : rdK 2305843009213693952 = 3 := rfl
      have k2 : rdN 2305843009213693952 = 0 := rfl
      go_enter Try.func3, Try.ntmps3
      go_wp2_with (first | (go_at_call 18; refine (read_any _ (by omega) (by omega) _).mono ?_; rintro e w1 ⟨rfl, hq⟩; replace hb : Below w.heap.size w w1 := (by first | exact hb.trans (hq.mono hb.size) | exact (hb.alloc hb.size _).trans (hq.mono (by have hz := hb.size; simp; omega))); clear hq) | (go_at_call 19; refine (forever_any _).mono ?_; rintro e w' ⟨rfl, rfl⟩) | (go_at_call 21; refine (awake_any _).mono ?_; rintro e w1 ⟨rfl, hq⟩; replace hb : Below w.heap.size w w1 := (by first | exact hb.trans (hq.mono hb.size) | exact (hb.alloc hb.size _).trans (hq.mono (by have hz := hb.size; simp; omega))); clear hq))
      go_ret
      exact ⟨rfl, hb⟩
    · have k3 : (t == 2305843009213693952) = false := beq_eq_false_iff_ne.2 (by omega)
      by_cases h3 : 4611686018427387904 < t ∧ t ≤ 4611686018427453439
      · have k1 : rdK t = 2 := by unfold rdK; rw [if_neg h1, if_neg h2, if_pos h3]
        have k2 : rdN t = t - 4611686018427387904 := by unfold rdN; rw [if_neg h1, if_pos h3]
        obtain ⟨h3, h4⟩ := h3
        clear h2
        have k4 : 4611686018427387904 + (t - 4611686018427387904) = t := by omega
        go_enter Try.func3, Try.ntmps3
        go_wp2_with (first | (go_at_call 18; refine (read_any _ (by omega) (by omega) _).mono ?_; rintro e w1 ⟨rfl, hq⟩; replace hb : Below w.heap.size w w1 := (by first | exact hb.trans (hq.mono hb.size) | exact (hb.alloc hb.size _).trans (hq.mono (by have hz := hb.size; simp; omega))); clear hq) | (go_at_call 19; refine (forever_any _).mono ?_; rintro e w' ⟨rfl, rfl⟩) | (go_at_call 21; refine (awake_any _).mono ?_; rintro e w1 ⟨rfl, hq⟩; replace hb : Below w.heap.size w w1 := (by first | exact hb.trans (hq.mono hb.size) | exact (hb.alloc hb.size _).trans (hq.mono (by have hz := hb.size; simp; omega))); clear hq) | (go_at_call 20; refine (txn_yes _ (by omega) (by omega) _).mono ?_; rintro e w' ⟨rfl, rfl⟩))
        go_ret
        exact ⟨rfl, hb⟩
      · have k1 : rdK t = 0 := by unfold rdK; rw [if_neg h1, if_neg h2, if_neg h3]
        have k2 : rdN t = 0 := by unfold rdN; rw [if_neg h1, if_neg h3]
        clear h2 h3
        go_enter Try.func3, Try.ntmps3
        go_wp2_with (first | (go_at_call 18; refine (read_any _ (by omega) (by omega) _).mono ?_; rintro e w1 ⟨rfl, hq⟩; replace hb : Below w.heap.size w w1 := (by first | exact hb.trans (hq.mono hb.size) | exact (hb.alloc hb.size _).trans (hq.mono (by have hz := hb.size; simp; omega))); clear hq) | (go_at_call 19; refine (forever_any _).mono ?_; rintro e w' ⟨rfl, rfl⟩) | (go_at_call 21; refine (awake_any _).mono ?_; rintro e w1 ⟨rfl, hq⟩; replace hb : Below w.heap.size w w1 := (by first | exact hb.trans (hq.mono hb.size) | exact (hb.alloc hb.size _).trans (hq.mono (by have hz := hb.size; simp; omega))); clear hq))
        go_ret
        exact ⟨rfl, hb⟩
theorem kinds_law (t : Int) (h : (Lit.int .u64 t).wf = true) (w : World) : Calls Try.prog 3 #[.int .u64 t] w fun e w' => e = .returned (.bool true) ∧ Below w.heap.size w w' :=
  kinds_walk t (u64_bd h).1 (u64_bd h).2 w
end Go.Proofs.Ytplfhjahdepphaa.Word
