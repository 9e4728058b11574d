/- WordMarks: the walk: whatever numbers come in, the law answers true and writes nothing that was there. -/
import Derived.Test.YtplfhjahdepphaaWordL
import Derived.Lib.Hide
namespace Go.Proofs.Ytplfhjahdepphaa.Word
open Go.ChangeShapes Go.WideShapes Go.ChangeAt Go.RowKit

theorem marks_law (s t x : Int) (_hs : (Lit.int .i64 s).wf = true) (_ht : (Lit.int .i64 t).wf = true) (hx : (Lit.int .u64 x).wf = true) (w : World) : Calls Try.prog 4 #[.int .i64 s, .int .i64 t, .int .u64 x] w fun e w' => e = .returned (.bool true) ∧ Below w.heap.size w w' := by
  have hb : Below w.heap.size w w := Below.refl _ _
  obtain ⟨h0, h1⟩ := u64_bd hx
  have e1 := Bt.i64_and65535 s
  have e2 := Bt.i64_and65535 t
  obtain ⟨s', hs'⟩ : ∃ s', s % 65536 = s' := ⟨_, rfl⟩
  obtain ⟨t', ht'⟩ : ∃ t', t % 65536 = t' := ⟨_, rfl⟩
  have a1 : 0 ≤ s' := by omega
  have a2 : s' ≤ 65535 := by omega
  have a3 : 0 ≤ t' := by omega
  have a4 : t' ≤ 65535 := by omega
  rw [hs'] at e1
  rw [ht'] at e2
  clear hs' ht'
  obtain ⟨l, hl⟩ : ∃ l, t' * 131072 + (s' + 1) = l := ⟨_, rfl⟩
  have b1 : 0 ≤ l := by omega
  have b2 : l < 1099511627776 := by omega
  have b3 := (Bt.mk_bd l b1 (by omega)).1
  have b4 := (Bt.mk_bd l b1 (by omega)).2
  have c1 := (Bt.mk_bd x h0 h1).1
  have c2 := (Bt.mk_bd x h0 h1).2
  have c3 := (Bt.cl_bd x h0 h1).1
  have c4 := (Bt.cl_bd x h0 h1).2
  have U := fun w => unlink_at (Bt.mk l) s' t' true b3 b4 (by rw [Bt.mk_low l b1 b2]; omega) (by rw [Bt.mk_low l b1 b2]; omega) (by rw [Bt.mk_low l b1 b2, beq_iff_eq]; omega) w
  have HL := Lib.hid hl
  have HU := Lib.hid U
  have d1 : (Bt.mk l == l) = false := by rw [Bt.mk_low l b1 b2, beq_eq_false_iff_ne]; omega
  have d2 : ((Bt.mk x == x) = false ∧ (Bt.cl x == x) = true) ∨ ((Bt.mk x == x) = true ∧ (Bt.cl x == x) = false) := by
    have hq : x / 1099511627776 % 2 = 0 ∨ x / 1099511627776 % 2 = 1 := by omega
    unfold Bt.mk Bt.cl
    simp only [beq_iff_eq, beq_eq_false_iff_ne]
    omega
  have r1 := Bt.mk_mk l
  have r2 : Bt.cl (Bt.mk l) = l := by rw [Bt.cl_mk, Bt.cl_low l b1 b2]
  have r3 := Bt.cl_low l b1 b2
  have r4 := Bt.cl_mk x
  have r5 := Bt.mk_cl x
  clear hl U
  rcases d2 with ⟨d2, d3⟩ | ⟨d2, d3⟩
  all_goals
    go_enter Try.func4, Try.ntmps4
    go_wp2_with (first | (go_at_call 22; refine (link_at _ _ l HL.out (by omega) (by omega) (by omega) (by omega) _).mono ?_; rintro e w' ⟨rfl, rfl⟩) | (go_at_call 23; refine (mark_any _ (by omega) (by omega) _).mono ?_; rintro e w' ⟨rfl, rfl⟩) | (go_at_call 24; refine (HU.out _).mono ?_; rintro e w' ⟨rfl, rfl⟩) | (go_at_call 25; refine (clear_any _ (by omega) (by omega) _).mono ?_; rintro e w' ⟨rfl, rfl⟩) | (go_at_call 21; refine (awake_any _).mono ?_; rintro e w1 ⟨rfl, hq⟩; replace hb : Below w.heap.size w w1 := (by first | exact hb.trans (hq.mono hb.size) | exact (hb.alloc hb.size _).trans (hq.mono (by have hz := hb.size; simp; omega))); clear hq))
    go_ret
    exact ⟨rfl, hb⟩
end Go.Proofs.Ytplfhjahdepphaa.Word
