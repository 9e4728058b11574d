/- Contract of the document's Ok of an entry. -/
import Derived.Test.YtplfhjahdepphaaPlanI
import Derived.Test.YtplfhjahdepphaaPlanDecodesW
namespace Go.Proofs.Ytplfhjahdepphaa.Plan
open Go.ChangeShapes Go.WideShapes Go.ChangeAt Go.RowKit
set_option linter.unusedVariables false
set_option linter.unusedSimpArgs false
set_option maxRecDepth 100000

/-- Two entries have the same fields. -/
def eqB (a b : En) : Bool := a.k == b.k && (a.s == b.s && (a.lv == b.lv && (a.ok == b.ok && (a.oy == b.oy && (a.oh == b.oh && a.ov == b.ov)))))
theorem eqB_iff (a b : En) : eqB a b = true ↔ a = b := by
  unfold eqB
  simp only [Bool.and_eq_true, beq_iff_eq]
  constructor
  · rintro ⟨h1, h2, h3, h4, h5, h6, h7⟩; exact en_eq h1 h2 h3 h4 h5 h6 h7
  · rintro rfl; simp

theorem ret_b {a b : Bool} (h : a = b) : Ending.returned (.bool a) = .returned (.bool b) := by rw [h]
theorem r_bd (e : En) : (0 ≤ r2 e ∧ r2 e < 256) ∧ (0 ≤ r3 e ∧ r3 e < 256) ∧ (0 ≤ r4 e ∧ r4 e < 256) := by
  refine ⟨?_, ?_, ?_⟩
  · unfold r2; split <;> (try split) <;> omega
  · unfold r3; split <;> omega
  · unfold r4; split <;> (try split) <;> omega

set_option maxHeartbeats 1000000 in
theorem rok_core (e x : En) (w : World) (hx : enE ((e.k - 1) % 256) (e.s % 256) (r2 e) (r3 e) (r4 e) = x) :
    Calls Try.prog 44 #[enV e] w fun z w' => z = .returned (.bool (eqB x e && e.k != 5)) ∧ Below w.heap.size w w' := by
  have hr := r_bd e
  have HB := Lib.hid (fun w => rbytes_any e w)
  have HO := Lib.hid (fun g w h0 h1 h2 h3 h4 => rone_any g 0 5 5 (by omega) (by omega) ((e.k - 1) % 256) (e.s % 256) (r2 e) (r3 e) (r4 e) (by omega) (by omega) (by omega) (by omega) hr.1.1 hr.1.2 hr.2.1.1 hr.2.1.2 hr.2.2.1 hr.2.2.2 w h0 h1 h2 h3 h4)
  rw [hx] at HO
  clear hx hr
  obtain ⟨k, s, lv, ok, oy, oh, ov⟩ := e
  obtain ⟨xk, xs, xlv, xok, xoy, xoh, xov⟩ := x
  go_enter Try.func44, Try.ntmps44
  go_wp2_with fail
  have f1 := At7.new w ⟨k, s, lv, ok, oy, oh, ov⟩ 47 _ rfl
  simp only [cellsE] at f1
  have hb1 : Below w.heap.size w (w.alloc (.cells #[.int .i64 k, .int .i64 s, .int .i64 lv, .int .i64 ok, .int .i64 oy, .int .i64 oh, .int .i64 ov] 47)) := below_allocs1 _ _
  generalize w.alloc (.cells #[.int .i64 k, .int .i64 s, .int .i64 lv, .int .i64 ok, .int .i64 oy, .int .i64 oh, .int .i64 ov] 47) = A1 at *
  generalize hg1 : w.heap.size = g1 at *
  have HG := Lib.hid hg1
  clear hg1
  refine (HB.out _).mono ?_
  rintro z w1 ⟨g, rfl, hg, hg', hq, b0, b1, b2, b3, b4⟩
  have f2 := f1.below hq
  have hb2 := hb1.trans (hq.mono (Nat.le_of_lt f1.1))
  go_wp2_with fail
  refine (HO.out g _ b0 b1 b2 b3 b4).mono ?_
  rintro z w2 ⟨rfl, hq2⟩
  have f3 := f2.below hq2
  have hb3 := hb2.trans (hq2.mono (Nat.le_of_lt f2.1))
  have l := f3.1
  obtain ⟨x0, x1, x2, x3, x4, x5, x6⟩ := f3.cells
  clear f1 f2 f3 hb1 hb2 hq hq2 hg hg' b0 b1 b2 b3 b4 HB HO
  go_wp2_with fail
  all_goals
    go_ret
    refine ⟨ret_b ?_, by rw [HG.out]; exact hb3.alloc (Nat.le_of_lt l) _⟩
    simp [eqB, *]

/-- The document's Ok: whether an entry may be. -/
theorem rok_any (e : En) (w : World) :
    ∃ b : Bool, (b = true ↔ V e) ∧ Calls Try.prog 44 #[enV e] w fun z w' => z = .returned (.bool b) ∧ Below w.heap.size w w' := by
  refine ⟨_, ?_, rok_core e _ w rfl⟩
  simp only [Bool.and_eq_true, eqB_iff, bne_iff_ne]
  constructor
  · rintro ⟨h1, h2⟩; exact V.of_ref h2 h1
  · intro h
    obtain ⟨h1, h2, h3, h4, h5⟩ := h.ref
    refine ⟨by rw [h1, h2, h3, h4, h5]; exact h.again, ?_⟩
    rcases h with ⟨_, _, h | h | h | h⟩ <;> omega
end Go.Proofs.Ytplfhjahdepphaa.Plan
