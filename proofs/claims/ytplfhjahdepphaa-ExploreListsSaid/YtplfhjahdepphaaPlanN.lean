/- Contract of plan.put and of plan.Ok: any entry. -/
import Derived.Test.YtplfhjahdepphaaPlanM
namespace Go.Proofs.Ytplfhjahdepphaa.Plan
open Go.ChangeShapes Go.WideShapes Go.ChangeAt Go.RowKit
set_option linter.unusedVariables false
set_option linter.unusedSimpArgs false
set_option maxRecDepth 100000

/-- An entry's numbers are integers of the machine. -/
def I64 (e : En) : Prop := ∀ z ∈ [e.k, e.s, e.lv, e.ok, e.oy, e.oh, e.ov], -9223372036854775808 ≤ z ∧ z < 9223372036854775808

/-- What put answers where an entry may not be. -/
def PutBad (w : World) (z : Ending) (w' : World) : Prop := ∃ v, z = .returned (.tuple #[v, .bool false]) ∧ Below w.heap.size w w'
theorem PutNo.bad {w : World} {z : Ending} {w' : World} (h : PutNo w z w') : PutBad w z w' := ⟨_, h.1, h.2⟩
theorem PutYes.bad {w : World} {b : Bool} {b0 b1 b2 b3 b4 : Int} {z : Ending} {w' : World} (h : PutYes w b b0 b1 b2 b3 b4 z w') (hb : b = false) : PutBad w z w' := by
  obtain ⟨g, h1, _, _, h4, _⟩ := h
  subst hb
  exact ⟨_, h1, h4⟩

theorem inB_all {l : List Int} (h : l.all inB = true) : ∀ z ∈ l, 0 ≤ z ∧ z ≤ 255 := by
  intro z hz
  exact of_decide_eq_true (List.all_eq_true.1 h z hz)

theorem put_v (e : En) (h : V e) (w : World) : Calls Try.prog 58 #[enV e] w (PutYes w true (c0 e) e.s (c2 e) e.oy (c4 e)) := by
  have ha := h.again
  have hb := h.bytes
  obtain ⟨k, s, lv, ok, oy, oh, ov⟩ := e
  unfold V at h
  unfold c0 c2 c4 at ha hb ⊢
  simp only at h ha hb ⊢
  by_cases hk : k = 2
  · subst hk
    rw [if_pos rfl, if_pos rfl] at ha hb ⊢
    by_cases ho : ok = 5
    · subst ho
      rw [if_pos rfl] at ha hb ⊢
      have := put_yes_scan s lv oy oh ov (by omega) (by omega) (by omega) (by omega) (by omega) (by omega) (by omega) (by omega) w
      have hq : eqB (enE 1 s 40 oy oh) ⟨2, s, lv, 5, oy, oh, ov⟩ = true := (eqB_iff _ _).2 ha
      rw [hq] at this
      exact this
    · rw [if_neg ho] at ha hb ⊢
      have := put_yes_two s lv ok oy oh ov (beq_eq_false_iff_ne.2 ho) (by omega) (by omega) (by omega) (by omega) (by omega) (by omega) (by omega) (by omega) (by omega) (by omega) w
      have hq : eqB (enE 1 s (ok * 8) oy ov) ⟨2, s, lv, ok, oy, oh, ov⟩ = true := (eqB_iff _ _).2 ha
      rw [hq] at this
      exact this
  · rw [if_neg hk, if_neg hk] at ha hb ⊢
    have := put_yes_other k s lv ok oy oh ov (beq_eq_false_iff_ne.2 hk) (by simp; omega) (by omega) (by omega) (by omega) (by omega) (by omega) (by omega) (by omega) (by omega) (by omega) (by omega) w
    rwa [(eqB_iff _ _).2 ha] at this

theorem not_again {e : En} (h : ¬ V e) (h5 : e.k ≠ 5) (hs : 0 ≤ e.s) (h2 : 0 ≤ c2 e ∧ c2 e ≤ 255) (h3 : 0 ≤ e.oy ∧ e.oy ≤ 255) (h4 : 0 ≤ c4 e ∧ c4 e ≤ 255) : eqB (enE (c0 e) e.s (c2 e) e.oy (c4 e)) e = false := by
  cases hq : eqB (enE (c0 e) e.s (c2 e) e.oy (c4 e)) e
  · rfl
  · exact absurd (V.of_prog h5 hs h2 h3 h4 ((eqB_iff _ _).1 hq)) h

theorem put_nv (e : En) (h : ¬ V e) (hi : I64 e) (w : World) : Calls Try.prog 58 #[enV e] w (PutBad w) := by
  have hn := not_again h
  obtain ⟨k, s, lv, ok, oy, oh, ov⟩ := e
  have ik : -9223372036854775808 ≤ k ∧ k < 9223372036854775808 := hi k (by simp)
  have io : -9223372036854775808 ≤ ok ∧ ok < 9223372036854775808 := hi ok (by simp)
  clear h hi
  unfold c0 c2 c4 at hn
  simp only at hn
  by_cases hk : k = 2
  · subst hk
    rw [if_pos rfl, if_pos rfl] at hn
    by_cases ho : ok = 5
    · subst ho
      rw [if_pos rfl] at hn
      cases hz : [1, s, lv, 5, 40, oy, oh].all inB
      · exact (put_no_scan s lv oy oh ov hz w).mono fun _ _ h => h.bad
      · have q := inB_all hz
        have q1 := q s (by simp)
        have q2 := q lv (by simp)
        have q3 := q oy (by simp)
        have q4 := q oh (by simp)
        exact (put_yes_scan s lv oy oh ov q1.1 q1.2 q2.1 q2.2 q3.1 q3.2 q4.1 q4.2 w).mono fun _ _ h => h.bad (hn (by omega) q1.1 (by omega) q3 q4)
    · rw [if_neg ho] at hn
      cases hz : [1, s, lv, ok, wrap64 (ok * 8), oy, ov].all inB
      · exact (put_no_two s lv ok oy oh ov (beq_eq_false_iff_ne.2 ho) hz w).mono fun _ _ h => h.bad
      · have q := inB_all hz
        have q1 := q s (by simp)
        have q2 := q lv (by simp)
        have q3 := q oy (by simp)
        have q4 := q ov (by simp)
        have q5 := q ok (by simp)
        have q6 := q (wrap64 (ok * 8)) (by simp)
        have q7 : ok * 8 ≤ 255 := by unfold wrap64 at q6; omega
        exact (put_yes_two s lv ok oy oh ov (beq_eq_false_iff_ne.2 ho) q1.1 q1.2 q2.1 q2.2 q5.1 q7 q3.1 q3.2 q4.1 q4.2 w).mono fun _ _ h => h.bad (hn (by omega) q1.1 (by omega) q3 q4)
  · rw [if_neg hk, if_neg hk] at hn
    cases hz : [wrap64 (k - 1), s, lv, ok, lv, oy, 0].all inB
    · exact (put_no_other k s lv ok oy oh ov (beq_eq_false_iff_ne.2 hk) hz w).mono fun _ _ h => h.bad
    · have q := inB_all hz
      have q1 := q s (by simp)
      have q2 := q lv (by simp)
      have q3 := q oy (by simp)
      have q5 := q ok (by simp)
      have q6 := q (wrap64 (k - 1)) (by simp)
      have q7 : 1 ≤ k ∧ k ≤ 256 := by unfold wrap64 at q6; omega
      by_cases h5 : k = 5
      · subst h5
        exact (put_yes_bad s lv ok oy oh ov q1.1 q1.2 q2.1 q2.2 q5.1 q5.2 q3.1 q3.2 w).mono fun _ _ h => h.bad rfl
      · exact (put_yes_other k s lv ok oy oh ov (beq_eq_false_iff_ne.2 hk) (by simp; omega) q7.1 q7.2 q1.1 q1.2 q2.1 q2.2 q5.1 q5.2 q3.1 q3.2 w).mono fun _ _ h => h.bad (hn h5 q1.1 q2 q3 (by omega))

theorem ok_v (e : En) (h : V e) (w : World) : Calls Try.prog 46 #[enV e] w fun z w' => z = .returned (.bool true) ∧ Below w.heap.size w w' := by
  have HP := Lib.hid (fun w => put_v e h w)
  clear h
  generalize c0 e = b0 at *
  generalize c2 e = b2 at *
  generalize c4 e = b4 at *
  obtain ⟨k, s, lv, ok, oy, oh, ov⟩ := e
  go_enter Try.func46, Try.ntmps46
  go_wp2_with fail
  refine (HP.out _).mono ?_
  rintro z w1 ⟨g, rfl, hg, hg', hq, x0, x1, x2, x3, x4⟩
  have hb : Below w.heap.size w w1 := (below_allocs1 w _).trans (hq.mono (by simp))
  clear HP hq
  go_wp2_with fail
  go_ret
  exact ⟨rfl, hb⟩
theorem ok_nv (e : En) (h : ¬ V e) (hi : I64 e) (w : World) : Calls Try.prog 46 #[enV e] w fun z w' => z = .returned (.bool false) ∧ Below w.heap.size w w' := by
  have HP := Lib.hid (fun w => put_nv e h hi w)
  clear h hi
  obtain ⟨k, s, lv, ok, oy, oh, ov⟩ := e
  go_enter Try.func46, Try.ntmps46
  go_wp2_with fail
  refine (HP.out _).mono ?_
  rintro z w1 ⟨v, rfl, hq⟩
  have hb : Below w.heap.size w w1 := (below_allocs1 w _).trans (hq.mono (by simp))
  clear HP hq
  go_wp2_with fail
  go_ret
  exact ⟨rfl, hb⟩
end Go.Proofs.Ytplfhjahdepphaa.Plan
