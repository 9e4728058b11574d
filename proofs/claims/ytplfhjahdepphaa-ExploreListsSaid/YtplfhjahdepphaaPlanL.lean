/- Contract of plan.put: an entry whose numbers fit into bytes. -/
import Derived.Test.YtplfhjahdepphaaPlanK2
namespace Go.Proofs.Ytplfhjahdepphaa.Plan
open Go.ChangeShapes Go.WideShapes Go.ChangeAt Go.RowKit
set_option linter.unusedVariables false
set_option linter.unusedSimpArgs false
set_option maxRecDepth 100000

theorem keep7 {w w1 : World} {g : Nat} {a0 a1 a2 a3 a4 a5 a6 : Int} (h : g < w.heap.size ∧ w.cell? ⟨g, 0, none⟩ = some (.int .i64 a0) ∧ w.cell? ⟨g, 1, none⟩ = some (.int .i64 a1) ∧ w.cell? ⟨g, 2, none⟩ = some (.int .i64 a2) ∧ w.cell? ⟨g, 3, none⟩ = some (.int .i64 a3) ∧ w.cell? ⟨g, 4, none⟩ = some (.int .i64 a4) ∧ w.cell? ⟨g, 5, none⟩ = some (.int .i64 a5) ∧ w.cell? ⟨g, 6, none⟩ = some (.int .i64 a6)) (hq : Below w.heap.size w w1) : g < w1.heap.size ∧ w1.cell? ⟨g, 0, none⟩ = some (.int .i64 a0) ∧ w1.cell? ⟨g, 1, none⟩ = some (.int .i64 a1) ∧ w1.cell? ⟨g, 2, none⟩ = some (.int .i64 a2) ∧ w1.cell? ⟨g, 3, none⟩ = some (.int .i64 a3) ∧ w1.cell? ⟨g, 4, none⟩ = some (.int .i64 a4) ∧ w1.cell? ⟨g, 5, none⟩ = some (.int .i64 a5) ∧ w1.cell? ⟨g, 6, none⟩ = some (.int .i64 a6) := by
  obtain ⟨h, h0, h1, h2, h3, h4, h5, h6⟩ := h
  exact ⟨Nat.lt_of_lt_of_le h hq.size, (hq.cell (p := ⟨g, 0, none⟩) h).trans h0, (hq.cell (p := ⟨g, 1, none⟩) h).trans h1, (hq.cell (p := ⟨g, 2, none⟩) h).trans h2, (hq.cell (p := ⟨g, 3, none⟩) h).trans h3, (hq.cell (p := ⟨g, 4, none⟩) h).trans h4, (hq.cell (p := ⟨g, 5, none⟩) h).trans h5, (hq.cell (p := ⟨g, 6, none⟩) h).trans h6⟩

/-- What put answers where all fits: five bytes, and whether they tell the entry. -/
def PutYes (w : World) (b : Bool) (b0 b1 b2 b3 b4 : Int) (z : Ending) (w' : World) : Prop :=
  ∃ g, z = .returned (.tuple #[.slice (some ⟨g, 0, none⟩) 5 5, .bool b]) ∧ w.heap.size ≤ g ∧ g < w'.heap.size ∧ Below w.heap.size w w' ∧
    w'.cell? ⟨g, 0, none⟩ = some (.int .u8 b0) ∧ w'.cell? ⟨g, 1, none⟩ = some (.int .u8 b1) ∧ w'.cell? ⟨g, 2, none⟩ = some (.int .u8 b2) ∧ w'.cell? ⟨g, 3, none⟩ = some (.int .u8 b3) ∧ w'.cell? ⟨g, 4, none⟩ = some (.int .u8 b4)

set_option maxHeartbeats 2000000 in
theorem put_yes_other (k s lv ok oy oh ov : Int) (hk : (k == 2) = false) (h5 : (k != 5) = true) (k1 : 1 ≤ k) (k2 : k ≤ 256) (s1 : 0 ≤ s) (s2 : s ≤ 255) (l1 : 0 ≤ lv) (l2 : lv ≤ 255) (o1 : 0 ≤ ok) (o2 : ok ≤ 255) (y1 : 0 ≤ oy) (y2 : oy ≤ 255) (w : World) :
    Calls Try.prog 58 #[enV ⟨k, s, lv, ok, oy, oh, ov⟩] w (PutYes w (eqB (enE (k - 1) (s) (lv) (oy) (0)) ⟨k, s, lv, ok, oy, oh, ov⟩) (k - 1) (s) (lv) (oy) (0)) := by
  have HL := Lib.hid (fun g W h => low_any g 0 7 [k - 1, s, lv, ok, lv, oy, 0] (by simp) W h)
  have HZ : Hid ([k - 1, s, lv, ok, lv, oy, 0].all inB = true) := by simp [RowKit.Hid, inB]; omega
  have HE := Lib.hid (fun W h0 h1 h2 h3 h4 => entry_any (w.heap.size + 1 + 1) 0 5 5 (by omega) (k - 1) (s) (lv) (oy) (0) (by omega) (by omega) (by omega) (by omega) (by omega) (by omega) (by omega) (by omega) (by omega) (by omega) W h0 h1 h2 h3 h4)
  generalize (enE (k - 1) (s) (lv) (oy) (0)) = X at *
  obtain ⟨xk, xs, xlv, xok, xoy, xoh, xov⟩ := X
  go_enter Try.func58, Try.ntmps58
  go_wp2_with fail
  go_quiet (fail)
  go_wp2_with fail
  refine (HL.out _ _ ?_).mono ?_
  · intro i hi
    match i, hi with
    | 0, _ => go_simp
    | 1, _ => go_simp
    | 2, _ => go_simp
    | 3, _ => go_simp
    | 4, _ => go_simp
    | 5, _ => go_simp
    | 6, _ => go_simp
  rintro z w' ⟨rfl, rfl⟩
  rw [HZ.out]
  go_wp2_with fail
  obtain ⟨W, hW, fe, fb, hb⟩ : ∃ W, W = (((w.alloc (.cells #[.int .i64 k, .int .i64 s, .int .i64 lv, .int .i64 ok, .int .i64 oy, .int .i64 oh, .int .i64 ov] 47)).drewN nq).alloc (.cells #[.int .i64 (k - 1), .int .i64 s, .int .i64 lv, .int .i64 ok, .int .i64 lv, .int .i64 oy, .int .i64 0] 3)).alloc (.cells #[.int .u8 (k - 1), .int .u8 s, .int .u8 lv, .int .u8 oy, .int .u8 0] 5) ∧
      (w.heap.size < W.heap.size ∧ W.cell? ⟨w.heap.size, 0, none⟩ = some (.int .i64 k) ∧ W.cell? ⟨w.heap.size, 1, none⟩ = some (.int .i64 s) ∧ W.cell? ⟨w.heap.size, 2, none⟩ = some (.int .i64 lv) ∧ W.cell? ⟨w.heap.size, 3, none⟩ = some (.int .i64 ok) ∧ W.cell? ⟨w.heap.size, 4, none⟩ = some (.int .i64 oy) ∧ W.cell? ⟨w.heap.size, 5, none⟩ = some (.int .i64 oh) ∧ W.cell? ⟨w.heap.size, 6, none⟩ = some (.int .i64 ov)) ∧
      (w.heap.size + 1 + 1 < W.heap.size ∧ W.cell? ⟨w.heap.size + 1 + 1, 0, none⟩ = some (.int .u8 (k - 1)) ∧ W.cell? ⟨w.heap.size + 1 + 1, 1, none⟩ = some (.int .u8 s) ∧ W.cell? ⟨w.heap.size + 1 + 1, 2, none⟩ = some (.int .u8 lv) ∧ W.cell? ⟨w.heap.size + 1 + 1, 3, none⟩ = some (.int .u8 oy) ∧ W.cell? ⟨w.heap.size + 1 + 1, 4, none⟩ = some (.int .u8 0)) ∧ Below w.heap.size w W :=
    ⟨_, rfl, ⟨by simp; omega, by go_simp, by go_simp, by go_simp, by go_simp, by go_simp, by go_simp, by go_simp⟩, ⟨by simp, by go_simp, by go_simp, by go_simp, by go_simp, by go_simp⟩, by (repeat (first | (with_reducible exact Below.refl _ _) | ((with_reducible refine Below.setCell ?_ ?_ _); rotate_left; focus (first | (simp; done) | (simp; omega))) | (with_reducible refine below_drewN ?_ _) | (with_reducible refine Below.drew ?_) | ((with_reducible refine Below.alloc ?_ ?_ _); rotate_left; focus (first | (simp; done) | (simp; omega)))))⟩
  rw [← hW]
  clear hW HL HZ
  obtain ⟨l0, x0, x1, x2, x3, x4, x5, x6⟩ := fe
  have hcmp := run_eqE xk xs xlv xok xoy xoh xov k s lv ok oy oh ov
  go_region_held3 (fun w' => w.heap.size < w'.heap.size ∧ w'.cell? ⟨w.heap.size, 0, none⟩ = some (.int .i64 k) ∧ w'.cell? ⟨w.heap.size, 1, none⟩ = some (.int .i64 s) ∧ w'.cell? ⟨w.heap.size, 2, none⟩ = some (.int .i64 lv) ∧ w'.cell? ⟨w.heap.size, 3, none⟩ = some (.int .i64 ok) ∧ w'.cell? ⟨w.heap.size, 4, none⟩ = some (.int .i64 oy) ∧ w'.cell? ⟨w.heap.size, 5, none⟩ = some (.int .i64 oh) ∧ w'.cell? ⟨w.heap.size, 6, none⟩ = some (.int .i64 ov)) (first | exact ⟨l0, x0, x1, x2, x3, x4, x5, x6⟩ | exact keep7 (by assumption) (by assumption) | go_keep) ((go_at_call 55; refine (HE.out W.drew fb.2.1 fb.2.2.1 fb.2.2.2.1 fb.2.2.2.2.1 fb.2.2.2.2.2).mono ?_; rintro z w1 ⟨rfl, hq⟩))
  obtain ⟨m0, m1, m2, m3, m4, m5⟩ := fb
  go_wp2
  go_ret2
  exact ⟨w.heap.size + 1 + 1, rfl, by omega, Nat.lt_of_lt_of_le m0 hq.size, hb.drew.trans (hq.mono hb.size), (hq.cell (p := ⟨w.heap.size + 1 + 1, 0, none⟩) m0).trans m1, (hq.cell (p := ⟨w.heap.size + 1 + 1, 1, none⟩) m0).trans m2, (hq.cell (p := ⟨w.heap.size + 1 + 1, 2, none⟩) m0).trans m3, (hq.cell (p := ⟨w.heap.size + 1 + 1, 3, none⟩) m0).trans m4, (hq.cell (p := ⟨w.heap.size + 1 + 1, 4, none⟩) m0).trans m5⟩

end Go.Proofs.Ytplfhjahdepphaa.Plan
