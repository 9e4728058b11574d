/- Contract of plan.put: an entry as bytes. -/
import Derived.Test.YtplfhjahdepphaaPlanJ
import Derived.Test.YtplfhjahdepphaaPlanH
namespace Go.Proofs.Ytplfhjahdepphaa.Plan
open Go.ChangeShapes Go.WideShapes Go.ChangeAt Go.RowKit
set_option linter.unusedVariables false
set_option linter.unusedSimpArgs false
set_option maxRecDepth 100000

/-- What put answers where a number does not fit into a byte: nothing. -/
def PutNo (w : World) (z : Ending) (w' : World) : Prop := z = .returned (.tuple #[.slice none 0 0, .bool false]) ∧ Below w.heap.size w w'


set_option maxHeartbeats 1000000 in
theorem put_no_other (k s lv ok oy oh ov : Int) (hk : (k == 2) = false) (hz : [wrap64 (k - 1), s, lv, ok, lv, oy, 0].all inB = false) (w : World) :
    Calls Try.prog 58 #[enV ⟨k, s, lv, ok, oy, oh, ov⟩] w (PutNo w) := by
  have HL := Lib.hid (fun g W h => low_any g 0 7 [wrap64 (k - 1), s, lv, ok, lv, oy, 0] (by simp) W h)
  have HZ := Lib.hid hz
  clear hz
  go_enter Try.func58, Try.ntmps58
  go_wp2_with fail
  go_quiet (fail)
  go_wp2_with fail
  refine (HL.out _ _ ?_).mono ?_
  · intro i hi
    match i, hi with
    | 0, _ => go_simp
    | 1, _ => go_simp
    | 2, _ => go_simp
    | 3, _ => go_simp
    | 4, _ => go_simp
    | 5, _ => go_simp
    | 6, _ => go_simp
  rintro z w' ⟨rfl, rfl⟩
  rw [HZ.out]
  go_wp2_with fail
  go_ret2
  exact ⟨rfl, by (repeat (first | (with_reducible exact Below.refl _ _) | ((with_reducible refine Below.setCell ?_ ?_ _); rotate_left; focus (first | (simp; done) | (simp; omega))) | (with_reducible refine below_drewN ?_ _) | (with_reducible refine Below.drew ?_) | ((with_reducible refine Below.alloc ?_ ?_ _); rotate_left; focus (first | (simp; done) | (simp; omega)))))⟩

set_option maxHeartbeats 1000000 in
theorem put_no_two (s lv ok oy oh ov : Int) (ho : (ok == 5) = false) (hz : [1, s, lv, ok, wrap64 (ok * 8), oy, ov].all inB = false) (w : World) :
    Calls Try.prog 58 #[enV ⟨2, s, lv, ok, oy, oh, ov⟩] w (PutNo w) := by
  have HL := Lib.hid (fun g W h => low_any g 0 7 [1, s, lv, ok, wrap64 (ok * 8), oy, ov] (by simp) W h)
  have HZ := Lib.hid hz
  clear hz
  go_enter Try.func58, Try.ntmps58
  go_wp2_with fail
  go_quiet (fail)
  go_wp2_with fail
  refine (HL.out _ _ ?_).mono ?_
  · intro i hi
    match i, hi with
    | 0, _ => go_simp
    | 1, _ => go_simp
    | 2, _ => go_simp
    | 3, _ => go_simp
    | 4, _ => go_simp
    | 5, _ => go_simp
    | 6, _ => go_simp
  rintro z w' ⟨rfl, rfl⟩
  rw [HZ.out]
  go_wp2_with fail
  go_ret2
  exact ⟨rfl, by (repeat (first | (with_reducible exact Below.refl _ _) | ((with_reducible refine Below.setCell ?_ ?_ _); rotate_left; focus (first | (simp; done) | (simp; omega))) | (with_reducible refine below_drewN ?_ _) | (with_reducible refine Below.drew ?_) | ((with_reducible refine Below.alloc ?_ ?_ _); rotate_left; focus (first | (simp; done) | (simp; omega)))))⟩

set_option maxHeartbeats 1000000 in
theorem put_no_scan (s lv oy oh ov : Int) (hz : [1, s, lv, 5, 40, oy, oh].all inB = false) (w : World) :
    Calls Try.prog 58 #[enV ⟨2, s, lv, 5, oy, oh, ov⟩] w (PutNo w) := by
  have HL := Lib.hid (fun g W h => low_any g 0 7 [1, s, lv, 5, 40, oy, oh] (by simp) W h)
  have HZ := Lib.hid hz
  clear hz
  go_enter Try.func58, Try.ntmps58
  go_wp2_with fail
  go_quiet (fail)
  go_wp2_with fail
  refine (HL.out _ _ ?_).mono ?_
  · intro i hi
    match i, hi with
    | 0, _ => go_simp
    | 1, _ => go_simp
    | 2, _ => go_simp
    | 3, _ => go_simp
    | 4, _ => go_simp
    | 5, _ => go_simp
    | 6, _ => go_simp
  rintro z w' ⟨rfl, rfl⟩
  rw [HZ.out]
  go_wp2_with fail
  go_ret2
  exact ⟨rfl, by (repeat (first | (with_reducible exact Below.refl _ _) | ((with_reducible refine Below.setCell ?_ ?_ _); rotate_left; focus (first | (simp; done) | (simp; omega))) | (with_reducible refine below_drewN ?_ _) | (with_reducible refine Below.drew ?_) | ((with_reducible refine Below.alloc ?_ ?_ _); rotate_left; focus (first | (simp; done) | (simp; omega)))))⟩

end Go.Proofs.Ytplfhjahdepphaa.Plan
