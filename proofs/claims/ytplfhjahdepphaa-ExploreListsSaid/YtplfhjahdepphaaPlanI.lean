/- Contract of the document's Bytes of an entry. -/
import Derived.Test.YtplfhjahdepphaaPlanG
import Derived.Test.YtplfhjahdepphaaPlanV
namespace Go.Proofs.Ytplfhjahdepphaa.Plan
open Go.ChangeShapes Go.WideShapes Go.ChangeAt Go.RowKit
set_option linter.unusedVariables false
set_option linter.unusedSimpArgs false
set_option maxRecDepth 100000

/-- Five bytes in memory of the call's own. -/
def Five (w : World) (e : Ending) (w' : World) (b0 b1 b2 b3 b4 : Int) : Prop :=
  ∃ g, e = .returned (.slice (some ⟨g, 0, none⟩) 5 5) ∧ w.heap.size ≤ g ∧ g < w'.heap.size ∧ Below w.heap.size w w' ∧
    w'.cell? ⟨g, 0, none⟩ = some (.int .u8 b0) ∧ w'.cell? ⟨g, 1, none⟩ = some (.int .u8 b1) ∧ w'.cell? ⟨g, 2, none⟩ = some (.int .u8 b2) ∧ w'.cell? ⟨g, 3, none⟩ = some (.int .u8 b3) ∧ w'.cell? ⟨g, 4, none⟩ = some (.int .u8 b4)

theorem Five.new (w : World) (o : Obj) (b0 b1 b2 b3 b4 : Int) : Five w (.returned (.slice (some ⟨w.heap.size + 1, 0, none⟩) 5 5)) ((w.alloc o).alloc (.cells #[.int .u8 b0, .int .u8 b1, .int .u8 b2, .int .u8 b3, .int .u8 b4] 5)) b0 b1 b2 b3 b4 :=
  ⟨w.heap.size + 1, rfl, by omega, by simp, below_allocs2 w _ _, by go_simp, by go_simp, by go_simp, by go_simp, by go_simp⟩
theorem Five.newD (w : World) (n : Nat) (o : Obj) (b0 b1 b2 b3 b4 : Int) : Five w (.returned (.slice (some ⟨w.heap.size + 1, 0, none⟩) 5 5)) (((w.alloc o).alloc (.cells #[.int .u8 b0, .int .u8 b1, .int .u8 b2, .int .u8 b3, .int .u8 b4] 5)).drewN n) b0 b1 b2 b3 b4 :=
  ⟨w.heap.size + 1, rfl, by omega, by simp, below_drewN (below_allocs2 w _ _) _, by go_simp, by go_simp, by go_simp, by go_simp, by go_simp⟩

set_option maxHeartbeats 1000000 in
theorem rbytes_one (ek es elv eok eoy eoh eov : Int) (h : ek = 1) (w : World) :
    Calls Try.prog 47 #[enV ⟨ek, es, elv, eok, eoy, eoh, eov⟩] w fun e w' => Five w e w' ((ek - 1) % 256) (es % 256) (elv % 256) 0 0 := by
  subst h
  go_enter Try.func47, Try.ntmps47
  go_wp2
  go_ret
  exact Five.new w _ 0 (es % 256) (elv % 256) 0 0

set_option maxHeartbeats 1000000 in
theorem rbytes_other (ek es elv eok eoy eoh eov : Int) (h1 : ek ≠ 1) (h2 : ek ≠ 2) (w : World) :
    Calls Try.prog 47 #[enV ⟨ek, es, elv, eok, eoy, eoh, eov⟩] w fun e w' => Five w e w' ((ek - 1) % 256) (es % 256) 0 0 0 := by
  have d1 : (ek == 1) = false := beq_eq_false_iff_ne.2 h1
  have d2 : (ek == 2) = false := beq_eq_false_iff_ne.2 h2
  clear h1 h2
  have hw : wrap64 (ek - 1) % 256 = (ek - 1) % 256 := by unfold wrap64; omega
  go_enter Try.func47, Try.ntmps47
  go_wp2
  go_ret
  exact Five.new w _ ((ek - 1) % 256) (es % 256) 0 0 0

set_option maxHeartbeats 2000000 in
theorem rbytes_two (ek es elv eok eoy eoh eov : Int) (h : ek = 2) (ho : (eok == 5) = false) (w : World) :
    Calls Try.prog 47 #[enV ⟨ek, es, elv, eok, eoy, eoh, eov⟩] w fun e w' => Five w e w' ((ek - 1) % 256) (es % 256) (eok * 8 % 256) (eoy % 256) (eov % 256) := by
  subst h
  have hw : wrap64 (eok * 8) % 256 = eok * 8 % 256 := by unfold wrap64; omega
  go_enter Try.func47, Try.ntmps47
  go_wp2
  go_region_held3 (fun w' => w'.cell? ⟨w.heap.size, 3, none⟩ = some (.int .i64 eok) ∧ w'.cell? ⟨w.heap.size, 4, none⟩ = some (.int .i64 eoy) ∧ w'.cell? ⟨w.heap.size, 6, none⟩ = some (.int .i64 eov)) (go_keep) (fail)
  go_wp2
  go_ret
  refine ⟨w.heap.size + 1, rfl, by omega, by simp, by (repeat (first | (with_reducible exact Below.refl _ _) | ((with_reducible refine Below.setCell ?_ ?_ _); rotate_left; focus (first | (simp; done) | (simp; omega))) | (with_reducible refine below_drewN ?_ _) | (with_reducible refine Below.drew ?_) | ((with_reducible refine Below.alloc ?_ ?_ _); rotate_left; focus (first | (simp; done) | (simp; omega))))), by go_simp, by go_simp, by go_simp, by go_simp, by go_simp⟩

set_option maxHeartbeats 2000000 in
theorem rbytes_scan (ek es elv eok eoy eoh eov : Int) (h : ek = 2) (ho : eok = 5) (w : World) :
    Calls Try.prog 47 #[enV ⟨ek, es, elv, eok, eoy, eoh, eov⟩] w fun e w' => Five w e w' ((ek - 1) % 256) (es % 256) (eok * 8 % 256) (eoy % 256) (eoh % 256) := by
  subst h ho
  go_enter Try.func47, Try.ntmps47
  go_wp2
  go_region_held3 (fun w' => w'.cell? ⟨w.heap.size, 3, none⟩ = some (.int .i64 5) ∧ w'.cell? ⟨w.heap.size, 4, none⟩ = some (.int .i64 eoy) ∧ w'.cell? ⟨w.heap.size, 6, none⟩ = some (.int .i64 eov)) (go_keep) (fail)
  go_wp2
  go_ret
  refine ⟨w.heap.size + 1, rfl, by omega, by simp, by (repeat (first | (with_reducible exact Below.refl _ _) | ((with_reducible refine Below.setCell ?_ ?_ _); rotate_left; focus (first | (simp; done) | (simp; omega))) | (with_reducible refine below_drewN ?_ _) | (with_reducible refine Below.drew ?_) | ((with_reducible refine Below.alloc ?_ ?_ _); rotate_left; focus (first | (simp; done) | (simp; omega))))), by go_simp, by go_simp, by go_simp, by go_simp, by go_simp⟩

theorem rbytes_any (e : En) (w : World) :
    Calls Try.prog 47 #[enV e] w fun x w' => Five w x w' ((e.k - 1) % 256) (e.s % 256) (r2 e) (r3 e) (r4 e) := by
  obtain ⟨k, s, lv, ok, oy, oh, ov⟩ := e
  unfold r2 r3 r4
  by_cases h1 : k = 1
  · have := rbytes_one k s lv ok oy oh ov h1 w
    subst h1; exact this
  · by_cases h2 : k = 2
    · by_cases h5 : ok = 5
      · have := rbytes_scan k s lv ok oy oh ov h2 h5 w
        subst h2 h5; exact this
      · have := rbytes_two k s lv ok oy oh ov h2 (beq_eq_false_iff_ne.2 h5) w
        simp only [if_neg h1, if_pos h2, if_neg h5]; exact this
    · have := rbytes_other k s lv ok oy oh ov h1 h2 w
      simp only [if_neg h1, if_neg h2]; exact this
end Go.Proofs.Ytplfhjahdepphaa.Plan
