/- Contracts of package plan: entries of five bytes. -/
import Derived.Test.YtplfhjahdepphaaWordL
import Derived.Lib.Hide
import Derived.Deep.RegionWith
import Derived.Deep.RegionHeld3
import Derived.Deep.DeepCutAuto
import Derived.StillTailTactics
namespace Go.Proofs.Ytplfhjahdepphaa.Plan
open Go.ChangeShapes Go.WideShapes Go.ChangeAt Go.RowKit
set_option linter.unusedVariables false
set_option linter.unusedSimpArgs false

/-- An entry. -/
structure En where
  k : Int
  s : Int
  lv : Int
  ok : Int
  oy : Int
  oh : Int
  ov : Int

abbrev enV (e : En) : Value := .agg #[.int .i64 e.k, .int .i64 e.s, .int .i64 e.lv, .int .i64 e.ok, .int .i64 e.oy, .int .i64 e.oh, .int .i64 e.ov]
def badE : En := ⟨5, 0, 0, 0, 0, 0, 0⟩
def isE (s w k l : Int) : En :=
  if w % 8 ≠ 0 ∨ w / 8 < 1 ∨ 7 < w / 8 then badE
  else if w / 8 = 5 then ⟨2, s, 0, 5, k, l, 0⟩
  else if w / 8 = 2 ∨ w / 8 = 3 then ⟨2, s, 0, w / 8, k, 0, l⟩
  else if l ≠ 0 ∨ (6 ≤ w / 8 ∧ k ≠ 0) then badE else ⟨2, s, 0, w / 8, k, 0, 0⟩
def enE (b0 b1 b2 b3 b4 : Int) : En :=
  if 8 ≤ b1 then badE
  else if b0 = 0 ∧ 1 ≤ b2 ∧ b2 ≤ 3 ∧ b3 = 0 ∧ b4 = 0 then ⟨1, b1, b2, 0, 0, 0, 0⟩
  else if b0 = 1 then isE b1 b2 b3 b4
  else if (b0 = 2 ∨ b0 = 3 ∧ b1 = 0) ∧ b2 = 0 ∧ b3 = 0 ∧ b4 = 0 then ⟨b0 + 1, b1, 0, 0, 0, 0, 0⟩ else badE

theorem bad_any (w : World) : Calls Try.prog 56 #[] w fun e w' => e = .returned (.agg #[.int .i64 5, .int .i64 0, .int .i64 0, .int .i64 0, .int .i64 0, .int .i64 0, .int .i64 0]) ∧ w.alloc (.cells #[.int .i64 5, .int .i64 0, .int .i64 0, .int .i64 0, .int .i64 0, .int .i64 0, .int .i64 0] 47) = w' := by
  go_enter Try.func56, Try.ntmps56
  go_wp2
  exact bodyPost_ret (v := .agg #[.int .i64 5, .int .i64 0, .int .i64 0, .int .i64 0, .int .i64 0, .int .i64 0, .int .i64 0]) (by simp [results, Try.results56, go_sem]) rfl ⟨rfl, rfl⟩

theorem bcell {W w1 : World} (hb : Below W.heap.size W w1) : (∀ b o, b < W.heap.size → w1.cell? ⟨b, o, none⟩ = W.cell? ⟨b, o, none⟩) ∧ (∀ b o, b < W.heap.size → w1.frozen? ⟨b, o, none⟩ = W.frozen? ⟨b, o, none⟩) :=
  ⟨fun b o h => hb.cell (p := ⟨b, o, none⟩) h, fun b o h => hb.frozen (p := ⟨b, o, none⟩) h⟩
theorem below_allocs1 (w : World) (o : Obj) : Below w.heap.size w (w.alloc o) := (Below.refl _ _).alloc (Nat.le_refl _) _
theorem below_allocs2 (w : World) (o o' : Obj) : Below w.heap.size w ((w.alloc o).alloc o') := (below_allocs1 w o).alloc (by simp) _
theorem below_allocs3 (w : World) (o o' o'' : Obj) : Below w.heap.size w (((w.alloc o).alloc o').alloc o'') := (below_allocs2 w o o').alloc (by simp; omega) _

theorem issue_bad1 (s b k l : Int) (b0 : 0 ≤ b) (b1 : b < 256) (k0 : 0 ≤ k) (k1 : k < 256) (l0 : 0 ≤ l) (l1 : l < 256) (c : b % 8 ≠ 0) (w : World) :
    Calls Try.prog 67 #[.int .i64 s, .int .u8 b, .int .u8 k, .int .u8 l] w fun e w' => e = .returned (enV badE) ∧ Below w.heap.size w w' := by
  have t0 : (b % 8 != 0) = true := by first | (simp; done) | (simp; omega)
  clear c
  unfold enV badE
  go_enter Try.func67, Try.ntmps67
  go_wp2_with (go_at_call 56; refine (bad_any _).mono ?_; rintro e w' ⟨rfl, rfl⟩)
  exact bodyPost_ret (v := enV badE) (by simp [results, Try.results67, go_sem, badE]) rfl ⟨rfl, by first | exact below_allocs1 _ _ | exact below_allocs2 _ _ _ | exact below_allocs3 _ _ _ _⟩

theorem issue_bad2 (s b k l : Int) (b0 : 0 ≤ b) (b1 : b < 256) (k0 : 0 ≤ k) (k1 : k < 256) (l0 : 0 ≤ l) (l1 : l < 256) (c : b % 8 = 0) (d : b / 8 < 1) (w : World) :
    Calls Try.prog 67 #[.int .i64 s, .int .u8 b, .int .u8 k, .int .u8 l] w fun e w' => e = .returned (enV badE) ∧ Below w.heap.size w w' := by
  have t0 : (b % 8 != 0) = false := by first | (simp; done) | (simp; omega)
  have t1 : decide (b / 8 < 1) = true := by first | (simp; done) | (simp; omega)
  have t90 : (decide (b / 8 < 1) || decide (7 < b / 8)) = true := by first | (simp; done) | (simp; omega)
  clear c d
  unfold enV badE
  go_enter Try.func67, Try.ntmps67
  go_wp2_with (go_at_call 56; refine (bad_any _).mono ?_; rintro e w' ⟨rfl, rfl⟩)
  exact bodyPost_ret (v := enV badE) (by simp [results, Try.results67, go_sem, badE]) rfl ⟨rfl, by first | exact below_allocs1 _ _ | exact below_allocs2 _ _ _ | exact below_allocs3 _ _ _ _⟩

theorem issue_bad3 (s b k l : Int) (b0 : 0 ≤ b) (b1 : b < 256) (k0 : 0 ≤ k) (k1 : k < 256) (l0 : 0 ≤ l) (l1 : l < 256) (c : b % 8 = 0) (d : 7 < b / 8) (w : World) :
    Calls Try.prog 67 #[.int .i64 s, .int .u8 b, .int .u8 k, .int .u8 l] w fun e w' => e = .returned (enV badE) ∧ Below w.heap.size w w' := by
  have t0 : (b % 8 != 0) = false := by first | (simp; done) | (simp; omega)
  have t1 : decide (b / 8 < 1) = false := by first | (simp; done) | (simp; omega)
  have t2 : decide (7 < b / 8) = true := by first | (simp; done) | (simp; omega)
  have t90 : (decide (b / 8 < 1) || decide (7 < b / 8)) = true := by first | (simp; done) | (simp; omega)
  clear c d
  unfold enV badE
  go_enter Try.func67, Try.ntmps67
  go_wp2_with (go_at_call 56; refine (bad_any _).mono ?_; rintro e w' ⟨rfl, rfl⟩)
  exact bodyPost_ret (v := enV badE) (by simp [results, Try.results67, go_sem, badE]) rfl ⟨rfl, by first | exact below_allocs1 _ _ | exact below_allocs2 _ _ _ | exact below_allocs3 _ _ _ _⟩

theorem issue_scan (s b k l : Int) (b0 : 0 ≤ b) (b1 : b < 256) (k0 : 0 ≤ k) (k1 : k < 256) (l0 : 0 ≤ l) (l1 : l < 256) (c : b % 8 = 0) (d : b / 8 = 5) (w : World) :
    Calls Try.prog 67 #[.int .i64 s, .int .u8 b, .int .u8 k, .int .u8 l] w fun e w' => e = .returned (enV ⟨2, s, 0, b / 8, k, l, 0⟩) ∧ Below w.heap.size w w' := by
  have t0 : (b % 8 != 0) = false := by first | (simp; done) | (simp; omega)
  have t1 : decide (b / 8 < 1) = false := by first | (simp; done) | (simp; omega)
  have t2 : decide (7 < b / 8) = false := by first | (simp; done) | (simp; omega)
  have t3 : (b / 8 == 5) = true := by first | (simp; done) | (simp; omega)
  have t90 : (decide (b / 8 < 1) || decide (7 < b / 8)) = false := by first | (simp; done) | (simp; omega)
  clear c d
  unfold enV
  go_enter Try.func67, Try.ntmps67
  go_wp2_with (go_at_call 56; refine (bad_any _).mono ?_; rintro e w' ⟨rfl, rfl⟩)
  exact bodyPost_ret (v := enV ⟨2, s, 0, b / 8, k, l, 0⟩) (by simp [results, Try.results67, go_sem, badE]) rfl ⟨rfl, by first | exact below_allocs1 _ _ | exact below_allocs2 _ _ _ | exact below_allocs3 _ _ _ _⟩

theorem issue_ins (s b k l : Int) (b0 : 0 ≤ b) (b1 : b < 256) (k0 : 0 ≤ k) (k1 : k < 256) (l0 : 0 ≤ l) (l1 : l < 256) (c : b % 8 = 0) (d : b / 8 = 2) (w : World) :
    Calls Try.prog 67 #[.int .i64 s, .int .u8 b, .int .u8 k, .int .u8 l] w fun e w' => e = .returned (enV ⟨2, s, 0, b / 8, k, 0, l⟩) ∧ Below w.heap.size w w' := by
  have t0 : (b % 8 != 0) = false := by first | (simp; done) | (simp; omega)
  have t1 : decide (b / 8 < 1) = false := by first | (simp; done) | (simp; omega)
  have t2 : decide (7 < b / 8) = false := by first | (simp; done) | (simp; omega)
  have t3 : (b / 8 == 5) = false := by first | (simp; done) | (simp; omega)
  have t4 : (b / 8 == 2) = true := by first | (simp; done) | (simp; omega)
  have t90 : (decide (b / 8 < 1) || decide (7 < b / 8)) = false := by first | (simp; done) | (simp; omega)
  clear c d
  unfold enV
  go_enter Try.func67, Try.ntmps67
  go_wp2_with (go_at_call 56; refine (bad_any _).mono ?_; rintro e w' ⟨rfl, rfl⟩)
  exact bodyPost_ret (v := enV ⟨2, s, 0, b / 8, k, 0, l⟩) (by simp [results, Try.results67, go_sem, badE]) rfl ⟨rfl, by first | exact below_allocs1 _ _ | exact below_allocs2 _ _ _ | exact below_allocs3 _ _ _ _⟩

theorem issue_upd (s b k l : Int) (b0 : 0 ≤ b) (b1 : b < 256) (k0 : 0 ≤ k) (k1 : k < 256) (l0 : 0 ≤ l) (l1 : l < 256) (c : b % 8 = 0) (d : b / 8 = 3) (w : World) :
    Calls Try.prog 67 #[.int .i64 s, .int .u8 b, .int .u8 k, .int .u8 l] w fun e w' => e = .returned (enV ⟨2, s, 0, b / 8, k, 0, l⟩) ∧ Below w.heap.size w w' := by
  have t0 : (b % 8 != 0) = false := by first | (simp; done) | (simp; omega)
  have t1 : decide (b / 8 < 1) = false := by first | (simp; done) | (simp; omega)
  have t2 : decide (7 < b / 8) = false := by first | (simp; done) | (simp; omega)
  have t3 : (b / 8 == 5) = false := by first | (simp; done) | (simp; omega)
  have t4 : (b / 8 == 2) = false := by first | (simp; done) | (simp; omega)
  have t5 : (b / 8 == 3) = true := by first | (simp; done) | (simp; omega)
  have t90 : (decide (b / 8 < 1) || decide (7 < b / 8)) = false := by first | (simp; done) | (simp; omega)
  clear c d
  unfold enV
  go_enter Try.func67, Try.ntmps67
  go_wp2_with (go_at_call 56; refine (bad_any _).mono ?_; rintro e w' ⟨rfl, rfl⟩)
  exact bodyPost_ret (v := enV ⟨2, s, 0, b / 8, k, 0, l⟩) (by simp [results, Try.results67, go_sem, badE]) rfl ⟨rfl, by first | exact below_allocs1 _ _ | exact below_allocs2 _ _ _ | exact below_allocs3 _ _ _ _⟩

theorem issue_bad4 (s b k l : Int) (b0 : 0 ≤ b) (b1 : b < 256) (k0 : 0 ≤ k) (k1 : k < 256) (l0 : 0 ≤ l) (l1 : l < 256) (c : b % 8 = 0) (d : b / 8 = 1 ∨ b / 8 = 4 ∨ b / 8 = 6 ∨ b / 8 = 7) (f : l ≠ 0) (w : World) :
    Calls Try.prog 67 #[.int .i64 s, .int .u8 b, .int .u8 k, .int .u8 l] w fun e w' => e = .returned (enV badE) ∧ Below w.heap.size w w' := by
  have t0 : (b % 8 != 0) = false := by first | (simp; done) | (simp; omega)
  have t1 : decide (b / 8 < 1) = false := by first | (simp; done) | (simp; omega)
  have t2 : decide (7 < b / 8) = false := by first | (simp; done) | (simp; omega)
  have t3 : (b / 8 == 5) = false := by first | (simp; done) | (simp; omega)
  have t4 : (b / 8 == 2) = false := by first | (simp; done) | (simp; omega)
  have t5 : (b / 8 == 3) = false := by first | (simp; done) | (simp; omega)
  have t6 : (l != 0) = true := by first | (simp; done) | (simp; omega)
  have t90 : (decide (b / 8 < 1) || decide (7 < b / 8)) = false := by first | (simp; done) | (simp; omega)
  clear c d f
  unfold enV badE
  go_enter Try.func67, Try.ntmps67
  go_wp2_with (go_at_call 56; refine (bad_any _).mono ?_; rintro e w' ⟨rfl, rfl⟩)
  exact bodyPost_ret (v := enV badE) (by simp [results, Try.results67, go_sem, badE]) rfl ⟨rfl, by first | exact below_allocs1 _ _ | exact below_allocs2 _ _ _ | exact below_allocs3 _ _ _ _⟩

theorem issue_bad5 (s b k l : Int) (b0 : 0 ≤ b) (b1 : b < 256) (k0 : 0 ≤ k) (k1 : k < 256) (l0 : 0 ≤ l) (l1 : l < 256) (c : b % 8 = 0) (d : b / 8 = 1 ∨ b / 8 = 4 ∨ b / 8 = 6 ∨ b / 8 = 7) (f : l = 0) (g : 6 ≤ b / 8) (h : k ≠ 0) (w : World) :
    Calls Try.prog 67 #[.int .i64 s, .int .u8 b, .int .u8 k, .int .u8 l] w fun e w' => e = .returned (enV badE) ∧ Below w.heap.size w w' := by
  have t0 : (b % 8 != 0) = false := by first | (simp; done) | (simp; omega)
  have t1 : decide (b / 8 < 1) = false := by first | (simp; done) | (simp; omega)
  have t2 : decide (7 < b / 8) = false := by first | (simp; done) | (simp; omega)
  have t3 : (b / 8 == 5) = false := by first | (simp; done) | (simp; omega)
  have t4 : (b / 8 == 2) = false := by first | (simp; done) | (simp; omega)
  have t5 : (b / 8 == 3) = false := by first | (simp; done) | (simp; omega)
  have t6 : (l != 0) = false := by first | (simp; done) | (simp; omega)
  have t7 : decide (6 ≤ b / 8) = true := by first | (simp; done) | (simp; omega)
  have t8 : (k != 0) = true := by first | (simp; done) | (simp; omega)
  have t90 : (decide (b / 8 < 1) || decide (7 < b / 8)) = false := by first | (simp; done) | (simp; omega)
  clear c d f g h
  unfold enV badE
  go_enter Try.func67, Try.ntmps67
  go_wp2_with (go_at_call 56; refine (bad_any _).mono ?_; rintro e w' ⟨rfl, rfl⟩)
  exact bodyPost_ret (v := enV badE) (by simp [results, Try.results67, go_sem, badE]) rfl ⟨rfl, by first | exact below_allocs1 _ _ | exact below_allocs2 _ _ _ | exact below_allocs3 _ _ _ _⟩

theorem issue_end (s b k l : Int) (b0 : 0 ≤ b) (b1 : b < 256) (k0 : 0 ≤ k) (k1 : k < 256) (l0 : 0 ≤ l) (l1 : l < 256) (c : b % 8 = 0) (d : b / 8 = 1 ∨ b / 8 = 4 ∨ b / 8 = 6 ∨ b / 8 = 7) (f : l = 0) (g : 6 ≤ b / 8) (h : k = 0) (w : World) :
    Calls Try.prog 67 #[.int .i64 s, .int .u8 b, .int .u8 k, .int .u8 l] w fun e w' => e = .returned (enV ⟨2, s, 0, b / 8, k, 0, 0⟩) ∧ Below w.heap.size w w' := by
  have t0 : (b % 8 != 0) = false := by first | (simp; done) | (simp; omega)
  have t1 : decide (b / 8 < 1) = false := by first | (simp; done) | (simp; omega)
  have t2 : decide (7 < b / 8) = false := by first | (simp; done) | (simp; omega)
  have t3 : (b / 8 == 5) = false := by first | (simp; done) | (simp; omega)
  have t4 : (b / 8 == 2) = false := by first | (simp; done) | (simp; omega)
  have t5 : (b / 8 == 3) = false := by first | (simp; done) | (simp; omega)
  have t6 : (l != 0) = false := by first | (simp; done) | (simp; omega)
  have t7 : decide (6 ≤ b / 8) = true := by first | (simp; done) | (simp; omega)
  have t8 : (k != 0) = false := by first | (simp; done) | (simp; omega)
  have t90 : (decide (b / 8 < 1) || decide (7 < b / 8)) = false := by first | (simp; done) | (simp; omega)
  clear c d f g h
  unfold enV
  go_enter Try.func67, Try.ntmps67
  go_wp2_with (go_at_call 56; refine (bad_any _).mono ?_; rintro e w' ⟨rfl, rfl⟩)
  exact bodyPost_ret (v := enV ⟨2, s, 0, b / 8, k, 0, 0⟩) (by simp [results, Try.results67, go_sem, badE]) rfl ⟨rfl, by first | exact below_allocs1 _ _ | exact below_allocs2 _ _ _ | exact below_allocs3 _ _ _ _⟩

theorem issue_get (s b k l : Int) (b0 : 0 ≤ b) (b1 : b < 256) (k0 : 0 ≤ k) (k1 : k < 256) (l0 : 0 ≤ l) (l1 : l < 256) (c : b % 8 = 0) (d : b / 8 = 1 ∨ b / 8 = 4 ∨ b / 8 = 6 ∨ b / 8 = 7) (f : l = 0) (g : b / 8 < 6) (w : World) :
    Calls Try.prog 67 #[.int .i64 s, .int .u8 b, .int .u8 k, .int .u8 l] w fun e w' => e = .returned (enV ⟨2, s, 0, b / 8, k, 0, 0⟩) ∧ Below w.heap.size w w' := by
  have t0 : (b % 8 != 0) = false := by first | (simp; done) | (simp; omega)
  have t1 : decide (b / 8 < 1) = false := by first | (simp; done) | (simp; omega)
  have t2 : decide (7 < b / 8) = false := by first | (simp; done) | (simp; omega)
  have t3 : (b / 8 == 5) = false := by first | (simp; done) | (simp; omega)
  have t4 : (b / 8 == 2) = false := by first | (simp; done) | (simp; omega)
  have t5 : (b / 8 == 3) = false := by first | (simp; done) | (simp; omega)
  have t6 : (l != 0) = false := by first | (simp; done) | (simp; omega)
  have t7 : decide (6 ≤ b / 8) = false := by first | (simp; done) | (simp; omega)
  have t90 : (decide (b / 8 < 1) || decide (7 < b / 8)) = false := by first | (simp; done) | (simp; omega)
  clear c d f g
  unfold enV
  go_enter Try.func67, Try.ntmps67
  go_wp2_with (go_at_call 56; refine (bad_any _).mono ?_; rintro e w' ⟨rfl, rfl⟩)
  exact bodyPost_ret (v := enV ⟨2, s, 0, b / 8, k, 0, 0⟩) (by simp [results, Try.results67, go_sem, badE]) rfl ⟨rfl, by first | exact below_allocs1 _ _ | exact below_allocs2 _ _ _ | exact below_allocs3 _ _ _ _⟩

theorem issue_any (s b k l : Int) (b0 : 0 ≤ b) (b1 : b < 256) (k0 : 0 ≤ k) (k1 : k < 256) (l0 : 0 ≤ l) (l1 : l < 256) (w : World) :
    Calls Try.prog 67 #[.int .i64 s, .int .u8 b, .int .u8 k, .int .u8 l] w fun e w' => e = .returned (enV (isE s b k l)) ∧ Below w.heap.size w w' := by
  unfold isE
  by_cases c : b % 8 = 0
  · by_cases d : b / 8 < 1
    · rw [if_pos (by omega)]; exact issue_bad2 s b k l b0 b1 k0 k1 l0 l1 c d w
    · by_cases d' : 7 < b / 8
      · rw [if_pos (by omega)]; exact issue_bad3 s b k l b0 b1 k0 k1 l0 l1 c d' w
      · rw [if_neg (by omega)]
        by_cases f : b / 8 = 5
        · rw [if_pos f, ← f]; exact issue_scan s b k l b0 b1 k0 k1 l0 l1 c f w
        · rw [if_neg f]
          by_cases g : b / 8 = 2
          · rw [if_pos (by omega)]; exact issue_ins s b k l b0 b1 k0 k1 l0 l1 c g w
          · by_cases g' : b / 8 = 3
            · rw [if_pos (by omega)]; exact issue_upd s b k l b0 b1 k0 k1 l0 l1 c g' w
            · rw [if_neg (by omega)]
              by_cases h : l = 0
              · by_cases i : 6 ≤ b / 8
                · by_cases j : k = 0
                  · rw [if_neg (by omega)]; exact issue_end s b k l b0 b1 k0 k1 l0 l1 c (by omega) h i j w
                  · rw [if_pos (by omega)]; exact issue_bad5 s b k l b0 b1 k0 k1 l0 l1 c (by omega) h i j w
                · rw [if_neg (by omega)]; exact issue_get s b k l b0 b1 k0 k1 l0 l1 c (by omega) h (by omega) w
              · rw [if_pos (by omega)]; exact issue_bad4 s b k l b0 b1 k0 k1 l0 l1 c (by omega) h w
  · rw [if_pos (by omega)]; exact issue_bad1 s b k l b0 b1 k0 k1 l0 l1 c w

end Go.Proofs.Ytplfhjahdepphaa.Plan
