/- Contracts of the document's answer for layer 25: the entry of five bytes. -/
import Derived.Test.YtplfhjahdepphaaPlanB
import Derived.Deep.QuietTactic
import Derived.BigQuiet
namespace Go.Proofs.Ytplfhjahdepphaa.Plan
open Go.ChangeShapes Go.WideShapes Go.ChangeAt Go.RowKit
set_option linter.unusedVariables false
set_option linter.unusedSimpArgs false
set_option maxRecDepth 100000
set_option maxHeartbeats 1000000
theorem rone_k (B off len cap : Nat) (hl : 5 ≤ len) (hm : len ≤ 9223372036854775807) (b0 b1 b2 b3 b4 : Int) (p0 : 0 ≤ b0) (q0 : b0 < 256) (p1 : 0 ≤ b1) (q1 : b1 < 256) (p2 : 0 ≤ b2) (q2 : b2 < 256) (p3 : 0 ≤ b3) (q3 : b3 < 256) (p4 : 0 ≤ b4) (q4 : b4 < 256) (w : World) (c0 : w.cell? ⟨B, off, none⟩ = some (.int .u8 b0)) (c1 : w.cell? ⟨B, off + 1, none⟩ = some (.int .u8 b1)) (c2 : w.cell? ⟨B, off + 2, none⟩ = some (.int .u8 b2)) (c3 : w.cell? ⟨B, off + 3, none⟩ = some (.int .u8 b3)) (c4 : w.cell? ⟨B, off + 4, none⟩ = some (.int .u8 b4)) (h0 : 3 < b0) :
    Calls Try.prog 39 #[.slice (some ⟨B, off, none⟩) len cap] w fun e w' => e = .returned (.tuple #[enV badE, .bool true]) ∧ Below w.heap.size w w' := by
  have t0 : decide (3 < b0) = true := by first | (simp; done) | (simp; omega)
  clear h0
  have i0 : (5 : Int) ≤ (len : Int) := by omega
  have i1 : (0 : Int) < (len : Int) := by omega
  have i2 : (1 : Int) < (len : Int) := by omega
  have i3 : (2 : Int) < (len : Int) := by omega
  have i4 : (3 : Int) < (len : Int) := by omega
  have i5 : (4 : Int) < (len : Int) := by omega
  have hB : B < w.heap.size := World.block_lt_of_cell? w _ c0
  have hB1 : B < w.heap.size + 1 := by omega
  have hB2 : B < w.heap.size + 1 + 1 := by omega
  unfold enV badE
  go_enter Try.func39, Try.ntmps39
  go_wp2
  go_quiet (fail)
  go_wp2
  exact bodyPost_ret (v := .tuple #[enV badE, .bool true]) (by simp [results, Try.results39, go_sem, badE]) rfl ⟨rfl, by (repeat (first | (with_reducible exact Below.refl _ _) | ((with_reducible refine Below.setCell ?_ ?_ _); rotate_left; focus (first | (simp; done) | (simp; omega))) | (with_reducible refine below_drewN ?_ _) | (with_reducible refine Below.drew ?_) | ((with_reducible refine Below.alloc ?_ ?_ _); rotate_left; focus (first | (simp; done) | (simp; omega)))))⟩

theorem rone_s (B off len cap : Nat) (hl : 5 ≤ len) (hm : len ≤ 9223372036854775807) (b0 b1 b2 b3 b4 : Int) (p0 : 0 ≤ b0) (q0 : b0 < 256) (p1 : 0 ≤ b1) (q1 : b1 < 256) (p2 : 0 ≤ b2) (q2 : b2 < 256) (p3 : 0 ≤ b3) (q3 : b3 < 256) (p4 : 0 ≤ b4) (q4 : b4 < 256) (w : World) (c0 : w.cell? ⟨B, off, none⟩ = some (.int .u8 b0)) (c1 : w.cell? ⟨B, off + 1, none⟩ = some (.int .u8 b1)) (c2 : w.cell? ⟨B, off + 2, none⟩ = some (.int .u8 b2)) (c3 : w.cell? ⟨B, off + 3, none⟩ = some (.int .u8 b3)) (c4 : w.cell? ⟨B, off + 4, none⟩ = some (.int .u8 b4)) (h0 : b0 ≤ 3) (h1 : 7 < b1) :
    Calls Try.prog 39 #[.slice (some ⟨B, off, none⟩) len cap] w fun e w' => e = .returned (.tuple #[enV badE, .bool true]) ∧ Below w.heap.size w w' := by
  have t0 : decide (3 < b0) = false := by first | (simp; done) | (simp; omega)
  have t1 : decide (7 < b1) = true := by first | (simp; done) | (simp; omega)
  clear h0 h1
  have i0 : (5 : Int) ≤ (len : Int) := by omega
  have i1 : (0 : Int) < (len : Int) := by omega
  have i2 : (1 : Int) < (len : Int) := by omega
  have i3 : (2 : Int) < (len : Int) := by omega
  have i4 : (3 : Int) < (len : Int) := by omega
  have i5 : (4 : Int) < (len : Int) := by omega
  have hB : B < w.heap.size := World.block_lt_of_cell? w _ c0
  have hB1 : B < w.heap.size + 1 := by omega
  have hB2 : B < w.heap.size + 1 + 1 := by omega
  unfold enV badE
  go_enter Try.func39, Try.ntmps39
  go_wp2
  go_quiet (fail)
  go_wp2
  exact bodyPost_ret (v := .tuple #[enV badE, .bool true]) (by simp [results, Try.results39, go_sem, badE]) rfl ⟨rfl, by (repeat (first | (with_reducible exact Below.refl _ _) | ((with_reducible refine Below.setCell ?_ ?_ _); rotate_left; focus (first | (simp; done) | (simp; omega))) | (with_reducible refine below_drewN ?_ _) | (with_reducible refine Below.drew ?_) | ((with_reducible refine Below.alloc ?_ ?_ _); rotate_left; focus (first | (simp; done) | (simp; omega)))))⟩

theorem rone_w (B off len cap : Nat) (hl : 5 ≤ len) (hm : len ≤ 9223372036854775807) (b0 b1 b2 b3 b4 : Int) (p0 : 0 ≤ b0) (q0 : b0 < 256) (p1 : 0 ≤ b1) (q1 : b1 < 256) (p2 : 0 ≤ b2) (q2 : b2 < 256) (p3 : 0 ≤ b3) (q3 : b3 < 256) (p4 : 0 ≤ b4) (q4 : b4 < 256) (w : World) (c0 : w.cell? ⟨B, off, none⟩ = some (.int .u8 b0)) (c1 : w.cell? ⟨B, off + 1, none⟩ = some (.int .u8 b1)) (c2 : w.cell? ⟨B, off + 2, none⟩ = some (.int .u8 b2)) (c3 : w.cell? ⟨B, off + 3, none⟩ = some (.int .u8 b3)) (c4 : w.cell? ⟨B, off + 4, none⟩ = some (.int .u8 b4)) (h0 : b0 = 3) (h1 : b1 ≤ 7) (h3 : b1 ≠ 0) :
    Calls Try.prog 39 #[.slice (some ⟨B, off, none⟩) len cap] w fun e w' => e = .returned (.tuple #[enV badE, .bool true]) ∧ Below w.heap.size w w' := by
  have t0 : decide (3 < b0) = false := by first | (simp; done) | (simp; omega)
  have t1 : decide (7 < b1) = false := by first | (simp; done) | (simp; omega)
  have t2 : (b0 == 3) = true := by first | (simp; done) | (simp; omega)
  have t3 : (b1 != 0) = true := by first | (simp; done) | (simp; omega)
  clear h0 h1 h3
  have i0 : (5 : Int) ≤ (len : Int) := by omega
  have i1 : (0 : Int) < (len : Int) := by omega
  have i2 : (1 : Int) < (len : Int) := by omega
  have i3 : (2 : Int) < (len : Int) := by omega
  have i4 : (3 : Int) < (len : Int) := by omega
  have i5 : (4 : Int) < (len : Int) := by omega
  have hB : B < w.heap.size := World.block_lt_of_cell? w _ c0
  have hB1 : B < w.heap.size + 1 := by omega
  have hB2 : B < w.heap.size + 1 + 1 := by omega
  unfold enV badE
  go_enter Try.func39, Try.ntmps39
  go_wp2
  go_quiet (fail)
  go_wp2
  exact bodyPost_ret (v := .tuple #[enV badE, .bool true]) (by simp [results, Try.results39, go_sem, badE]) rfl ⟨rfl, by (repeat (first | (with_reducible exact Below.refl _ _) | ((with_reducible refine Below.setCell ?_ ?_ _); rotate_left; focus (first | (simp; done) | (simp; omega))) | (with_reducible refine below_drewN ?_ _) | (with_reducible refine Below.drew ?_) | ((with_reducible refine Below.alloc ?_ ?_ _); rotate_left; focus (first | (simp; done) | (simp; omega)))))⟩

theorem rone_a1 (B off len cap : Nat) (hl : 5 ≤ len) (hm : len ≤ 9223372036854775807) (b0 b1 b2 b3 b4 : Int) (p0 : 0 ≤ b0) (q0 : b0 < 256) (p1 : 0 ≤ b1) (q1 : b1 < 256) (p2 : 0 ≤ b2) (q2 : b2 < 256) (p3 : 0 ≤ b3) (q3 : b3 < 256) (p4 : 0 ≤ b4) (q4 : b4 < 256) (w : World) (c0 : w.cell? ⟨B, off, none⟩ = some (.int .u8 b0)) (c1 : w.cell? ⟨B, off + 1, none⟩ = some (.int .u8 b1)) (c2 : w.cell? ⟨B, off + 2, none⟩ = some (.int .u8 b2)) (c3 : w.cell? ⟨B, off + 3, none⟩ = some (.int .u8 b3)) (c4 : w.cell? ⟨B, off + 4, none⟩ = some (.int .u8 b4)) (h0 : b0 = 0) (h1 : b1 ≤ 7) (h2 : b2 < 1) :
    Calls Try.prog 39 #[.slice (some ⟨B, off, none⟩) len cap] w fun e w' => e = .returned (.tuple #[enV badE, .bool true]) ∧ Below w.heap.size w w' := by
  have t0 : decide (3 < b0) = false := by first | (simp; done) | (simp; omega)
  have t1 : decide (7 < b1) = false := by first | (simp; done) | (simp; omega)
  have t2 : (b0 == 3) = false := by first | (simp; done) | (simp; omega)
  have t3 : (b0 + 1 == 1) = true := by first | (simp; done) | (simp; omega)
  have t4 : (b0 + 1 == 2) = false := by first | (simp; done) | (simp; omega)
  have t5 : decide (b2 < 1) = true := by first | (simp; done) | (simp; omega)
  clear h0 h1 h2
  have i0 : (5 : Int) ≤ (len : Int) := by omega
  have i1 : (0 : Int) < (len : Int) := by omega
  have i2 : (1 : Int) < (len : Int) := by omega
  have i3 : (2 : Int) < (len : Int) := by omega
  have i4 : (3 : Int) < (len : Int) := by omega
  have i5 : (4 : Int) < (len : Int) := by omega
  have hB : B < w.heap.size := World.block_lt_of_cell? w _ c0
  have hB1 : B < w.heap.size + 1 := by omega
  have hB2 : B < w.heap.size + 1 + 1 := by omega
  unfold enV badE
  go_enter Try.func39, Try.ntmps39
  go_wp2
  go_quiet (fail)
  go_wp2
  exact bodyPost_ret (v := .tuple #[enV badE, .bool true]) (by simp [results, Try.results39, go_sem, badE]) rfl ⟨rfl, by (repeat (first | (with_reducible exact Below.refl _ _) | ((with_reducible refine Below.setCell ?_ ?_ _); rotate_left; focus (first | (simp; done) | (simp; omega))) | (with_reducible refine below_drewN ?_ _) | (with_reducible refine Below.drew ?_) | ((with_reducible refine Below.alloc ?_ ?_ _); rotate_left; focus (first | (simp; done) | (simp; omega)))))⟩

theorem rone_a2 (B off len cap : Nat) (hl : 5 ≤ len) (hm : len ≤ 9223372036854775807) (b0 b1 b2 b3 b4 : Int) (p0 : 0 ≤ b0) (q0 : b0 < 256) (p1 : 0 ≤ b1) (q1 : b1 < 256) (p2 : 0 ≤ b2) (q2 : b2 < 256) (p3 : 0 ≤ b3) (q3 : b3 < 256) (p4 : 0 ≤ b4) (q4 : b4 < 256) (w : World) (c0 : w.cell? ⟨B, off, none⟩ = some (.int .u8 b0)) (c1 : w.cell? ⟨B, off + 1, none⟩ = some (.int .u8 b1)) (c2 : w.cell? ⟨B, off + 2, none⟩ = some (.int .u8 b2)) (c3 : w.cell? ⟨B, off + 3, none⟩ = some (.int .u8 b3)) (c4 : w.cell? ⟨B, off + 4, none⟩ = some (.int .u8 b4)) (h0 : b0 = 0) (h1 : b1 ≤ 7) (h2 : 3 < b2) :
    Calls Try.prog 39 #[.slice (some ⟨B, off, none⟩) len cap] w fun e w' => e = .returned (.tuple #[enV badE, .bool true]) ∧ Below w.heap.size w w' := by
  have t0 : decide (3 < b0) = false := by first | (simp; done) | (simp; omega)
  have t1 : decide (7 < b1) = false := by first | (simp; done) | (simp; omega)
  have t2 : (b0 == 3) = false := by first | (simp; done) | (simp; omega)
  have t3 : (b0 + 1 == 1) = true := by first | (simp; done) | (simp; omega)
  have t4 : (b0 + 1 == 2) = false := by first | (simp; done) | (simp; omega)
  have t5 : decide (b2 < 1) = false := by first | (simp; done) | (simp; omega)
  have t6 : decide (3 < b2) = true := by first | (simp; done) | (simp; omega)
  clear h0 h1 h2
  have i0 : (5 : Int) ≤ (len : Int) := by omega
  have i1 : (0 : Int) < (len : Int) := by omega
  have i2 : (1 : Int) < (len : Int) := by omega
  have i3 : (2 : Int) < (len : Int) := by omega
  have i4 : (3 : Int) < (len : Int) := by omega
  have i5 : (4 : Int) < (len : Int) := by omega
  have hB : B < w.heap.size := World.block_lt_of_cell? w _ c0
  have hB1 : B < w.heap.size + 1 := by omega
  have hB2 : B < w.heap.size + 1 + 1 := by omega
  unfold enV badE
  go_enter Try.func39, Try.ntmps39
  go_wp2
  go_quiet (fail)
  go_wp2
  exact bodyPost_ret (v := .tuple #[enV badE, .bool true]) (by simp [results, Try.results39, go_sem, badE]) rfl ⟨rfl, by (repeat (first | (with_reducible exact Below.refl _ _) | ((with_reducible refine Below.setCell ?_ ?_ _); rotate_left; focus (first | (simp; done) | (simp; omega))) | (with_reducible refine below_drewN ?_ _) | (with_reducible refine Below.drew ?_) | ((with_reducible refine Below.alloc ?_ ?_ _); rotate_left; focus (first | (simp; done) | (simp; omega)))))⟩

theorem rone_a3 (B off len cap : Nat) (hl : 5 ≤ len) (hm : len ≤ 9223372036854775807) (b0 b1 b2 b3 b4 : Int) (p0 : 0 ≤ b0) (q0 : b0 < 256) (p1 : 0 ≤ b1) (q1 : b1 < 256) (p2 : 0 ≤ b2) (q2 : b2 < 256) (p3 : 0 ≤ b3) (q3 : b3 < 256) (p4 : 0 ≤ b4) (q4 : b4 < 256) (w : World) (c0 : w.cell? ⟨B, off, none⟩ = some (.int .u8 b0)) (c1 : w.cell? ⟨B, off + 1, none⟩ = some (.int .u8 b1)) (c2 : w.cell? ⟨B, off + 2, none⟩ = some (.int .u8 b2)) (c3 : w.cell? ⟨B, off + 3, none⟩ = some (.int .u8 b3)) (c4 : w.cell? ⟨B, off + 4, none⟩ = some (.int .u8 b4)) (h0 : b0 = 0) (h1 : b1 ≤ 7) (h2 : 1 ≤ b2 ∧ b2 ≤ 3) (h3 : b3 ≠ 0) :
    Calls Try.prog 39 #[.slice (some ⟨B, off, none⟩) len cap] w fun e w' => e = .returned (.tuple #[enV badE, .bool true]) ∧ Below w.heap.size w w' := by
  have t0 : decide (3 < b0) = false := by first | (simp; done) | (simp; omega)
  have t1 : decide (7 < b1) = false := by first | (simp; done) | (simp; omega)
  have t2 : (b0 == 3) = false := by first | (simp; done) | (simp; omega)
  have t3 : (b0 + 1 == 1) = true := by first | (simp; done) | (simp; omega)
  have t4 : (b0 + 1 == 2) = false := by first | (simp; done) | (simp; omega)
  have t5 : decide (b2 < 1) = false := by first | (simp; done) | (simp; omega)
  have t6 : decide (3 < b2) = false := by first | (simp; done) | (simp; omega)
  have t7 : (b3 != 0) = true := by first | (simp; done) | (simp; omega)
  clear h0 h1 h2 h3
  have i0 : (5 : Int) ≤ (len : Int) := by omega
  have i1 : (0 : Int) < (len : Int) := by omega
  have i2 : (1 : Int) < (len : Int) := by omega
  have i3 : (2 : Int) < (len : Int) := by omega
  have i4 : (3 : Int) < (len : Int) := by omega
  have i5 : (4 : Int) < (len : Int) := by omega
  have hB : B < w.heap.size := World.block_lt_of_cell? w _ c0
  have hB1 : B < w.heap.size + 1 := by omega
  have hB2 : B < w.heap.size + 1 + 1 := by omega
  unfold enV badE
  go_enter Try.func39, Try.ntmps39
  go_wp2
  go_quiet (fail)
  go_wp2
  exact bodyPost_ret (v := .tuple #[enV badE, .bool true]) (by simp [results, Try.results39, go_sem, badE]) rfl ⟨rfl, by (repeat (first | (with_reducible exact Below.refl _ _) | ((with_reducible refine Below.setCell ?_ ?_ _); rotate_left; focus (first | (simp; done) | (simp; omega))) | (with_reducible refine below_drewN ?_ _) | (with_reducible refine Below.drew ?_) | ((with_reducible refine Below.alloc ?_ ?_ _); rotate_left; focus (first | (simp; done) | (simp; omega)))))⟩

theorem rone_a4 (B off len cap : Nat) (hl : 5 ≤ len) (hm : len ≤ 9223372036854775807) (b0 b1 b2 b3 b4 : Int) (p0 : 0 ≤ b0) (q0 : b0 < 256) (p1 : 0 ≤ b1) (q1 : b1 < 256) (p2 : 0 ≤ b2) (q2 : b2 < 256) (p3 : 0 ≤ b3) (q3 : b3 < 256) (p4 : 0 ≤ b4) (q4 : b4 < 256) (w : World) (c0 : w.cell? ⟨B, off, none⟩ = some (.int .u8 b0)) (c1 : w.cell? ⟨B, off + 1, none⟩ = some (.int .u8 b1)) (c2 : w.cell? ⟨B, off + 2, none⟩ = some (.int .u8 b2)) (c3 : w.cell? ⟨B, off + 3, none⟩ = some (.int .u8 b3)) (c4 : w.cell? ⟨B, off + 4, none⟩ = some (.int .u8 b4)) (h0 : b0 = 0) (h1 : b1 ≤ 7) (h2 : 1 ≤ b2 ∧ b2 ≤ 3) (h3 : b3 = 0) (h4 : b4 ≠ 0) :
    Calls Try.prog 39 #[.slice (some ⟨B, off, none⟩) len cap] w fun e w' => e = .returned (.tuple #[enV badE, .bool true]) ∧ Below w.heap.size w w' := by
  have t0 : decide (3 < b0) = false := by first | (simp; done) | (simp; omega)
  have t1 : decide (7 < b1) = false := by first | (simp; done) | (simp; omega)
  have t2 : (b0 == 3) = false := by first | (simp; done) | (simp; omega)
  have t3 : (b0 + 1 == 1) = true := by first | (simp; done) | (simp; omega)
  have t4 : (b0 + 1 == 2) = false := by first | (simp; done) | (simp; omega)
  have t5 : decide (b2 < 1) = false := by first | (simp; done) | (simp; omega)
  have t6 : decide (3 < b2) = false := by first | (simp; done) | (simp; omega)
  have t7 : (b3 != 0) = false := by first | (simp; done) | (simp; omega)
  have t8 : (b4 != 0) = true := by first | (simp; done) | (simp; omega)
  clear h0 h1 h2 h3 h4
  have i0 : (5 : Int) ≤ (len : Int) := by omega
  have i1 : (0 : Int) < (len : Int) := by omega
  have i2 : (1 : Int) < (len : Int) := by omega
  have i3 : (2 : Int) < (len : Int) := by omega
  have i4 : (3 : Int) < (len : Int) := by omega
  have i5 : (4 : Int) < (len : Int) := by omega
  have hB : B < w.heap.size := World.block_lt_of_cell? w _ c0
  have hB1 : B < w.heap.size + 1 := by omega
  have hB2 : B < w.heap.size + 1 + 1 := by omega
  unfold enV badE
  go_enter Try.func39, Try.ntmps39
  go_wp2
  go_quiet (fail)
  go_wp2
  exact bodyPost_ret (v := .tuple #[enV badE, .bool true]) (by simp [results, Try.results39, go_sem, badE]) rfl ⟨rfl, by (repeat (first | (with_reducible exact Below.refl _ _) | ((with_reducible refine Below.setCell ?_ ?_ _); rotate_left; focus (first | (simp; done) | (simp; omega))) | (with_reducible refine below_drewN ?_ _) | (with_reducible refine Below.drew ?_) | ((with_reducible refine Below.alloc ?_ ?_ _); rotate_left; focus (first | (simp; done) | (simp; omega)))))⟩

theorem rone_a5 (B off len cap : Nat) (hl : 5 ≤ len) (hm : len ≤ 9223372036854775807) (b0 b1 b2 b3 b4 : Int) (p0 : 0 ≤ b0) (q0 : b0 < 256) (p1 : 0 ≤ b1) (q1 : b1 < 256) (p2 : 0 ≤ b2) (q2 : b2 < 256) (p3 : 0 ≤ b3) (q3 : b3 < 256) (p4 : 0 ≤ b4) (q4 : b4 < 256) (w : World) (c0 : w.cell? ⟨B, off, none⟩ = some (.int .u8 b0)) (c1 : w.cell? ⟨B, off + 1, none⟩ = some (.int .u8 b1)) (c2 : w.cell? ⟨B, off + 2, none⟩ = some (.int .u8 b2)) (c3 : w.cell? ⟨B, off + 3, none⟩ = some (.int .u8 b3)) (c4 : w.cell? ⟨B, off + 4, none⟩ = some (.int .u8 b4)) (h0 : b0 = 0) (h1 : b1 ≤ 7) (h2 : 1 ≤ b2 ∧ b2 ≤ 3) (h3 : b3 = 0) (h4 : b4 = 0) :
    Calls Try.prog 39 #[.slice (some ⟨B, off, none⟩) len cap] w fun e w' => e = .returned (.tuple #[enV ⟨b0 + 1, b1, b2, 0, 0, 0, 0⟩, .bool true]) ∧ Below w.heap.size w w' := by
  have t0 : decide (3 < b0) = false := by first | (simp; done) | (simp; omega)
  have t1 : decide (7 < b1) = false := by first | (simp; done) | (simp; omega)
  have t2 : (b0 == 3) = false := by first | (simp; done) | (simp; omega)
  have t3 : (b0 + 1 == 1) = true := by first | (simp; done) | (simp; omega)
  have t4 : (b0 + 1 == 2) = false := by first | (simp; done) | (simp; omega)
  have t5 : decide (b2 < 1) = false := by first | (simp; done) | (simp; omega)
  have t6 : decide (3 < b2) = false := by first | (simp; done) | (simp; omega)
  have t7 : (b3 != 0) = false := by first | (simp; done) | (simp; omega)
  have t8 : (b4 != 0) = false := by first | (simp; done) | (simp; omega)
  clear h0 h1 h2 h3 h4
  have i0 : (5 : Int) ≤ (len : Int) := by omega
  have i1 : (0 : Int) < (len : Int) := by omega
  have i2 : (1 : Int) < (len : Int) := by omega
  have i3 : (2 : Int) < (len : Int) := by omega
  have i4 : (3 : Int) < (len : Int) := by omega
  have i5 : (4 : Int) < (len : Int) := by omega
  have hB : B < w.heap.size := World.block_lt_of_cell? w _ c0
  have hB1 : B < w.heap.size + 1 := by omega
  have hB2 : B < w.heap.size + 1 + 1 := by omega
  unfold enV
  go_enter Try.func39, Try.ntmps39
  go_wp2
  go_quiet (fail)
  go_wp2
  exact bodyPost_ret (v := .tuple #[enV ⟨b0 + 1, b1, b2, 0, 0, 0, 0⟩, .bool true]) (by simp [results, Try.results39, go_sem, badE]) rfl ⟨rfl, by (repeat (first | (with_reducible exact Below.refl _ _) | ((with_reducible refine Below.setCell ?_ ?_ _); rotate_left; focus (first | (simp; done) | (simp; omega))) | (with_reducible refine below_drewN ?_ _) | (with_reducible refine Below.drew ?_) | ((with_reducible refine Below.alloc ?_ ?_ _); rotate_left; focus (first | (simp; done) | (simp; omega)))))⟩

theorem rone_i1 (B off len cap : Nat) (hl : 5 ≤ len) (hm : len ≤ 9223372036854775807) (b0 b1 b2 b3 b4 : Int) (p0 : 0 ≤ b0) (q0 : b0 < 256) (p1 : 0 ≤ b1) (q1 : b1 < 256) (p2 : 0 ≤ b2) (q2 : b2 < 256) (p3 : 0 ≤ b3) (q3 : b3 < 256) (p4 : 0 ≤ b4) (q4 : b4 < 256) (w : World) (c0 : w.cell? ⟨B, off, none⟩ = some (.int .u8 b0)) (c1 : w.cell? ⟨B, off + 1, none⟩ = some (.int .u8 b1)) (c2 : w.cell? ⟨B, off + 2, none⟩ = some (.int .u8 b2)) (c3 : w.cell? ⟨B, off + 3, none⟩ = some (.int .u8 b3)) (c4 : w.cell? ⟨B, off + 4, none⟩ = some (.int .u8 b4)) (h0 : b0 = 1) (h1 : b1 ≤ 7) (h2 : b2 % 8 ≠ 0) :
    Calls Try.prog 39 #[.slice (some ⟨B, off, none⟩) len cap] w fun e w' => e = .returned (.tuple #[enV badE, .bool true]) ∧ Below w.heap.size w w' := by
  have t0 : decide (3 < b0) = false := by first | (simp; done) | (simp; omega)
  have t1 : decide (7 < b1) = false := by first | (simp; done) | (simp; omega)
  have t2 : (b0 == 3) = false := by first | (simp; done) | (simp; omega)
  have t3 : (b0 + 1 == 1) = false := by first | (simp; done) | (simp; omega)
  have t4 : (b0 + 1 == 2) = true := by first | (simp; done) | (simp; omega)
  have t5 : (b2 % 8 != 0) = true := by first | (simp; done) | (simp; omega)
  clear h0 h1 h2
  have i0 : (5 : Int) ≤ (len : Int) := by omega
  have i1 : (0 : Int) < (len : Int) := by omega
  have i2 : (1 : Int) < (len : Int) := by omega
  have i3 : (2 : Int) < (len : Int) := by omega
  have i4 : (3 : Int) < (len : Int) := by omega
  have i5 : (4 : Int) < (len : Int) := by omega
  have hB : B < w.heap.size := World.block_lt_of_cell? w _ c0
  have hB1 : B < w.heap.size + 1 := by omega
  have hB2 : B < w.heap.size + 1 + 1 := by omega
  unfold enV badE
  go_enter Try.func39, Try.ntmps39
  go_wp2
  go_quiet (fail)
  go_wp2
  exact bodyPost_ret (v := .tuple #[enV badE, .bool true]) (by simp [results, Try.results39, go_sem, badE]) rfl ⟨rfl, by (repeat (first | (with_reducible exact Below.refl _ _) | ((with_reducible refine Below.setCell ?_ ?_ _); rotate_left; focus (first | (simp; done) | (simp; omega))) | (with_reducible refine below_drewN ?_ _) | (with_reducible refine Below.drew ?_) | ((with_reducible refine Below.alloc ?_ ?_ _); rotate_left; focus (first | (simp; done) | (simp; omega)))))⟩

theorem rone_i2 (B off len cap : Nat) (hl : 5 ≤ len) (hm : len ≤ 9223372036854775807) (b0 b1 b2 b3 b4 : Int) (p0 : 0 ≤ b0) (q0 : b0 < 256) (p1 : 0 ≤ b1) (q1 : b1 < 256) (p2 : 0 ≤ b2) (q2 : b2 < 256) (p3 : 0 ≤ b3) (q3 : b3 < 256) (p4 : 0 ≤ b4) (q4 : b4 < 256) (w : World) (c0 : w.cell? ⟨B, off, none⟩ = some (.int .u8 b0)) (c1 : w.cell? ⟨B, off + 1, none⟩ = some (.int .u8 b1)) (c2 : w.cell? ⟨B, off + 2, none⟩ = some (.int .u8 b2)) (c3 : w.cell? ⟨B, off + 3, none⟩ = some (.int .u8 b3)) (c4 : w.cell? ⟨B, off + 4, none⟩ = some (.int .u8 b4)) (h0 : b0 = 1) (h1 : b1 ≤ 7) (h2 : b2 % 8 = 0) (h3 : b2 / 8 < 1) :
    Calls Try.prog 39 #[.slice (some ⟨B, off, none⟩) len cap] w fun e w' => e = .returned (.tuple #[enV badE, .bool true]) ∧ Below w.heap.size w w' := by
  have t0 : decide (3 < b0) = false := by first | (simp; done) | (simp; omega)
  have t1 : decide (7 < b1) = false := by first | (simp; done) | (simp; omega)
  have t2 : (b0 == 3) = false := by first | (simp; done) | (simp; omega)
  have t3 : (b0 + 1 == 1) = false := by first | (simp; done) | (simp; omega)
  have t4 : (b0 + 1 == 2) = true := by first | (simp; done) | (simp; omega)
  have t5 : (b2 % 8 != 0) = false := by first | (simp; done) | (simp; omega)
  have t6 : decide (b2 / 8 < 1) = true := by first | (simp; done) | (simp; omega)
  clear h0 h1 h2 h3
  have i0 : (5 : Int) ≤ (len : Int) := by omega
  have i1 : (0 : Int) < (len : Int) := by omega
  have i2 : (1 : Int) < (len : Int) := by omega
  have i3 : (2 : Int) < (len : Int) := by omega
  have i4 : (3 : Int) < (len : Int) := by omega
  have i5 : (4 : Int) < (len : Int) := by omega
  have hB : B < w.heap.size := World.block_lt_of_cell? w _ c0
  have hB1 : B < w.heap.size + 1 := by omega
  have hB2 : B < w.heap.size + 1 + 1 := by omega
  unfold enV badE
  go_enter Try.func39, Try.ntmps39
  go_wp2
  go_quiet (fail)
  go_wp2
  exact bodyPost_ret (v := .tuple #[enV badE, .bool true]) (by simp [results, Try.results39, go_sem, badE]) rfl ⟨rfl, by (repeat (first | (with_reducible exact Below.refl _ _) | ((with_reducible refine Below.setCell ?_ ?_ _); rotate_left; focus (first | (simp; done) | (simp; omega))) | (with_reducible refine below_drewN ?_ _) | (with_reducible refine Below.drew ?_) | ((with_reducible refine Below.alloc ?_ ?_ _); rotate_left; focus (first | (simp; done) | (simp; omega)))))⟩

theorem rone_i3 (B off len cap : Nat) (hl : 5 ≤ len) (hm : len ≤ 9223372036854775807) (b0 b1 b2 b3 b4 : Int) (p0 : 0 ≤ b0) (q0 : b0 < 256) (p1 : 0 ≤ b1) (q1 : b1 < 256) (p2 : 0 ≤ b2) (q2 : b2 < 256) (p3 : 0 ≤ b3) (q3 : b3 < 256) (p4 : 0 ≤ b4) (q4 : b4 < 256) (w : World) (c0 : w.cell? ⟨B, off, none⟩ = some (.int .u8 b0)) (c1 : w.cell? ⟨B, off + 1, none⟩ = some (.int .u8 b1)) (c2 : w.cell? ⟨B, off + 2, none⟩ = some (.int .u8 b2)) (c3 : w.cell? ⟨B, off + 3, none⟩ = some (.int .u8 b3)) (c4 : w.cell? ⟨B, off + 4, none⟩ = some (.int .u8 b4)) (h0 : b0 = 1) (h1 : b1 ≤ 7) (h2 : b2 % 8 = 0) (h3 : 7 < b2 / 8) :
    Calls Try.prog 39 #[.slice (some ⟨B, off, none⟩) len cap] w fun e w' => e = .returned (.tuple #[enV badE, .bool true]) ∧ Below w.heap.size w w' := by
  have t0 : decide (3 < b0) = false := by first | (simp; done) | (simp; omega)
  have t1 : decide (7 < b1) = false := by first | (simp; done) | (simp; omega)
  have t2 : (b0 == 3) = false := by first | (simp; done) | (simp; omega)
  have t3 : (b0 + 1 == 1) = false := by first | (simp; done) | (simp; omega)
  have t4 : (b0 + 1 == 2) = true := by first | (simp; done) | (simp; omega)
  have t5 : (b2 % 8 != 0) = false := by first | (simp; done) | (simp; omega)
  have t6 : decide (b2 / 8 < 1) = false := by first | (simp; done) | (simp; omega)
  have t7 : decide (7 < b2 / 8) = true := by first | (simp; done) | (simp; omega)
  clear h0 h1 h2 h3
  have i0 : (5 : Int) ≤ (len : Int) := by omega
  have i1 : (0 : Int) < (len : Int) := by omega
  have i2 : (1 : Int) < (len : Int) := by omega
  have i3 : (2 : Int) < (len : Int) := by omega
  have i4 : (3 : Int) < (len : Int) := by omega
  have i5 : (4 : Int) < (len : Int) := by omega
  have hB : B < w.heap.size := World.block_lt_of_cell? w _ c0
  have hB1 : B < w.heap.size + 1 := by omega
  have hB2 : B < w.heap.size + 1 + 1 := by omega
  unfold enV badE
  go_enter Try.func39, Try.ntmps39
  go_wp2
  go_quiet (fail)
  go_wp2
  exact bodyPost_ret (v := .tuple #[enV badE, .bool true]) (by simp [results, Try.results39, go_sem, badE]) rfl ⟨rfl, by (repeat (first | (with_reducible exact Below.refl _ _) | ((with_reducible refine Below.setCell ?_ ?_ _); rotate_left; focus (first | (simp; done) | (simp; omega))) | (with_reducible refine below_drewN ?_ _) | (with_reducible refine Below.drew ?_) | ((with_reducible refine Below.alloc ?_ ?_ _); rotate_left; focus (first | (simp; done) | (simp; omega)))))⟩

theorem rone_i4 (B off len cap : Nat) (hl : 5 ≤ len) (hm : len ≤ 9223372036854775807) (b0 b1 b2 b3 b4 : Int) (p0 : 0 ≤ b0) (q0 : b0 < 256) (p1 : 0 ≤ b1) (q1 : b1 < 256) (p2 : 0 ≤ b2) (q2 : b2 < 256) (p3 : 0 ≤ b3) (q3 : b3 < 256) (p4 : 0 ≤ b4) (q4 : b4 < 256) (w : World) (c0 : w.cell? ⟨B, off, none⟩ = some (.int .u8 b0)) (c1 : w.cell? ⟨B, off + 1, none⟩ = some (.int .u8 b1)) (c2 : w.cell? ⟨B, off + 2, none⟩ = some (.int .u8 b2)) (c3 : w.cell? ⟨B, off + 3, none⟩ = some (.int .u8 b3)) (c4 : w.cell? ⟨B, off + 4, none⟩ = some (.int .u8 b4)) (h0 : b0 = 1) (h1 : b1 ≤ 7) (h2 : b2 % 8 = 0) (h3 : b2 / 8 = 5) :
    Calls Try.prog 39 #[.slice (some ⟨B, off, none⟩) len cap] w fun e w' => e = .returned (.tuple #[enV ⟨b0 + 1, b1, 0, b2 / 8, b3, b4, 0⟩, .bool true]) ∧ Below w.heap.size w w' := by
  have t0 : decide (3 < b0) = false := by first | (simp; done) | (simp; omega)
  have t1 : decide (7 < b1) = false := by first | (simp; done) | (simp; omega)
  have t2 : (b0 == 3) = false := by first | (simp; done) | (simp; omega)
  have t3 : (b0 + 1 == 1) = false := by first | (simp; done) | (simp; omega)
  have t4 : (b0 + 1 == 2) = true := by first | (simp; done) | (simp; omega)
  have t5 : (b2 % 8 != 0) = false := by first | (simp; done) | (simp; omega)
  have t6 : decide (b2 / 8 < 1) = false := by first | (simp; done) | (simp; omega)
  have t7 : decide (7 < b2 / 8) = false := by first | (simp; done) | (simp; omega)
  have t8 : (decide (b2 / 8 < 1) || decide (7 < b2 / 8)) = false := by first | (simp; done) | (simp; omega)
  have t9 : (b2 / 8 == 5) = true := by first | (simp; done) | (simp; omega)
  clear h0 h1 h2 h3
  have i0 : (5 : Int) ≤ (len : Int) := by omega
  have i1 : (0 : Int) < (len : Int) := by omega
  have i2 : (1 : Int) < (len : Int) := by omega
  have i3 : (2 : Int) < (len : Int) := by omega
  have i4 : (3 : Int) < (len : Int) := by omega
  have i5 : (4 : Int) < (len : Int) := by omega
  have hB : B < w.heap.size := World.block_lt_of_cell? w _ c0
  have hB1 : B < w.heap.size + 1 := by omega
  have hB2 : B < w.heap.size + 1 + 1 := by omega
  unfold enV
  go_enter Try.func39, Try.ntmps39
  go_wp2
  go_quiet (fail)
  go_wp2
  exact bodyPost_ret (v := .tuple #[enV ⟨b0 + 1, b1, 0, b2 / 8, b3, b4, 0⟩, .bool true]) (by simp [results, Try.results39, go_sem, badE]) rfl ⟨rfl, by (repeat (first | (with_reducible exact Below.refl _ _) | ((with_reducible refine Below.setCell ?_ ?_ _); rotate_left; focus (first | (simp; done) | (simp; omega))) | (with_reducible refine below_drewN ?_ _) | (with_reducible refine Below.drew ?_) | ((with_reducible refine Below.alloc ?_ ?_ _); rotate_left; focus (first | (simp; done) | (simp; omega)))))⟩

theorem rone_i5 (B off len cap : Nat) (hl : 5 ≤ len) (hm : len ≤ 9223372036854775807) (b0 b1 b2 b3 b4 : Int) (p0 : 0 ≤ b0) (q0 : b0 < 256) (p1 : 0 ≤ b1) (q1 : b1 < 256) (p2 : 0 ≤ b2) (q2 : b2 < 256) (p3 : 0 ≤ b3) (q3 : b3 < 256) (p4 : 0 ≤ b4) (q4 : b4 < 256) (w : World) (c0 : w.cell? ⟨B, off, none⟩ = some (.int .u8 b0)) (c1 : w.cell? ⟨B, off + 1, none⟩ = some (.int .u8 b1)) (c2 : w.cell? ⟨B, off + 2, none⟩ = some (.int .u8 b2)) (c3 : w.cell? ⟨B, off + 3, none⟩ = some (.int .u8 b3)) (c4 : w.cell? ⟨B, off + 4, none⟩ = some (.int .u8 b4)) (h0 : b0 = 1) (h1 : b1 ≤ 7) (h2 : b2 % 8 = 0) (h3 : b2 / 8 = 2) :
    Calls Try.prog 39 #[.slice (some ⟨B, off, none⟩) len cap] w fun e w' => e = .returned (.tuple #[enV ⟨b0 + 1, b1, 0, b2 / 8, b3, 0, b4⟩, .bool true]) ∧ Below w.heap.size w w' := by
  have t0 : decide (3 < b0) = false := by first | (simp; done) | (simp; omega)
  have t1 : decide (7 < b1) = false := by first | (simp; done) | (simp; omega)
  have t2 : (b0 == 3) = false := by first | (simp; done) | (simp; omega)
  have t3 : (b0 + 1 == 1) = false := by first | (simp; done) | (simp; omega)
  have t4 : (b0 + 1 == 2) = true := by first | (simp; done) | (simp; omega)
  have t5 : (b2 % 8 != 0) = false := by first | (simp; done) | (simp; omega)
  have t6 : decide (b2 / 8 < 1) = false := by first | (simp; done) | (simp; omega)
  have t7 : decide (7 < b2 / 8) = false := by first | (simp; done) | (simp; omega)
  have t8 : (decide (b2 / 8 < 1) || decide (7 < b2 / 8)) = false := by first | (simp; done) | (simp; omega)
  have t9 : (b2 / 8 == 5) = false := by first | (simp; done) | (simp; omega)
  have t10 : (b2 / 8 == 2) = true := by first | (simp; done) | (simp; omega)
  clear h0 h1 h2 h3
  have i0 : (5 : Int) ≤ (len : Int) := by omega
  have i1 : (0 : Int) < (len : Int) := by omega
  have i2 : (1 : Int) < (len : Int) := by omega
  have i3 : (2 : Int) < (len : Int) := by omega
  have i4 : (3 : Int) < (len : Int) := by omega
  have i5 : (4 : Int) < (len : Int) := by omega
  have hB : B < w.heap.size := World.block_lt_of_cell? w _ c0
  have hB1 : B < w.heap.size + 1 := by omega
  have hB2 : B < w.heap.size + 1 + 1 := by omega
  unfold enV
  go_enter Try.func39, Try.ntmps39
  go_wp2
  go_quiet (fail)
  go_wp2
  exact bodyPost_ret (v := .tuple #[enV ⟨b0 + 1, b1, 0, b2 / 8, b3, 0, b4⟩, .bool true]) (by simp [results, Try.results39, go_sem, badE]) rfl ⟨rfl, by (repeat (first | (with_reducible exact Below.refl _ _) | ((with_reducible refine Below.setCell ?_ ?_ _); rotate_left; focus (first | (simp; done) | (simp; omega))) | (with_reducible refine below_drewN ?_ _) | (with_reducible refine Below.drew ?_) | ((with_reducible refine Below.alloc ?_ ?_ _); rotate_left; focus (first | (simp; done) | (simp; omega)))))⟩

theorem rone_i6 (B off len cap : Nat) (hl : 5 ≤ len) (hm : len ≤ 9223372036854775807) (b0 b1 b2 b3 b4 : Int) (p0 : 0 ≤ b0) (q0 : b0 < 256) (p1 : 0 ≤ b1) (q1 : b1 < 256) (p2 : 0 ≤ b2) (q2 : b2 < 256) (p3 : 0 ≤ b3) (q3 : b3 < 256) (p4 : 0 ≤ b4) (q4 : b4 < 256) (w : World) (c0 : w.cell? ⟨B, off, none⟩ = some (.int .u8 b0)) (c1 : w.cell? ⟨B, off + 1, none⟩ = some (.int .u8 b1)) (c2 : w.cell? ⟨B, off + 2, none⟩ = some (.int .u8 b2)) (c3 : w.cell? ⟨B, off + 3, none⟩ = some (.int .u8 b3)) (c4 : w.cell? ⟨B, off + 4, none⟩ = some (.int .u8 b4)) (h0 : b0 = 1) (h1 : b1 ≤ 7) (h2 : b2 % 8 = 0) (h3 : b2 / 8 = 3) :
    Calls Try.prog 39 #[.slice (some ⟨B, off, none⟩) len cap] w fun e w' => e = .returned (.tuple #[enV ⟨b0 + 1, b1, 0, b2 / 8, b3, 0, b4⟩, .bool true]) ∧ Below w.heap.size w w' := by
  have t0 : decide (3 < b0) = false := by first | (simp; done) | (simp; omega)
  have t1 : decide (7 < b1) = false := by first | (simp; done) | (simp; omega)
  have t2 : (b0 == 3) = false := by first | (simp; done) | (simp; omega)
  have t3 : (b0 + 1 == 1) = false := by first | (simp; done) | (simp; omega)
  have t4 : (b0 + 1 == 2) = true := by first | (simp; done) | (simp; omega)
  have t5 : (b2 % 8 != 0) = false := by first | (simp; done) | (simp; omega)
  have t6 : decide (b2 / 8 < 1) = false := by first | (simp; done) | (simp; omega)
  have t7 : decide (7 < b2 / 8) = false := by first | (simp; done) | (simp; omega)
  have t8 : (decide (b2 / 8 < 1) || decide (7 < b2 / 8)) = false := by first | (simp; done) | (simp; omega)
  have t9 : (b2 / 8 == 5) = false := by first | (simp; done) | (simp; omega)
  have t10 : (b2 / 8 == 2) = false := by first | (simp; done) | (simp; omega)
  have t11 : (b2 / 8 == 3) = true := by first | (simp; done) | (simp; omega)
  clear h0 h1 h2 h3
  have i0 : (5 : Int) ≤ (len : Int) := by omega
  have i1 : (0 : Int) < (len : Int) := by omega
  have i2 : (1 : Int) < (len : Int) := by omega
  have i3 : (2 : Int) < (len : Int) := by omega
  have i4 : (3 : Int) < (len : Int) := by omega
  have i5 : (4 : Int) < (len : Int) := by omega
  have hB : B < w.heap.size := World.block_lt_of_cell? w _ c0
  have hB1 : B < w.heap.size + 1 := by omega
  have hB2 : B < w.heap.size + 1 + 1 := by omega
  unfold enV
  go_enter Try.func39, Try.ntmps39
  go_wp2
  go_quiet (fail)
  go_wp2
  exact bodyPost_ret (v := .tuple #[enV ⟨b0 + 1, b1, 0, b2 / 8, b3, 0, b4⟩, .bool true]) (by simp [results, Try.results39, go_sem, badE]) rfl ⟨rfl, by (repeat (first | (with_reducible exact Below.refl _ _) | ((with_reducible refine Below.setCell ?_ ?_ _); rotate_left; focus (first | (simp; done) | (simp; omega))) | (with_reducible refine below_drewN ?_ _) | (with_reducible refine Below.drew ?_) | ((with_reducible refine Below.alloc ?_ ?_ _); rotate_left; focus (first | (simp; done) | (simp; omega)))))⟩

theorem rone_i7 (B off len cap : Nat) (hl : 5 ≤ len) (hm : len ≤ 9223372036854775807) (b0 b1 b2 b3 b4 : Int) (p0 : 0 ≤ b0) (q0 : b0 < 256) (p1 : 0 ≤ b1) (q1 : b1 < 256) (p2 : 0 ≤ b2) (q2 : b2 < 256) (p3 : 0 ≤ b3) (q3 : b3 < 256) (p4 : 0 ≤ b4) (q4 : b4 < 256) (w : World) (c0 : w.cell? ⟨B, off, none⟩ = some (.int .u8 b0)) (c1 : w.cell? ⟨B, off + 1, none⟩ = some (.int .u8 b1)) (c2 : w.cell? ⟨B, off + 2, none⟩ = some (.int .u8 b2)) (c3 : w.cell? ⟨B, off + 3, none⟩ = some (.int .u8 b3)) (c4 : w.cell? ⟨B, off + 4, none⟩ = some (.int .u8 b4)) (h0 : b0 = 1) (h1 : b1 ≤ 7) (h2 : b2 % 8 = 0) (h3 : b2 / 8 = 1 ∨ b2 / 8 = 4 ∨ b2 / 8 = 6 ∨ b2 / 8 = 7) (h4 : b4 ≠ 0) :
    Calls Try.prog 39 #[.slice (some ⟨B, off, none⟩) len cap] w fun e w' => e = .returned (.tuple #[enV badE, .bool true]) ∧ Below w.heap.size w w' := by
  have t0 : decide (3 < b0) = false := by first | (simp; done) | (simp; omega)
  have t1 : decide (7 < b1) = false := by first | (simp; done) | (simp; omega)
  have t2 : (b0 == 3) = false := by first | (simp; done) | (simp; omega)
  have t3 : (b0 + 1 == 1) = false := by first | (simp; done) | (simp; omega)
  have t4 : (b0 + 1 == 2) = true := by first | (simp; done) | (simp; omega)
  have t5 : (b2 % 8 != 0) = false := by first | (simp; done) | (simp; omega)
  have t6 : decide (b2 / 8 < 1) = false := by first | (simp; done) | (simp; omega)
  have t7 : decide (7 < b2 / 8) = false := by first | (simp; done) | (simp; omega)
  have t8 : (decide (b2 / 8 < 1) || decide (7 < b2 / 8)) = false := by first | (simp; done) | (simp; omega)
  have t9 : (b2 / 8 == 5) = false := by first | (simp; done) | (simp; omega)
  have t10 : (b2 / 8 == 2) = false := by first | (simp; done) | (simp; omega)
  have t11 : (b2 / 8 == 3) = false := by first | (simp; done) | (simp; omega)
  have t12 : (b4 != 0) = true := by first | (simp; done) | (simp; omega)
  clear h0 h1 h2 h3 h4
  have i0 : (5 : Int) ≤ (len : Int) := by omega
  have i1 : (0 : Int) < (len : Int) := by omega
  have i2 : (1 : Int) < (len : Int) := by omega
  have i3 : (2 : Int) < (len : Int) := by omega
  have i4 : (3 : Int) < (len : Int) := by omega
  have i5 : (4 : Int) < (len : Int) := by omega
  have hB : B < w.heap.size := World.block_lt_of_cell? w _ c0
  have hB1 : B < w.heap.size + 1 := by omega
  have hB2 : B < w.heap.size + 1 + 1 := by omega
  unfold enV badE
  go_enter Try.func39, Try.ntmps39
  go_wp2
  go_quiet (fail)
  go_wp2
  exact bodyPost_ret (v := .tuple #[enV badE, .bool true]) (by simp [results, Try.results39, go_sem, badE]) rfl ⟨rfl, by (repeat (first | (with_reducible exact Below.refl _ _) | ((with_reducible refine Below.setCell ?_ ?_ _); rotate_left; focus (first | (simp; done) | (simp; omega))) | (with_reducible refine below_drewN ?_ _) | (with_reducible refine Below.drew ?_) | ((with_reducible refine Below.alloc ?_ ?_ _); rotate_left; focus (first | (simp; done) | (simp; omega)))))⟩

theorem rone_i8 (B off len cap : Nat) (hl : 5 ≤ len) (hm : len ≤ 9223372036854775807) (b0 b1 b2 b3 b4 : Int) (p0 : 0 ≤ b0) (q0 : b0 < 256) (p1 : 0 ≤ b1) (q1 : b1 < 256) (p2 : 0 ≤ b2) (q2 : b2 < 256) (p3 : 0 ≤ b3) (q3 : b3 < 256) (p4 : 0 ≤ b4) (q4 : b4 < 256) (w : World) (c0 : w.cell? ⟨B, off, none⟩ = some (.int .u8 b0)) (c1 : w.cell? ⟨B, off + 1, none⟩ = some (.int .u8 b1)) (c2 : w.cell? ⟨B, off + 2, none⟩ = some (.int .u8 b2)) (c3 : w.cell? ⟨B, off + 3, none⟩ = some (.int .u8 b3)) (c4 : w.cell? ⟨B, off + 4, none⟩ = some (.int .u8 b4)) (h0 : b0 = 1) (h1 : b1 ≤ 7) (h2 : b2 % 8 = 0) (h3 : b2 / 8 = 1 ∨ b2 / 8 = 4 ∨ b2 / 8 = 6 ∨ b2 / 8 = 7) (h4 : b4 = 0) (h5 : 6 ≤ b2 / 8) (h6 : b3 ≠ 0) :
    Calls Try.prog 39 #[.slice (some ⟨B, off, none⟩) len cap] w fun e w' => e = .returned (.tuple #[enV badE, .bool true]) ∧ Below w.heap.size w w' := by
  have t0 : decide (3 < b0) = false := by first | (simp; done) | (simp; omega)
  have t1 : decide (7 < b1) = false := by first | (simp; done) | (simp; omega)
  have t2 : (b0 == 3) = false := by first | (simp; done) | (simp; omega)
  have t3 : (b0 + 1 == 1) = false := by first | (simp; done) | (simp; omega)
  have t4 : (b0 + 1 == 2) = true := by first | (simp; done) | (simp; omega)
  have t5 : (b2 % 8 != 0) = false := by first | (simp; done) | (simp; omega)
  have t6 : decide (b2 / 8 < 1) = false := by first | (simp; done) | (simp; omega)
  have t7 : decide (7 < b2 / 8) = false := by first | (simp; done) | (simp; omega)
  have t8 : (decide (b2 / 8 < 1) || decide (7 < b2 / 8)) = false := by first | (simp; done) | (simp; omega)
  have t9 : (b2 / 8 == 5) = false := by first | (simp; done) | (simp; omega)
  have t10 : (b2 / 8 == 2) = false := by first | (simp; done) | (simp; omega)
  have t11 : (b2 / 8 == 3) = false := by first | (simp; done) | (simp; omega)
  have t12 : (b4 != 0) = false := by first | (simp; done) | (simp; omega)
  have t13 : decide (6 ≤ b2 / 8) = true := by first | (simp; done) | (simp; omega)
  have t14 : (b3 != 0) = true := by first | (simp; done) | (simp; omega)
  clear h0 h1 h2 h3 h4 h5 h6
  have i0 : (5 : Int) ≤ (len : Int) := by omega
  have i1 : (0 : Int) < (len : Int) := by omega
  have i2 : (1 : Int) < (len : Int) := by omega
  have i3 : (2 : Int) < (len : Int) := by omega
  have i4 : (3 : Int) < (len : Int) := by omega
  have i5 : (4 : Int) < (len : Int) := by omega
  have hB : B < w.heap.size := World.block_lt_of_cell? w _ c0
  have hB1 : B < w.heap.size + 1 := by omega
  have hB2 : B < w.heap.size + 1 + 1 := by omega
  unfold enV badE
  go_enter Try.func39, Try.ntmps39
  go_wp2
  go_quiet (fail)
  go_wp2
  exact bodyPost_ret (v := .tuple #[enV badE, .bool true]) (by simp [results, Try.results39, go_sem, badE]) rfl ⟨rfl, by (repeat (first | (with_reducible exact Below.refl _ _) | ((with_reducible refine Below.setCell ?_ ?_ _); rotate_left; focus (first | (simp; done) | (simp; omega))) | (with_reducible refine below_drewN ?_ _) | (with_reducible refine Below.drew ?_) | ((with_reducible refine Below.alloc ?_ ?_ _); rotate_left; focus (first | (simp; done) | (simp; omega)))))⟩

theorem rone_i9 (B off len cap : Nat) (hl : 5 ≤ len) (hm : len ≤ 9223372036854775807) (b0 b1 b2 b3 b4 : Int) (p0 : 0 ≤ b0) (q0 : b0 < 256) (p1 : 0 ≤ b1) (q1 : b1 < 256) (p2 : 0 ≤ b2) (q2 : b2 < 256) (p3 : 0 ≤ b3) (q3 : b3 < 256) (p4 : 0 ≤ b4) (q4 : b4 < 256) (w : World) (c0 : w.cell? ⟨B, off, none⟩ = some (.int .u8 b0)) (c1 : w.cell? ⟨B, off + 1, none⟩ = some (.int .u8 b1)) (c2 : w.cell? ⟨B, off + 2, none⟩ = some (.int .u8 b2)) (c3 : w.cell? ⟨B, off + 3, none⟩ = some (.int .u8 b3)) (c4 : w.cell? ⟨B, off + 4, none⟩ = some (.int .u8 b4)) (h0 : b0 = 1) (h1 : b1 ≤ 7) (h2 : b2 % 8 = 0) (h3 : b2 / 8 = 1 ∨ b2 / 8 = 4 ∨ b2 / 8 = 6 ∨ b2 / 8 = 7) (h4 : b4 = 0) (h5 : 6 ≤ b2 / 8) (h6 : b3 = 0) :
    Calls Try.prog 39 #[.slice (some ⟨B, off, none⟩) len cap] w fun e w' => e = .returned (.tuple #[enV ⟨b0 + 1, b1, 0, b2 / 8, b3, 0, 0⟩, .bool true]) ∧ Below w.heap.size w w' := by
  have t0 : decide (3 < b0) = false := by first | (simp; done) | (simp; omega)
  have t1 : decide (7 < b1) = false := by first | (simp; done) | (simp; omega)
  have t2 : (b0 == 3) = false := by first | (simp; done) | (simp; omega)
  have t3 : (b0 + 1 == 1) = false := by first | (simp; done) | (simp; omega)
  have t4 : (b0 + 1 == 2) = true := by first | (simp; done) | (simp; omega)
  have t5 : (b2 % 8 != 0) = false := by first | (simp; done) | (simp; omega)
  have t6 : decide (b2 / 8 < 1) = false := by first | (simp; done) | (simp; omega)
  have t7 : decide (7 < b2 / 8) = false := by first | (simp; done) | (simp; omega)
  have t8 : (decide (b2 / 8 < 1) || decide (7 < b2 / 8)) = false := by first | (simp; done) | (simp; omega)
  have t9 : (b2 / 8 == 5) = false := by first | (simp; done) | (simp; omega)
  have t10 : (b2 / 8 == 2) = false := by first | (simp; done) | (simp; omega)
  have t11 : (b2 / 8 == 3) = false := by first | (simp; done) | (simp; omega)
  have t12 : (b4 != 0) = false := by first | (simp; done) | (simp; omega)
  have t13 : decide (6 ≤ b2 / 8) = true := by first | (simp; done) | (simp; omega)
  have t14 : (b3 != 0) = false := by first | (simp; done) | (simp; omega)
  clear h0 h1 h2 h3 h4 h5 h6
  have i0 : (5 : Int) ≤ (len : Int) := by omega
  have i1 : (0 : Int) < (len : Int) := by omega
  have i2 : (1 : Int) < (len : Int) := by omega
  have i3 : (2 : Int) < (len : Int) := by omega
  have i4 : (3 : Int) < (len : Int) := by omega
  have i5 : (4 : Int) < (len : Int) := by omega
  have hB : B < w.heap.size := World.block_lt_of_cell? w _ c0
  have hB1 : B < w.heap.size + 1 := by omega
  have hB2 : B < w.heap.size + 1 + 1 := by omega
  unfold enV
  go_enter Try.func39, Try.ntmps39
  go_wp2
  go_quiet (fail)
  go_wp2
  exact bodyPost_ret (v := .tuple #[enV ⟨b0 + 1, b1, 0, b2 / 8, b3, 0, 0⟩, .bool true]) (by simp [results, Try.results39, go_sem, badE]) rfl ⟨rfl, by (repeat (first | (with_reducible exact Below.refl _ _) | ((with_reducible refine Below.setCell ?_ ?_ _); rotate_left; focus (first | (simp; done) | (simp; omega))) | (with_reducible refine below_drewN ?_ _) | (with_reducible refine Below.drew ?_) | ((with_reducible refine Below.alloc ?_ ?_ _); rotate_left; focus (first | (simp; done) | (simp; omega)))))⟩

theorem rone_i0 (B off len cap : Nat) (hl : 5 ≤ len) (hm : len ≤ 9223372036854775807) (b0 b1 b2 b3 b4 : Int) (p0 : 0 ≤ b0) (q0 : b0 < 256) (p1 : 0 ≤ b1) (q1 : b1 < 256) (p2 : 0 ≤ b2) (q2 : b2 < 256) (p3 : 0 ≤ b3) (q3 : b3 < 256) (p4 : 0 ≤ b4) (q4 : b4 < 256) (w : World) (c0 : w.cell? ⟨B, off, none⟩ = some (.int .u8 b0)) (c1 : w.cell? ⟨B, off + 1, none⟩ = some (.int .u8 b1)) (c2 : w.cell? ⟨B, off + 2, none⟩ = some (.int .u8 b2)) (c3 : w.cell? ⟨B, off + 3, none⟩ = some (.int .u8 b3)) (c4 : w.cell? ⟨B, off + 4, none⟩ = some (.int .u8 b4)) (h0 : b0 = 1) (h1 : b1 ≤ 7) (h2 : b2 % 8 = 0) (h3 : b2 / 8 = 1 ∨ b2 / 8 = 4 ∨ b2 / 8 = 6 ∨ b2 / 8 = 7) (h4 : b4 = 0) (h5 : b2 / 8 < 6) :
    Calls Try.prog 39 #[.slice (some ⟨B, off, none⟩) len cap] w fun e w' => e = .returned (.tuple #[enV ⟨b0 + 1, b1, 0, b2 / 8, b3, 0, 0⟩, .bool true]) ∧ Below w.heap.size w w' := by
  have t0 : decide (3 < b0) = false := by first | (simp; done) | (simp; omega)
  have t1 : decide (7 < b1) = false := by first | (simp; done) | (simp; omega)
  have t2 : (b0 == 3) = false := by first | (simp; done) | (simp; omega)
  have t3 : (b0 + 1 == 1) = false := by first | (simp; done) | (simp; omega)
  have t4 : (b0 + 1 == 2) = true := by first | (simp; done) | (simp; omega)
  have t5 : (b2 % 8 != 0) = false := by first | (simp; done) | (simp; omega)
  have t6 : decide (b2 / 8 < 1) = false := by first | (simp; done) | (simp; omega)
  have t7 : decide (7 < b2 / 8) = false := by first | (simp; done) | (simp; omega)
  have t8 : (decide (b2 / 8 < 1) || decide (7 < b2 / 8)) = false := by first | (simp; done) | (simp; omega)
  have t9 : (b2 / 8 == 5) = false := by first | (simp; done) | (simp; omega)
  have t10 : (b2 / 8 == 2) = false := by first | (simp; done) | (simp; omega)
  have t11 : (b2 / 8 == 3) = false := by first | (simp; done) | (simp; omega)
  have t12 : (b4 != 0) = false := by first | (simp; done) | (simp; omega)
  have t13 : decide (6 ≤ b2 / 8) = false := by first | (simp; done) | (simp; omega)
  clear h0 h1 h2 h3 h4 h5
  have i0 : (5 : Int) ≤ (len : Int) := by omega
  have i1 : (0 : Int) < (len : Int) := by omega
  have i2 : (1 : Int) < (len : Int) := by omega
  have i3 : (2 : Int) < (len : Int) := by omega
  have i4 : (3 : Int) < (len : Int) := by omega
  have i5 : (4 : Int) < (len : Int) := by omega
  have hB : B < w.heap.size := World.block_lt_of_cell? w _ c0
  have hB1 : B < w.heap.size + 1 := by omega
  have hB2 : B < w.heap.size + 1 + 1 := by omega
  unfold enV
  go_enter Try.func39, Try.ntmps39
  go_wp2
  go_quiet (fail)
  go_wp2
  exact bodyPost_ret (v := .tuple #[enV ⟨b0 + 1, b1, 0, b2 / 8, b3, 0, 0⟩, .bool true]) (by simp [results, Try.results39, go_sem, badE]) rfl ⟨rfl, by (repeat (first | (with_reducible exact Below.refl _ _) | ((with_reducible refine Below.setCell ?_ ?_ _); rotate_left; focus (first | (simp; done) | (simp; omega))) | (with_reducible refine below_drewN ?_ _) | (with_reducible refine Below.drew ?_) | ((with_reducible refine Below.alloc ?_ ?_ _); rotate_left; focus (first | (simp; done) | (simp; omega)))))⟩

theorem rone_t1 (B off len cap : Nat) (hl : 5 ≤ len) (hm : len ≤ 9223372036854775807) (b0 b1 b2 b3 b4 : Int) (p0 : 0 ≤ b0) (q0 : b0 < 256) (p1 : 0 ≤ b1) (q1 : b1 < 256) (p2 : 0 ≤ b2) (q2 : b2 < 256) (p3 : 0 ≤ b3) (q3 : b3 < 256) (p4 : 0 ≤ b4) (q4 : b4 < 256) (w : World) (c0 : w.cell? ⟨B, off, none⟩ = some (.int .u8 b0)) (c1 : w.cell? ⟨B, off + 1, none⟩ = some (.int .u8 b1)) (c2 : w.cell? ⟨B, off + 2, none⟩ = some (.int .u8 b2)) (c3 : w.cell? ⟨B, off + 3, none⟩ = some (.int .u8 b3)) (c4 : w.cell? ⟨B, off + 4, none⟩ = some (.int .u8 b4)) (h0 : b0 = 2) (h1 : b1 ≤ 7) (h2 : b2 ≠ 0) :
    Calls Try.prog 39 #[.slice (some ⟨B, off, none⟩) len cap] w fun e w' => e = .returned (.tuple #[enV badE, .bool true]) ∧ Below w.heap.size w w' := by
  have t0 : decide (3 < b0) = false := by first | (simp; done) | (simp; omega)
  have t1 : decide (7 < b1) = false := by first | (simp; done) | (simp; omega)
  have t2 : (b0 == 3) = false := by first | (simp; done) | (simp; omega)
  have t3 : (b0 + 1 == 1) = false := by first | (simp; done) | (simp; omega)
  have t4 : (b0 + 1 == 2) = false := by first | (simp; done) | (simp; omega)
  have t5 : (b2 != 0) = true := by first | (simp; done) | (simp; omega)
  clear h0 h1 h2
  have i0 : (5 : Int) ≤ (len : Int) := by omega
  have i1 : (0 : Int) < (len : Int) := by omega
  have i2 : (1 : Int) < (len : Int) := by omega
  have i3 : (2 : Int) < (len : Int) := by omega
  have i4 : (3 : Int) < (len : Int) := by omega
  have i5 : (4 : Int) < (len : Int) := by omega
  have hB : B < w.heap.size := World.block_lt_of_cell? w _ c0
  have hB1 : B < w.heap.size + 1 := by omega
  have hB2 : B < w.heap.size + 1 + 1 := by omega
  unfold enV badE
  go_enter Try.func39, Try.ntmps39
  go_wp2
  go_quiet (fail)
  go_wp2
  exact bodyPost_ret (v := .tuple #[enV badE, .bool true]) (by simp [results, Try.results39, go_sem, badE]) rfl ⟨rfl, by (repeat (first | (with_reducible exact Below.refl _ _) | ((with_reducible refine Below.setCell ?_ ?_ _); rotate_left; focus (first | (simp; done) | (simp; omega))) | (with_reducible refine below_drewN ?_ _) | (with_reducible refine Below.drew ?_) | ((with_reducible refine Below.alloc ?_ ?_ _); rotate_left; focus (first | (simp; done) | (simp; omega)))))⟩

theorem rone_t2 (B off len cap : Nat) (hl : 5 ≤ len) (hm : len ≤ 9223372036854775807) (b0 b1 b2 b3 b4 : Int) (p0 : 0 ≤ b0) (q0 : b0 < 256) (p1 : 0 ≤ b1) (q1 : b1 < 256) (p2 : 0 ≤ b2) (q2 : b2 < 256) (p3 : 0 ≤ b3) (q3 : b3 < 256) (p4 : 0 ≤ b4) (q4 : b4 < 256) (w : World) (c0 : w.cell? ⟨B, off, none⟩ = some (.int .u8 b0)) (c1 : w.cell? ⟨B, off + 1, none⟩ = some (.int .u8 b1)) (c2 : w.cell? ⟨B, off + 2, none⟩ = some (.int .u8 b2)) (c3 : w.cell? ⟨B, off + 3, none⟩ = some (.int .u8 b3)) (c4 : w.cell? ⟨B, off + 4, none⟩ = some (.int .u8 b4)) (h0 : b0 = 2) (h1 : b1 ≤ 7) (h2 : b2 = 0) (h3 : b3 ≠ 0) :
    Calls Try.prog 39 #[.slice (some ⟨B, off, none⟩) len cap] w fun e w' => e = .returned (.tuple #[enV badE, .bool true]) ∧ Below w.heap.size w w' := by
  have t0 : decide (3 < b0) = false := by first | (simp; done) | (simp; omega)
  have t1 : decide (7 < b1) = false := by first | (simp; done) | (simp; omega)
  have t2 : (b0 == 3) = false := by first | (simp; done) | (simp; omega)
  have t3 : (b0 + 1 == 1) = false := by first | (simp; done) | (simp; omega)
  have t4 : (b0 + 1 == 2) = false := by first | (simp; done) | (simp; omega)
  have t5 : (b2 != 0) = false := by first | (simp; done) | (simp; omega)
  have t6 : (b3 != 0) = true := by first | (simp; done) | (simp; omega)
  clear h0 h1 h2 h3
  have i0 : (5 : Int) ≤ (len : Int) := by omega
  have i1 : (0 : Int) < (len : Int) := by omega
  have i2 : (1 : Int) < (len : Int) := by omega
  have i3 : (2 : Int) < (len : Int) := by omega
  have i4 : (3 : Int) < (len : Int) := by omega
  have i5 : (4 : Int) < (len : Int) := by omega
  have hB : B < w.heap.size := World.block_lt_of_cell? w _ c0
  have hB1 : B < w.heap.size + 1 := by omega
  have hB2 : B < w.heap.size + 1 + 1 := by omega
  unfold enV badE
  go_enter Try.func39, Try.ntmps39
  go_wp2
  go_quiet (fail)
  go_wp2
  exact bodyPost_ret (v := .tuple #[enV badE, .bool true]) (by simp [results, Try.results39, go_sem, badE]) rfl ⟨rfl, by (repeat (first | (with_reducible exact Below.refl _ _) | ((with_reducible refine Below.setCell ?_ ?_ _); rotate_left; focus (first | (simp; done) | (simp; omega))) | (with_reducible refine below_drewN ?_ _) | (with_reducible refine Below.drew ?_) | ((with_reducible refine Below.alloc ?_ ?_ _); rotate_left; focus (first | (simp; done) | (simp; omega)))))⟩

theorem rone_t3 (B off len cap : Nat) (hl : 5 ≤ len) (hm : len ≤ 9223372036854775807) (b0 b1 b2 b3 b4 : Int) (p0 : 0 ≤ b0) (q0 : b0 < 256) (p1 : 0 ≤ b1) (q1 : b1 < 256) (p2 : 0 ≤ b2) (q2 : b2 < 256) (p3 : 0 ≤ b3) (q3 : b3 < 256) (p4 : 0 ≤ b4) (q4 : b4 < 256) (w : World) (c0 : w.cell? ⟨B, off, none⟩ = some (.int .u8 b0)) (c1 : w.cell? ⟨B, off + 1, none⟩ = some (.int .u8 b1)) (c2 : w.cell? ⟨B, off + 2, none⟩ = some (.int .u8 b2)) (c3 : w.cell? ⟨B, off + 3, none⟩ = some (.int .u8 b3)) (c4 : w.cell? ⟨B, off + 4, none⟩ = some (.int .u8 b4)) (h0 : b0 = 2) (h1 : b1 ≤ 7) (h2 : b2 = 0) (h3 : b3 = 0) (h4 : b4 ≠ 0) :
    Calls Try.prog 39 #[.slice (some ⟨B, off, none⟩) len cap] w fun e w' => e = .returned (.tuple #[enV badE, .bool true]) ∧ Below w.heap.size w w' := by
  have t0 : decide (3 < b0) = false := by first | (simp; done) | (simp; omega)
  have t1 : decide (7 < b1) = false := by first | (simp; done) | (simp; omega)
  have t2 : (b0 == 3) = false := by first | (simp; done) | (simp; omega)
  have t3 : (b0 + 1 == 1) = false := by first | (simp; done) | (simp; omega)
  have t4 : (b0 + 1 == 2) = false := by first | (simp; done) | (simp; omega)
  have t5 : (b2 != 0) = false := by first | (simp; done) | (simp; omega)
  have t6 : (b3 != 0) = false := by first | (simp; done) | (simp; omega)
  have t7 : (b4 != 0) = true := by first | (simp; done) | (simp; omega)
  clear h0 h1 h2 h3 h4
  have i0 : (5 : Int) ≤ (len : Int) := by omega
  have i1 : (0 : Int) < (len : Int) := by omega
  have i2 : (1 : Int) < (len : Int) := by omega
  have i3 : (2 : Int) < (len : Int) := by omega
  have i4 : (3 : Int) < (len : Int) := by omega
  have i5 : (4 : Int) < (len : Int) := by omega
  have hB : B < w.heap.size := World.block_lt_of_cell? w _ c0
  have hB1 : B < w.heap.size + 1 := by omega
  have hB2 : B < w.heap.size + 1 + 1 := by omega
  unfold enV badE
  go_enter Try.func39, Try.ntmps39
  go_wp2
  go_quiet (fail)
  go_wp2
  exact bodyPost_ret (v := .tuple #[enV badE, .bool true]) (by simp [results, Try.results39, go_sem, badE]) rfl ⟨rfl, by (repeat (first | (with_reducible exact Below.refl _ _) | ((with_reducible refine Below.setCell ?_ ?_ _); rotate_left; focus (first | (simp; done) | (simp; omega))) | (with_reducible refine below_drewN ?_ _) | (with_reducible refine Below.drew ?_) | ((with_reducible refine Below.alloc ?_ ?_ _); rotate_left; focus (first | (simp; done) | (simp; omega)))))⟩

theorem rone_t4 (B off len cap : Nat) (hl : 5 ≤ len) (hm : len ≤ 9223372036854775807) (b0 b1 b2 b3 b4 : Int) (p0 : 0 ≤ b0) (q0 : b0 < 256) (p1 : 0 ≤ b1) (q1 : b1 < 256) (p2 : 0 ≤ b2) (q2 : b2 < 256) (p3 : 0 ≤ b3) (q3 : b3 < 256) (p4 : 0 ≤ b4) (q4 : b4 < 256) (w : World) (c0 : w.cell? ⟨B, off, none⟩ = some (.int .u8 b0)) (c1 : w.cell? ⟨B, off + 1, none⟩ = some (.int .u8 b1)) (c2 : w.cell? ⟨B, off + 2, none⟩ = some (.int .u8 b2)) (c3 : w.cell? ⟨B, off + 3, none⟩ = some (.int .u8 b3)) (c4 : w.cell? ⟨B, off + 4, none⟩ = some (.int .u8 b4)) (h0 : b0 = 2) (h1 : b1 ≤ 7) (h2 : b2 = 0) (h3 : b3 = 0) (h4 : b4 = 0) :
    Calls Try.prog 39 #[.slice (some ⟨B, off, none⟩) len cap] w fun e w' => e = .returned (.tuple #[enV ⟨b0 + 1, b1, 0, 0, 0, 0, 0⟩, .bool true]) ∧ Below w.heap.size w w' := by
  have t0 : decide (3 < b0) = false := by first | (simp; done) | (simp; omega)
  have t1 : decide (7 < b1) = false := by first | (simp; done) | (simp; omega)
  have t2 : (b0 == 3) = false := by first | (simp; done) | (simp; omega)
  have t3 : (b0 + 1 == 1) = false := by first | (simp; done) | (simp; omega)
  have t4 : (b0 + 1 == 2) = false := by first | (simp; done) | (simp; omega)
  have t5 : (b2 != 0) = false := by first | (simp; done) | (simp; omega)
  have t6 : (b3 != 0) = false := by first | (simp; done) | (simp; omega)
  have t7 : (b4 != 0) = false := by first | (simp; done) | (simp; omega)
  clear h0 h1 h2 h3 h4
  have i0 : (5 : Int) ≤ (len : Int) := by omega
  have i1 : (0 : Int) < (len : Int) := by omega
  have i2 : (1 : Int) < (len : Int) := by omega
  have i3 : (2 : Int) < (len : Int) := by omega
  have i4 : (3 : Int) < (len : Int) := by omega
  have i5 : (4 : Int) < (len : Int) := by omega
  have hB : B < w.heap.size := World.block_lt_of_cell? w _ c0
  have hB1 : B < w.heap.size + 1 := by omega
  have hB2 : B < w.heap.size + 1 + 1 := by omega
  unfold enV
  go_enter Try.func39, Try.ntmps39
  go_wp2
  go_quiet (fail)
  go_wp2
  exact bodyPost_ret (v := .tuple #[enV ⟨b0 + 1, b1, 0, 0, 0, 0, 0⟩, .bool true]) (by simp [results, Try.results39, go_sem, badE]) rfl ⟨rfl, by (repeat (first | (with_reducible exact Below.refl _ _) | ((with_reducible refine Below.setCell ?_ ?_ _); rotate_left; focus (first | (simp; done) | (simp; omega))) | (with_reducible refine below_drewN ?_ _) | (with_reducible refine Below.drew ?_) | ((with_reducible refine Below.alloc ?_ ?_ _); rotate_left; focus (first | (simp; done) | (simp; omega)))))⟩

theorem rone_u1 (B off len cap : Nat) (hl : 5 ≤ len) (hm : len ≤ 9223372036854775807) (b0 b1 b2 b3 b4 : Int) (p0 : 0 ≤ b0) (q0 : b0 < 256) (p1 : 0 ≤ b1) (q1 : b1 < 256) (p2 : 0 ≤ b2) (q2 : b2 < 256) (p3 : 0 ≤ b3) (q3 : b3 < 256) (p4 : 0 ≤ b4) (q4 : b4 < 256) (w : World) (c0 : w.cell? ⟨B, off, none⟩ = some (.int .u8 b0)) (c1 : w.cell? ⟨B, off + 1, none⟩ = some (.int .u8 b1)) (c2 : w.cell? ⟨B, off + 2, none⟩ = some (.int .u8 b2)) (c3 : w.cell? ⟨B, off + 3, none⟩ = some (.int .u8 b3)) (c4 : w.cell? ⟨B, off + 4, none⟩ = some (.int .u8 b4)) (h0 : b0 = 3) (h1 : b1 = 0) (h2 : b2 ≠ 0) :
    Calls Try.prog 39 #[.slice (some ⟨B, off, none⟩) len cap] w fun e w' => e = .returned (.tuple #[enV badE, .bool true]) ∧ Below w.heap.size w w' := by
  have t0 : decide (3 < b0) = false := by first | (simp; done) | (simp; omega)
  have t1 : decide (7 < b1) = false := by first | (simp; done) | (simp; omega)
  have t2 : (b0 == 3) = true := by first | (simp; done) | (simp; omega)
  have t3 : (b1 != 0) = false := by first | (simp; done) | (simp; omega)
  have t4 : (b0 + 1 == 1) = false := by first | (simp; done) | (simp; omega)
  have t5 : (b0 + 1 == 2) = false := by first | (simp; done) | (simp; omega)
  have t6 : (b2 != 0) = true := by first | (simp; done) | (simp; omega)
  clear h0 h1 h2
  have i0 : (5 : Int) ≤ (len : Int) := by omega
  have i1 : (0 : Int) < (len : Int) := by omega
  have i2 : (1 : Int) < (len : Int) := by omega
  have i3 : (2 : Int) < (len : Int) := by omega
  have i4 : (3 : Int) < (len : Int) := by omega
  have i5 : (4 : Int) < (len : Int) := by omega
  have hB : B < w.heap.size := World.block_lt_of_cell? w _ c0
  have hB1 : B < w.heap.size + 1 := by omega
  have hB2 : B < w.heap.size + 1 + 1 := by omega
  unfold enV badE
  go_enter Try.func39, Try.ntmps39
  go_wp2
  go_quiet (fail)
  go_wp2
  exact bodyPost_ret (v := .tuple #[enV badE, .bool true]) (by simp [results, Try.results39, go_sem, badE]) rfl ⟨rfl, by (repeat (first | (with_reducible exact Below.refl _ _) | ((with_reducible refine Below.setCell ?_ ?_ _); rotate_left; focus (first | (simp; done) | (simp; omega))) | (with_reducible refine below_drewN ?_ _) | (with_reducible refine Below.drew ?_) | ((with_reducible refine Below.alloc ?_ ?_ _); rotate_left; focus (first | (simp; done) | (simp; omega)))))⟩

theorem rone_u2 (B off len cap : Nat) (hl : 5 ≤ len) (hm : len ≤ 9223372036854775807) (b0 b1 b2 b3 b4 : Int) (p0 : 0 ≤ b0) (q0 : b0 < 256) (p1 : 0 ≤ b1) (q1 : b1 < 256) (p2 : 0 ≤ b2) (q2 : b2 < 256) (p3 : 0 ≤ b3) (q3 : b3 < 256) (p4 : 0 ≤ b4) (q4 : b4 < 256) (w : World) (c0 : w.cell? ⟨B, off, none⟩ = some (.int .u8 b0)) (c1 : w.cell? ⟨B, off + 1, none⟩ = some (.int .u8 b1)) (c2 : w.cell? ⟨B, off + 2, none⟩ = some (.int .u8 b2)) (c3 : w.cell? ⟨B, off + 3, none⟩ = some (.int .u8 b3)) (c4 : w.cell? ⟨B, off + 4, none⟩ = some (.int .u8 b4)) (h0 : b0 = 3) (h1 : b1 = 0) (h2 : b2 = 0) (h3 : b3 ≠ 0) :
    Calls Try.prog 39 #[.slice (some ⟨B, off, none⟩) len cap] w fun e w' => e = .returned (.tuple #[enV badE, .bool true]) ∧ Below w.heap.size w w' := by
  have t0 : decide (3 < b0) = false := by first | (simp; done) | (simp; omega)
  have t1 : decide (7 < b1) = false := by first | (simp; done) | (simp; omega)
  have t2 : (b0 == 3) = true := by first | (simp; done) | (simp; omega)
  have t3 : (b1 != 0) = false := by first | (simp; done) | (simp; omega)
  have t4 : (b0 + 1 == 1) = false := by first | (simp; done) | (simp; omega)
  have t5 : (b0 + 1 == 2) = false := by first | (simp; done) | (simp; omega)
  have t6 : (b2 != 0) = false := by first | (simp; done) | (simp; omega)
  have t7 : (b3 != 0) = true := by first | (simp; done) | (simp; omega)
  clear h0 h1 h2 h3
  have i0 : (5 : Int) ≤ (len : Int) := by omega
  have i1 : (0 : Int) < (len : Int) := by omega
  have i2 : (1 : Int) < (len : Int) := by omega
  have i3 : (2 : Int) < (len : Int) := by omega
  have i4 : (3 : Int) < (len : Int) := by omega
  have i5 : (4 : Int) < (len : Int) := by omega
  have hB : B < w.heap.size := World.block_lt_of_cell? w _ c0
  have hB1 : B < w.heap.size + 1 := by omega
  have hB2 : B < w.heap.size + 1 + 1 := by omega
  unfold enV badE
  go_enter Try.func39, Try.ntmps39
  go_wp2
  go_quiet (fail)
  go_wp2
  exact bodyPost_ret (v := .tuple #[enV badE, .bool true]) (by simp [results, Try.results39, go_sem, badE]) rfl ⟨rfl, by (repeat (first | (with_reducible exact Below.refl _ _) | ((with_reducible refine Below.setCell ?_ ?_ _); rotate_left; focus (first | (simp; done) | (simp; omega))) | (with_reducible refine below_drewN ?_ _) | (with_reducible refine Below.drew ?_) | ((with_reducible refine Below.alloc ?_ ?_ _); rotate_left; focus (first | (simp; done) | (simp; omega)))))⟩

theorem rone_u3 (B off len cap : Nat) (hl : 5 ≤ len) (hm : len ≤ 9223372036854775807) (b0 b1 b2 b3 b4 : Int) (p0 : 0 ≤ b0) (q0 : b0 < 256) (p1 : 0 ≤ b1) (q1 : b1 < 256) (p2 : 0 ≤ b2) (q2 : b2 < 256) (p3 : 0 ≤ b3) (q3 : b3 < 256) (p4 : 0 ≤ b4) (q4 : b4 < 256) (w : World) (c0 : w.cell? ⟨B, off, none⟩ = some (.int .u8 b0)) (c1 : w.cell? ⟨B, off + 1, none⟩ = some (.int .u8 b1)) (c2 : w.cell? ⟨B, off + 2, none⟩ = some (.int .u8 b2)) (c3 : w.cell? ⟨B, off + 3, none⟩ = some (.int .u8 b3)) (c4 : w.cell? ⟨B, off + 4, none⟩ = some (.int .u8 b4)) (h0 : b0 = 3) (h1 : b1 = 0) (h2 : b2 = 0) (h3 : b3 = 0) (h4 : b4 ≠ 0) :
    Calls Try.prog 39 #[.slice (some ⟨B, off, none⟩) len cap] w fun e w' => e = .returned (.tuple #[enV badE, .bool true]) ∧ Below w.heap.size w w' := by
  have t0 : decide (3 < b0) = false := by first | (simp; done) | (simp; omega)
  have t1 : decide (7 < b1) = false := by first | (simp; done) | (simp; omega)
  have t2 : (b0 == 3) = true := by first | (simp; done) | (simp; omega)
  have t3 : (b1 != 0) = false := by first | (simp; done) | (simp; omega)
  have t4 : (b0 + 1 == 1) = false := by first | (simp; done) | (simp; omega)
  have t5 : (b0 + 1 == 2) = false := by first | (simp; done) | (simp; omega)
  have t6 : (b2 != 0) = false := by first | (simp; done) | (simp; omega)
  have t7 : (b3 != 0) = false := by first | (simp; done) | (simp; omega)
  have t8 : (b4 != 0) = true := by first | (simp; done) | (simp; omega)
  clear h0 h1 h2 h3 h4
  have i0 : (5 : Int) ≤ (len : Int) := by omega
  have i1 : (0 : Int) < (len : Int) := by omega
  have i2 : (1 : Int) < (len : Int) := by omega
  have i3 : (2 : Int) < (len : Int) := by omega
  have i4 : (3 : Int) < (len : Int) := by omega
  have i5 : (4 : Int) < (len : Int) := by omega
  have hB : B < w.heap.size := World.block_lt_of_cell? w _ c0
  have hB1 : B < w.heap.size + 1 := by omega
  have hB2 : B < w.heap.size + 1 + 1 := by omega
  unfold enV badE
  go_enter Try.func39, Try.ntmps39
  go_wp2
  go_quiet (fail)
  go_wp2
  exact bodyPost_ret (v := .tuple #[enV badE, .bool true]) (by simp [results, Try.results39, go_sem, badE]) rfl ⟨rfl, by (repeat (first | (with_reducible exact Below.refl _ _) | ((with_reducible refine Below.setCell ?_ ?_ _); rotate_left; focus (first | (simp; done) | (simp; omega))) | (with_reducible refine below_drewN ?_ _) | (with_reducible refine Below.drew ?_) | ((with_reducible refine Below.alloc ?_ ?_ _); rotate_left; focus (first | (simp; done) | (simp; omega)))))⟩

theorem rone_u4 (B off len cap : Nat) (hl : 5 ≤ len) (hm : len ≤ 9223372036854775807) (b0 b1 b2 b3 b4 : Int) (p0 : 0 ≤ b0) (q0 : b0 < 256) (p1 : 0 ≤ b1) (q1 : b1 < 256) (p2 : 0 ≤ b2) (q2 : b2 < 256) (p3 : 0 ≤ b3) (q3 : b3 < 256) (p4 : 0 ≤ b4) (q4 : b4 < 256) (w : World) (c0 : w.cell? ⟨B, off, none⟩ = some (.int .u8 b0)) (c1 : w.cell? ⟨B, off + 1, none⟩ = some (.int .u8 b1)) (c2 : w.cell? ⟨B, off + 2, none⟩ = some (.int .u8 b2)) (c3 : w.cell? ⟨B, off + 3, none⟩ = some (.int .u8 b3)) (c4 : w.cell? ⟨B, off + 4, none⟩ = some (.int .u8 b4)) (h0 : b0 = 3) (h1 : b1 = 0) (h2 : b2 = 0) (h3 : b3 = 0) (h4 : b4 = 0) :
    Calls Try.prog 39 #[.slice (some ⟨B, off, none⟩) len cap] w fun e w' => e = .returned (.tuple #[enV ⟨b0 + 1, b1, 0, 0, 0, 0, 0⟩, .bool true]) ∧ Below w.heap.size w w' := by
  have t0 : decide (3 < b0) = false := by first | (simp; done) | (simp; omega)
  have t1 : decide (7 < b1) = false := by first | (simp; done) | (simp; omega)
  have t2 : (b0 == 3) = true := by first | (simp; done) | (simp; omega)
  have t3 : (b1 != 0) = false := by first | (simp; done) | (simp; omega)
  have t4 : (b0 + 1 == 1) = false := by first | (simp; done) | (simp; omega)
  have t5 : (b0 + 1 == 2) = false := by first | (simp; done) | (simp; omega)
  have t6 : (b2 != 0) = false := by first | (simp; done) | (simp; omega)
  have t7 : (b3 != 0) = false := by first | (simp; done) | (simp; omega)
  have t8 : (b4 != 0) = false := by first | (simp; done) | (simp; omega)
  clear h0 h1 h2 h3 h4
  have i0 : (5 : Int) ≤ (len : Int) := by omega
  have i1 : (0 : Int) < (len : Int) := by omega
  have i2 : (1 : Int) < (len : Int) := by omega
  have i3 : (2 : Int) < (len : Int) := by omega
  have i4 : (3 : Int) < (len : Int) := by omega
  have i5 : (4 : Int) < (len : Int) := by omega
  have hB : B < w.heap.size := World.block_lt_of_cell? w _ c0
  have hB1 : B < w.heap.size + 1 := by omega
  have hB2 : B < w.heap.size + 1 + 1 := by omega
  unfold enV
  go_enter Try.func39, Try.ntmps39
  go_wp2
  go_quiet (fail)
  go_wp2
  exact bodyPost_ret (v := .tuple #[enV ⟨b0 + 1, b1, 0, 0, 0, 0, 0⟩, .bool true]) (by simp [results, Try.results39, go_sem, badE]) rfl ⟨rfl, by (repeat (first | (with_reducible exact Below.refl _ _) | ((with_reducible refine Below.setCell ?_ ?_ _); rotate_left; focus (first | (simp; done) | (simp; omega))) | (with_reducible refine below_drewN ?_ _) | (with_reducible refine Below.drew ?_) | ((with_reducible refine Below.alloc ?_ ?_ _); rotate_left; focus (first | (simp; done) | (simp; omega)))))⟩

theorem rone_any (B off len cap : Nat) (hl : 5 ≤ len) (hm : len ≤ 9223372036854775807) (b0 b1 b2 b3 b4 : Int) (p0 : 0 ≤ b0) (q0 : b0 < 256) (p1 : 0 ≤ b1) (q1 : b1 < 256) (p2 : 0 ≤ b2) (q2 : b2 < 256) (p3 : 0 ≤ b3) (q3 : b3 < 256) (p4 : 0 ≤ b4) (q4 : b4 < 256) (w : World)
    (c0 : w.cell? ⟨B, off, none⟩ = some (.int .u8 b0)) (c1 : w.cell? ⟨B, off + 1, none⟩ = some (.int .u8 b1)) (c2 : w.cell? ⟨B, off + 2, none⟩ = some (.int .u8 b2)) (c3 : w.cell? ⟨B, off + 3, none⟩ = some (.int .u8 b3)) (c4 : w.cell? ⟨B, off + 4, none⟩ = some (.int .u8 b4)) :
    Calls Try.prog 39 #[.slice (some ⟨B, off, none⟩) len cap] w fun e w' => e = .returned (.tuple #[enV (enE b0 b1 b2 b3 b4), .bool true]) ∧ Below w.heap.size w w' := by
  unfold enE
  by_cases h1 : 8 ≤ b1
  · rw [if_pos h1]
    by_cases h0 : 3 < b0
    · exact rone_k B off len cap hl hm b0 b1 b2 b3 b4 p0 q0 p1 q1 p2 q2 p3 q3 p4 q4 w c0 c1 c2 c3 c4 h0
    · exact rone_s B off len cap hl hm b0 b1 b2 b3 b4 p0 q0 p1 q1 p2 q2 p3 q3 p4 q4 w c0 c1 c2 c3 c4 (by omega) (by omega)
  · rw [if_neg h1]
    have h1' : b1 ≤ 7 := by omega
    by_cases hk : 3 < b0
    · rw [if_neg (by omega), if_neg (by omega), if_neg (by omega)]; exact rone_k B off len cap hl hm b0 b1 b2 b3 b4 p0 q0 p1 q1 p2 q2 p3 q3 p4 q4 w c0 c1 c2 c3 c4 hk
    · by_cases h0 : b0 = 0
      · by_cases h2 : b2 < 1
        · rw [if_neg (by omega), if_neg (by omega), if_neg (by omega)]; exact rone_a1 B off len cap hl hm b0 b1 b2 b3 b4 p0 q0 p1 q1 p2 q2 p3 q3 p4 q4 w c0 c1 c2 c3 c4 h0 h1' h2
        · by_cases h2' : 3 < b2
          · rw [if_neg (by omega), if_neg (by omega), if_neg (by omega)]; exact rone_a2 B off len cap hl hm b0 b1 b2 b3 b4 p0 q0 p1 q1 p2 q2 p3 q3 p4 q4 w c0 c1 c2 c3 c4 h0 h1' h2'
          · have h2'' : 1 ≤ b2 ∧ b2 ≤ 3 := by omega
            by_cases h3 : b3 = 0
            · by_cases h4 : b4 = 0
              · rw [if_pos (by omega)]; have := rone_a5 B off len cap hl hm b0 b1 b2 b3 b4 p0 q0 p1 q1 p2 q2 p3 q3 p4 q4 w c0 c1 c2 c3 c4 h0 h1' h2'' h3 h4; subst h0; exact this
              · rw [if_neg (by omega), if_neg (by omega), if_neg (by omega)]; exact rone_a4 B off len cap hl hm b0 b1 b2 b3 b4 p0 q0 p1 q1 p2 q2 p3 q3 p4 q4 w c0 c1 c2 c3 c4 h0 h1' h2'' h3 h4
            · rw [if_neg (by omega), if_neg (by omega), if_neg (by omega)]; exact rone_a3 B off len cap hl hm b0 b1 b2 b3 b4 p0 q0 p1 q1 p2 q2 p3 q3 p4 q4 w c0 c1 c2 c3 c4 h0 h1' h2'' h3
      · rw [if_neg (by omega)]
        by_cases h01 : b0 = 1
        · rw [if_pos h01]
          unfold isE
          by_cases c : b2 % 8 = 0
          · by_cases d : b2 / 8 < 1
            · rw [if_pos (by omega)]; exact rone_i2 B off len cap hl hm b0 b1 b2 b3 b4 p0 q0 p1 q1 p2 q2 p3 q3 p4 q4 w c0 c1 c2 c3 c4 h01 h1' c d
            · by_cases d' : 7 < b2 / 8
              · rw [if_pos (by omega)]; exact rone_i3 B off len cap hl hm b0 b1 b2 b3 b4 p0 q0 p1 q1 p2 q2 p3 q3 p4 q4 w c0 c1 c2 c3 c4 h01 h1' c d'
              · rw [if_neg (by omega)]
                by_cases f : b2 / 8 = 5
                · rw [if_pos f]; have := rone_i4 B off len cap hl hm b0 b1 b2 b3 b4 p0 q0 p1 q1 p2 q2 p3 q3 p4 q4 w c0 c1 c2 c3 c4 h01 h1' c f; rw [f, h01] at this; exact this
                · rw [if_neg f]
                  by_cases g : b2 / 8 = 2
                  · rw [if_pos (by omega)]; have := rone_i5 B off len cap hl hm b0 b1 b2 b3 b4 p0 q0 p1 q1 p2 q2 p3 q3 p4 q4 w c0 c1 c2 c3 c4 h01 h1' c g; rw [h01] at this; exact this
                  · by_cases g' : b2 / 8 = 3
                    · rw [if_pos (by omega)]; have := rone_i6 B off len cap hl hm b0 b1 b2 b3 b4 p0 q0 p1 q1 p2 q2 p3 q3 p4 q4 w c0 c1 c2 c3 c4 h01 h1' c g'; rw [h01] at this; exact this
                    · rw [if_neg (by omega)]
                      by_cases h : b4 = 0
                      · by_cases i : 6 ≤ b2 / 8
                        · by_cases j : b3 = 0
                          · rw [if_neg (by omega)]; have := rone_i9 B off len cap hl hm b0 b1 b2 b3 b4 p0 q0 p1 q1 p2 q2 p3 q3 p4 q4 w c0 c1 c2 c3 c4 h01 h1' c (by omega) h i j; rw [h01] at this; exact this
                          · rw [if_pos (by omega)]; exact rone_i8 B off len cap hl hm b0 b1 b2 b3 b4 p0 q0 p1 q1 p2 q2 p3 q3 p4 q4 w c0 c1 c2 c3 c4 h01 h1' c (by omega) h i j
                        · rw [if_neg (by omega)]; have := rone_i0 B off len cap hl hm b0 b1 b2 b3 b4 p0 q0 p1 q1 p2 q2 p3 q3 p4 q4 w c0 c1 c2 c3 c4 h01 h1' c (by omega) h (by omega); rw [h01] at this; exact this
                      · rw [if_pos (by omega)]; exact rone_i7 B off len cap hl hm b0 b1 b2 b3 b4 p0 q0 p1 q1 p2 q2 p3 q3 p4 q4 w c0 c1 c2 c3 c4 h01 h1' c (by omega) h
          · rw [if_pos (by omega)]; exact rone_i1 B off len cap hl hm b0 b1 b2 b3 b4 p0 q0 p1 q1 p2 q2 p3 q3 p4 q4 w c0 c1 c2 c3 c4 h01 h1' c
        · rw [if_neg h01]
          by_cases h02 : b0 = 2
          · by_cases h2 : b2 = 0
            · by_cases h3 : b3 = 0
              · by_cases h4 : b4 = 0
                · rw [if_pos (by omega)]; exact rone_t4 B off len cap hl hm b0 b1 b2 b3 b4 p0 q0 p1 q1 p2 q2 p3 q3 p4 q4 w c0 c1 c2 c3 c4 h02 h1' h2 h3 h4
                · rw [if_neg (by omega)]; exact rone_t3 B off len cap hl hm b0 b1 b2 b3 b4 p0 q0 p1 q1 p2 q2 p3 q3 p4 q4 w c0 c1 c2 c3 c4 h02 h1' h2 h3 h4
              · rw [if_neg (by omega)]; exact rone_t2 B off len cap hl hm b0 b1 b2 b3 b4 p0 q0 p1 q1 p2 q2 p3 q3 p4 q4 w c0 c1 c2 c3 c4 h02 h1' h2 h3
            · rw [if_neg (by omega)]; exact rone_t1 B off len cap hl hm b0 b1 b2 b3 b4 p0 q0 p1 q1 p2 q2 p3 q3 p4 q4 w c0 c1 c2 c3 c4 h02 h1' h2
          · have h03 : b0 = 3 := by omega
            by_cases hs : b1 = 0
            · by_cases h2 : b2 = 0
              · by_cases h3 : b3 = 0
                · by_cases h4 : b4 = 0
                  · rw [if_pos (by omega)]; exact rone_u4 B off len cap hl hm b0 b1 b2 b3 b4 p0 q0 p1 q1 p2 q2 p3 q3 p4 q4 w c0 c1 c2 c3 c4 h03 hs h2 h3 h4
                  · rw [if_neg (by omega)]; exact rone_u3 B off len cap hl hm b0 b1 b2 b3 b4 p0 q0 p1 q1 p2 q2 p3 q3 p4 q4 w c0 c1 c2 c3 c4 h03 hs h2 h3 h4
                · rw [if_neg (by omega)]; exact rone_u2 B off len cap hl hm b0 b1 b2 b3 b4 p0 q0 p1 q1 p2 q2 p3 q3 p4 q4 w c0 c1 c2 c3 c4 h03 hs h2 h3
              · rw [if_neg (by omega)]; exact rone_u1 B off len cap hl hm b0 b1 b2 b3 b4 p0 q0 p1 q1 p2 q2 p3 q3 p4 q4 w c0 c1 c2 c3 c4 h03 hs h2
            · rw [if_neg (by omega)]; exact rone_w B off len cap hl hm b0 b1 b2 b3 b4 p0 q0 p1 q1 p2 q2 p3 q3 p4 q4 w c0 c1 c2 c3 c4 h03 h1' hs
end Go.Proofs.Ytplfhjahdepphaa.Plan
