/- Contracts of package plan: the entry of five bytes. -/
import Derived.Test.YtplfhjahdepphaaPlanA
import Derived.Laws.NewBlocks
import Derived.Laws.CopyOwn
import Derived.Laws.CopyOwn
namespace Go.Proofs.Ytplfhjahdepphaa.Plan
open Go.ChangeShapes Go.WideShapes Go.ChangeAt Go.RowKit
set_option linter.unusedVariables false
set_option linter.unusedSimpArgs false
set_option maxRecDepth 100000
set_option maxHeartbeats 1000000
theorem kept7 {w w1 : World} {a0 a1 a2 a3 a4 a5 a6 : Value} {T : TypeId} (hq : Below (w.alloc (.cells #[a0, a1, a2, a3, a4, a5, a6] T)).drew.heap.size (w.alloc (.cells #[a0, a1, a2, a3, a4, a5, a6] T)).drew w1) :
    w.heap.size < w1.heap.size ∧ w1.cell? ⟨w.heap.size, 0, none⟩ = some a0 ∧ w1.cell? ⟨w.heap.size, 1, none⟩ = some a1 ∧ w1.cell? ⟨w.heap.size, 2, none⟩ = some a2 ∧ w1.cell? ⟨w.heap.size, 3, none⟩ = some a3 ∧ w1.cell? ⟨w.heap.size, 4, none⟩ = some a4 ∧ w1.cell? ⟨w.heap.size, 5, none⟩ = some a5 ∧ w1.cell? ⟨w.heap.size, 6, none⟩ = some a6 ∧ w1.frozen? ⟨w.heap.size, 0, none⟩ = false ∧ w1.frozen? ⟨w.heap.size, 1, none⟩ = false ∧ w1.frozen? ⟨w.heap.size, 2, none⟩ = false ∧ w1.frozen? ⟨w.heap.size, 3, none⟩ = false ∧ w1.frozen? ⟨w.heap.size, 4, none⟩ = false ∧ w1.frozen? ⟨w.heap.size, 5, none⟩ = false ∧ w1.frozen? ⟨w.heap.size, 6, none⟩ = false := by
  have hz0 := hq.size
  have hz1 : w.heap.size < (w.alloc (.cells #[a0, a1, a2, a3, a4, a5, a6] T)).drew.heap.size := by simp
  refine ⟨by omega, by rw [hq.cell hz1]; go_simp, by rw [hq.cell hz1]; go_simp, by rw [hq.cell hz1]; go_simp, by rw [hq.cell hz1]; go_simp, by rw [hq.cell hz1]; go_simp, by rw [hq.cell hz1]; go_simp, by rw [hq.cell hz1]; go_simp, by rw [hq.frozen hz1]; go_simp, by rw [hq.frozen hz1]; go_simp, by rw [hq.frozen hz1]; go_simp, by rw [hq.frozen hz1]; go_simp, by rw [hq.frozen hz1]; go_simp, by rw [hq.frozen hz1]; go_simp, by rw [hq.frozen hz1]; go_simp⟩
theorem entry_big_a (B off len cap : Nat) (hl : 5 ≤ len) (b0 b1 b2 b3 b4 : Int) (p0 : 0 ≤ b0) (q0 : b0 < 256) (p1 : 0 ≤ b1) (q1 : b1 < 256) (p2 : 0 ≤ b2) (q2 : b2 < 256) (p3 : 0 ≤ b3) (q3 : b3 < 256) (p4 : 0 ≤ b4) (q4 : b4 < 256) (w : World) (c0 : w.cell? ⟨B, off, none⟩ = some (.int .u8 b0)) (c1 : w.cell? ⟨B, off + 1, none⟩ = some (.int .u8 b1)) (c2 : w.cell? ⟨B, off + 2, none⟩ = some (.int .u8 b2)) (c3 : w.cell? ⟨B, off + 3, none⟩ = some (.int .u8 b3)) (c4 : w.cell? ⟨B, off + 4, none⟩ = some (.int .u8 b4)) (h1 : 8 ≤ b1) (r3 : b3 ≠ 0) :
    Calls Try.prog 55 #[.slice (some ⟨B, off, none⟩) len cap] w fun e w' => e = .returned (enV badE) ∧ Below w.heap.size w w' := by
  have t0 : decide (8 ≤ b1) = true := by first | (simp; done) | (simp; omega)
  have t1 : (b3 != 0) = true := by first | (simp; done) | (simp; omega)
  clear h1 r3
  have hB : B < w.heap.size := World.block_lt_of_cell? w _ c0
  have hB1 : B < w.heap.size + 1 := by omega
  have hB2 : B < w.heap.size + 1 + 1 := by omega
  unfold enV badE
  go_enter Try.func55, Try.ntmps55
  go_wp2_with (go_at_call 56; refine (bad_any _).mono ?_; rintro e w' ⟨rfl, rfl⟩)
  exact bodyPost_ret (v := enV badE) (by simp [results, Try.results55, go_sem, badE]) rfl ⟨rfl, by first | exact below_allocs1 _ _ | exact below_allocs2 _ _ _ | exact below_allocs3 _ _ _ _⟩

theorem entry_big_b (B off len cap : Nat) (hl : 5 ≤ len) (b0 b1 b2 b3 b4 : Int) (p0 : 0 ≤ b0) (q0 : b0 < 256) (p1 : 0 ≤ b1) (q1 : b1 < 256) (p2 : 0 ≤ b2) (q2 : b2 < 256) (p3 : 0 ≤ b3) (q3 : b3 < 256) (p4 : 0 ≤ b4) (q4 : b4 < 256) (w : World) (c0 : w.cell? ⟨B, off, none⟩ = some (.int .u8 b0)) (c1 : w.cell? ⟨B, off + 1, none⟩ = some (.int .u8 b1)) (c2 : w.cell? ⟨B, off + 2, none⟩ = some (.int .u8 b2)) (c3 : w.cell? ⟨B, off + 3, none⟩ = some (.int .u8 b3)) (c4 : w.cell? ⟨B, off + 4, none⟩ = some (.int .u8 b4)) (h1 : 8 ≤ b1) (r3 : b3 = 0) (r4 : b4 ≠ 0) :
    Calls Try.prog 55 #[.slice (some ⟨B, off, none⟩) len cap] w fun e w' => e = .returned (enV badE) ∧ Below w.heap.size w w' := by
  have t0 : decide (8 ≤ b1) = true := by first | (simp; done) | (simp; omega)
  have t1 : (b3 != 0) = false := by first | (simp; done) | (simp; omega)
  have t2 : (b4 != 0) = true := by first | (simp; done) | (simp; omega)
  clear h1 r3 r4
  have hB : B < w.heap.size := World.block_lt_of_cell? w _ c0
  have hB1 : B < w.heap.size + 1 := by omega
  have hB2 : B < w.heap.size + 1 + 1 := by omega
  unfold enV badE
  go_enter Try.func55, Try.ntmps55
  go_wp2_with (go_at_call 56; refine (bad_any _).mono ?_; rintro e w' ⟨rfl, rfl⟩)
  exact bodyPost_ret (v := enV badE) (by simp [results, Try.results55, go_sem, badE]) rfl ⟨rfl, by first | exact below_allocs1 _ _ | exact below_allocs2 _ _ _ | exact below_allocs3 _ _ _ _⟩

theorem entry_big_c (B off len cap : Nat) (hl : 5 ≤ len) (b0 b1 b2 b3 b4 : Int) (p0 : 0 ≤ b0) (q0 : b0 < 256) (p1 : 0 ≤ b1) (q1 : b1 < 256) (p2 : 0 ≤ b2) (q2 : b2 < 256) (p3 : 0 ≤ b3) (q3 : b3 < 256) (p4 : 0 ≤ b4) (q4 : b4 < 256) (w : World) (c0 : w.cell? ⟨B, off, none⟩ = some (.int .u8 b0)) (c1 : w.cell? ⟨B, off + 1, none⟩ = some (.int .u8 b1)) (c2 : w.cell? ⟨B, off + 2, none⟩ = some (.int .u8 b2)) (c3 : w.cell? ⟨B, off + 3, none⟩ = some (.int .u8 b3)) (c4 : w.cell? ⟨B, off + 4, none⟩ = some (.int .u8 b4)) (h1 : 8 ≤ b1) (r3 : b3 = 0) (r4 : b4 = 0) :
    Calls Try.prog 55 #[.slice (some ⟨B, off, none⟩) len cap] w fun e w' => e = .returned (enV badE) ∧ Below w.heap.size w w' := by
  have t0 : decide (8 ≤ b1) = true := by first | (simp; done) | (simp; omega)
  have t1 : (b3 != 0) = false := by first | (simp; done) | (simp; omega)
  have t2 : (b4 != 0) = false := by first | (simp; done) | (simp; omega)
  clear h1 r3 r4
  have hB : B < w.heap.size := World.block_lt_of_cell? w _ c0
  have hB1 : B < w.heap.size + 1 := by omega
  have hB2 : B < w.heap.size + 1 + 1 := by omega
  unfold enV badE
  go_enter Try.func55, Try.ntmps55
  go_wp2_with (go_at_call 56; refine (bad_any _).mono ?_; rintro e w' ⟨rfl, rfl⟩)
  exact bodyPost_ret (v := enV badE) (by simp [results, Try.results55, go_sem, badE]) rfl ⟨rfl, by first | exact below_allocs1 _ _ | exact below_allocs2 _ _ _ | exact below_allocs3 _ _ _ _⟩

theorem entry_b0lo_a (B off len cap : Nat) (hl : 5 ≤ len) (b0 b1 b2 b3 b4 : Int) (p0 : 0 ≤ b0) (q0 : b0 < 256) (p1 : 0 ≤ b1) (q1 : b1 < 256) (p2 : 0 ≤ b2) (q2 : b2 < 256) (p3 : 0 ≤ b3) (q3 : b3 < 256) (p4 : 0 ≤ b4) (q4 : b4 < 256) (w : World) (c0 : w.cell? ⟨B, off, none⟩ = some (.int .u8 b0)) (c1 : w.cell? ⟨B, off + 1, none⟩ = some (.int .u8 b1)) (c2 : w.cell? ⟨B, off + 2, none⟩ = some (.int .u8 b2)) (c3 : w.cell? ⟨B, off + 3, none⟩ = some (.int .u8 b3)) (c4 : w.cell? ⟨B, off + 4, none⟩ = some (.int .u8 b4)) (h1 : b1 < 8) (h0 : b0 = 0) (h2 : b2 < 1) (r3 : b3 ≠ 0) :
    Calls Try.prog 55 #[.slice (some ⟨B, off, none⟩) len cap] w fun e w' => e = .returned (enV badE) ∧ Below w.heap.size w w' := by
  have t0 : decide (8 ≤ b1) = false := by first | (simp; done) | (simp; omega)
  have t1 : (b0 + 1 == 1) = true := by first | (simp; done) | (simp; omega)
  have t2 : (b0 + 1 == 2) = false := by first | (simp; done) | (simp; omega)
  have t3 : (b0 + 1 == 3) = false := by first | (simp; done) | (simp; omega)
  have t4 : (b0 + 1 == 4) = false := by first | (simp; done) | (simp; omega)
  have t5 : decide (1 ≤ b2) = false := by first | (simp; done) | (simp; omega)
  have t6 : (b3 != 0) = true := by first | (simp; done) | (simp; omega)
  clear h1 h0 h2 r3
  have hB : B < w.heap.size := World.block_lt_of_cell? w _ c0
  have hB1 : B < w.heap.size + 1 := by omega
  have hB2 : B < w.heap.size + 1 + 1 := by omega
  unfold enV badE
  go_enter Try.func55, Try.ntmps55
  go_wp2_with (go_at_call 56; refine (bad_any _).mono ?_; rintro e w' ⟨rfl, rfl⟩)
  exact bodyPost_ret (v := enV badE) (by simp [results, Try.results55, go_sem, badE]) rfl ⟨rfl, by first | exact below_allocs1 _ _ | exact below_allocs2 _ _ _ | exact below_allocs3 _ _ _ _⟩

theorem entry_b0lo_b (B off len cap : Nat) (hl : 5 ≤ len) (b0 b1 b2 b3 b4 : Int) (p0 : 0 ≤ b0) (q0 : b0 < 256) (p1 : 0 ≤ b1) (q1 : b1 < 256) (p2 : 0 ≤ b2) (q2 : b2 < 256) (p3 : 0 ≤ b3) (q3 : b3 < 256) (p4 : 0 ≤ b4) (q4 : b4 < 256) (w : World) (c0 : w.cell? ⟨B, off, none⟩ = some (.int .u8 b0)) (c1 : w.cell? ⟨B, off + 1, none⟩ = some (.int .u8 b1)) (c2 : w.cell? ⟨B, off + 2, none⟩ = some (.int .u8 b2)) (c3 : w.cell? ⟨B, off + 3, none⟩ = some (.int .u8 b3)) (c4 : w.cell? ⟨B, off + 4, none⟩ = some (.int .u8 b4)) (h1 : b1 < 8) (h0 : b0 = 0) (h2 : b2 < 1) (r3 : b3 = 0) (r4 : b4 ≠ 0) :
    Calls Try.prog 55 #[.slice (some ⟨B, off, none⟩) len cap] w fun e w' => e = .returned (enV badE) ∧ Below w.heap.size w w' := by
  have t0 : decide (8 ≤ b1) = false := by first | (simp; done) | (simp; omega)
  have t1 : (b0 + 1 == 1) = true := by first | (simp; done) | (simp; omega)
  have t2 : (b0 + 1 == 2) = false := by first | (simp; done) | (simp; omega)
  have t3 : (b0 + 1 == 3) = false := by first | (simp; done) | (simp; omega)
  have t4 : (b0 + 1 == 4) = false := by first | (simp; done) | (simp; omega)
  have t5 : decide (1 ≤ b2) = false := by first | (simp; done) | (simp; omega)
  have t6 : (b3 != 0) = false := by first | (simp; done) | (simp; omega)
  have t7 : (b4 != 0) = true := by first | (simp; done) | (simp; omega)
  clear h1 h0 h2 r3 r4
  have hB : B < w.heap.size := World.block_lt_of_cell? w _ c0
  have hB1 : B < w.heap.size + 1 := by omega
  have hB2 : B < w.heap.size + 1 + 1 := by omega
  unfold enV badE
  go_enter Try.func55, Try.ntmps55
  go_wp2_with (go_at_call 56; refine (bad_any _).mono ?_; rintro e w' ⟨rfl, rfl⟩)
  exact bodyPost_ret (v := enV badE) (by simp [results, Try.results55, go_sem, badE]) rfl ⟨rfl, by first | exact below_allocs1 _ _ | exact below_allocs2 _ _ _ | exact below_allocs3 _ _ _ _⟩

theorem entry_b0lo_c (B off len cap : Nat) (hl : 5 ≤ len) (b0 b1 b2 b3 b4 : Int) (p0 : 0 ≤ b0) (q0 : b0 < 256) (p1 : 0 ≤ b1) (q1 : b1 < 256) (p2 : 0 ≤ b2) (q2 : b2 < 256) (p3 : 0 ≤ b3) (q3 : b3 < 256) (p4 : 0 ≤ b4) (q4 : b4 < 256) (w : World) (c0 : w.cell? ⟨B, off, none⟩ = some (.int .u8 b0)) (c1 : w.cell? ⟨B, off + 1, none⟩ = some (.int .u8 b1)) (c2 : w.cell? ⟨B, off + 2, none⟩ = some (.int .u8 b2)) (c3 : w.cell? ⟨B, off + 3, none⟩ = some (.int .u8 b3)) (c4 : w.cell? ⟨B, off + 4, none⟩ = some (.int .u8 b4)) (h1 : b1 < 8) (h0 : b0 = 0) (h2 : b2 < 1) (r3 : b3 = 0) (r4 : b4 = 0) :
    Calls Try.prog 55 #[.slice (some ⟨B, off, none⟩) len cap] w fun e w' => e = .returned (enV badE) ∧ Below w.heap.size w w' := by
  have t0 : decide (8 ≤ b1) = false := by first | (simp; done) | (simp; omega)
  have t1 : (b0 + 1 == 1) = true := by first | (simp; done) | (simp; omega)
  have t2 : (b0 + 1 == 2) = false := by first | (simp; done) | (simp; omega)
  have t3 : (b0 + 1 == 3) = false := by first | (simp; done) | (simp; omega)
  have t4 : (b0 + 1 == 4) = false := by first | (simp; done) | (simp; omega)
  have t5 : decide (1 ≤ b2) = false := by first | (simp; done) | (simp; omega)
  have t6 : (b3 != 0) = false := by first | (simp; done) | (simp; omega)
  have t7 : (b4 != 0) = false := by first | (simp; done) | (simp; omega)
  clear h1 h0 h2 r3 r4
  have hB : B < w.heap.size := World.block_lt_of_cell? w _ c0
  have hB1 : B < w.heap.size + 1 := by omega
  have hB2 : B < w.heap.size + 1 + 1 := by omega
  unfold enV badE
  go_enter Try.func55, Try.ntmps55
  go_wp2_with (go_at_call 56; refine (bad_any _).mono ?_; rintro e w' ⟨rfl, rfl⟩)
  exact bodyPost_ret (v := enV badE) (by simp [results, Try.results55, go_sem, badE]) rfl ⟨rfl, by first | exact below_allocs1 _ _ | exact below_allocs2 _ _ _ | exact below_allocs3 _ _ _ _⟩

theorem entry_b0hi_a (B off len cap : Nat) (hl : 5 ≤ len) (b0 b1 b2 b3 b4 : Int) (p0 : 0 ≤ b0) (q0 : b0 < 256) (p1 : 0 ≤ b1) (q1 : b1 < 256) (p2 : 0 ≤ b2) (q2 : b2 < 256) (p3 : 0 ≤ b3) (q3 : b3 < 256) (p4 : 0 ≤ b4) (q4 : b4 < 256) (w : World) (c0 : w.cell? ⟨B, off, none⟩ = some (.int .u8 b0)) (c1 : w.cell? ⟨B, off + 1, none⟩ = some (.int .u8 b1)) (c2 : w.cell? ⟨B, off + 2, none⟩ = some (.int .u8 b2)) (c3 : w.cell? ⟨B, off + 3, none⟩ = some (.int .u8 b3)) (c4 : w.cell? ⟨B, off + 4, none⟩ = some (.int .u8 b4)) (h1 : b1 < 8) (h0 : b0 = 0) (h2 : 3 < b2) (r3 : b3 ≠ 0) :
    Calls Try.prog 55 #[.slice (some ⟨B, off, none⟩) len cap] w fun e w' => e = .returned (enV badE) ∧ Below w.heap.size w w' := by
  have t0 : decide (8 ≤ b1) = false := by first | (simp; done) | (simp; omega)
  have t1 : (b0 + 1 == 1) = true := by first | (simp; done) | (simp; omega)
  have t2 : (b0 + 1 == 2) = false := by first | (simp; done) | (simp; omega)
  have t3 : (b0 + 1 == 3) = false := by first | (simp; done) | (simp; omega)
  have t4 : (b0 + 1 == 4) = false := by first | (simp; done) | (simp; omega)
  have t5 : decide (1 ≤ b2) = true := by first | (simp; done) | (simp; omega)
  have t6 : decide (b2 ≤ 3) = false := by first | (simp; done) | (simp; omega)
  have t7 : (b3 != 0) = true := by first | (simp; done) | (simp; omega)
  clear h1 h0 h2 r3
  have hB : B < w.heap.size := World.block_lt_of_cell? w _ c0
  have hB1 : B < w.heap.size + 1 := by omega
  have hB2 : B < w.heap.size + 1 + 1 := by omega
  unfold enV badE
  go_enter Try.func55, Try.ntmps55
  go_wp2_with (go_at_call 56; refine (bad_any _).mono ?_; rintro e w' ⟨rfl, rfl⟩)
  exact bodyPost_ret (v := enV badE) (by simp [results, Try.results55, go_sem, badE]) rfl ⟨rfl, by first | exact below_allocs1 _ _ | exact below_allocs2 _ _ _ | exact below_allocs3 _ _ _ _⟩

theorem entry_b0hi_b (B off len cap : Nat) (hl : 5 ≤ len) (b0 b1 b2 b3 b4 : Int) (p0 : 0 ≤ b0) (q0 : b0 < 256) (p1 : 0 ≤ b1) (q1 : b1 < 256) (p2 : 0 ≤ b2) (q2 : b2 < 256) (p3 : 0 ≤ b3) (q3 : b3 < 256) (p4 : 0 ≤ b4) (q4 : b4 < 256) (w : World) (c0 : w.cell? ⟨B, off, none⟩ = some (.int .u8 b0)) (c1 : w.cell? ⟨B, off + 1, none⟩ = some (.int .u8 b1)) (c2 : w.cell? ⟨B, off + 2, none⟩ = some (.int .u8 b2)) (c3 : w.cell? ⟨B, off + 3, none⟩ = some (.int .u8 b3)) (c4 : w.cell? ⟨B, off + 4, none⟩ = some (.int .u8 b4)) (h1 : b1 < 8) (h0 : b0 = 0) (h2 : 3 < b2) (r3 : b3 = 0) (r4 : b4 ≠ 0) :
    Calls Try.prog 55 #[.slice (some ⟨B, off, none⟩) len cap] w fun e w' => e = .returned (enV badE) ∧ Below w.heap.size w w' := by
  have t0 : decide (8 ≤ b1) = false := by first | (simp; done) | (simp; omega)
  have t1 : (b0 + 1 == 1) = true := by first | (simp; done) | (simp; omega)
  have t2 : (b0 + 1 == 2) = false := by first | (simp; done) | (simp; omega)
  have t3 : (b0 + 1 == 3) = false := by first | (simp; done) | (simp; omega)
  have t4 : (b0 + 1 == 4) = false := by first | (simp; done) | (simp; omega)
  have t5 : decide (1 ≤ b2) = true := by first | (simp; done) | (simp; omega)
  have t6 : decide (b2 ≤ 3) = false := by first | (simp; done) | (simp; omega)
  have t7 : (b3 != 0) = false := by first | (simp; done) | (simp; omega)
  have t8 : (b4 != 0) = true := by first | (simp; done) | (simp; omega)
  clear h1 h0 h2 r3 r4
  have hB : B < w.heap.size := World.block_lt_of_cell? w _ c0
  have hB1 : B < w.heap.size + 1 := by omega
  have hB2 : B < w.heap.size + 1 + 1 := by omega
  unfold enV badE
  go_enter Try.func55, Try.ntmps55
  go_wp2_with (go_at_call 56; refine (bad_any _).mono ?_; rintro e w' ⟨rfl, rfl⟩)
  exact bodyPost_ret (v := enV badE) (by simp [results, Try.results55, go_sem, badE]) rfl ⟨rfl, by first | exact below_allocs1 _ _ | exact below_allocs2 _ _ _ | exact below_allocs3 _ _ _ _⟩

theorem entry_b0hi_c (B off len cap : Nat) (hl : 5 ≤ len) (b0 b1 b2 b3 b4 : Int) (p0 : 0 ≤ b0) (q0 : b0 < 256) (p1 : 0 ≤ b1) (q1 : b1 < 256) (p2 : 0 ≤ b2) (q2 : b2 < 256) (p3 : 0 ≤ b3) (q3 : b3 < 256) (p4 : 0 ≤ b4) (q4 : b4 < 256) (w : World) (c0 : w.cell? ⟨B, off, none⟩ = some (.int .u8 b0)) (c1 : w.cell? ⟨B, off + 1, none⟩ = some (.int .u8 b1)) (c2 : w.cell? ⟨B, off + 2, none⟩ = some (.int .u8 b2)) (c3 : w.cell? ⟨B, off + 3, none⟩ = some (.int .u8 b3)) (c4 : w.cell? ⟨B, off + 4, none⟩ = some (.int .u8 b4)) (h1 : b1 < 8) (h0 : b0 = 0) (h2 : 3 < b2) (r3 : b3 = 0) (r4 : b4 = 0) :
    Calls Try.prog 55 #[.slice (some ⟨B, off, none⟩) len cap] w fun e w' => e = .returned (enV badE) ∧ Below w.heap.size w w' := by
  have t0 : decide (8 ≤ b1) = false := by first | (simp; done) | (simp; omega)
  have t1 : (b0 + 1 == 1) = true := by first | (simp; done) | (simp; omega)
  have t2 : (b0 + 1 == 2) = false := by first | (simp; done) | (simp; omega)
  have t3 : (b0 + 1 == 3) = false := by first | (simp; done) | (simp; omega)
  have t4 : (b0 + 1 == 4) = false := by first | (simp; done) | (simp; omega)
  have t5 : decide (1 ≤ b2) = true := by first | (simp; done) | (simp; omega)
  have t6 : decide (b2 ≤ 3) = false := by first | (simp; done) | (simp; omega)
  have t7 : (b3 != 0) = false := by first | (simp; done) | (simp; omega)
  have t8 : (b4 != 0) = false := by first | (simp; done) | (simp; omega)
  clear h1 h0 h2 r3 r4
  have hB : B < w.heap.size := World.block_lt_of_cell? w _ c0
  have hB1 : B < w.heap.size + 1 := by omega
  have hB2 : B < w.heap.size + 1 + 1 := by omega
  unfold enV badE
  go_enter Try.func55, Try.ntmps55
  go_wp2_with (go_at_call 56; refine (bad_any _).mono ?_; rintro e w' ⟨rfl, rfl⟩)
  exact bodyPost_ret (v := enV badE) (by simp [results, Try.results55, go_sem, badE]) rfl ⟨rfl, by first | exact below_allocs1 _ _ | exact below_allocs2 _ _ _ | exact below_allocs3 _ _ _ _⟩

theorem entry_b0in_a (B off len cap : Nat) (hl : 5 ≤ len) (b0 b1 b2 b3 b4 : Int) (p0 : 0 ≤ b0) (q0 : b0 < 256) (p1 : 0 ≤ b1) (q1 : b1 < 256) (p2 : 0 ≤ b2) (q2 : b2 < 256) (p3 : 0 ≤ b3) (q3 : b3 < 256) (p4 : 0 ≤ b4) (q4 : b4 < 256) (w : World) (c0 : w.cell? ⟨B, off, none⟩ = some (.int .u8 b0)) (c1 : w.cell? ⟨B, off + 1, none⟩ = some (.int .u8 b1)) (c2 : w.cell? ⟨B, off + 2, none⟩ = some (.int .u8 b2)) (c3 : w.cell? ⟨B, off + 3, none⟩ = some (.int .u8 b3)) (c4 : w.cell? ⟨B, off + 4, none⟩ = some (.int .u8 b4)) (h1 : b1 < 8) (h0 : b0 = 0) (h2 : 1 ≤ b2 ∧ b2 ≤ 3) (r3 : b3 ≠ 0) :
    Calls Try.prog 55 #[.slice (some ⟨B, off, none⟩) len cap] w fun e w' => e = .returned (enV badE) ∧ Below w.heap.size w w' := by
  have t0 : decide (8 ≤ b1) = false := by first | (simp; done) | (simp; omega)
  have t1 : (b0 + 1 == 1) = true := by first | (simp; done) | (simp; omega)
  have t2 : (b0 + 1 == 2) = false := by first | (simp; done) | (simp; omega)
  have t3 : (b0 + 1 == 3) = false := by first | (simp; done) | (simp; omega)
  have t4 : (b0 + 1 == 4) = false := by first | (simp; done) | (simp; omega)
  have t5 : decide (1 ≤ b2) = true := by first | (simp; done) | (simp; omega)
  have t6 : decide (b2 ≤ 3) = true := by first | (simp; done) | (simp; omega)
  have t7 : (b3 != 0) = true := by first | (simp; done) | (simp; omega)
  clear h1 h0 h2 r3
  have hB : B < w.heap.size := World.block_lt_of_cell? w _ c0
  have hB1 : B < w.heap.size + 1 := by omega
  have hB2 : B < w.heap.size + 1 + 1 := by omega
  unfold enV badE
  go_enter Try.func55, Try.ntmps55
  go_wp2_with (go_at_call 56; refine (bad_any _).mono ?_; rintro e w' ⟨rfl, rfl⟩)
  exact bodyPost_ret (v := enV badE) (by simp [results, Try.results55, go_sem, badE]) rfl ⟨rfl, by first | exact below_allocs1 _ _ | exact below_allocs2 _ _ _ | exact below_allocs3 _ _ _ _⟩

theorem entry_b0in_b (B off len cap : Nat) (hl : 5 ≤ len) (b0 b1 b2 b3 b4 : Int) (p0 : 0 ≤ b0) (q0 : b0 < 256) (p1 : 0 ≤ b1) (q1 : b1 < 256) (p2 : 0 ≤ b2) (q2 : b2 < 256) (p3 : 0 ≤ b3) (q3 : b3 < 256) (p4 : 0 ≤ b4) (q4 : b4 < 256) (w : World) (c0 : w.cell? ⟨B, off, none⟩ = some (.int .u8 b0)) (c1 : w.cell? ⟨B, off + 1, none⟩ = some (.int .u8 b1)) (c2 : w.cell? ⟨B, off + 2, none⟩ = some (.int .u8 b2)) (c3 : w.cell? ⟨B, off + 3, none⟩ = some (.int .u8 b3)) (c4 : w.cell? ⟨B, off + 4, none⟩ = some (.int .u8 b4)) (h1 : b1 < 8) (h0 : b0 = 0) (h2 : 1 ≤ b2 ∧ b2 ≤ 3) (r3 : b3 = 0) (r4 : b4 ≠ 0) :
    Calls Try.prog 55 #[.slice (some ⟨B, off, none⟩) len cap] w fun e w' => e = .returned (enV badE) ∧ Below w.heap.size w w' := by
  have t0 : decide (8 ≤ b1) = false := by first | (simp; done) | (simp; omega)
  have t1 : (b0 + 1 == 1) = true := by first | (simp; done) | (simp; omega)
  have t2 : (b0 + 1 == 2) = false := by first | (simp; done) | (simp; omega)
  have t3 : (b0 + 1 == 3) = false := by first | (simp; done) | (simp; omega)
  have t4 : (b0 + 1 == 4) = false := by first | (simp; done) | (simp; omega)
  have t5 : decide (1 ≤ b2) = true := by first | (simp; done) | (simp; omega)
  have t6 : decide (b2 ≤ 3) = true := by first | (simp; done) | (simp; omega)
  have t7 : (b3 != 0) = false := by first | (simp; done) | (simp; omega)
  have t8 : (b4 != 0) = true := by first | (simp; done) | (simp; omega)
  clear h1 h0 h2 r3 r4
  have hB : B < w.heap.size := World.block_lt_of_cell? w _ c0
  have hB1 : B < w.heap.size + 1 := by omega
  have hB2 : B < w.heap.size + 1 + 1 := by omega
  unfold enV badE
  go_enter Try.func55, Try.ntmps55
  go_wp2_with (go_at_call 56; refine (bad_any _).mono ?_; rintro e w' ⟨rfl, rfl⟩)
  exact bodyPost_ret (v := enV badE) (by simp [results, Try.results55, go_sem, badE]) rfl ⟨rfl, by first | exact below_allocs1 _ _ | exact below_allocs2 _ _ _ | exact below_allocs3 _ _ _ _⟩

theorem entry_b0in_c (B off len cap : Nat) (hl : 5 ≤ len) (b0 b1 b2 b3 b4 : Int) (p0 : 0 ≤ b0) (q0 : b0 < 256) (p1 : 0 ≤ b1) (q1 : b1 < 256) (p2 : 0 ≤ b2) (q2 : b2 < 256) (p3 : 0 ≤ b3) (q3 : b3 < 256) (p4 : 0 ≤ b4) (q4 : b4 < 256) (w : World) (c0 : w.cell? ⟨B, off, none⟩ = some (.int .u8 b0)) (c1 : w.cell? ⟨B, off + 1, none⟩ = some (.int .u8 b1)) (c2 : w.cell? ⟨B, off + 2, none⟩ = some (.int .u8 b2)) (c3 : w.cell? ⟨B, off + 3, none⟩ = some (.int .u8 b3)) (c4 : w.cell? ⟨B, off + 4, none⟩ = some (.int .u8 b4)) (h1 : b1 < 8) (h0 : b0 = 0) (h2 : 1 ≤ b2 ∧ b2 ≤ 3) (r3 : b3 = 0) (r4 : b4 = 0) :
    Calls Try.prog 55 #[.slice (some ⟨B, off, none⟩) len cap] w fun e w' => e = .returned (enV ⟨b0 + 1, b1, b2, 0, 0, 0, 0⟩) ∧ Below w.heap.size w w' := by
  have t0 : decide (8 ≤ b1) = false := by first | (simp; done) | (simp; omega)
  have t1 : (b0 + 1 == 1) = true := by first | (simp; done) | (simp; omega)
  have t2 : (b0 + 1 == 2) = false := by first | (simp; done) | (simp; omega)
  have t3 : (b0 + 1 == 3) = false := by first | (simp; done) | (simp; omega)
  have t4 : (b0 + 1 == 4) = false := by first | (simp; done) | (simp; omega)
  have t5 : decide (1 ≤ b2) = true := by first | (simp; done) | (simp; omega)
  have t6 : decide (b2 ≤ 3) = true := by first | (simp; done) | (simp; omega)
  have t7 : (b3 != 0) = false := by first | (simp; done) | (simp; omega)
  have t8 : (b4 != 0) = false := by first | (simp; done) | (simp; omega)
  clear h1 h0 h2 r3 r4
  have hB : B < w.heap.size := World.block_lt_of_cell? w _ c0
  have hB1 : B < w.heap.size + 1 := by omega
  have hB2 : B < w.heap.size + 1 + 1 := by omega
  unfold enV
  go_enter Try.func55, Try.ntmps55
  go_wp2_with (go_at_call 56; refine (bad_any _).mono ?_; rintro e w' ⟨rfl, rfl⟩)
  exact bodyPost_ret (v := enV ⟨b0 + 1, b1, b2, 0, 0, 0, 0⟩) (by simp [results, Try.results55, go_sem, badE]) rfl ⟨rfl, by first | exact below_allocs1 _ _ | exact below_allocs2 _ _ _ | exact below_allocs3 _ _ _ _⟩

theorem entry_b1_a (B off len cap : Nat) (hl : 5 ≤ len) (b0 b1 b2 b3 b4 : Int) (p0 : 0 ≤ b0) (q0 : b0 < 256) (p1 : 0 ≤ b1) (q1 : b1 < 256) (p2 : 0 ≤ b2) (q2 : b2 < 256) (p3 : 0 ≤ b3) (q3 : b3 < 256) (p4 : 0 ≤ b4) (q4 : b4 < 256) (w : World) (c0 : w.cell? ⟨B, off, none⟩ = some (.int .u8 b0)) (c1 : w.cell? ⟨B, off + 1, none⟩ = some (.int .u8 b1)) (c2 : w.cell? ⟨B, off + 2, none⟩ = some (.int .u8 b2)) (c3 : w.cell? ⟨B, off + 3, none⟩ = some (.int .u8 b3)) (c4 : w.cell? ⟨B, off + 4, none⟩ = some (.int .u8 b4)) (h1 : b1 < 8) (h0 : b0 = 1) (r3 : b3 ≠ 0) :
    Calls Try.prog 55 #[.slice (some ⟨B, off, none⟩) len cap] w fun e w' => e = .returned (enV (isE b1 b2 b3 b4)) ∧ Below w.heap.size w w' := by
  have t0 : decide (8 ≤ b1) = false := by first | (simp; done) | (simp; omega)
  have t1 : (b0 + 1 == 1) = false := by first | (simp; done) | (simp; omega)
  have t2 : (b0 + 1 == 2) = true := by first | (simp; done) | (simp; omega)
  have t3 : (b0 + 1 == 3) = false := by first | (simp; done) | (simp; omega)
  have t4 : (b0 + 1 == 4) = false := by first | (simp; done) | (simp; omega)
  have t5 : (b3 != 0) = true := by first | (simp; done) | (simp; omega)
  clear h1 h0 r3
  have hB : B < w.heap.size := World.block_lt_of_cell? w _ c0
  have hB1 : B < w.heap.size + 1 := by omega
  have hB2 : B < w.heap.size + 1 + 1 := by omega
  have HI := Lib.hid (fun w => issue_any b1 b2 b3 b4 p2 q2 p3 q3 p4 q4 w)
  generalize isE b1 b2 b3 b4 = E at *
  obtain ⟨ek, es, elv, eok, eoy, eoh, eov⟩ := E
  have i2 : (2 : Int) < (len : Int) := by omega
  have i3 : (3 : Int) < (len : Int) := by omega
  have i4 : (4 : Int) < (len : Int) := by omega
  go_enter Try.func55, Try.ntmps55
  go_wp2_with fail
  refine wp_region_held_drew (S := (fun w' => w'.cell? ⟨B, off + 2, none⟩ = some (.int .u8 b2) ∧ w'.cell? ⟨B, off + 3, none⟩ = some (.int .u8 b3) ∧ w'.cell? ⟨B, off + 4, none⟩ = some (.int .u8 b4))) (by kernel_rfl) ?_ (fun hHeld => ?_)
  · (try dsimp only); exact ⟨by go_simp, by go_simp, by go_simp⟩
  refine wpAnyH_take (i := 0) (v := ?_) rfl (by kernel_rfl) (by kernel_rfl) (by kernel_rfl) (fun _ _ _ h => h) (Or.inl ⟨by rfl, ?_⟩) hHeld ?_
  rotate_left
  · (intro w hSw; (try dsimp only at hSw); go_simp; (try with_reducible rfl))
  (try simp only [List.getElem_toArray, List.getElem_cons_succ, List.getElem_cons_zero, Act.put, List.setIfInBounds_toArray, List.set_cons_zero, List.set_cons_succ])
  refine wpAnyH_take (i := 1) (v := ?_) rfl (by kernel_rfl) (by kernel_rfl) (by kernel_rfl) (fun _ _ _ h => h) (Or.inl ⟨by rfl, ?_⟩) hHeld ?_
  rotate_left
  · (intro w hSw; (try dsimp only at hSw); go_simp; (try with_reducible rfl))
  (try simp only [List.getElem_toArray, List.getElem_cons_succ, List.getElem_cons_zero, Act.put, List.setIfInBounds_toArray, List.set_cons_zero, List.set_cons_succ])
  refine wpAnyH_take (i := 2) (v := ?_) rfl (by kernel_rfl) (by kernel_rfl) (by kernel_rfl) (fun _ _ _ h => h) (Or.inl ⟨by rfl, ?_⟩) hHeld ?_
  rotate_left
  · (intro w hSw; (try dsimp only at hSw); go_simp; (try with_reducible rfl))
  (try simp only [List.getElem_toArray, List.getElem_cons_succ, List.getElem_cons_zero, Act.put, List.setIfInBounds_toArray, List.set_cons_zero, List.set_cons_succ])
  refine wpAnyH_take (i := 3) (v := ?_) rfl (by kernel_rfl) (by kernel_rfl) (by kernel_rfl) (fun _ _ _ h => h) (Or.inl ⟨by rfl, ?_⟩) hHeld ?_
  rotate_left
  · (intro w hSw; (try dsimp only at hSw); go_simp; (try with_reducible rfl))
  (try simp only [List.getElem_toArray, List.getElem_cons_succ, List.getElem_cons_zero, Act.put, List.setIfInBounds_toArray, List.set_cons_zero, List.set_cons_succ])
  refine wpAnyH_take (i := 4) (v := ?_) rfl (by kernel_rfl) (by kernel_rfl) (by kernel_rfl) (fun _ _ _ h => h) (Or.inl ⟨by rfl, ?_⟩) hHeld ?_
  rotate_left
  · (intro w hSw; (try dsimp only at hSw); go_simp; (try with_reducible rfl))
  (try simp only [List.getElem_toArray, List.getElem_cons_succ, List.getElem_cons_zero, Act.put, List.setIfInBounds_toArray, List.set_cons_zero, List.set_cons_succ])
  refine wpAnyH_take (i := 5) (v := ?_) rfl (by kernel_rfl) (by kernel_rfl) (by kernel_rfl) (fun _ _ _ h => h) (Or.inl ⟨by rfl, ?_⟩) hHeld ?_
  rotate_left
  · (intro w hSw; (try dsimp only at hSw); go_simp; (try with_reducible rfl))
  (try simp only [List.getElem_toArray, List.getElem_cons_succ, List.getElem_cons_zero, Act.put, List.setIfInBounds_toArray, List.set_cons_zero, List.set_cons_succ])
  refine wpAnyH_take (i := 6) (v := ?_) rfl (by kernel_rfl) (by kernel_rfl) (by kernel_rfl) (fun _ _ _ h => h) (Or.inl ⟨by rfl, ?_⟩) hHeld ?_
  rotate_left
  · (intro w hSw; (try dsimp only at hSw); go_simp; (try with_reducible rfl))
  (try simp only [List.getElem_toArray, List.getElem_cons_succ, List.getElem_cons_zero, Act.put, List.setIfInBounds_toArray, List.set_cons_zero, List.set_cons_succ])
  refine wpAnyH_take (i := 7) (v := ?_) rfl (by kernel_rfl) (by kernel_rfl) (by kernel_rfl) (fun _ _ _ h => h) (Or.inl ⟨by rfl, ?_⟩) hHeld ?_
  rotate_left
  · (intro w hSw; (try dsimp only at hSw); go_simp; (try with_reducible rfl))
  (try simp only [List.getElem_toArray, List.getElem_cons_succ, List.getElem_cons_zero, Act.put, List.setIfInBounds_toArray, List.set_cons_zero, List.set_cons_succ])
  refine wpAnyH_take (i := 8) (v := ?_) rfl (by kernel_rfl) (by kernel_rfl) (by kernel_rfl) (fun _ _ _ h => h) (Or.inl ⟨by rfl, ?_⟩) hHeld ?_
  rotate_left
  · (intro w hSw; (try dsimp only at hSw); go_simp; (try with_reducible rfl))
  (try simp only [List.getElem_toArray, List.getElem_cons_succ, List.getElem_cons_zero, Act.put, List.setIfInBounds_toArray, List.set_cons_zero, List.set_cons_succ])
  refine wpAnyH_take (i := 9) (v := ?_) rfl (by kernel_rfl) (by kernel_rfl) (by kernel_rfl) (fun _ _ _ h => h) (Or.inl ⟨by rfl, ?_⟩) hHeld ?_
  rotate_left
  · (intro w hSw; (try dsimp only at hSw); go_simp; (try with_reducible rfl))
  (try simp only [List.getElem_toArray, List.getElem_cons_succ, List.getElem_cons_zero, Act.put, List.setIfInBounds_toArray, List.set_cons_zero, List.set_cons_succ])
  refine wpAnyH_ready (rs := [10]) (by kernel_rfl) (by simp) ?_
  refine AllReadyH.cons (o := _) rfl (fun K hK => ?_) ?_
  rotate_left
  · exact AllReadyH.nil
  go_simp
  (first | (go_at_call 67; refine (HI.out _).mono ?_; rintro e w1 ⟨rfl, hq⟩))
  refine hK.out _ _ ?_ (fun hHeld => ?_)
  · (try dsimp only); exact ⟨(hq.cell (p := ⟨B, off + 2, none⟩) (by simp; omega)).trans hHeld.1, (hq.cell (p := ⟨B, off + 3, none⟩) (by simp; omega)).trans hHeld.2.1, (hq.cell (p := ⟨B, off + 4, none⟩) (by simp; omega)).trans hHeld.2.2⟩
  clear hK K
  (try simp only [List.getElem_toArray, List.getElem_cons_succ, List.getElem_cons_zero, Act.put, List.setIfInBounds_toArray, List.set_cons_zero, List.set_cons_succ])
  refine wpAnyH_ready (rs := [11]) (by kernel_rfl) (by simp) ?_
  refine AllReadyH.cons (o := _) rfl (fun K hK => ?_) ?_
  rotate_left
  · exact AllReadyH.nil
  rw [if_pos (by rfl)]
  refine wp_store_row 47 _ _ rfl w.heap.size #[.int .i64 ek, .int .i64 es, .int .i64 elv, .int .i64 eok, .int .i64 eoy, .int .i64 eoh, .int .i64 eov] rfl rfl 47 #[.int .i64 0, .int .i64 0, .int .i64 0, .int .i64 0, .int .i64 0, .int .i64 0, .int .i64 0] ((hq.block w.heap.size (by simp)).trans (by show (w.heap.push _)[w.heap.size]? = _; simp)) (by kernel_rfl) rfl (by simp [Value.oneCell']) ?_
  refine hK.out _ _ ?_ (fun hHeld => ?_)
  · (try dsimp only); exact ⟨(cell_setRow_other _ _ _ _ (by simp; omega)).trans hHeld.1, (cell_setRow_other _ _ _ _ (by simp; omega)).trans hHeld.2.1, (cell_setRow_other _ _ _ _ (by simp; omega)).trans hHeld.2.2⟩
  clear hK K
  (try simp only [List.getElem_toArray, List.getElem_cons_succ, List.getElem_cons_zero, Act.put, List.setIfInBounds_toArray, List.set_cons_zero, List.set_cons_succ])
  refine wpAnyH_done (by kernel_rfl) ?_ _
  have hg : w1.heap[w.heap.size]? = some (.cells #[.int .i64 0, .int .i64 0, .int .i64 0, .int .i64 0, .int .i64 0, .int .i64 0, .int .i64 0] 47 (0, 0)) := (hq.block w.heap.size (by simp)).trans (by show (w.heap.push _)[w.heap.size]? = _; simp)
  have r : ∀ j, (w1.setRow w.heap.size #[.int .i64 ek, .int .i64 es, .int .i64 elv, .int .i64 eok, .int .i64 eoy, .int .i64 eoh, .int .i64 eov]).cell? ⟨w.heap.size, j, none⟩ = (#[.int .i64 ek, .int .i64 es, .int .i64 elv, .int .i64 eok, .int .i64 eoy, .int .i64 eoh, .int .i64 eov] : Array Value)[j]? := fun j => cell_setRow_same _ _ _ _ _ _ _ hg
  have r0 := r 0
  have r1 := r 1
  have r2 := r 2
  have r3 := r 3
  have r4 := r 4
  have r5 := r 5
  have r6 := r 6
  clear r
  simp at r0 r1 r2 r3 r4 r5 r6
  have hfin : Below w.heap.size w (w1.setRow w.heap.size #[.int .i64 ek, .int .i64 es, .int .i64 elv, .int .i64 eok, .int .i64 eoy, .int .i64 eoh, .int .i64 eov]) := below_setRow ((below_allocs1 w _).drew.trans (hq.mono (by simp))) (Nat.le_refl _) _
  generalize (w1.setRow w.heap.size #[.int .i64 ek, .int .i64 es, .int .i64 elv, .int .i64 eok, .int .i64 eoy, .int .i64 eoh, .int .i64 eov]) = wf at *
  go_wp2
  exact bodyPost_ret (v := .agg #[.int .i64 ek, .int .i64 es, .int .i64 elv, .int .i64 eok, .int .i64 eoy, .int .i64 eoh, .int .i64 eov]) (by simp [results, Try.results55, go_sem, r0, r1, r2, r3, r4, r5, r6]) rfl ⟨rfl, hfin⟩

theorem entry_b1_b (B off len cap : Nat) (hl : 5 ≤ len) (b0 b1 b2 b3 b4 : Int) (p0 : 0 ≤ b0) (q0 : b0 < 256) (p1 : 0 ≤ b1) (q1 : b1 < 256) (p2 : 0 ≤ b2) (q2 : b2 < 256) (p3 : 0 ≤ b3) (q3 : b3 < 256) (p4 : 0 ≤ b4) (q4 : b4 < 256) (w : World) (c0 : w.cell? ⟨B, off, none⟩ = some (.int .u8 b0)) (c1 : w.cell? ⟨B, off + 1, none⟩ = some (.int .u8 b1)) (c2 : w.cell? ⟨B, off + 2, none⟩ = some (.int .u8 b2)) (c3 : w.cell? ⟨B, off + 3, none⟩ = some (.int .u8 b3)) (c4 : w.cell? ⟨B, off + 4, none⟩ = some (.int .u8 b4)) (h1 : b1 < 8) (h0 : b0 = 1) (r3 : b3 = 0) (r4 : b4 ≠ 0) :
    Calls Try.prog 55 #[.slice (some ⟨B, off, none⟩) len cap] w fun e w' => e = .returned (enV (isE b1 b2 b3 b4)) ∧ Below w.heap.size w w' := by
  have t0 : decide (8 ≤ b1) = false := by first | (simp; done) | (simp; omega)
  have t1 : (b0 + 1 == 1) = false := by first | (simp; done) | (simp; omega)
  have t2 : (b0 + 1 == 2) = true := by first | (simp; done) | (simp; omega)
  have t3 : (b0 + 1 == 3) = false := by first | (simp; done) | (simp; omega)
  have t4 : (b0 + 1 == 4) = false := by first | (simp; done) | (simp; omega)
  have t5 : (b3 != 0) = false := by first | (simp; done) | (simp; omega)
  have t6 : (b4 != 0) = true := by first | (simp; done) | (simp; omega)
  clear h1 h0 r3 r4
  have hB : B < w.heap.size := World.block_lt_of_cell? w _ c0
  have hB1 : B < w.heap.size + 1 := by omega
  have hB2 : B < w.heap.size + 1 + 1 := by omega
  have HI := Lib.hid (fun w => issue_any b1 b2 b3 b4 p2 q2 p3 q3 p4 q4 w)
  generalize isE b1 b2 b3 b4 = E at *
  obtain ⟨ek, es, elv, eok, eoy, eoh, eov⟩ := E
  have i2 : (2 : Int) < (len : Int) := by omega
  have i3 : (3 : Int) < (len : Int) := by omega
  have i4 : (4 : Int) < (len : Int) := by omega
  go_enter Try.func55, Try.ntmps55
  go_wp2_with fail
  refine wp_region_held_drew (S := (fun w' => w'.cell? ⟨B, off + 2, none⟩ = some (.int .u8 b2) ∧ w'.cell? ⟨B, off + 3, none⟩ = some (.int .u8 b3) ∧ w'.cell? ⟨B, off + 4, none⟩ = some (.int .u8 b4))) (by kernel_rfl) ?_ (fun hHeld => ?_)
  · (try dsimp only); exact ⟨by go_simp, by go_simp, by go_simp⟩
  refine wpAnyH_take (i := 0) (v := ?_) rfl (by kernel_rfl) (by kernel_rfl) (by kernel_rfl) (fun _ _ _ h => h) (Or.inl ⟨by rfl, ?_⟩) hHeld ?_
  rotate_left
  · (intro w hSw; (try dsimp only at hSw); go_simp; (try with_reducible rfl))
  (try simp only [List.getElem_toArray, List.getElem_cons_succ, List.getElem_cons_zero, Act.put, List.setIfInBounds_toArray, List.set_cons_zero, List.set_cons_succ])
  refine wpAnyH_take (i := 1) (v := ?_) rfl (by kernel_rfl) (by kernel_rfl) (by kernel_rfl) (fun _ _ _ h => h) (Or.inl ⟨by rfl, ?_⟩) hHeld ?_
  rotate_left
  · (intro w hSw; (try dsimp only at hSw); go_simp; (try with_reducible rfl))
  (try simp only [List.getElem_toArray, List.getElem_cons_succ, List.getElem_cons_zero, Act.put, List.setIfInBounds_toArray, List.set_cons_zero, List.set_cons_succ])
  refine wpAnyH_take (i := 2) (v := ?_) rfl (by kernel_rfl) (by kernel_rfl) (by kernel_rfl) (fun _ _ _ h => h) (Or.inl ⟨by rfl, ?_⟩) hHeld ?_
  rotate_left
  · (intro w hSw; (try dsimp only at hSw); go_simp; (try with_reducible rfl))
  (try simp only [List.getElem_toArray, List.getElem_cons_succ, List.getElem_cons_zero, Act.put, List.setIfInBounds_toArray, List.set_cons_zero, List.set_cons_succ])
  refine wpAnyH_take (i := 3) (v := ?_) rfl (by kernel_rfl) (by kernel_rfl) (by kernel_rfl) (fun _ _ _ h => h) (Or.inl ⟨by rfl, ?_⟩) hHeld ?_
  rotate_left
  · (intro w hSw; (try dsimp only at hSw); go_simp; (try with_reducible rfl))
  (try simp only [List.getElem_toArray, List.getElem_cons_succ, List.getElem_cons_zero, Act.put, List.setIfInBounds_toArray, List.set_cons_zero, List.set_cons_succ])
  refine wpAnyH_take (i := 4) (v := ?_) rfl (by kernel_rfl) (by kernel_rfl) (by kernel_rfl) (fun _ _ _ h => h) (Or.inl ⟨by rfl, ?_⟩) hHeld ?_
  rotate_left
  · (intro w hSw; (try dsimp only at hSw); go_simp; (try with_reducible rfl))
  (try simp only [List.getElem_toArray, List.getElem_cons_succ, List.getElem_cons_zero, Act.put, List.setIfInBounds_toArray, List.set_cons_zero, List.set_cons_succ])
  refine wpAnyH_take (i := 5) (v := ?_) rfl (by kernel_rfl) (by kernel_rfl) (by kernel_rfl) (fun _ _ _ h => h) (Or.inl ⟨by rfl, ?_⟩) hHeld ?_
  rotate_left
  · (intro w hSw; (try dsimp only at hSw); go_simp; (try with_reducible rfl))
  (try simp only [List.getElem_toArray, List.getElem_cons_succ, List.getElem_cons_zero, Act.put, List.setIfInBounds_toArray, List.set_cons_zero, List.set_cons_succ])
  refine wpAnyH_take (i := 6) (v := ?_) rfl (by kernel_rfl) (by kernel_rfl) (by kernel_rfl) (fun _ _ _ h => h) (Or.inl ⟨by rfl, ?_⟩) hHeld ?_
  rotate_left
  · (intro w hSw; (try dsimp only at hSw); go_simp; (try with_reducible rfl))
  (try simp only [List.getElem_toArray, List.getElem_cons_succ, List.getElem_cons_zero, Act.put, List.setIfInBounds_toArray, List.set_cons_zero, List.set_cons_succ])
  refine wpAnyH_take (i := 7) (v := ?_) rfl (by kernel_rfl) (by kernel_rfl) (by kernel_rfl) (fun _ _ _ h => h) (Or.inl ⟨by rfl, ?_⟩) hHeld ?_
  rotate_left
  · (intro w hSw; (try dsimp only at hSw); go_simp; (try with_reducible rfl))
  (try simp only [List.getElem_toArray, List.getElem_cons_succ, List.getElem_cons_zero, Act.put, List.setIfInBounds_toArray, List.set_cons_zero, List.set_cons_succ])
  refine wpAnyH_take (i := 8) (v := ?_) rfl (by kernel_rfl) (by kernel_rfl) (by kernel_rfl) (fun _ _ _ h => h) (Or.inl ⟨by rfl, ?_⟩) hHeld ?_
  rotate_left
  · (intro w hSw; (try dsimp only at hSw); go_simp; (try with_reducible rfl))
  (try simp only [List.getElem_toArray, List.getElem_cons_succ, List.getElem_cons_zero, Act.put, List.setIfInBounds_toArray, List.set_cons_zero, List.set_cons_succ])
  refine wpAnyH_take (i := 9) (v := ?_) rfl (by kernel_rfl) (by kernel_rfl) (by kernel_rfl) (fun _ _ _ h => h) (Or.inl ⟨by rfl, ?_⟩) hHeld ?_
  rotate_left
  · (intro w hSw; (try dsimp only at hSw); go_simp; (try with_reducible rfl))
  (try simp only [List.getElem_toArray, List.getElem_cons_succ, List.getElem_cons_zero, Act.put, List.setIfInBounds_toArray, List.set_cons_zero, List.set_cons_succ])
  refine wpAnyH_ready (rs := [10]) (by kernel_rfl) (by simp) ?_
  refine AllReadyH.cons (o := _) rfl (fun K hK => ?_) ?_
  rotate_left
  · exact AllReadyH.nil
  go_simp
  (first | (go_at_call 67; refine (HI.out _).mono ?_; rintro e w1 ⟨rfl, hq⟩))
  refine hK.out _ _ ?_ (fun hHeld => ?_)
  · (try dsimp only); exact ⟨(hq.cell (p := ⟨B, off + 2, none⟩) (by simp; omega)).trans hHeld.1, (hq.cell (p := ⟨B, off + 3, none⟩) (by simp; omega)).trans hHeld.2.1, (hq.cell (p := ⟨B, off + 4, none⟩) (by simp; omega)).trans hHeld.2.2⟩
  clear hK K
  (try simp only [List.getElem_toArray, List.getElem_cons_succ, List.getElem_cons_zero, Act.put, List.setIfInBounds_toArray, List.set_cons_zero, List.set_cons_succ])
  refine wpAnyH_ready (rs := [11]) (by kernel_rfl) (by simp) ?_
  refine AllReadyH.cons (o := _) rfl (fun K hK => ?_) ?_
  rotate_left
  · exact AllReadyH.nil
  rw [if_pos (by rfl)]
  refine wp_store_row 47 _ _ rfl w.heap.size #[.int .i64 ek, .int .i64 es, .int .i64 elv, .int .i64 eok, .int .i64 eoy, .int .i64 eoh, .int .i64 eov] rfl rfl 47 #[.int .i64 0, .int .i64 0, .int .i64 0, .int .i64 0, .int .i64 0, .int .i64 0, .int .i64 0] ((hq.block w.heap.size (by simp)).trans (by show (w.heap.push _)[w.heap.size]? = _; simp)) (by kernel_rfl) rfl (by simp [Value.oneCell']) ?_
  refine hK.out _ _ ?_ (fun hHeld => ?_)
  · (try dsimp only); exact ⟨(cell_setRow_other _ _ _ _ (by simp; omega)).trans hHeld.1, (cell_setRow_other _ _ _ _ (by simp; omega)).trans hHeld.2.1, (cell_setRow_other _ _ _ _ (by simp; omega)).trans hHeld.2.2⟩
  clear hK K
  (try simp only [List.getElem_toArray, List.getElem_cons_succ, List.getElem_cons_zero, Act.put, List.setIfInBounds_toArray, List.set_cons_zero, List.set_cons_succ])
  refine wpAnyH_done (by kernel_rfl) ?_ _
  have hg : w1.heap[w.heap.size]? = some (.cells #[.int .i64 0, .int .i64 0, .int .i64 0, .int .i64 0, .int .i64 0, .int .i64 0, .int .i64 0] 47 (0, 0)) := (hq.block w.heap.size (by simp)).trans (by show (w.heap.push _)[w.heap.size]? = _; simp)
  have r : ∀ j, (w1.setRow w.heap.size #[.int .i64 ek, .int .i64 es, .int .i64 elv, .int .i64 eok, .int .i64 eoy, .int .i64 eoh, .int .i64 eov]).cell? ⟨w.heap.size, j, none⟩ = (#[.int .i64 ek, .int .i64 es, .int .i64 elv, .int .i64 eok, .int .i64 eoy, .int .i64 eoh, .int .i64 eov] : Array Value)[j]? := fun j => cell_setRow_same _ _ _ _ _ _ _ hg
  have r0 := r 0
  have r1 := r 1
  have r2 := r 2
  have r3 := r 3
  have r4 := r 4
  have r5 := r 5
  have r6 := r 6
  clear r
  simp at r0 r1 r2 r3 r4 r5 r6
  have hfin : Below w.heap.size w (w1.setRow w.heap.size #[.int .i64 ek, .int .i64 es, .int .i64 elv, .int .i64 eok, .int .i64 eoy, .int .i64 eoh, .int .i64 eov]) := below_setRow ((below_allocs1 w _).drew.trans (hq.mono (by simp))) (Nat.le_refl _) _
  generalize (w1.setRow w.heap.size #[.int .i64 ek, .int .i64 es, .int .i64 elv, .int .i64 eok, .int .i64 eoy, .int .i64 eoh, .int .i64 eov]) = wf at *
  go_wp2
  exact bodyPost_ret (v := .agg #[.int .i64 ek, .int .i64 es, .int .i64 elv, .int .i64 eok, .int .i64 eoy, .int .i64 eoh, .int .i64 eov]) (by simp [results, Try.results55, go_sem, r0, r1, r2, r3, r4, r5, r6]) rfl ⟨rfl, hfin⟩

theorem entry_b1_c (B off len cap : Nat) (hl : 5 ≤ len) (b0 b1 b2 b3 b4 : Int) (p0 : 0 ≤ b0) (q0 : b0 < 256) (p1 : 0 ≤ b1) (q1 : b1 < 256) (p2 : 0 ≤ b2) (q2 : b2 < 256) (p3 : 0 ≤ b3) (q3 : b3 < 256) (p4 : 0 ≤ b4) (q4 : b4 < 256) (w : World) (c0 : w.cell? ⟨B, off, none⟩ = some (.int .u8 b0)) (c1 : w.cell? ⟨B, off + 1, none⟩ = some (.int .u8 b1)) (c2 : w.cell? ⟨B, off + 2, none⟩ = some (.int .u8 b2)) (c3 : w.cell? ⟨B, off + 3, none⟩ = some (.int .u8 b3)) (c4 : w.cell? ⟨B, off + 4, none⟩ = some (.int .u8 b4)) (h1 : b1 < 8) (h0 : b0 = 1) (r3 : b3 = 0) (r4 : b4 = 0) :
    Calls Try.prog 55 #[.slice (some ⟨B, off, none⟩) len cap] w fun e w' => e = .returned (enV (isE b1 b2 b3 b4)) ∧ Below w.heap.size w w' := by
  have t0 : decide (8 ≤ b1) = false := by first | (simp; done) | (simp; omega)
  have t1 : (b0 + 1 == 1) = false := by first | (simp; done) | (simp; omega)
  have t2 : (b0 + 1 == 2) = true := by first | (simp; done) | (simp; omega)
  have t3 : (b0 + 1 == 3) = false := by first | (simp; done) | (simp; omega)
  have t4 : (b0 + 1 == 4) = false := by first | (simp; done) | (simp; omega)
  have t5 : (b3 != 0) = false := by first | (simp; done) | (simp; omega)
  have t6 : (b4 != 0) = false := by first | (simp; done) | (simp; omega)
  clear h1 h0 r3 r4
  have hB : B < w.heap.size := World.block_lt_of_cell? w _ c0
  have hB1 : B < w.heap.size + 1 := by omega
  have hB2 : B < w.heap.size + 1 + 1 := by omega
  have HI := Lib.hid (fun w => issue_any b1 b2 b3 b4 p2 q2 p3 q3 p4 q4 w)
  generalize isE b1 b2 b3 b4 = E at *
  obtain ⟨ek, es, elv, eok, eoy, eoh, eov⟩ := E
  have i2 : (2 : Int) < (len : Int) := by omega
  have i3 : (3 : Int) < (len : Int) := by omega
  have i4 : (4 : Int) < (len : Int) := by omega
  go_enter Try.func55, Try.ntmps55
  go_wp2_with fail
  refine wp_region_held_drew (S := (fun w' => w'.cell? ⟨B, off + 2, none⟩ = some (.int .u8 b2) ∧ w'.cell? ⟨B, off + 3, none⟩ = some (.int .u8 b3) ∧ w'.cell? ⟨B, off + 4, none⟩ = some (.int .u8 b4))) (by kernel_rfl) ?_ (fun hHeld => ?_)
  · (try dsimp only); exact ⟨by go_simp, by go_simp, by go_simp⟩
  refine wpAnyH_take (i := 0) (v := ?_) rfl (by kernel_rfl) (by kernel_rfl) (by kernel_rfl) (fun _ _ _ h => h) (Or.inl ⟨by rfl, ?_⟩) hHeld ?_
  rotate_left
  · (intro w hSw; (try dsimp only at hSw); go_simp; (try with_reducible rfl))
  (try simp only [List.getElem_toArray, List.getElem_cons_succ, List.getElem_cons_zero, Act.put, List.setIfInBounds_toArray, List.set_cons_zero, List.set_cons_succ])
  refine wpAnyH_take (i := 1) (v := ?_) rfl (by kernel_rfl) (by kernel_rfl) (by kernel_rfl) (fun _ _ _ h => h) (Or.inl ⟨by rfl, ?_⟩) hHeld ?_
  rotate_left
  · (intro w hSw; (try dsimp only at hSw); go_simp; (try with_reducible rfl))
  (try simp only [List.getElem_toArray, List.getElem_cons_succ, List.getElem_cons_zero, Act.put, List.setIfInBounds_toArray, List.set_cons_zero, List.set_cons_succ])
  refine wpAnyH_take (i := 2) (v := ?_) rfl (by kernel_rfl) (by kernel_rfl) (by kernel_rfl) (fun _ _ _ h => h) (Or.inl ⟨by rfl, ?_⟩) hHeld ?_
  rotate_left
  · (intro w hSw; (try dsimp only at hSw); go_simp; (try with_reducible rfl))
  (try simp only [List.getElem_toArray, List.getElem_cons_succ, List.getElem_cons_zero, Act.put, List.setIfInBounds_toArray, List.set_cons_zero, List.set_cons_succ])
  refine wpAnyH_take (i := 3) (v := ?_) rfl (by kernel_rfl) (by kernel_rfl) (by kernel_rfl) (fun _ _ _ h => h) (Or.inl ⟨by rfl, ?_⟩) hHeld ?_
  rotate_left
  · (intro w hSw; (try dsimp only at hSw); go_simp; (try with_reducible rfl))
  (try simp only [List.getElem_toArray, List.getElem_cons_succ, List.getElem_cons_zero, Act.put, List.setIfInBounds_toArray, List.set_cons_zero, List.set_cons_succ])
  refine wpAnyH_take (i := 4) (v := ?_) rfl (by kernel_rfl) (by kernel_rfl) (by kernel_rfl) (fun _ _ _ h => h) (Or.inl ⟨by rfl, ?_⟩) hHeld ?_
  rotate_left
  · (intro w hSw; (try dsimp only at hSw); go_simp; (try with_reducible rfl))
  (try simp only [List.getElem_toArray, List.getElem_cons_succ, List.getElem_cons_zero, Act.put, List.setIfInBounds_toArray, List.set_cons_zero, List.set_cons_succ])
  refine wpAnyH_take (i := 5) (v := ?_) rfl (by kernel_rfl) (by kernel_rfl) (by kernel_rfl) (fun _ _ _ h => h) (Or.inl ⟨by rfl, ?_⟩) hHeld ?_
  rotate_left
  · (intro w hSw; (try dsimp only at hSw); go_simp; (try with_reducible rfl))
  (try simp only [List.getElem_toArray, List.getElem_cons_succ, List.getElem_cons_zero, Act.put, List.setIfInBounds_toArray, List.set_cons_zero, List.set_cons_succ])
  refine wpAnyH_take (i := 6) (v := ?_) rfl (by kernel_rfl) (by kernel_rfl) (by kernel_rfl) (fun _ _ _ h => h) (Or.inl ⟨by rfl, ?_⟩) hHeld ?_
  rotate_left
  · (intro w hSw; (try dsimp only at hSw); go_simp; (try with_reducible rfl))
  (try simp only [List.getElem_toArray, List.getElem_cons_succ, List.getElem_cons_zero, Act.put, List.setIfInBounds_toArray, List.set_cons_zero, List.set_cons_succ])
  refine wpAnyH_take (i := 7) (v := ?_) rfl (by kernel_rfl) (by kernel_rfl) (by kernel_rfl) (fun _ _ _ h => h) (Or.inl ⟨by rfl, ?_⟩) hHeld ?_
  rotate_left
  · (intro w hSw; (try dsimp only at hSw); go_simp; (try with_reducible rfl))
  (try simp only [List.getElem_toArray, List.getElem_cons_succ, List.getElem_cons_zero, Act.put, List.setIfInBounds_toArray, List.set_cons_zero, List.set_cons_succ])
  refine wpAnyH_take (i := 8) (v := ?_) rfl (by kernel_rfl) (by kernel_rfl) (by kernel_rfl) (fun _ _ _ h => h) (Or.inl ⟨by rfl, ?_⟩) hHeld ?_
  rotate_left
  · (intro w hSw; (try dsimp only at hSw); go_simp; (try with_reducible rfl))
  (try simp only [List.getElem_toArray, List.getElem_cons_succ, List.getElem_cons_zero, Act.put, List.setIfInBounds_toArray, List.set_cons_zero, List.set_cons_succ])
  refine wpAnyH_take (i := 9) (v := ?_) rfl (by kernel_rfl) (by kernel_rfl) (by kernel_rfl) (fun _ _ _ h => h) (Or.inl ⟨by rfl, ?_⟩) hHeld ?_
  rotate_left
  · (intro w hSw; (try dsimp only at hSw); go_simp; (try with_reducible rfl))
  (try simp only [List.getElem_toArray, List.getElem_cons_succ, List.getElem_cons_zero, Act.put, List.setIfInBounds_toArray, List.set_cons_zero, List.set_cons_succ])
  refine wpAnyH_ready (rs := [10]) (by kernel_rfl) (by simp) ?_
  refine AllReadyH.cons (o := _) rfl (fun K hK => ?_) ?_
  rotate_left
  · exact AllReadyH.nil
  go_simp
  (first | (go_at_call 67; refine (HI.out _).mono ?_; rintro e w1 ⟨rfl, hq⟩))
  refine hK.out _ _ ?_ (fun hHeld => ?_)
  · (try dsimp only); exact ⟨(hq.cell (p := ⟨B, off + 2, none⟩) (by simp; omega)).trans hHeld.1, (hq.cell (p := ⟨B, off + 3, none⟩) (by simp; omega)).trans hHeld.2.1, (hq.cell (p := ⟨B, off + 4, none⟩) (by simp; omega)).trans hHeld.2.2⟩
  clear hK K
  (try simp only [List.getElem_toArray, List.getElem_cons_succ, List.getElem_cons_zero, Act.put, List.setIfInBounds_toArray, List.set_cons_zero, List.set_cons_succ])
  refine wpAnyH_ready (rs := [11]) (by kernel_rfl) (by simp) ?_
  refine AllReadyH.cons (o := _) rfl (fun K hK => ?_) ?_
  rotate_left
  · exact AllReadyH.nil
  rw [if_pos (by rfl)]
  refine wp_store_row 47 _ _ rfl w.heap.size #[.int .i64 ek, .int .i64 es, .int .i64 elv, .int .i64 eok, .int .i64 eoy, .int .i64 eoh, .int .i64 eov] rfl rfl 47 #[.int .i64 0, .int .i64 0, .int .i64 0, .int .i64 0, .int .i64 0, .int .i64 0, .int .i64 0] ((hq.block w.heap.size (by simp)).trans (by show (w.heap.push _)[w.heap.size]? = _; simp)) (by kernel_rfl) rfl (by simp [Value.oneCell']) ?_
  refine hK.out _ _ ?_ (fun hHeld => ?_)
  · (try dsimp only); exact ⟨(cell_setRow_other _ _ _ _ (by simp; omega)).trans hHeld.1, (cell_setRow_other _ _ _ _ (by simp; omega)).trans hHeld.2.1, (cell_setRow_other _ _ _ _ (by simp; omega)).trans hHeld.2.2⟩
  clear hK K
  (try simp only [List.getElem_toArray, List.getElem_cons_succ, List.getElem_cons_zero, Act.put, List.setIfInBounds_toArray, List.set_cons_zero, List.set_cons_succ])
  refine wpAnyH_done (by kernel_rfl) ?_ _
  have hg : w1.heap[w.heap.size]? = some (.cells #[.int .i64 0, .int .i64 0, .int .i64 0, .int .i64 0, .int .i64 0, .int .i64 0, .int .i64 0] 47 (0, 0)) := (hq.block w.heap.size (by simp)).trans (by show (w.heap.push _)[w.heap.size]? = _; simp)
  have r : ∀ j, (w1.setRow w.heap.size #[.int .i64 ek, .int .i64 es, .int .i64 elv, .int .i64 eok, .int .i64 eoy, .int .i64 eoh, .int .i64 eov]).cell? ⟨w.heap.size, j, none⟩ = (#[.int .i64 ek, .int .i64 es, .int .i64 elv, .int .i64 eok, .int .i64 eoy, .int .i64 eoh, .int .i64 eov] : Array Value)[j]? := fun j => cell_setRow_same _ _ _ _ _ _ _ hg
  have r0 := r 0
  have r1 := r 1
  have r2 := r 2
  have r3 := r 3
  have r4 := r 4
  have r5 := r 5
  have r6 := r 6
  clear r
  simp at r0 r1 r2 r3 r4 r5 r6
  have hfin : Below w.heap.size w (w1.setRow w.heap.size #[.int .i64 ek, .int .i64 es, .int .i64 elv, .int .i64 eok, .int .i64 eoy, .int .i64 eoh, .int .i64 eov]) := below_setRow ((below_allocs1 w _).drew.trans (hq.mono (by simp))) (Nat.le_refl _) _
  generalize (w1.setRow w.heap.size #[.int .i64 ek, .int .i64 es, .int .i64 elv, .int .i64 eok, .int .i64 eoy, .int .i64 eoh, .int .i64 eov]) = wf at *
  go_wp2
  exact bodyPost_ret (v := .agg #[.int .i64 ek, .int .i64 es, .int .i64 elv, .int .i64 eok, .int .i64 eoy, .int .i64 eoh, .int .i64 eov]) (by simp [results, Try.results55, go_sem, r0, r1, r2, r3, r4, r5, r6]) rfl ⟨rfl, hfin⟩

theorem entry_b2z_a (B off len cap : Nat) (hl : 5 ≤ len) (b0 b1 b2 b3 b4 : Int) (p0 : 0 ≤ b0) (q0 : b0 < 256) (p1 : 0 ≤ b1) (q1 : b1 < 256) (p2 : 0 ≤ b2) (q2 : b2 < 256) (p3 : 0 ≤ b3) (q3 : b3 < 256) (p4 : 0 ≤ b4) (q4 : b4 < 256) (w : World) (c0 : w.cell? ⟨B, off, none⟩ = some (.int .u8 b0)) (c1 : w.cell? ⟨B, off + 1, none⟩ = some (.int .u8 b1)) (c2 : w.cell? ⟨B, off + 2, none⟩ = some (.int .u8 b2)) (c3 : w.cell? ⟨B, off + 3, none⟩ = some (.int .u8 b3)) (c4 : w.cell? ⟨B, off + 4, none⟩ = some (.int .u8 b4)) (h1 : b1 < 8) (h0 : b0 = 2) (h2 : b2 = 0) (r3 : b3 ≠ 0) :
    Calls Try.prog 55 #[.slice (some ⟨B, off, none⟩) len cap] w fun e w' => e = .returned (enV badE) ∧ Below w.heap.size w w' := by
  have t0 : decide (8 ≤ b1) = false := by first | (simp; done) | (simp; omega)
  have t1 : (b0 + 1 == 1) = false := by first | (simp; done) | (simp; omega)
  have t2 : (b0 + 1 == 2) = false := by first | (simp; done) | (simp; omega)
  have t3 : (b0 + 1 == 3) = true := by first | (simp; done) | (simp; omega)
  have t4 : (b0 + 1 == 4) = false := by first | (simp; done) | (simp; omega)
  have t5 : (b2 == 0) = true := by first | (simp; done) | (simp; omega)
  have t6 : (b3 != 0) = true := by first | (simp; done) | (simp; omega)
  clear h1 h0 h2 r3
  have hB : B < w.heap.size := World.block_lt_of_cell? w _ c0
  have hB1 : B < w.heap.size + 1 := by omega
  have hB2 : B < w.heap.size + 1 + 1 := by omega
  unfold enV badE
  go_enter Try.func55, Try.ntmps55
  go_wp2_with (go_at_call 56; refine (bad_any _).mono ?_; rintro e w' ⟨rfl, rfl⟩)
  exact bodyPost_ret (v := enV badE) (by simp [results, Try.results55, go_sem, badE]) rfl ⟨rfl, by first | exact below_allocs1 _ _ | exact below_allocs2 _ _ _ | exact below_allocs3 _ _ _ _⟩

theorem entry_b2z_b (B off len cap : Nat) (hl : 5 ≤ len) (b0 b1 b2 b3 b4 : Int) (p0 : 0 ≤ b0) (q0 : b0 < 256) (p1 : 0 ≤ b1) (q1 : b1 < 256) (p2 : 0 ≤ b2) (q2 : b2 < 256) (p3 : 0 ≤ b3) (q3 : b3 < 256) (p4 : 0 ≤ b4) (q4 : b4 < 256) (w : World) (c0 : w.cell? ⟨B, off, none⟩ = some (.int .u8 b0)) (c1 : w.cell? ⟨B, off + 1, none⟩ = some (.int .u8 b1)) (c2 : w.cell? ⟨B, off + 2, none⟩ = some (.int .u8 b2)) (c3 : w.cell? ⟨B, off + 3, none⟩ = some (.int .u8 b3)) (c4 : w.cell? ⟨B, off + 4, none⟩ = some (.int .u8 b4)) (h1 : b1 < 8) (h0 : b0 = 2) (h2 : b2 = 0) (r3 : b3 = 0) (r4 : b4 ≠ 0) :
    Calls Try.prog 55 #[.slice (some ⟨B, off, none⟩) len cap] w fun e w' => e = .returned (enV badE) ∧ Below w.heap.size w w' := by
  have t0 : decide (8 ≤ b1) = false := by first | (simp; done) | (simp; omega)
  have t1 : (b0 + 1 == 1) = false := by first | (simp; done) | (simp; omega)
  have t2 : (b0 + 1 == 2) = false := by first | (simp; done) | (simp; omega)
  have t3 : (b0 + 1 == 3) = true := by first | (simp; done) | (simp; omega)
  have t4 : (b0 + 1 == 4) = false := by first | (simp; done) | (simp; omega)
  have t5 : (b2 == 0) = true := by first | (simp; done) | (simp; omega)
  have t6 : (b3 != 0) = false := by first | (simp; done) | (simp; omega)
  have t7 : (b4 != 0) = true := by first | (simp; done) | (simp; omega)
  clear h1 h0 h2 r3 r4
  have hB : B < w.heap.size := World.block_lt_of_cell? w _ c0
  have hB1 : B < w.heap.size + 1 := by omega
  have hB2 : B < w.heap.size + 1 + 1 := by omega
  unfold enV badE
  go_enter Try.func55, Try.ntmps55
  go_wp2_with (go_at_call 56; refine (bad_any _).mono ?_; rintro e w' ⟨rfl, rfl⟩)
  exact bodyPost_ret (v := enV badE) (by simp [results, Try.results55, go_sem, badE]) rfl ⟨rfl, by first | exact below_allocs1 _ _ | exact below_allocs2 _ _ _ | exact below_allocs3 _ _ _ _⟩

theorem entry_b2z_c (B off len cap : Nat) (hl : 5 ≤ len) (b0 b1 b2 b3 b4 : Int) (p0 : 0 ≤ b0) (q0 : b0 < 256) (p1 : 0 ≤ b1) (q1 : b1 < 256) (p2 : 0 ≤ b2) (q2 : b2 < 256) (p3 : 0 ≤ b3) (q3 : b3 < 256) (p4 : 0 ≤ b4) (q4 : b4 < 256) (w : World) (c0 : w.cell? ⟨B, off, none⟩ = some (.int .u8 b0)) (c1 : w.cell? ⟨B, off + 1, none⟩ = some (.int .u8 b1)) (c2 : w.cell? ⟨B, off + 2, none⟩ = some (.int .u8 b2)) (c3 : w.cell? ⟨B, off + 3, none⟩ = some (.int .u8 b3)) (c4 : w.cell? ⟨B, off + 4, none⟩ = some (.int .u8 b4)) (h1 : b1 < 8) (h0 : b0 = 2) (h2 : b2 = 0) (r3 : b3 = 0) (r4 : b4 = 0) :
    Calls Try.prog 55 #[.slice (some ⟨B, off, none⟩) len cap] w fun e w' => e = .returned (enV ⟨b0 + 1, b1, 0, 0, 0, 0, 0⟩) ∧ Below w.heap.size w w' := by
  have t0 : decide (8 ≤ b1) = false := by first | (simp; done) | (simp; omega)
  have t1 : (b0 + 1 == 1) = false := by first | (simp; done) | (simp; omega)
  have t2 : (b0 + 1 == 2) = false := by first | (simp; done) | (simp; omega)
  have t3 : (b0 + 1 == 3) = true := by first | (simp; done) | (simp; omega)
  have t4 : (b0 + 1 == 4) = false := by first | (simp; done) | (simp; omega)
  have t5 : (b2 == 0) = true := by first | (simp; done) | (simp; omega)
  have t6 : (b3 != 0) = false := by first | (simp; done) | (simp; omega)
  have t7 : (b4 != 0) = false := by first | (simp; done) | (simp; omega)
  clear h1 h0 h2 r3 r4
  have hB : B < w.heap.size := World.block_lt_of_cell? w _ c0
  have hB1 : B < w.heap.size + 1 := by omega
  have hB2 : B < w.heap.size + 1 + 1 := by omega
  unfold enV
  go_enter Try.func55, Try.ntmps55
  go_wp2_with (go_at_call 56; refine (bad_any _).mono ?_; rintro e w' ⟨rfl, rfl⟩)
  exact bodyPost_ret (v := enV ⟨b0 + 1, b1, 0, 0, 0, 0, 0⟩) (by simp [results, Try.results55, go_sem, badE]) rfl ⟨rfl, by first | exact below_allocs1 _ _ | exact below_allocs2 _ _ _ | exact below_allocs3 _ _ _ _⟩

theorem entry_b2n_a (B off len cap : Nat) (hl : 5 ≤ len) (b0 b1 b2 b3 b4 : Int) (p0 : 0 ≤ b0) (q0 : b0 < 256) (p1 : 0 ≤ b1) (q1 : b1 < 256) (p2 : 0 ≤ b2) (q2 : b2 < 256) (p3 : 0 ≤ b3) (q3 : b3 < 256) (p4 : 0 ≤ b4) (q4 : b4 < 256) (w : World) (c0 : w.cell? ⟨B, off, none⟩ = some (.int .u8 b0)) (c1 : w.cell? ⟨B, off + 1, none⟩ = some (.int .u8 b1)) (c2 : w.cell? ⟨B, off + 2, none⟩ = some (.int .u8 b2)) (c3 : w.cell? ⟨B, off + 3, none⟩ = some (.int .u8 b3)) (c4 : w.cell? ⟨B, off + 4, none⟩ = some (.int .u8 b4)) (h1 : b1 < 8) (h0 : b0 = 2) (h2 : b2 ≠ 0) (r3 : b3 ≠ 0) :
    Calls Try.prog 55 #[.slice (some ⟨B, off, none⟩) len cap] w fun e w' => e = .returned (enV badE) ∧ Below w.heap.size w w' := by
  have t0 : decide (8 ≤ b1) = false := by first | (simp; done) | (simp; omega)
  have t1 : (b0 + 1 == 1) = false := by first | (simp; done) | (simp; omega)
  have t2 : (b0 + 1 == 2) = false := by first | (simp; done) | (simp; omega)
  have t3 : (b0 + 1 == 3) = true := by first | (simp; done) | (simp; omega)
  have t4 : (b0 + 1 == 4) = false := by first | (simp; done) | (simp; omega)
  have t5 : (b2 == 0) = false := by first | (simp; done) | (simp; omega)
  have t6 : (b3 != 0) = true := by first | (simp; done) | (simp; omega)
  clear h1 h0 h2 r3
  have hB : B < w.heap.size := World.block_lt_of_cell? w _ c0
  have hB1 : B < w.heap.size + 1 := by omega
  have hB2 : B < w.heap.size + 1 + 1 := by omega
  unfold enV badE
  go_enter Try.func55, Try.ntmps55
  go_wp2_with (go_at_call 56; refine (bad_any _).mono ?_; rintro e w' ⟨rfl, rfl⟩)
  exact bodyPost_ret (v := enV badE) (by simp [results, Try.results55, go_sem, badE]) rfl ⟨rfl, by first | exact below_allocs1 _ _ | exact below_allocs2 _ _ _ | exact below_allocs3 _ _ _ _⟩

theorem entry_b2n_b (B off len cap : Nat) (hl : 5 ≤ len) (b0 b1 b2 b3 b4 : Int) (p0 : 0 ≤ b0) (q0 : b0 < 256) (p1 : 0 ≤ b1) (q1 : b1 < 256) (p2 : 0 ≤ b2) (q2 : b2 < 256) (p3 : 0 ≤ b3) (q3 : b3 < 256) (p4 : 0 ≤ b4) (q4 : b4 < 256) (w : World) (c0 : w.cell? ⟨B, off, none⟩ = some (.int .u8 b0)) (c1 : w.cell? ⟨B, off + 1, none⟩ = some (.int .u8 b1)) (c2 : w.cell? ⟨B, off + 2, none⟩ = some (.int .u8 b2)) (c3 : w.cell? ⟨B, off + 3, none⟩ = some (.int .u8 b3)) (c4 : w.cell? ⟨B, off + 4, none⟩ = some (.int .u8 b4)) (h1 : b1 < 8) (h0 : b0 = 2) (h2 : b2 ≠ 0) (r3 : b3 = 0) (r4 : b4 ≠ 0) :
    Calls Try.prog 55 #[.slice (some ⟨B, off, none⟩) len cap] w fun e w' => e = .returned (enV badE) ∧ Below w.heap.size w w' := by
  have t0 : decide (8 ≤ b1) = false := by first | (simp; done) | (simp; omega)
  have t1 : (b0 + 1 == 1) = false := by first | (simp; done) | (simp; omega)
  have t2 : (b0 + 1 == 2) = false := by first | (simp; done) | (simp; omega)
  have t3 : (b0 + 1 == 3) = true := by first | (simp; done) | (simp; omega)
  have t4 : (b0 + 1 == 4) = false := by first | (simp; done) | (simp; omega)
  have t5 : (b2 == 0) = false := by first | (simp; done) | (simp; omega)
  have t6 : (b3 != 0) = false := by first | (simp; done) | (simp; omega)
  have t7 : (b4 != 0) = true := by first | (simp; done) | (simp; omega)
  clear h1 h0 h2 r3 r4
  have hB : B < w.heap.size := World.block_lt_of_cell? w _ c0
  have hB1 : B < w.heap.size + 1 := by omega
  have hB2 : B < w.heap.size + 1 + 1 := by omega
  unfold enV badE
  go_enter Try.func55, Try.ntmps55
  go_wp2_with (go_at_call 56; refine (bad_any _).mono ?_; rintro e w' ⟨rfl, rfl⟩)
  exact bodyPost_ret (v := enV badE) (by simp [results, Try.results55, go_sem, badE]) rfl ⟨rfl, by first | exact below_allocs1 _ _ | exact below_allocs2 _ _ _ | exact below_allocs3 _ _ _ _⟩

theorem entry_b2n_c (B off len cap : Nat) (hl : 5 ≤ len) (b0 b1 b2 b3 b4 : Int) (p0 : 0 ≤ b0) (q0 : b0 < 256) (p1 : 0 ≤ b1) (q1 : b1 < 256) (p2 : 0 ≤ b2) (q2 : b2 < 256) (p3 : 0 ≤ b3) (q3 : b3 < 256) (p4 : 0 ≤ b4) (q4 : b4 < 256) (w : World) (c0 : w.cell? ⟨B, off, none⟩ = some (.int .u8 b0)) (c1 : w.cell? ⟨B, off + 1, none⟩ = some (.int .u8 b1)) (c2 : w.cell? ⟨B, off + 2, none⟩ = some (.int .u8 b2)) (c3 : w.cell? ⟨B, off + 3, none⟩ = some (.int .u8 b3)) (c4 : w.cell? ⟨B, off + 4, none⟩ = some (.int .u8 b4)) (h1 : b1 < 8) (h0 : b0 = 2) (h2 : b2 ≠ 0) (r3 : b3 = 0) (r4 : b4 = 0) :
    Calls Try.prog 55 #[.slice (some ⟨B, off, none⟩) len cap] w fun e w' => e = .returned (enV badE) ∧ Below w.heap.size w w' := by
  have t0 : decide (8 ≤ b1) = false := by first | (simp; done) | (simp; omega)
  have t1 : (b0 + 1 == 1) = false := by first | (simp; done) | (simp; omega)
  have t2 : (b0 + 1 == 2) = false := by first | (simp; done) | (simp; omega)
  have t3 : (b0 + 1 == 3) = true := by first | (simp; done) | (simp; omega)
  have t4 : (b0 + 1 == 4) = false := by first | (simp; done) | (simp; omega)
  have t5 : (b2 == 0) = false := by first | (simp; done) | (simp; omega)
  have t6 : (b3 != 0) = false := by first | (simp; done) | (simp; omega)
  have t7 : (b4 != 0) = false := by first | (simp; done) | (simp; omega)
  clear h1 h0 h2 r3 r4
  have hB : B < w.heap.size := World.block_lt_of_cell? w _ c0
  have hB1 : B < w.heap.size + 1 := by omega
  have hB2 : B < w.heap.size + 1 + 1 := by omega
  unfold enV badE
  go_enter Try.func55, Try.ntmps55
  go_wp2_with (go_at_call 56; refine (bad_any _).mono ?_; rintro e w' ⟨rfl, rfl⟩)
  exact bodyPost_ret (v := enV badE) (by simp [results, Try.results55, go_sem, badE]) rfl ⟨rfl, by first | exact below_allocs1 _ _ | exact below_allocs2 _ _ _ | exact below_allocs3 _ _ _ _⟩

theorem entry_b3z_a (B off len cap : Nat) (hl : 5 ≤ len) (b0 b1 b2 b3 b4 : Int) (p0 : 0 ≤ b0) (q0 : b0 < 256) (p1 : 0 ≤ b1) (q1 : b1 < 256) (p2 : 0 ≤ b2) (q2 : b2 < 256) (p3 : 0 ≤ b3) (q3 : b3 < 256) (p4 : 0 ≤ b4) (q4 : b4 < 256) (w : World) (c0 : w.cell? ⟨B, off, none⟩ = some (.int .u8 b0)) (c1 : w.cell? ⟨B, off + 1, none⟩ = some (.int .u8 b1)) (c2 : w.cell? ⟨B, off + 2, none⟩ = some (.int .u8 b2)) (c3 : w.cell? ⟨B, off + 3, none⟩ = some (.int .u8 b3)) (c4 : w.cell? ⟨B, off + 4, none⟩ = some (.int .u8 b4)) (h1 : b1 < 8) (h0 : b0 = 3) (h2 : b2 = 0) (h3 : b1 = 0) (r3 : b3 ≠ 0) :
    Calls Try.prog 55 #[.slice (some ⟨B, off, none⟩) len cap] w fun e w' => e = .returned (enV badE) ∧ Below w.heap.size w w' := by
  have t0 : decide (8 ≤ b1) = false := by first | (simp; done) | (simp; omega)
  have t1 : (b0 + 1 == 1) = false := by first | (simp; done) | (simp; omega)
  have t2 : (b0 + 1 == 2) = false := by first | (simp; done) | (simp; omega)
  have t3 : (b0 + 1 == 3) = false := by first | (simp; done) | (simp; omega)
  have t4 : (b0 + 1 == 4) = true := by first | (simp; done) | (simp; omega)
  have t5 : (b2 == 0) = true := by first | (simp; done) | (simp; omega)
  have t6 : (b1 == 0) = true := by first | (simp; done) | (simp; omega)
  have t7 : (b3 != 0) = true := by first | (simp; done) | (simp; omega)
  clear h1 h0 h2 h3 r3
  have hB : B < w.heap.size := World.block_lt_of_cell? w _ c0
  have hB1 : B < w.heap.size + 1 := by omega
  have hB2 : B < w.heap.size + 1 + 1 := by omega
  unfold enV badE
  go_enter Try.func55, Try.ntmps55
  go_wp2_with (go_at_call 56; refine (bad_any _).mono ?_; rintro e w' ⟨rfl, rfl⟩)
  exact bodyPost_ret (v := enV badE) (by simp [results, Try.results55, go_sem, badE]) rfl ⟨rfl, by first | exact below_allocs1 _ _ | exact below_allocs2 _ _ _ | exact below_allocs3 _ _ _ _⟩

theorem entry_b3z_b (B off len cap : Nat) (hl : 5 ≤ len) (b0 b1 b2 b3 b4 : Int) (p0 : 0 ≤ b0) (q0 : b0 < 256) (p1 : 0 ≤ b1) (q1 : b1 < 256) (p2 : 0 ≤ b2) (q2 : b2 < 256) (p3 : 0 ≤ b3) (q3 : b3 < 256) (p4 : 0 ≤ b4) (q4 : b4 < 256) (w : World) (c0 : w.cell? ⟨B, off, none⟩ = some (.int .u8 b0)) (c1 : w.cell? ⟨B, off + 1, none⟩ = some (.int .u8 b1)) (c2 : w.cell? ⟨B, off + 2, none⟩ = some (.int .u8 b2)) (c3 : w.cell? ⟨B, off + 3, none⟩ = some (.int .u8 b3)) (c4 : w.cell? ⟨B, off + 4, none⟩ = some (.int .u8 b4)) (h1 : b1 < 8) (h0 : b0 = 3) (h2 : b2 = 0) (h3 : b1 = 0) (r3 : b3 = 0) (r4 : b4 ≠ 0) :
    Calls Try.prog 55 #[.slice (some ⟨B, off, none⟩) len cap] w fun e w' => e = .returned (enV badE) ∧ Below w.heap.size w w' := by
  have t0 : decide (8 ≤ b1) = false := by first | (simp; done) | (simp; omega)
  have t1 : (b0 + 1 == 1) = false := by first | (simp; done) | (simp; omega)
  have t2 : (b0 + 1 == 2) = false := by first | (simp; done) | (simp; omega)
  have t3 : (b0 + 1 == 3) = false := by first | (simp; done) | (simp; omega)
  have t4 : (b0 + 1 == 4) = true := by first | (simp; done) | (simp; omega)
  have t5 : (b2 == 0) = true := by first | (simp; done) | (simp; omega)
  have t6 : (b1 == 0) = true := by first | (simp; done) | (simp; omega)
  have t7 : (b3 != 0) = false := by first | (simp; done) | (simp; omega)
  have t8 : (b4 != 0) = true := by first | (simp; done) | (simp; omega)
  clear h1 h0 h2 h3 r3 r4
  have hB : B < w.heap.size := World.block_lt_of_cell? w _ c0
  have hB1 : B < w.heap.size + 1 := by omega
  have hB2 : B < w.heap.size + 1 + 1 := by omega
  unfold enV badE
  go_enter Try.func55, Try.ntmps55
  go_wp2_with (go_at_call 56; refine (bad_any _).mono ?_; rintro e w' ⟨rfl, rfl⟩)
  exact bodyPost_ret (v := enV badE) (by simp [results, Try.results55, go_sem, badE]) rfl ⟨rfl, by first | exact below_allocs1 _ _ | exact below_allocs2 _ _ _ | exact below_allocs3 _ _ _ _⟩

theorem entry_b3z_c (B off len cap : Nat) (hl : 5 ≤ len) (b0 b1 b2 b3 b4 : Int) (p0 : 0 ≤ b0) (q0 : b0 < 256) (p1 : 0 ≤ b1) (q1 : b1 < 256) (p2 : 0 ≤ b2) (q2 : b2 < 256) (p3 : 0 ≤ b3) (q3 : b3 < 256) (p4 : 0 ≤ b4) (q4 : b4 < 256) (w : World) (c0 : w.cell? ⟨B, off, none⟩ = some (.int .u8 b0)) (c1 : w.cell? ⟨B, off + 1, none⟩ = some (.int .u8 b1)) (c2 : w.cell? ⟨B, off + 2, none⟩ = some (.int .u8 b2)) (c3 : w.cell? ⟨B, off + 3, none⟩ = some (.int .u8 b3)) (c4 : w.cell? ⟨B, off + 4, none⟩ = some (.int .u8 b4)) (h1 : b1 < 8) (h0 : b0 = 3) (h2 : b2 = 0) (h3 : b1 = 0) (r3 : b3 = 0) (r4 : b4 = 0) :
    Calls Try.prog 55 #[.slice (some ⟨B, off, none⟩) len cap] w fun e w' => e = .returned (enV ⟨b0 + 1, b1, 0, 0, 0, 0, 0⟩) ∧ Below w.heap.size w w' := by
  have t0 : decide (8 ≤ b1) = false := by first | (simp; done) | (simp; omega)
  have t1 : (b0 + 1 == 1) = false := by first | (simp; done) | (simp; omega)
  have t2 : (b0 + 1 == 2) = false := by first | (simp; done) | (simp; omega)
  have t3 : (b0 + 1 == 3) = false := by first | (simp; done) | (simp; omega)
  have t4 : (b0 + 1 == 4) = true := by first | (simp; done) | (simp; omega)
  have t5 : (b2 == 0) = true := by first | (simp; done) | (simp; omega)
  have t6 : (b1 == 0) = true := by first | (simp; done) | (simp; omega)
  have t7 : (b3 != 0) = false := by first | (simp; done) | (simp; omega)
  have t8 : (b4 != 0) = false := by first | (simp; done) | (simp; omega)
  clear h1 h0 h2 h3 r3 r4
  have hB : B < w.heap.size := World.block_lt_of_cell? w _ c0
  have hB1 : B < w.heap.size + 1 := by omega
  have hB2 : B < w.heap.size + 1 + 1 := by omega
  unfold enV
  go_enter Try.func55, Try.ntmps55
  go_wp2_with (go_at_call 56; refine (bad_any _).mono ?_; rintro e w' ⟨rfl, rfl⟩)
  exact bodyPost_ret (v := enV ⟨b0 + 1, b1, 0, 0, 0, 0, 0⟩) (by simp [results, Try.results55, go_sem, badE]) rfl ⟨rfl, by first | exact below_allocs1 _ _ | exact below_allocs2 _ _ _ | exact below_allocs3 _ _ _ _⟩

theorem entry_b3n_a (B off len cap : Nat) (hl : 5 ≤ len) (b0 b1 b2 b3 b4 : Int) (p0 : 0 ≤ b0) (q0 : b0 < 256) (p1 : 0 ≤ b1) (q1 : b1 < 256) (p2 : 0 ≤ b2) (q2 : b2 < 256) (p3 : 0 ≤ b3) (q3 : b3 < 256) (p4 : 0 ≤ b4) (q4 : b4 < 256) (w : World) (c0 : w.cell? ⟨B, off, none⟩ = some (.int .u8 b0)) (c1 : w.cell? ⟨B, off + 1, none⟩ = some (.int .u8 b1)) (c2 : w.cell? ⟨B, off + 2, none⟩ = some (.int .u8 b2)) (c3 : w.cell? ⟨B, off + 3, none⟩ = some (.int .u8 b3)) (c4 : w.cell? ⟨B, off + 4, none⟩ = some (.int .u8 b4)) (h1 : b1 < 8) (h0 : b0 = 3) (h2 : b2 ≠ 0) (h3 : b1 = 0) (r3 : b3 ≠ 0) :
    Calls Try.prog 55 #[.slice (some ⟨B, off, none⟩) len cap] w fun e w' => e = .returned (enV badE) ∧ Below w.heap.size w w' := by
  have t0 : decide (8 ≤ b1) = false := by first | (simp; done) | (simp; omega)
  have t1 : (b0 + 1 == 1) = false := by first | (simp; done) | (simp; omega)
  have t2 : (b0 + 1 == 2) = false := by first | (simp; done) | (simp; omega)
  have t3 : (b0 + 1 == 3) = false := by first | (simp; done) | (simp; omega)
  have t4 : (b0 + 1 == 4) = true := by first | (simp; done) | (simp; omega)
  have t5 : (b2 == 0) = false := by first | (simp; done) | (simp; omega)
  have t6 : (b1 == 0) = true := by first | (simp; done) | (simp; omega)
  have t7 : (b3 != 0) = true := by first | (simp; done) | (simp; omega)
  clear h1 h0 h2 h3 r3
  have hB : B < w.heap.size := World.block_lt_of_cell? w _ c0
  have hB1 : B < w.heap.size + 1 := by omega
  have hB2 : B < w.heap.size + 1 + 1 := by omega
  unfold enV badE
  go_enter Try.func55, Try.ntmps55
  go_wp2_with (go_at_call 56; refine (bad_any _).mono ?_; rintro e w' ⟨rfl, rfl⟩)
  exact bodyPost_ret (v := enV badE) (by simp [results, Try.results55, go_sem, badE]) rfl ⟨rfl, by first | exact below_allocs1 _ _ | exact below_allocs2 _ _ _ | exact below_allocs3 _ _ _ _⟩

theorem entry_b3n_b (B off len cap : Nat) (hl : 5 ≤ len) (b0 b1 b2 b3 b4 : Int) (p0 : 0 ≤ b0) (q0 : b0 < 256) (p1 : 0 ≤ b1) (q1 : b1 < 256) (p2 : 0 ≤ b2) (q2 : b2 < 256) (p3 : 0 ≤ b3) (q3 : b3 < 256) (p4 : 0 ≤ b4) (q4 : b4 < 256) (w : World) (c0 : w.cell? ⟨B, off, none⟩ = some (.int .u8 b0)) (c1 : w.cell? ⟨B, off + 1, none⟩ = some (.int .u8 b1)) (c2 : w.cell? ⟨B, off + 2, none⟩ = some (.int .u8 b2)) (c3 : w.cell? ⟨B, off + 3, none⟩ = some (.int .u8 b3)) (c4 : w.cell? ⟨B, off + 4, none⟩ = some (.int .u8 b4)) (h1 : b1 < 8) (h0 : b0 = 3) (h2 : b2 ≠ 0) (h3 : b1 = 0) (r3 : b3 = 0) (r4 : b4 ≠ 0) :
    Calls Try.prog 55 #[.slice (some ⟨B, off, none⟩) len cap] w fun e w' => e = .returned (enV badE) ∧ Below w.heap.size w w' := by
  have t0 : decide (8 ≤ b1) = false := by first | (simp; done) | (simp; omega)
  have t1 : (b0 + 1 == 1) = false := by first | (simp; done) | (simp; omega)
  have t2 : (b0 + 1 == 2) = false := by first | (simp; done) | (simp; omega)
  have t3 : (b0 + 1 == 3) = false := by first | (simp; done) | (simp; omega)
  have t4 : (b0 + 1 == 4) = true := by first | (simp; done) | (simp; omega)
  have t5 : (b2 == 0) = false := by first | (simp; done) | (simp; omega)
  have t6 : (b1 == 0) = true := by first | (simp; done) | (simp; omega)
  have t7 : (b3 != 0) = false := by first | (simp; done) | (simp; omega)
  have t8 : (b4 != 0) = true := by first | (simp; done) | (simp; omega)
  clear h1 h0 h2 h3 r3 r4
  have hB : B < w.heap.size := World.block_lt_of_cell? w _ c0
  have hB1 : B < w.heap.size + 1 := by omega
  have hB2 : B < w.heap.size + 1 + 1 := by omega
  unfold enV badE
  go_enter Try.func55, Try.ntmps55
  go_wp2_with (go_at_call 56; refine (bad_any _).mono ?_; rintro e w' ⟨rfl, rfl⟩)
  exact bodyPost_ret (v := enV badE) (by simp [results, Try.results55, go_sem, badE]) rfl ⟨rfl, by first | exact below_allocs1 _ _ | exact below_allocs2 _ _ _ | exact below_allocs3 _ _ _ _⟩

theorem entry_b3n_c (B off len cap : Nat) (hl : 5 ≤ len) (b0 b1 b2 b3 b4 : Int) (p0 : 0 ≤ b0) (q0 : b0 < 256) (p1 : 0 ≤ b1) (q1 : b1 < 256) (p2 : 0 ≤ b2) (q2 : b2 < 256) (p3 : 0 ≤ b3) (q3 : b3 < 256) (p4 : 0 ≤ b4) (q4 : b4 < 256) (w : World) (c0 : w.cell? ⟨B, off, none⟩ = some (.int .u8 b0)) (c1 : w.cell? ⟨B, off + 1, none⟩ = some (.int .u8 b1)) (c2 : w.cell? ⟨B, off + 2, none⟩ = some (.int .u8 b2)) (c3 : w.cell? ⟨B, off + 3, none⟩ = some (.int .u8 b3)) (c4 : w.cell? ⟨B, off + 4, none⟩ = some (.int .u8 b4)) (h1 : b1 < 8) (h0 : b0 = 3) (h2 : b2 ≠ 0) (h3 : b1 = 0) (r3 : b3 = 0) (r4 : b4 = 0) :
    Calls Try.prog 55 #[.slice (some ⟨B, off, none⟩) len cap] w fun e w' => e = .returned (enV badE) ∧ Below w.heap.size w w' := by
  have t0 : decide (8 ≤ b1) = false := by first | (simp; done) | (simp; omega)
  have t1 : (b0 + 1 == 1) = false := by first | (simp; done) | (simp; omega)
  have t2 : (b0 + 1 == 2) = false := by first | (simp; done) | (simp; omega)
  have t3 : (b0 + 1 == 3) = false := by first | (simp; done) | (simp; omega)
  have t4 : (b0 + 1 == 4) = true := by first | (simp; done) | (simp; omega)
  have t5 : (b2 == 0) = false := by first | (simp; done) | (simp; omega)
  have t6 : (b1 == 0) = true := by first | (simp; done) | (simp; omega)
  have t7 : (b3 != 0) = false := by first | (simp; done) | (simp; omega)
  have t8 : (b4 != 0) = false := by first | (simp; done) | (simp; omega)
  clear h1 h0 h2 h3 r3 r4
  have hB : B < w.heap.size := World.block_lt_of_cell? w _ c0
  have hB1 : B < w.heap.size + 1 := by omega
  have hB2 : B < w.heap.size + 1 + 1 := by omega
  unfold enV badE
  go_enter Try.func55, Try.ntmps55
  go_wp2_with (go_at_call 56; refine (bad_any _).mono ?_; rintro e w' ⟨rfl, rfl⟩)
  exact bodyPost_ret (v := enV badE) (by simp [results, Try.results55, go_sem, badE]) rfl ⟨rfl, by first | exact below_allocs1 _ _ | exact below_allocs2 _ _ _ | exact below_allocs3 _ _ _ _⟩

theorem entry_b3s_a (B off len cap : Nat) (hl : 5 ≤ len) (b0 b1 b2 b3 b4 : Int) (p0 : 0 ≤ b0) (q0 : b0 < 256) (p1 : 0 ≤ b1) (q1 : b1 < 256) (p2 : 0 ≤ b2) (q2 : b2 < 256) (p3 : 0 ≤ b3) (q3 : b3 < 256) (p4 : 0 ≤ b4) (q4 : b4 < 256) (w : World) (c0 : w.cell? ⟨B, off, none⟩ = some (.int .u8 b0)) (c1 : w.cell? ⟨B, off + 1, none⟩ = some (.int .u8 b1)) (c2 : w.cell? ⟨B, off + 2, none⟩ = some (.int .u8 b2)) (c3 : w.cell? ⟨B, off + 3, none⟩ = some (.int .u8 b3)) (c4 : w.cell? ⟨B, off + 4, none⟩ = some (.int .u8 b4)) (h1 : b1 < 8) (h0 : b0 = 3) (h3 : b1 ≠ 0) (r3 : b3 ≠ 0) :
    Calls Try.prog 55 #[.slice (some ⟨B, off, none⟩) len cap] w fun e w' => e = .returned (enV badE) ∧ Below w.heap.size w w' := by
  have t0 : decide (8 ≤ b1) = false := by first | (simp; done) | (simp; omega)
  have t1 : (b0 + 1 == 1) = false := by first | (simp; done) | (simp; omega)
  have t2 : (b0 + 1 == 2) = false := by first | (simp; done) | (simp; omega)
  have t3 : (b0 + 1 == 3) = false := by first | (simp; done) | (simp; omega)
  have t4 : (b0 + 1 == 4) = true := by first | (simp; done) | (simp; omega)
  have t5 : (b1 == 0) = false := by first | (simp; done) | (simp; omega)
  have t6 : (b3 != 0) = true := by first | (simp; done) | (simp; omega)
  clear h1 h0 h3 r3
  have hB : B < w.heap.size := World.block_lt_of_cell? w _ c0
  have hB1 : B < w.heap.size + 1 := by omega
  have hB2 : B < w.heap.size + 1 + 1 := by omega
  unfold enV badE
  go_enter Try.func55, Try.ntmps55
  go_wp2_with (go_at_call 56; refine (bad_any _).mono ?_; rintro e w' ⟨rfl, rfl⟩)
  exact bodyPost_ret (v := enV badE) (by simp [results, Try.results55, go_sem, badE]) rfl ⟨rfl, by first | exact below_allocs1 _ _ | exact below_allocs2 _ _ _ | exact below_allocs3 _ _ _ _⟩

theorem entry_b3s_b (B off len cap : Nat) (hl : 5 ≤ len) (b0 b1 b2 b3 b4 : Int) (p0 : 0 ≤ b0) (q0 : b0 < 256) (p1 : 0 ≤ b1) (q1 : b1 < 256) (p2 : 0 ≤ b2) (q2 : b2 < 256) (p3 : 0 ≤ b3) (q3 : b3 < 256) (p4 : 0 ≤ b4) (q4 : b4 < 256) (w : World) (c0 : w.cell? ⟨B, off, none⟩ = some (.int .u8 b0)) (c1 : w.cell? ⟨B, off + 1, none⟩ = some (.int .u8 b1)) (c2 : w.cell? ⟨B, off + 2, none⟩ = some (.int .u8 b2)) (c3 : w.cell? ⟨B, off + 3, none⟩ = some (.int .u8 b3)) (c4 : w.cell? ⟨B, off + 4, none⟩ = some (.int .u8 b4)) (h1 : b1 < 8) (h0 : b0 = 3) (h3 : b1 ≠ 0) (r3 : b3 = 0) (r4 : b4 ≠ 0) :
    Calls Try.prog 55 #[.slice (some ⟨B, off, none⟩) len cap] w fun e w' => e = .returned (enV badE) ∧ Below w.heap.size w w' := by
  have t0 : decide (8 ≤ b1) = false := by first | (simp; done) | (simp; omega)
  have t1 : (b0 + 1 == 1) = false := by first | (simp; done) | (simp; omega)
  have t2 : (b0 + 1 == 2) = false := by first | (simp; done) | (simp; omega)
  have t3 : (b0 + 1 == 3) = false := by first | (simp; done) | (simp; omega)
  have t4 : (b0 + 1 == 4) = true := by first | (simp; done) | (simp; omega)
  have t5 : (b1 == 0) = false := by first | (simp; done) | (simp; omega)
  have t6 : (b3 != 0) = false := by first | (simp; done) | (simp; omega)
  have t7 : (b4 != 0) = true := by first | (simp; done) | (simp; omega)
  clear h1 h0 h3 r3 r4
  have hB : B < w.heap.size := World.block_lt_of_cell? w _ c0
  have hB1 : B < w.heap.size + 1 := by omega
  have hB2 : B < w.heap.size + 1 + 1 := by omega
  unfold enV badE
  go_enter Try.func55, Try.ntmps55
  go_wp2_with (go_at_call 56; refine (bad_any _).mono ?_; rintro e w' ⟨rfl, rfl⟩)
  exact bodyPost_ret (v := enV badE) (by simp [results, Try.results55, go_sem, badE]) rfl ⟨rfl, by first | exact below_allocs1 _ _ | exact below_allocs2 _ _ _ | exact below_allocs3 _ _ _ _⟩

theorem entry_b3s_c (B off len cap : Nat) (hl : 5 ≤ len) (b0 b1 b2 b3 b4 : Int) (p0 : 0 ≤ b0) (q0 : b0 < 256) (p1 : 0 ≤ b1) (q1 : b1 < 256) (p2 : 0 ≤ b2) (q2 : b2 < 256) (p3 : 0 ≤ b3) (q3 : b3 < 256) (p4 : 0 ≤ b4) (q4 : b4 < 256) (w : World) (c0 : w.cell? ⟨B, off, none⟩ = some (.int .u8 b0)) (c1 : w.cell? ⟨B, off + 1, none⟩ = some (.int .u8 b1)) (c2 : w.cell? ⟨B, off + 2, none⟩ = some (.int .u8 b2)) (c3 : w.cell? ⟨B, off + 3, none⟩ = some (.int .u8 b3)) (c4 : w.cell? ⟨B, off + 4, none⟩ = some (.int .u8 b4)) (h1 : b1 < 8) (h0 : b0 = 3) (h3 : b1 ≠ 0) (r3 : b3 = 0) (r4 : b4 = 0) :
    Calls Try.prog 55 #[.slice (some ⟨B, off, none⟩) len cap] w fun e w' => e = .returned (enV badE) ∧ Below w.heap.size w w' := by
  have t0 : decide (8 ≤ b1) = false := by first | (simp; done) | (simp; omega)
  have t1 : (b0 + 1 == 1) = false := by first | (simp; done) | (simp; omega)
  have t2 : (b0 + 1 == 2) = false := by first | (simp; done) | (simp; omega)
  have t3 : (b0 + 1 == 3) = false := by first | (simp; done) | (simp; omega)
  have t4 : (b0 + 1 == 4) = true := by first | (simp; done) | (simp; omega)
  have t5 : (b1 == 0) = false := by first | (simp; done) | (simp; omega)
  have t6 : (b3 != 0) = false := by first | (simp; done) | (simp; omega)
  have t7 : (b4 != 0) = false := by first | (simp; done) | (simp; omega)
  clear h1 h0 h3 r3 r4
  have hB : B < w.heap.size := World.block_lt_of_cell? w _ c0
  have hB1 : B < w.heap.size + 1 := by omega
  have hB2 : B < w.heap.size + 1 + 1 := by omega
  unfold enV badE
  go_enter Try.func55, Try.ntmps55
  go_wp2_with (go_at_call 56; refine (bad_any _).mono ?_; rintro e w' ⟨rfl, rfl⟩)
  exact bodyPost_ret (v := enV badE) (by simp [results, Try.results55, go_sem, badE]) rfl ⟨rfl, by first | exact below_allocs1 _ _ | exact below_allocs2 _ _ _ | exact below_allocs3 _ _ _ _⟩

theorem entry_b4_a (B off len cap : Nat) (hl : 5 ≤ len) (b0 b1 b2 b3 b4 : Int) (p0 : 0 ≤ b0) (q0 : b0 < 256) (p1 : 0 ≤ b1) (q1 : b1 < 256) (p2 : 0 ≤ b2) (q2 : b2 < 256) (p3 : 0 ≤ b3) (q3 : b3 < 256) (p4 : 0 ≤ b4) (q4 : b4 < 256) (w : World) (c0 : w.cell? ⟨B, off, none⟩ = some (.int .u8 b0)) (c1 : w.cell? ⟨B, off + 1, none⟩ = some (.int .u8 b1)) (c2 : w.cell? ⟨B, off + 2, none⟩ = some (.int .u8 b2)) (c3 : w.cell? ⟨B, off + 3, none⟩ = some (.int .u8 b3)) (c4 : w.cell? ⟨B, off + 4, none⟩ = some (.int .u8 b4)) (h1 : b1 < 8) (h0 : 3 < b0) (r3 : b3 ≠ 0) :
    Calls Try.prog 55 #[.slice (some ⟨B, off, none⟩) len cap] w fun e w' => e = .returned (enV badE) ∧ Below w.heap.size w w' := by
  have t0 : decide (8 ≤ b1) = false := by first | (simp; done) | (simp; omega)
  have t1 : (b0 + 1 == 1) = false := by first | (simp; done) | (simp; omega)
  have t2 : (b0 + 1 == 2) = false := by first | (simp; done) | (simp; omega)
  have t3 : (b0 + 1 == 3) = false := by first | (simp; done) | (simp; omega)
  have t4 : (b0 + 1 == 4) = false := by first | (simp; done) | (simp; omega)
  have t5 : (b3 != 0) = true := by first | (simp; done) | (simp; omega)
  clear h1 h0 r3
  have hB : B < w.heap.size := World.block_lt_of_cell? w _ c0
  have hB1 : B < w.heap.size + 1 := by omega
  have hB2 : B < w.heap.size + 1 + 1 := by omega
  unfold enV badE
  go_enter Try.func55, Try.ntmps55
  go_wp2_with (go_at_call 56; refine (bad_any _).mono ?_; rintro e w' ⟨rfl, rfl⟩)
  exact bodyPost_ret (v := enV badE) (by simp [results, Try.results55, go_sem, badE]) rfl ⟨rfl, by first | exact below_allocs1 _ _ | exact below_allocs2 _ _ _ | exact below_allocs3 _ _ _ _⟩

theorem entry_b4_b (B off len cap : Nat) (hl : 5 ≤ len) (b0 b1 b2 b3 b4 : Int) (p0 : 0 ≤ b0) (q0 : b0 < 256) (p1 : 0 ≤ b1) (q1 : b1 < 256) (p2 : 0 ≤ b2) (q2 : b2 < 256) (p3 : 0 ≤ b3) (q3 : b3 < 256) (p4 : 0 ≤ b4) (q4 : b4 < 256) (w : World) (c0 : w.cell? ⟨B, off, none⟩ = some (.int .u8 b0)) (c1 : w.cell? ⟨B, off + 1, none⟩ = some (.int .u8 b1)) (c2 : w.cell? ⟨B, off + 2, none⟩ = some (.int .u8 b2)) (c3 : w.cell? ⟨B, off + 3, none⟩ = some (.int .u8 b3)) (c4 : w.cell? ⟨B, off + 4, none⟩ = some (.int .u8 b4)) (h1 : b1 < 8) (h0 : 3 < b0) (r3 : b3 = 0) (r4 : b4 ≠ 0) :
    Calls Try.prog 55 #[.slice (some ⟨B, off, none⟩) len cap] w fun e w' => e = .returned (enV badE) ∧ Below w.heap.size w w' := by
  have t0 : decide (8 ≤ b1) = false := by first | (simp; done) | (simp; omega)
  have t1 : (b0 + 1 == 1) = false := by first | (simp; done) | (simp; omega)
  have t2 : (b0 + 1 == 2) = false := by first | (simp; done) | (simp; omega)
  have t3 : (b0 + 1 == 3) = false := by first | (simp; done) | (simp; omega)
  have t4 : (b0 + 1 == 4) = false := by first | (simp; done) | (simp; omega)
  have t5 : (b3 != 0) = false := by first | (simp; done) | (simp; omega)
  have t6 : (b4 != 0) = true := by first | (simp; done) | (simp; omega)
  clear h1 h0 r3 r4
  have hB : B < w.heap.size := World.block_lt_of_cell? w _ c0
  have hB1 : B < w.heap.size + 1 := by omega
  have hB2 : B < w.heap.size + 1 + 1 := by omega
  unfold enV badE
  go_enter Try.func55, Try.ntmps55
  go_wp2_with (go_at_call 56; refine (bad_any _).mono ?_; rintro e w' ⟨rfl, rfl⟩)
  exact bodyPost_ret (v := enV badE) (by simp [results, Try.results55, go_sem, badE]) rfl ⟨rfl, by first | exact below_allocs1 _ _ | exact below_allocs2 _ _ _ | exact below_allocs3 _ _ _ _⟩

theorem entry_b4_c (B off len cap : Nat) (hl : 5 ≤ len) (b0 b1 b2 b3 b4 : Int) (p0 : 0 ≤ b0) (q0 : b0 < 256) (p1 : 0 ≤ b1) (q1 : b1 < 256) (p2 : 0 ≤ b2) (q2 : b2 < 256) (p3 : 0 ≤ b3) (q3 : b3 < 256) (p4 : 0 ≤ b4) (q4 : b4 < 256) (w : World) (c0 : w.cell? ⟨B, off, none⟩ = some (.int .u8 b0)) (c1 : w.cell? ⟨B, off + 1, none⟩ = some (.int .u8 b1)) (c2 : w.cell? ⟨B, off + 2, none⟩ = some (.int .u8 b2)) (c3 : w.cell? ⟨B, off + 3, none⟩ = some (.int .u8 b3)) (c4 : w.cell? ⟨B, off + 4, none⟩ = some (.int .u8 b4)) (h1 : b1 < 8) (h0 : 3 < b0) (r3 : b3 = 0) (r4 : b4 = 0) :
    Calls Try.prog 55 #[.slice (some ⟨B, off, none⟩) len cap] w fun e w' => e = .returned (enV badE) ∧ Below w.heap.size w w' := by
  have t0 : decide (8 ≤ b1) = false := by first | (simp; done) | (simp; omega)
  have t1 : (b0 + 1 == 1) = false := by first | (simp; done) | (simp; omega)
  have t2 : (b0 + 1 == 2) = false := by first | (simp; done) | (simp; omega)
  have t3 : (b0 + 1 == 3) = false := by first | (simp; done) | (simp; omega)
  have t4 : (b0 + 1 == 4) = false := by first | (simp; done) | (simp; omega)
  have t5 : (b3 != 0) = false := by first | (simp; done) | (simp; omega)
  have t6 : (b4 != 0) = false := by first | (simp; done) | (simp; omega)
  clear h1 h0 r3 r4
  have hB : B < w.heap.size := World.block_lt_of_cell? w _ c0
  have hB1 : B < w.heap.size + 1 := by omega
  have hB2 : B < w.heap.size + 1 + 1 := by omega
  unfold enV badE
  go_enter Try.func55, Try.ntmps55
  go_wp2_with (go_at_call 56; refine (bad_any _).mono ?_; rintro e w' ⟨rfl, rfl⟩)
  exact bodyPost_ret (v := enV badE) (by simp [results, Try.results55, go_sem, badE]) rfl ⟨rfl, by first | exact below_allocs1 _ _ | exact below_allocs2 _ _ _ | exact below_allocs3 _ _ _ _⟩

theorem entry_any (B off len cap : Nat) (hl : 5 ≤ len) (b0 b1 b2 b3 b4 : Int) (p0 : 0 ≤ b0) (q0 : b0 < 256) (p1 : 0 ≤ b1) (q1 : b1 < 256) (p2 : 0 ≤ b2) (q2 : b2 < 256) (p3 : 0 ≤ b3) (q3 : b3 < 256) (p4 : 0 ≤ b4) (q4 : b4 < 256) (w : World)
    (c0 : w.cell? ⟨B, off, none⟩ = some (.int .u8 b0)) (c1 : w.cell? ⟨B, off + 1, none⟩ = some (.int .u8 b1)) (c2 : w.cell? ⟨B, off + 2, none⟩ = some (.int .u8 b2)) (c3 : w.cell? ⟨B, off + 3, none⟩ = some (.int .u8 b3)) (c4 : w.cell? ⟨B, off + 4, none⟩ = some (.int .u8 b4)) :
    Calls Try.prog 55 #[.slice (some ⟨B, off, none⟩) len cap] w fun e w' => e = .returned (enV (enE b0 b1 b2 b3 b4)) ∧ Below w.heap.size w w' := by
  unfold enE
  by_cases h1 : 8 ≤ b1
  · rw [if_pos h1]
    by_cases r3 : b3 = 0
    · by_cases r4 : b4 = 0
      · exact entry_big_c B off len cap hl b0 b1 b2 b3 b4 p0 q0 p1 q1 p2 q2 p3 q3 p4 q4 w c0 c1 c2 c3 c4 h1 r3 r4
      · exact entry_big_b B off len cap hl b0 b1 b2 b3 b4 p0 q0 p1 q1 p2 q2 p3 q3 p4 q4 w c0 c1 c2 c3 c4 h1 r3 r4
    · exact entry_big_a B off len cap hl b0 b1 b2 b3 b4 p0 q0 p1 q1 p2 q2 p3 q3 p4 q4 w c0 c1 c2 c3 c4 h1 r3
  · rw [if_neg h1]
    have h1' : b1 < 8 := by omega
    by_cases h0 : b0 = 0
    · by_cases hin : 1 ≤ b2 ∧ b2 ≤ 3
      · by_cases r3 : b3 = 0
        · by_cases r4 : b4 = 0
          · rw [if_pos (by omega)]; have := entry_b0in_c B off len cap hl b0 b1 b2 b3 b4 p0 q0 p1 q1 p2 q2 p3 q3 p4 q4 w c0 c1 c2 c3 c4 h1' h0 hin r3 r4; subst h0; exact this
          · rw [if_neg (by omega), if_neg (by omega), if_neg (by omega)]; exact entry_b0in_b B off len cap hl b0 b1 b2 b3 b4 p0 q0 p1 q1 p2 q2 p3 q3 p4 q4 w c0 c1 c2 c3 c4 h1' h0 hin r3 r4
        · rw [if_neg (by omega), if_neg (by omega), if_neg (by omega)]; exact entry_b0in_a B off len cap hl b0 b1 b2 b3 b4 p0 q0 p1 q1 p2 q2 p3 q3 p4 q4 w c0 c1 c2 c3 c4 h1' h0 hin r3
      · rw [if_neg (by omega), if_neg (by omega), if_neg (by omega)]
        by_cases hlo : b2 < 1
        · by_cases r3 : b3 = 0
          · by_cases r4 : b4 = 0
            · exact entry_b0lo_c B off len cap hl b0 b1 b2 b3 b4 p0 q0 p1 q1 p2 q2 p3 q3 p4 q4 w c0 c1 c2 c3 c4 h1' h0 hlo r3 r4
            · exact entry_b0lo_b B off len cap hl b0 b1 b2 b3 b4 p0 q0 p1 q1 p2 q2 p3 q3 p4 q4 w c0 c1 c2 c3 c4 h1' h0 hlo r3 r4
          · exact entry_b0lo_a B off len cap hl b0 b1 b2 b3 b4 p0 q0 p1 q1 p2 q2 p3 q3 p4 q4 w c0 c1 c2 c3 c4 h1' h0 hlo r3
        · have hhi : 3 < b2 := by omega
          by_cases r3 : b3 = 0
          · by_cases r4 : b4 = 0
            · exact entry_b0hi_c B off len cap hl b0 b1 b2 b3 b4 p0 q0 p1 q1 p2 q2 p3 q3 p4 q4 w c0 c1 c2 c3 c4 h1' h0 hhi r3 r4
            · exact entry_b0hi_b B off len cap hl b0 b1 b2 b3 b4 p0 q0 p1 q1 p2 q2 p3 q3 p4 q4 w c0 c1 c2 c3 c4 h1' h0 hhi r3 r4
          · exact entry_b0hi_a B off len cap hl b0 b1 b2 b3 b4 p0 q0 p1 q1 p2 q2 p3 q3 p4 q4 w c0 c1 c2 c3 c4 h1' h0 hhi r3
    · rw [if_neg (by omega)]
      by_cases h01 : b0 = 1
      · rw [if_pos h01]
        by_cases r3 : b3 = 0
        · by_cases r4 : b4 = 0
          · exact entry_b1_c B off len cap hl b0 b1 b2 b3 b4 p0 q0 p1 q1 p2 q2 p3 q3 p4 q4 w c0 c1 c2 c3 c4 h1' h01 r3 r4
          · exact entry_b1_b B off len cap hl b0 b1 b2 b3 b4 p0 q0 p1 q1 p2 q2 p3 q3 p4 q4 w c0 c1 c2 c3 c4 h1' h01 r3 r4
        · exact entry_b1_a B off len cap hl b0 b1 b2 b3 b4 p0 q0 p1 q1 p2 q2 p3 q3 p4 q4 w c0 c1 c2 c3 c4 h1' h01 r3
      · rw [if_neg h01]
        by_cases h02 : b0 = 2
        · by_cases h2 : b2 = 0
          · by_cases r3 : b3 = 0
            · by_cases r4 : b4 = 0
              · rw [if_pos (by omega)]; exact entry_b2z_c B off len cap hl b0 b1 b2 b3 b4 p0 q0 p1 q1 p2 q2 p3 q3 p4 q4 w c0 c1 c2 c3 c4 h1' h02 h2 r3 r4
              · rw [if_neg (by omega)]; exact entry_b2z_b B off len cap hl b0 b1 b2 b3 b4 p0 q0 p1 q1 p2 q2 p3 q3 p4 q4 w c0 c1 c2 c3 c4 h1' h02 h2 r3 r4
            · rw [if_neg (by omega)]; exact entry_b2z_a B off len cap hl b0 b1 b2 b3 b4 p0 q0 p1 q1 p2 q2 p3 q3 p4 q4 w c0 c1 c2 c3 c4 h1' h02 h2 r3
          · rw [if_neg (by omega)]
            by_cases r3 : b3 = 0
            · by_cases r4 : b4 = 0
              · exact entry_b2n_c B off len cap hl b0 b1 b2 b3 b4 p0 q0 p1 q1 p2 q2 p3 q3 p4 q4 w c0 c1 c2 c3 c4 h1' h02 h2 r3 r4
              · exact entry_b2n_b B off len cap hl b0 b1 b2 b3 b4 p0 q0 p1 q1 p2 q2 p3 q3 p4 q4 w c0 c1 c2 c3 c4 h1' h02 h2 r3 r4
            · exact entry_b2n_a B off len cap hl b0 b1 b2 b3 b4 p0 q0 p1 q1 p2 q2 p3 q3 p4 q4 w c0 c1 c2 c3 c4 h1' h02 h2 r3
        · by_cases h03 : b0 = 3
          · by_cases h3 : b1 = 0
            · by_cases h2 : b2 = 0
              · by_cases r3 : b3 = 0
                · by_cases r4 : b4 = 0
                  · rw [if_pos (by omega)]; exact entry_b3z_c B off len cap hl b0 b1 b2 b3 b4 p0 q0 p1 q1 p2 q2 p3 q3 p4 q4 w c0 c1 c2 c3 c4 h1' h03 h2 h3 r3 r4
                  · rw [if_neg (by omega)]; exact entry_b3z_b B off len cap hl b0 b1 b2 b3 b4 p0 q0 p1 q1 p2 q2 p3 q3 p4 q4 w c0 c1 c2 c3 c4 h1' h03 h2 h3 r3 r4
                · rw [if_neg (by omega)]; exact entry_b3z_a B off len cap hl b0 b1 b2 b3 b4 p0 q0 p1 q1 p2 q2 p3 q3 p4 q4 w c0 c1 c2 c3 c4 h1' h03 h2 h3 r3
              · rw [if_neg (by omega)]
                by_cases r3 : b3 = 0
                · by_cases r4 : b4 = 0
                  · exact entry_b3n_c B off len cap hl b0 b1 b2 b3 b4 p0 q0 p1 q1 p2 q2 p3 q3 p4 q4 w c0 c1 c2 c3 c4 h1' h03 h2 h3 r3 r4
                  · exact entry_b3n_b B off len cap hl b0 b1 b2 b3 b4 p0 q0 p1 q1 p2 q2 p3 q3 p4 q4 w c0 c1 c2 c3 c4 h1' h03 h2 h3 r3 r4
                · exact entry_b3n_a B off len cap hl b0 b1 b2 b3 b4 p0 q0 p1 q1 p2 q2 p3 q3 p4 q4 w c0 c1 c2 c3 c4 h1' h03 h2 h3 r3
            · rw [if_neg (by omega)]
              by_cases r3 : b3 = 0
              · by_cases r4 : b4 = 0
                · exact entry_b3s_c B off len cap hl b0 b1 b2 b3 b4 p0 q0 p1 q1 p2 q2 p3 q3 p4 q4 w c0 c1 c2 c3 c4 h1' h03 h3 r3 r4
                · exact entry_b3s_b B off len cap hl b0 b1 b2 b3 b4 p0 q0 p1 q1 p2 q2 p3 q3 p4 q4 w c0 c1 c2 c3 c4 h1' h03 h3 r3 r4
              · exact entry_b3s_a B off len cap hl b0 b1 b2 b3 b4 p0 q0 p1 q1 p2 q2 p3 q3 p4 q4 w c0 c1 c2 c3 c4 h1' h03 h3 r3
          · rw [if_neg (by omega)]
            by_cases r3 : b3 = 0
            · by_cases r4 : b4 = 0
              · exact entry_b4_c B off len cap hl b0 b1 b2 b3 b4 p0 q0 p1 q1 p2 q2 p3 q3 p4 q4 w c0 c1 c2 c3 c4 h1' (by omega) r3 r4
              · exact entry_b4_b B off len cap hl b0 b1 b2 b3 b4 p0 q0 p1 q1 p2 q2 p3 q3 p4 q4 w c0 c1 c2 c3 c4 h1' (by omega) r3 r4
            · exact entry_b4_a B off len cap hl b0 b1 b2 b3 b4 p0 q0 p1 q1 p2 q2 p3 q3 p4 q4 w c0 c1 c2 c3 c4 h1' (by omega) r3
end Go.Proofs.Ytplfhjahdepphaa.Plan
