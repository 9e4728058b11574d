/- Contracts of One and Op, of package plan and of the document's answer. -/
import Derived.Test.YtplfhjahdepphaaPlanC
namespace Go.Proofs.Ytplfhjahdepphaa.Plan
open Go.ChangeShapes Go.WideShapes Go.ChangeAt Go.RowKit
set_option linter.unusedVariables false
set_option linter.unusedSimpArgs false
set_option maxRecDepth 100000
set_option maxHeartbeats 1000000

def zeroE : En := ⟨0, 0, 0, 0, 0, 0, 0⟩

theorem one_short (a : Option Addr) (len cap : Nat) (hl : len < 5) (w : World) :
    Calls Try.prog 38 #[.slice a len cap] w fun e w' => e = .returned (.tuple #[.agg #[.int .i64 0, .int .i64 0, .int .i64 0, .int .i64 0, .int .i64 0, .int .i64 0, .int .i64 0], .bool false]) ∧ w.alloc (.cells #[.int .i64 0, .int .i64 0, .int .i64 0, .int .i64 0, .int .i64 0, .int .i64 0, .int .i64 0] 47) = w' := by
  have i0 : (len : Int) < 5 := by omega
  go_enter Try.func38, Try.ntmps38
  go_wp2
  exact bodyPost_ret (v := .tuple #[.agg #[.int .i64 0, .int .i64 0, .int .i64 0, .int .i64 0, .int .i64 0, .int .i64 0, .int .i64 0], .bool false]) (by simp [results, Try.results38, go_sem]) rfl ⟨rfl, rfl⟩

theorem rone_short (a : Option Addr) (len cap : Nat) (hl : len < 5) (w : World) :
    Calls Try.prog 39 #[.slice a len cap] w fun e w' => e = .returned (.tuple #[.agg #[.int .i64 0, .int .i64 0, .int .i64 0, .int .i64 0, .int .i64 0, .int .i64 0, .int .i64 0], .bool false]) ∧ w.alloc (.cells #[.int .i64 0, .int .i64 0, .int .i64 0, .int .i64 0, .int .i64 0, .int .i64 0, .int .i64 0] 47) = w' := by
  have i0 : (len : Int) < 5 := by omega
  go_enter Try.func39, Try.ntmps39
  go_wp2
  exact bodyPost_ret (v := .tuple #[.agg #[.int .i64 0, .int .i64 0, .int .i64 0, .int .i64 0, .int .i64 0, .int .i64 0, .int .i64 0], .bool false]) (by simp [results, Try.results39, go_sem]) rfl ⟨rfl, rfl⟩

theorem one_any (B off len cap : Nat) (hl : 5 ≤ len) (hc : len ≤ cap) (hm : cap ≤ 9223372036854775807) (b0 b1 b2 b3 b4 : Int) (p0 : 0 ≤ b0) (q0 : b0 < 256) (p1 : 0 ≤ b1) (q1 : b1 < 256) (p2 : 0 ≤ b2) (q2 : b2 < 256) (p3 : 0 ≤ b3) (q3 : b3 < 256) (p4 : 0 ≤ b4) (q4 : b4 < 256) (w : World)
    (c0 : w.cell? ⟨B, off, none⟩ = some (.int .u8 b0)) (c1 : w.cell? ⟨B, off + 1, none⟩ = some (.int .u8 b1)) (c2 : w.cell? ⟨B, off + 2, none⟩ = some (.int .u8 b2)) (c3 : w.cell? ⟨B, off + 3, none⟩ = some (.int .u8 b3)) (c4 : w.cell? ⟨B, off + 4, none⟩ = some (.int .u8 b4)) :
    Calls Try.prog 38 #[.slice (some ⟨B, off, none⟩) len cap] w fun e w' => e = .returned (.tuple #[enV (enE b0 b1 b2 b3 b4), .bool true]) ∧ Below w.heap.size w w' := by
  have hB : B < w.heap.size := World.block_lt_of_cell? w _ c0
  have i0 : (5 : Int) ≤ (len : Int) := by omega
  have i1 : (5 : Int) ≤ (cap : Int) := by omega
  have d : ∀ o, (w.alloc o).cell? ⟨B, off, none⟩ = some (.int .u8 b0) ∧ (w.alloc o).cell? ⟨B, off + 1, none⟩ = some (.int .u8 b1) ∧ (w.alloc o).cell? ⟨B, off + 2, none⟩ = some (.int .u8 b2) ∧ (w.alloc o).cell? ⟨B, off + 3, none⟩ = some (.int .u8 b3) ∧ (w.alloc o).cell? ⟨B, off + 4, none⟩ = some (.int .u8 b4) := fun o =>
    ⟨by rw [World.cell?_alloc_past _ _ _ hB]; exact c0, by rw [World.cell?_alloc_past _ _ _ hB]; exact c1, by rw [World.cell?_alloc_past _ _ _ hB]; exact c2, by rw [World.cell?_alloc_past _ _ _ hB]; exact c3, by rw [World.cell?_alloc_past _ _ _ hB]; exact c4⟩
  have HI := Lib.hid (fun o => entry_any B off 5 cap (by omega) b0 b1 b2 b3 b4 p0 q0 p1 q1 p2 q2 p3 q3 p4 q4 (w.alloc o) (d o).1 (d o).2.1 (d o).2.2.1 (d o).2.2.2.1 (d o).2.2.2.2)
  clear d
  generalize enE b0 b1 b2 b3 b4 = E at *
  obtain ⟨ek, es, elv, eok, eoy, eoh, eov⟩ := E
  go_enter Try.func38, Try.ntmps38
  go_wp2_with fail
  refine (HI.out _).mono ?_
  rintro e w1 ⟨rfl, hq⟩
  have hg : w1.heap[w.heap.size]? = some (.cells #[.int .i64 0, .int .i64 0, .int .i64 0, .int .i64 0, .int .i64 0, .int .i64 0, .int .i64 0] 47 (0, 0)) := (hq.block w.heap.size (by simp)).trans (by show (w.heap.push _)[w.heap.size]? = _; simp)
  go_wp2_with (refine wpList_store_row rfl 47 _ _ rfl w.heap.size #[.int .i64 ek, .int .i64 es, .int .i64 elv, .int .i64 eok, .int .i64 eoy, .int .i64 eoh, .int .i64 eov] rfl rfl 47 _ hg (by kernel_rfl) rfl (by simp [Value.oneCell']) ?_)
  have r : ∀ j, (w1.setRow w.heap.size #[.int .i64 ek, .int .i64 es, .int .i64 elv, .int .i64 eok, .int .i64 eoy, .int .i64 eoh, .int .i64 eov]).cell? ⟨w.heap.size, j, none⟩ = (#[.int .i64 ek, .int .i64 es, .int .i64 elv, .int .i64 eok, .int .i64 eoy, .int .i64 eoh, .int .i64 eov] : Array Value)[j]? := fun j => cell_setRow_same _ _ _ _ _ _ _ hg
  have r0 := r 0
  have r1 := r 1
  have r2 := r 2
  have r3 := r 3
  have r4 := r 4
  have r5 := r 5
  have r6 := r 6
  clear r
  simp at r0 r1 r2 r3 r4 r5 r6
  have hfin : Below w.heap.size w (w1.setRow w.heap.size #[.int .i64 ek, .int .i64 es, .int .i64 elv, .int .i64 eok, .int .i64 eoy, .int .i64 eoh, .int .i64 eov]) := below_setRow ((below_allocs1 w _).trans (hq.mono (by simp))) (Nat.le_refl _) _
  exact bodyPost_ret (v := .tuple #[.agg #[.int .i64 ek, .int .i64 es, .int .i64 elv, .int .i64 eok, .int .i64 eoy, .int .i64 eoh, .int .i64 eov], .bool true]) (by simp [results, Try.results38, go_sem, r0, r1, r2, r3, r4, r5, r6]) rfl ⟨rfl, hfin⟩

theorem op_yes (ek es elv eok eoy eoh eov : Int) (h : ek = 2) (w : World) :
    Calls Try.prog 40 #[enV ⟨ek, es, elv, eok, eoy, eoh, eov⟩] w fun e w' => e = .returned (.tuple #[.agg #[.int .i64 eok, .int .i64 eoy, .int .i64 eoh, .int .i64 eov], .bool true]) ∧ Below w.heap.size w w' := by
  subst h
  go_enter Try.func40, Try.ntmps40
  go_wp2
  exact bodyPost_ret (v := .tuple #[.agg #[.int .i64 eok, .int .i64 eoy, .int .i64 eoh, .int .i64 eov], .bool true]) (by simp [results, Try.results40, go_sem]) rfl ⟨rfl, by (repeat (first | (with_reducible exact Below.refl _ _) | ((with_reducible refine Below.setCell ?_ ?_ _); rotate_left; focus (first | (simp; done) | (simp; omega))) | (with_reducible refine below_drewN ?_ _) | (with_reducible refine Below.drew ?_) | ((with_reducible refine Below.alloc ?_ ?_ _); rotate_left; focus (first | (simp; done) | (simp; omega)))))⟩

theorem op_no (ek es elv eok eoy eoh eov : Int) (h : ek ≠ 2) (w : World) :
    Calls Try.prog 40 #[enV ⟨ek, es, elv, eok, eoy, eoh, eov⟩] w fun e w' => e = .returned (.tuple #[.agg #[.int .i64 0, .int .i64 0, .int .i64 0, .int .i64 0], .bool false]) ∧ Below w.heap.size w w' := by
  have h' : (ek != 2) = true := bne_iff_ne.2 h
  clear h
  go_enter Try.func40, Try.ntmps40
  go_wp2
  exact bodyPost_ret (v := .tuple #[.agg #[.int .i64 0, .int .i64 0, .int .i64 0, .int .i64 0], .bool false]) (by simp [results, Try.results40, go_sem]) rfl ⟨rfl, by (repeat (first | (with_reducible exact Below.refl _ _) | ((with_reducible refine Below.setCell ?_ ?_ _); rotate_left; focus (first | (simp; done) | (simp; omega))) | (with_reducible refine below_drewN ?_ _) | (with_reducible refine Below.drew ?_) | ((with_reducible refine Below.alloc ?_ ?_ _); rotate_left; focus (first | (simp; done) | (simp; omega)))))⟩
end Go.Proofs.Ytplfhjahdepphaa.Plan
