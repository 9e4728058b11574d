/- Texts of this claim, laid together: Std, Stt, Pp, Bv, Lv, Oe. -/
import Derived.Test.YtbefcdjcefmicaaGreatBase18
import Derived.Test.YtbefcdjcefmicaaGreatBase17
import Derived.Test.YtbefcdjcefmicaaGreatBase16
import Derived.Test.YtbefcdjcefmicaaGreatBase10
namespace Go.Proofs.YtbefcdjcefmicaaGreat.Em
open Go.ChangeShapes Go.WideShapes Go.ChangeAt Go.RowKit En
set_option linter.unusedVariables false
set_option linter.unusedSimpArgs false
set_option maxRecDepth 100000
set_option maxHeartbeats 1600000

theorem status_11 {A : Book} {σ : St} {w : World} (hL : Live A σ w) (s : Nat) (hs : s < 8) (t : Txn) (ht : σ.txns.getD s none = some t) (he : 0 < t.end_) (c : Cal) (hc : σ.calls.getD s none = some c) :
    Calls Tryz.prog 18 #[.pointer (some ⟨A.be, 0, none⟩), .int .i64 (s : Int)] w fun e w' => e = .returned (.agg #[.bool true, .bool true, .bool c.waits, .int .i64 (t.id : Int), .int .i64 (t.level : Int), .int .i64 2, .int .u64 (t.begin_ : Int), .int .u64 (t.end_ : Int), .int .i64 (t.ops : Int)]) ∧ Below w.heap.size w w' := by
  have hR := hL.rep
  have b1 : (s : Int) < 8 := by omega
  have b0 : (0 : Int) ≤ (s : Int) := by omega
  have hsok := Lib.hid (sessionOk s hs)
  have r1 := hR.alloc (.cells #[.bool false, .bool false, .bool false, .int .i64 0, .int .i64 0, .int .i64 0, .int .u64 0, .int .u64 0, .int .i64 0] 38)
  have H1 : Hid (∀ w', Below (w.alloc (.cells #[.bool false, .bool false, .bool false, .int .i64 0, .int .i64 0, .int .i64 0, .int .u64 0, .int .u64 0, .int .i64 0] 38)).heap.size (w.alloc (.cells #[.bool false, .bool false, .bool false, .int .i64 0, .int .i64 0, .int .i64 0, .int .u64 0, .int .u64 0, .int .i64 0] 38)) w' → w'.cell? ⟨A.be, 5 + s, none⟩ = some (.pointer (some ⟨A.bt s, 0, none⟩)) ∧ w'.cell? ⟨A.be, 13 + s, none⟩ = some (.pointer (some ⟨A.bc s, 0, none⟩)) ∧ w'.cell? ⟨A.bt s, 0, none⟩ = some (.int .i64 (t.id : Int)) ∧ w'.cell? ⟨A.bt s, 1, none⟩ = some (.int .i64 (t.level : Int)) ∧ w'.cell? ⟨A.bt s, 3, none⟩ = some (.int .u64 (t.begin_ : Int)) ∧ w'.cell? ⟨A.bt s, 4, none⟩ = some (.int .u64 (t.end_ : Int)) ∧ w'.cell? ⟨A.bt s, 5, none⟩ = some (.int .i64 (t.ops : Int)) ∧ w'.cell? ⟨A.bc s, 10, none⟩ = some (.bool c.waits)) := by
    intro w' hb
    have r := r1.below hb
    have h5 := r.eng (5 + s) (engCs_txn A σ hs)
    rw [show A.tp σ s = .pointer (some ⟨A.bt s, 0, none⟩) by unfold Book.tp; rw [ht]] at h5
    have h13 := r.eng (13 + s) (engCs_call A σ hs)
    rw [(hL.call s hs c hc).1, show ptr (A.bc s) = .pointer (some ⟨A.bc s, 0, none⟩) from rfl] at h13
    exact ⟨h5, h13, r.txn ht 0 rfl, r.txn ht 1 rfl, r.txn ht 3 rfl, r.txn ht 4 rfl, r.txn ht 5 rfl, r.call hc 10 rfl⟩
  obtain ⟨v5, v13, t0, t1, t3, t4, t5, c10⟩ := H1.out _ (Below.refl _ _)
  have fe1 : ((t.end_ : Int) == 0) = false := by first | (simp; done) | (simp; omega)
  have fe2 : ((t.end_ : Int) = 0) = False := by first | (simp; done) | (simp; omega)
  have fe3 : (t.end_ = 0) = False := by first | (simp; done) | (simp; omega)
  have fe4 : (t.end_ == 0) = false := by first | (simp; done) | (simp; omega)
  have fe5 : ((t.end_ : Int) != 0) = true := by first | (simp; done) | (simp; omega)
  have ff1 : decide ((0 : Int) < (t.end_ : Int)) = true := by first | (simp; done) | (simp; omega)
  have ff2 : ((0 : Int) < (t.end_ : Int)) = True := by first | (simp; done) | (simp; omega)
  have ff3 : (0 < t.end_) = True := by first | (simp; done) | (simp; omega)
  have ff4 : decide (0 < t.end_) = true := by first | (simp; done) | (simp; omega)
  clear hL hR hs ht r1 he
  go_enter Tryz.func18, Tryz.ntmps18
  go_wp2_with (go_at_call 48; refine (hsok.out _).mono ?_; rintro e w' ⟨rfl, rfl⟩)
  have HZ0 : Hid ((w.alloc (.cells #[.bool false, .bool false, .bool false, .int .i64 0, .int .i64 0, .int .i64 0, .int .u64 0, .int .u64 0, .int .i64 0] 38)).heap[w.heap.size]? = some (.cells #[.bool false, .bool false, .bool false, .int .i64 0, .int .i64 0, .int .i64 0, .int .u64 0, .int .u64 0, .int .i64 0] 38) ∧ Below w.heap.size w (w.alloc (.cells #[.bool false, .bool false, .bool false, .int .i64 0, .int .i64 0, .int .i64 0, .int .u64 0, .int .u64 0, .int .i64 0] 38)) ∧ w.heap.size < (w.alloc (.cells #[.bool false, .bool false, .bool false, .int .i64 0, .int .i64 0, .int .i64 0, .int .u64 0, .int .u64 0, .int .i64 0] 38)).heap.size) := ⟨heap_alloc_new w _, (Below.refl _ w).alloc (Nat.le_refl _) _, by simp⟩
  clear v5 v13 t0 t1 t3 t4 t5 c10
  generalize hw0 : w.alloc _ = w0 at *
  obtain ⟨v5, v13, t0, t1, t3, t4, t5, c10⟩ := H1.out w0 (Below.refl _ _)
  go_quiet (fail)
  clear v5 v13 t0 t1 t3 t4 t5 c10
  generalize hw5 : w0.drewN _ = w5
  have hb5 : Below w0.heap.size w0 w5 := by rw [← hw5]; exact ⟨rfl, rfl, rfl, Nat.le_refl _, fun _ _ => rfl⟩
  obtain ⟨v5, v13, t0, t1, t3, t4, t5, c10⟩ := H1.out w5 hb5
  obtain ⟨_, _, y0, y1, y3, y4, y5, y10⟩ := H1.out (w5.alloc (.cells #[.bool false, .bool false, .bool false, .int .i64 0, .int .i64 0, .int .i64 0, .int .u64 0, .int .u64 0, .int .i64 0] 38)) (hb5.alloc hb5.size _)
  go_wp2_with fail
  go_region
  generalize hw6 : World.drew _ = w6
  have F6 : Fix (fun _ => none) w6 w5.heap.size (.cells #[.bool true, .bool false, .bool false, .int .i64 (t.id : Int), .int .i64 (t.level : Int), .int .i64 1, .int .u64 (t.begin_ : Int), .int .u64 (t.end_ : Int), .int .i64 (t.ops : Int)] 38) := ⟨rfl, by rw [← hw6]; exact heap_alloc_new w5 _⟩
  have hb6 : Below w0.heap.size w0 w6 := by rw [← hw6]; exact (hb5.alloc hb5.size _).drew
  have hz6 : w5.heap.size < w6.heap.size := lt_of F6.2
  have HB6 := Lib.hid (And.intro hb6 (And.intro F6 hb5.size))
  obtain ⟨_, _, _, _, _, u4, _, _⟩ := H1.out w6 hb6
  clear v5 v13 t0 t1 t3 t4 t5 y0 y1 y3 y4 y5 c10 y10
  have s0 := F6.cell 0 (v := .bool true) rfl
  have s1 := F6.cell 1 (v := .bool false) rfl
  have s2 := F6.cell 2 (v := .bool false) rfl
  have s3 := F6.cell 3 (v := .int .i64 (t.id : Int)) rfl
  have s4 := F6.cell 4 (v := .int .i64 (t.level : Int)) rfl
  have s5 := F6.cell 5 (v := .int .i64 1) rfl
  have s6 := F6.cell 6 (v := .int .u64 (t.begin_ : Int)) rfl
  have s7 := F6.cell 7 (v := .int .u64 (t.end_ : Int)) rfl
  have s8 := F6.cell 8 (v := .int .i64 (t.ops : Int)) rfl
  have z5 := F6.frozen 5
  have f7 : Fix (fun _ => none) (w6.setCell ⟨w5.heap.size, 5, none⟩ (.int .i64 2)) w5.heap.size (.cells #[.bool true, .bool false, .bool false, .int .i64 (t.id : Int), .int .i64 (t.level : Int), .int .i64 2, .int .u64 (t.begin_ : Int), .int .u64 (t.end_ : Int), .int .i64 (t.ops : Int)] 38) := ⟨rfl, by have h := heap_setCell_same F6.2 5 (.int .i64 2); simpa using h⟩
  have hb7 : Below w0.heap.size w0 (w6.setCell ⟨w5.heap.size, 5, none⟩ (.int .i64 2)) := hb6.setCell (HB6.out.2.2) _
  obtain ⟨_, _, _, _, _, _, _, c10⟩ := H1.out (w6.setCell ⟨w5.heap.size, 5, none⟩ (.int .i64 2)) hb7
  have q0 := f7.cell 0 (v := .bool true) rfl
  have q1 := f7.cell 1 (v := .bool false) rfl
  have q2 := f7.cell 2 (v := .bool false) rfl
  have q3 := f7.cell 3 (v := .int .i64 (t.id : Int)) rfl
  have q4 := f7.cell 4 (v := .int .i64 (t.level : Int)) rfl
  have q5 := f7.cell 5 (v := .int .i64 2) rfl
  have q6 := f7.cell 6 (v := .int .u64 (t.begin_ : Int)) rfl
  have q7 := f7.cell 7 (v := .int .u64 (t.end_ : Int)) rfl
  have q8 := f7.cell 8 (v := .int .i64 (t.ops : Int)) rfl
  have q1z := f7.frozen 1
  have q2z := f7.frozen 2
  have H7 := Lib.hid (And.intro f7 hb7)
  clear F6 hb6 f7 hb7 hw6
  go_wp2_with fail
  generalize hw7 : World.setCell w6 _ _ = w7 at *
  clear s0 s1 s2 s3 s4 s5 s6 s7 s8 z5
  go_region
  generalize hw8 : World.drew _ = w8
  have f8 : Fix (fun _ => none) w8 w5.heap.size (.cells #[.bool true, .bool true, .bool c.waits, .int .i64 (t.id : Int), .int .i64 (t.level : Int), .int .i64 2, .int .u64 (t.begin_ : Int), .int .u64 (t.end_ : Int), .int .i64 (t.ops : Int)] 38) := ⟨rfl, by rw [← hw8]; have h := heap_setCell_same (heap_setCell_same H7.out.1.2 1 (.bool true)) 2 (.bool c.waits); show ((w7.setCell ⟨_, 1, none⟩ _).setCell ⟨_, 2, none⟩ _).heap[_]? = _; simpa using h⟩
  have hb8 : Below w0.heap.size w0 w8 := by rw [← hw8]; exact ((H7.out.2.setCell HB6.out.2.2 _).setCell HB6.out.2.2 _).drew
  clear q0 q1 q2 q3 q4 q5 q6 q7 q8 q1z q2z c10
  have r0 := f8.cell 0 (v := .bool true) rfl
  have r1 := f8.cell 1 (v := .bool true) rfl
  have r2 := f8.cell 2 (v := .bool c.waits) rfl
  have r3 := f8.cell 3 (v := .int .i64 (t.id : Int)) rfl
  have r4 := f8.cell 4 (v := .int .i64 (t.level : Int)) rfl
  have r5 := f8.cell 5 (v := .int .i64 2) rfl
  have r6 := f8.cell 6 (v := .int .u64 (t.begin_ : Int)) rfl
  have r7 := f8.cell 7 (v := .int .u64 (t.end_ : Int)) rfl
  have r8 := f8.cell 8 (v := .int .i64 (t.ops : Int)) rfl
  have HTH := Lib.hid (there_of (hb8.block w.heap.size HZ0.out.2.2 |>.trans HZ0.out.1))
  have hfin := heap_setCells9 (hb8.block w.heap.size HZ0.out.2.2 |>.trans HZ0.out.1) (.bool true) (.bool true) (.bool c.waits) (.int .i64 (t.id : Int)) (.int .i64 (t.level : Int)) (.int .i64 2) (.int .u64 (t.begin_ : Int)) (.int .u64 (t.end_ : Int)) (.int .i64 (t.ops : Int))
  have HFN := Lib.hid hfin
  have HBL := Lib.hid (Below.setCells9 (HZ0.out.2.1.trans (hb8.mono (Nat.le_of_lt HZ0.out.2.2))) (Nat.le_refl _) (.bool true) (.bool true) (.bool c.waits) (.int .i64 (t.id : Int)) (.int .i64 (t.level : Int)) (.int .i64 2) (.int .u64 (t.begin_ : Int)) (.int .u64 (t.end_ : Int)) (.int .i64 (t.ops : Int)))
  clear hfin
  clear hb8 hw8 f8
  go_wp2_with (refine wpList_store_mid rfl 38 (.tmp 4) (.tmp 68) rfl w.heap.size 0 #[.bool true, .bool true, .bool c.waits, .int .i64 (t.id : Int), .int .i64 (t.level : Int), .int .i64 2, .int .u64 (t.begin_ : Int), .int .u64 (t.end_ : Int), .int .i64 (t.ops : Int)] rfl rfl HTH.out (by kernel_rfl) (by simp [Value.oneCell']) ?_; generalize hws : World.setCells _ _ _ _ = ws)
  have hbut : Below w.heap.size w (w8.setCells w.heap.size 0 [.bool true, .bool true, .bool c.waits, .int .i64 (t.id : Int), .int .i64 (t.level : Int), .int .i64 2, .int .u64 (t.begin_ : Int), .int .u64 (t.end_ : Int), .int .i64 (t.ops : Int)]) := HBL.out
  have hfin := HFN.out
  rw [show w8.setCells w.heap.size 0 [.bool true, .bool true, .bool c.waits, .int .i64 (t.id : Int), .int .i64 (t.level : Int), .int .i64 2, .int .u64 (t.begin_ : Int), .int .u64 (t.end_ : Int), .int .i64 (t.ops : Int)] = ws from hws] at hbut hfin
  (try simp only [Exit.inBlock, Exit.then])
  refine bodyPost_ret (results_cell_row rfl _ _ w.heap.size 38 #[.bool true, .bool true, .bool c.waits, .int .i64 (t.id : Int), .int .i64 (t.level : Int), .int .i64 2, .int .u64 (t.begin_ : Int), .int .u64 (t.end_ : Int), .int .i64 (t.ops : Int)] _ _ rfl hfin Tryz.underlying38 rfl (by kernel_rfl)) rfl ?_
  exact ⟨rfl, hbut⟩
end Go.Proofs.YtbefcdjcefmicaaGreat.Em

namespace Go.Proofs.YtbefcdjcefmicaaGreat.Em
open Go.ChangeShapes Go.WideShapes Go.ChangeAt Go.RowKit En
set_option linter.unusedVariables false
set_option linter.unusedSimpArgs false
set_option maxRecDepth 100000
set_option maxHeartbeats 1600000

theorem status_any {A : Book} {σ : St} {w : World} (hL : Live A σ w) (s : Nat) (hs : s < 8) :
    Calls Tryz.prog 18 #[.pointer (some ⟨A.be, 0, none⟩), .int .i64 (s : Int)] w fun e w' => e = .returned (.agg (statusCs (σ.status s))) ∧ Below w.heap.size w w' := by
  unfold St.status
  cases ht : σ.txns.getD s none with
  | none => exact status_none hL.rep s hs ht
  | some t =>
    by_cases he : 0 < t.end_
    · cases hc : σ.calls.getD s none with
      | none =>
        have h := status_10 hL s hs t ht he hc
        simp only [if_pos he]
        exact h
      | some c =>
        have h := status_11 hL s hs t ht he c hc
        simp only [if_pos he]
        exact h
    · cases hc : σ.calls.getD s none with
      | none =>
        have h := status_00 hL s hs t ht (by omega) hc
        simp only [if_neg he]
        exact h
      | some c =>
        have h := status_01 hL s hs t ht (by omega) c hc
        simp only [if_neg he]
        exact h
end Go.Proofs.YtbefcdjcefmicaaGreat.Em

namespace Go.Proofs.YtbefcdjcefmicaaGreat.Em
open Go.ChangeShapes Go.WideShapes Go.ChangeAt Go.RowKit En
set_option linter.unusedVariables false
set_option linter.unusedSimpArgs false
set_option maxRecDepth 100000
set_option maxHeartbeats 1600000

/-- Steps until an end is drawn. -/
def runPrep : Nat → St → Nat → Option (St × Bool)
  | 0, _, _ => none
  | n + 1, σ, s =>
    if (σ.status s).busy = false then some (σ, false)
    else if (σ.status s).state = 2 ∧ 0 < (σ.status s).end_ then some (σ, true)
    else match oneStep σ s with
      | some (σ', kd, _) => if kd = 1 then runPrep n σ' s else some (σ', false)
      | none => none
/-- What is answered, and the engine goes on. -/
def Said (A : Book) (w : World) (σ' : St) (v : Value) : Ending → World → Prop := fun e w' => e = .returned v ∧ ∃ A', Live A' σ' w' ∧ Grow A.L w A'.L w' ∧ A'.be = A.be
theorem prep_any {A : Book} {σ : St} {w : World} (hL : Live A σ w) (s : Nat) (hs : s < 8) (F : Nat) (hF : F ≤ 13824000) (σ2 : St) (b : Bool) (hrun : runPrep F σ s = some (σ2, b)) :
    Calls Tryz.prog 43 #[.pointer (some ⟨A.be, 0, none⟩), .int .i64 (s : Int)] w (Said A w σ2 (.bool b)) := by
  have HR := Lib.hid (And.intro hrun (And.intro hF (And.intro hs hL)))
  clear hrun hF hs hL
  go_enter Tryz.func43, Tryz.ntmps43
  go_wp2_with (go_at_call 67; refine (bound_run _).mono ?_; rintro e w' ⟨rfl, rfl⟩)
  go_loopw [9] (fun i wr => ∃ (j n : Nat) (σj : St) (A' : Book), i = .int .i64 (j : Int) ∧ runPrep n σj s = some (σ2, b) ∧ j + n ≤ 13824000 ∧ Live A' σj wr ∧ Grow A.L w A'.L wr ∧ A'.be = A.be) (fun i _ => 13824000 - (intOf i).toNat)
  case atStart => exact ⟨0, F, σ, A, rfl, HR.out.1, by have := HR.out.2.1; omega, HR.out.2.2.2, Grow.refl _ _, rfl⟩
  case round =>
    obtain ⟨j, n, σj, A', rfl, hrun, hj, hL, g, eb⟩ := hrel
    cases n with
    | zero => cases hrun
    | succ n =>
    have hst := status_any hL s HR.out.2.2.1
    rw [eb] at hst
    unfold runPrep at hrun
    have HSt := Lib.hid hst
    have b1 : (j : Int) < 13824000 := by omega
    have n1 : IntKind.i64.wrap ((j : Int) + 1) = (j : Int) + 1 := by rw [IntKind.wrap_i64]; omega
    have HG := Lib.hid (And.intro g (And.intro eb hL))
    have HL2 : Hid (∀ w1, Below wr.heap.size wr w1 → Live A' σj (w1.alloc (.cells (statusCs (σj.status s)) 38)) ∧ Grow A.L w A'.L (w1.alloc (.cells (statusCs (σj.status s)) 38))) := fun w1 hb => ⟨(hL.below hb).alloc _, (g.trans (Grow.below hb)).trans (Grow.alloc _ _ _)⟩
    have HRUN := Lib.hid (And.intro hrun hj)
    have HSTEP : Hid (∀ σ' kd r' w1, oneStep σj s = some (σ', kd, r') → Below wr.heap.size wr w1 → Calls Tryz.prog 19 #[.pointer (some ⟨A.be, 0, none⟩), .int .i64 (s : Int)] (w1.alloc (.cells (statusCs (σj.status s)) 38)) (Stepped A' (w1.alloc (.cells (statusCs (σj.status s)) 38)) σ' (kd : Int) r')) := by
      intro σ' kd r' w1 h hb
      have h2 := step_calls ((hL.below hb).alloc (.cells (statusCs (σj.status s)) 38)) HR.out.2.2.1 h
      rw [eb] at h2
      exact h2
    clear hst hrun hj hL g eb
    unfold statusCs at HSt HL2 HSTEP
    generalize σj.status s = x at *
    cases hbu : x.busy with
    | false =>
      rw [hbu] at HSt HL2
      have HB := Lib.hid hbu
      clear hbu
      go_wp2_with (go_at_call 18; refine HSt.out.mono ?_; rintro e w1 ⟨rfl, hb⟩; have HB1 := Lib.hid hb; clear hb)
      go_ret
      have hrun := HRUN.out.1
      rw [if_pos HB.out] at hrun
      simp only [Option.some.injEq, Prod.mk.injEq] at hrun
      obtain ⟨rfl, rfl⟩ := hrun
      obtain ⟨q1, q2⟩ := HL2.out w1 HB1.out
      exact ⟨rfl, A', q1, q2, HG.out.2.1⟩
    | true =>
      rw [hbu] at HSt HL2 HSTEP
      have HB := Lib.hid hbu
      clear hbu
      by_cases h2 : x.state = 2 ∧ 0 < x.end_
      · have h2a := h2.1
        have h2b := h2.2
        have HC := Lib.hid h2
        have fs1 : ((x.state : Int) == 2) = true := by first | (simp; done) | (simp; omega)
        have fs2 : ((x.state : Int) = 2) = True := by first | (simp; done) | (simp; omega)
        have fs3 : (x.state = 2) = True := by first | (simp; done) | (simp; omega)
        have fs4 : (x.state == 2) = true := by first | (simp; done) | (simp; omega)
        have fs5 : ((x.state : Int) != 2) = false := by first | (simp; done) | (simp; omega)
        have fe1 : decide ((0 : Int) < (x.end_ : Int)) = true := by first | (simp; done) | (simp; omega)
        have fe2 : ((0 : Int) < (x.end_ : Int)) = True := by first | (simp; done) | (simp; omega)
        have fe3 : (0 < x.end_) = True := by first | (simp; done) | (simp; omega)
        have fe4 : decide (0 < x.end_) = true := by first | (simp; done) | (simp; omega)
        clear h2 h2a h2b
        go_wp2_with (go_at_call 18; refine HSt.out.mono ?_; rintro e w1 ⟨rfl, hb⟩; have HB1 := Lib.hid hb; clear hb)
        go_ret
        have hrun := HRUN.out.1
        rw [if_neg (by simp [HB.out]), if_pos HC.out] at hrun
        simp only [Option.some.injEq, Prod.mk.injEq] at hrun
        obtain ⟨rfl, rfl⟩ := hrun
        obtain ⟨q1, q2⟩ := HL2.out w1 HB1.out
        exact ⟨rfl, A', q1, q2, HG.out.2.1⟩
      · have HC := Lib.hid h2
        have hrun := HRUN.out.1
        rw [if_neg (by simp [HB.out]), if_neg h2] at hrun
        have hj := HRUN.out.2
        split at hrun
        · rename_i σ' kd r' hstep
          have HST := Lib.hid (fun w1 hb => HSTEP.out σ' kd r' w1 hstep hb)
          have HRN := Lib.hid (And.intro hrun hj)
          clear hrun hj hstep HRUN HSTEP
          have hside : (x.state = 2 → x.end_ = 0) := fun h => by
            rcases Nat.eq_zero_or_pos x.end_ with h0 | h0
            · exact h0
            · exact absurd ⟨h, h0⟩ h2
          clear h2
          by_cases hk : kd = 1
          · have fk1 : ((kd : Int) == 1) = true := by first | (simp; done) | (simp; omega)
            have fk2 : ((kd : Int) = 1) = True := by first | (simp; done) | (simp; omega)
            have fk3 : (kd = 1) = True := by first | (simp; done) | (simp; omega)
            have fk4 : (kd == 1) = true := by first | (simp; done) | (simp; omega)
            have fk5 : ((kd : Int) != 1) = false := by first | (simp; done) | (simp; omega)
            have HKD := Lib.hid hk
            clear hk
            by_cases h2s : x.state = 2
            · have h0 := hside h2s
              have fs1 : ((x.state : Int) == 2) = true := by first | (simp; done) | (simp; omega)
              have fs2 : ((x.state : Int) = 2) = True := by first | (simp; done) | (simp; omega)
              have fs3 : (x.state = 2) = True := by first | (simp; done) | (simp; omega)
              have fs4 : (x.state == 2) = true := by first | (simp; done) | (simp; omega)
              have fs5 : ((x.state : Int) != 2) = false := by first | (simp; done) | (simp; omega)
              have fe1 : decide ((0 : Int) < (x.end_ : Int)) = false := by first | (simp; done) | (simp; omega)
              have fe2 : ((0 : Int) < (x.end_ : Int)) = False := by first | (simp; done) | (simp; omega)
              have fe3 : (0 < x.end_) = False := by first | (simp; done) | (simp; omega)
              have fe4 : decide (0 < x.end_) = false := by first | (simp; done) | (simp; omega)
              clear hside h2s h0
              go_wp2_with (first | (go_at_call 18; refine HSt.out.mono ?_; rintro e w1 ⟨rfl, hb⟩; have HB1 := Lib.hid hb; clear hb) | (go_at_call 19; refine (HST.out w1 HB1.out).mono ?_; rintro e w2 ⟨A2, vp, rfl, q1, q2, q3, q4⟩; obtain ⟨va, vn, vc, rfl⟩ := frow_form q1; have H2 := Lib.hid (And.intro q2 (And.intro ((HL2.out w1 HB1.out).2.trans q3) (q4.trans HG.out.2.1))); clear q1 q2 q3 q4))
              go_roundw
              case rel =>
                obtain ⟨q2, gq, eq⟩ := H2.out
                have hr := HRN.out.1
                rw [if_pos HKD.out] at hr
                exact ⟨j + 1, n, σ', A2, rfl, hr, by have := HRN.out.2; omega, q2.alloc _, gq.trans (Grow.alloc _ _ _), eq⟩
              case measure => simp [intOf]; omega
            · have fs1 : ((x.state : Int) == 2) = false := by first | (simp; done) | (simp; omega)
              have fs2 : ((x.state : Int) = 2) = False := by first | (simp; done) | (simp; omega)
              have fs3 : (x.state = 2) = False := by first | (simp; done) | (simp; omega)
              have fs4 : (x.state == 2) = false := by first | (simp; done) | (simp; omega)
              have fs5 : ((x.state : Int) != 2) = true := by first | (simp; done) | (simp; omega)
              clear hside h2s
              go_wp2_with (first | (go_at_call 18; refine HSt.out.mono ?_; rintro e w1 ⟨rfl, hb⟩; have HB1 := Lib.hid hb; clear hb) | (go_at_call 19; refine (HST.out w1 HB1.out).mono ?_; rintro e w2 ⟨A2, vp, rfl, q1, q2, q3, q4⟩; obtain ⟨va, vn, vc, rfl⟩ := frow_form q1; have H2 := Lib.hid (And.intro q2 (And.intro ((HL2.out w1 HB1.out).2.trans q3) (q4.trans HG.out.2.1))); clear q1 q2 q3 q4))
              go_roundw
              case rel =>
                obtain ⟨q2, gq, eq⟩ := H2.out
                have hr := HRN.out.1
                rw [if_pos HKD.out] at hr
                exact ⟨j + 1, n, σ', A2, rfl, hr, by have := HRN.out.2; omega, q2.alloc _, gq.trans (Grow.alloc _ _ _), eq⟩
              case measure => simp [intOf]; omega
          · have fk1 : ((kd : Int) == 1) = false := by first | (simp; done) | (simp; omega)
            have fk2 : ((kd : Int) = 1) = False := by first | (simp; done) | (simp; omega)
            have fk3 : (kd = 1) = False := by first | (simp; done) | (simp; omega)
            have fk4 : (kd == 1) = false := by first | (simp; done) | (simp; omega)
            have fk5 : ((kd : Int) != 1) = true := by first | (simp; done) | (simp; omega)
            have HKD := Lib.hid hk
            clear hk
            by_cases h2s : x.state = 2
            · have h0 := hside h2s
              have fs1 : ((x.state : Int) == 2) = true := by first | (simp; done) | (simp; omega)
              have fs2 : ((x.state : Int) = 2) = True := by first | (simp; done) | (simp; omega)
              have fs3 : (x.state = 2) = True := by first | (simp; done) | (simp; omega)
              have fs4 : (x.state == 2) = true := by first | (simp; done) | (simp; omega)
              have fs5 : ((x.state : Int) != 2) = false := by first | (simp; done) | (simp; omega)
              have fe1 : decide ((0 : Int) < (x.end_ : Int)) = false := by first | (simp; done) | (simp; omega)
              have fe2 : ((0 : Int) < (x.end_ : Int)) = False := by first | (simp; done) | (simp; omega)
              have fe3 : (0 < x.end_) = False := by first | (simp; done) | (simp; omega)
              have fe4 : decide (0 < x.end_) = false := by first | (simp; done) | (simp; omega)
              clear hside h2s h0
              go_wp2_with (first | (go_at_call 18; refine HSt.out.mono ?_; rintro e w1 ⟨rfl, hb⟩; have HB1 := Lib.hid hb; clear hb) | (go_at_call 19; refine (HST.out w1 HB1.out).mono ?_; rintro e w2 ⟨A2, vp, rfl, q1, q2, q3, q4⟩; obtain ⟨va, vn, vc, rfl⟩ := frow_form q1; have H2 := Lib.hid (And.intro q2 (And.intro ((HL2.out w1 HB1.out).2.trans q3) (q4.trans HG.out.2.1))); clear q1 q2 q3 q4))
              go_ret
              obtain ⟨q2, gq, eq⟩ := H2.out
              have hr := HRN.out.1
              rw [if_neg HKD.out] at hr
              simp only [Option.some.injEq, Prod.mk.injEq] at hr
              obtain ⟨rfl, rfl⟩ := hr
              exact ⟨rfl, A2, q2.alloc _, gq.trans (Grow.alloc _ _ _), eq⟩
            · have fs1 : ((x.state : Int) == 2) = false := by first | (simp; done) | (simp; omega)
              have fs2 : ((x.state : Int) = 2) = False := by first | (simp; done) | (simp; omega)
              have fs3 : (x.state = 2) = False := by first | (simp; done) | (simp; omega)
              have fs4 : (x.state == 2) = false := by first | (simp; done) | (simp; omega)
              have fs5 : ((x.state : Int) != 2) = true := by first | (simp; done) | (simp; omega)
              clear hside h2s
              go_wp2_with (first | (go_at_call 18; refine HSt.out.mono ?_; rintro e w1 ⟨rfl, hb⟩; have HB1 := Lib.hid hb; clear hb) | (go_at_call 19; refine (HST.out w1 HB1.out).mono ?_; rintro e w2 ⟨A2, vp, rfl, q1, q2, q3, q4⟩; obtain ⟨va, vn, vc, rfl⟩ := frow_form q1; have H2 := Lib.hid (And.intro q2 (And.intro ((HL2.out w1 HB1.out).2.trans q3) (q4.trans HG.out.2.1))); clear q1 q2 q3 q4))
              go_ret
              obtain ⟨q2, gq, eq⟩ := H2.out
              have hr := HRN.out.1
              rw [if_neg HKD.out] at hr
              simp only [Option.some.injEq, Prod.mk.injEq] at hr
              obtain ⟨rfl, rfl⟩ := hr
              exact ⟨rfl, A2, q2.alloc _, gq.trans (Grow.alloc _ _ _), eq⟩
        · cases hrun
end Go.Proofs.YtbefcdjcefmicaaGreat.Em

namespace Go.Proofs.YtbefcdjcefmicaaGreat.Em
open Go.ChangeShapes Go.WideShapes Go.ChangeAt Go.RowKit En
set_option linter.unusedVariables false
set_option linter.unusedSimpArgs false
set_option maxRecDepth 100000
set_option maxHeartbeats 1600000

def BegunNot (A : Book) (w : World) (σ' : St) (er : Nat) : Ending → World → Prop := fun e w' => ∃ A', e = .returned (.tuple #[.int .i64 0, .int .i64 (er : Int)]) ∧ Live A' σ' w' ∧ Grow A.L w A'.L w' ∧ A'.be = A.be
theorem Live.tick {A : Book} {σ : St} {w w' : World} (hL : Live A σ w) (r : Rep A σ.tick w') (g : Grow A.L w A.L w') : Live A σ.tick w' :=
  ⟨r, hL.mp, hL.mt, fun s h c hc => let ⟨e1, k, e2, e3⟩ := hL.call s h c hc; ⟨e1, k, e2, (show KRep (kp A σ s) A.L w' (A.vnext s) k from e3.grow g)⟩, hL.idle⟩
theorem begin_over {A : Book} {σ : St} {w : World} (hL : Live A σ w) (s : Nat) (hs : s < 8) (level : Nat) (hl1 : 1 ≤ level) (hl2 : level ≤ 3) (hn : σ.txns.getD s none = none) (hmd : σ.made < 2000) (hx : σ.word 0 < 18446744073709551616) (hlim : σ.limit ≤ timeOf (σ.word 0)) (hcnt : σ.count < 3000000000000000000) :
    Calls Tryz.prog 41 #[.pointer (some ⟨A.be, 0, none⟩), .int .i64 (s : Int), .int .i64 (level : Int)] w (BegunNot A w σ.tick 16) := by
  have hR := hL.rep
  have b1 : (s : Int) < 8 := by omega
  have b0 : (0 : Int) ≤ (s : Int) := by omega
  have hsok := Lib.hid (sessionOk s hs)
  have hlev := Lib.hid (levelOk level hl1 hl2)
  have e2 : w.cell? ⟨A.be, 2, none⟩ = some (.pointer (some ⟨A.ba, 0, none⟩)) := hR.eng 2 rfl
  have v5 := hR.eng (5 + s) (engCs_txn A σ hs)
  rw [show A.tp σ s = .pointer none by unfold Book.tp; rw [hn]] at v5
  have v21 : w.cell? ⟨A.be, 21, none⟩ = some (.int .i64 (σ.made : Int)) := hR.eng 21 rfl
  have d1 : decide ((2000 : Int) ≤ (σ.made : Int)) = false := by simp; omega
  have d2 : ((2000 : Int) ≤ (σ.made : Int)) = False := by simp; omega
  have d3 : (2000 ≤ σ.made) = False := by simp; omega
  have l1 : decide ((σ.limit : Int) ≤ (timeOf (σ.word 0) : Int)) = true := by simp; omega
  have l2 : ((σ.limit : Int) ≤ (timeOf (σ.word 0) : Int)) = True := by simp; omega
  have l3 : (σ.limit ≤ timeOf (σ.word 0)) = True := by simp; omega
  have HLo := Lib.hid (load_i hR 0 0 rfl (by rw [hR.nw]; omega) (by omega))
  have HDr := Lib.hid (fun w' => drawn_any (σ.word 0) hx w')
  have H1 : Hid (∀ w1, Rep A σ.tick w1 → Grow A.L w A.L w1 → w1.cell? ⟨A.be, 1, none⟩ = some (.int .u64 (σ.limit : Int))) := fun w1 r g => r.eng 1 rfl
  have HL0 := Lib.hid hL
  clear hL hs hl1 hl2 hn hmd hx hlim hcnt hR
  go_enter Tryz.func41, Tryz.ntmps41
  go_wp2_with (first | (go_at_call 48; refine (hsok.out _).mono ?_; rintro e w' ⟨rfl, rfl⟩) | (go_at_call 72; refine (hlev.out _).mono ?_; rintro e w' ⟨rfl, rfl⟩) | (go_at_call 73; refine HLo.out.mono ?_; rintro e w1 ⟨rfl, q1, q2⟩; have v1 := H1.out w1 q1 q2; have HQ1 := Lib.hid (And.intro q1 q2); clear q1 q2) | (go_at_call 59; refine (HDr.out _).mono ?_; rintro e w' ⟨rfl, rfl⟩))
  go_ret2
  exact ⟨A, rfl, HL0.out.tick HQ1.out.1 HQ1.out.2, HQ1.out.2, rfl⟩
theorem begin_taken {A : Book} {σ : St} {w : World} (hL : Live A σ w) (s : Nat) (hs : s < 8) (level : Nat) (hl1 : 1 ≤ level) (hl2 : level ≤ 3) (t : Txn) (ht : σ.txns.getD s none = some t) :
    Calls Tryz.prog 41 #[.pointer (some ⟨A.be, 0, none⟩), .int .i64 (s : Int), .int .i64 (level : Int)] w (BegunNot A w σ 9) := by
  have hR := hL.rep
  have b1 : (s : Int) < 8 := by omega
  have b0 : (0 : Int) ≤ (s : Int) := by omega
  have hsok := Lib.hid (sessionOk s hs)
  have hlev := Lib.hid (levelOk level hl1 hl2)
  have v5 := hR.eng (5 + s) (engCs_txn A σ hs)
  rw [show A.tp σ s = .pointer (some ⟨A.bt s, 0, none⟩) by unfold Book.tp; rw [ht]] at v5
  have HL0 := Lib.hid hL
  clear hL hs hl1 hl2 ht hR
  go_enter Tryz.func41, Tryz.ntmps41
  go_wp2_with (first | (go_at_call 48; refine (hsok.out _).mono ?_; rintro e w' ⟨rfl, rfl⟩) | (go_at_call 72; refine (hlev.out _).mono ?_; rintro e w' ⟨rfl, rfl⟩))
  go_ret2
  exact ⟨A, rfl, HL0.out, Grow.refl _ _, rfl⟩
/-- A transaction may not begin: the state, the error. -/
def beginNot (σ : St) (s level : Nat) : Option (St × Nat) :=
  if 1 ≤ level ∧ level ≤ 3 then
    match σ.txns.getD s none with
    | some _ => some (σ, 9)
    | none => if σ.made < 2000 ∧ σ.word 0 < 18446744073709551616 ∧ σ.limit ≤ timeOf (σ.word 0) ∧ σ.count < 3000000000000000000 then some (σ.tick, 16) else none
  else none
theorem beginNot_to {A : Book} {σ σ1 : St} {w : World} (hL : Live A σ w) {s level er : Nat} (hs : s < 8) (h : beginNot σ s level = some (σ1, er)) : Calls Tryz.prog 41 #[.pointer (some ⟨A.be, 0, none⟩), .int .i64 (s : Int), .int .i64 (level : Int)] w (BegunNot A w σ1 er) := by
  unfold beginNot at h
  split at h
  · rename_i hl
    split at h
    · rename_i t ht
      simp only [Option.some.injEq, Prod.mk.injEq] at h
      obtain ⟨rfl, rfl⟩ := h
      exact begin_taken hL s hs level hl.1 hl.2 t ht
    · rename_i hn
      split at h
      · rename_i hh
        simp only [Option.some.injEq, Prod.mk.injEq] at h
        obtain ⟨rfl, rfl⟩ := h
        exact begin_over hL s hs level hl.1 hl.2 hn hh.1 hh.2.1 hh.2.2.1 hh.2.2.2
      · cases h
  · cases h
end Go.Proofs.YtbefcdjcefmicaaGreat.Em

namespace Go.Proofs.YtbefcdjcefmicaaGreat.Em
open Go.ChangeShapes Go.WideShapes Go.ChangeAt Go.RowKit En
set_option linter.unusedVariables false
set_option linter.unusedSimpArgs false
set_option maxRecDepth 100000
set_option maxHeartbeats 1600000

/-- An array's element, by a law of its own. -/
theorem wpList_index {P : Program} {w : World} {ops : Array Oper} {rest : List Oper} {o : Oper} {a : Act} {Q : Exit → Act → World → Prop} (hg : o.guard = none) (x ix : Operand) (ty : TypeId) (hop : o.op = .index ty x ix) {v : Value} (hrun : (Instr.index ty (a.eval x) (a.eval ix)).run P w = .ok v w)
    (hK : wpList P ops Q rest (a.put o.dst v) w) : wpList P ops Q (o :: rest) a w := by
  refine wpList_plain hg fun K' hK' => ?_
  unfold Oper.wp
  simp [execOp, hop, hrun, Result.andThen]
  exact hK' _ _ hK
/-- A number is put behind a row that was made behind w0. -/
theorem wp_int {ops : Array Oper} {rest : List Oper} {o : Oper} {a : Act} {Q : Exit → Act → World → Prop} (w : World) (hgd : o.guard = none) (s x : Operand)
    (ho : o.op = .call { callee := .builtin .append, args := #[s, x], argTypes := #[33, 33] })
    (w0 : World) (hb : Below w0.heap.size w0 w) (av : Option Addr) (m cap : Nat) (xs : List Value) (hs : a.eval s = .slice av m cap) (hown : w.ownsRow w0.heap.size 3 1 (.slice av m cap) m xs) (hm : m < 4000000)
    (t0 : Int) (hx : a.eval x = .slice (some ⟨w.heap.size, 0, none⟩) 1 1)
    (h : ∀ av' cap' w', w'.ownsRow w0.heap.size 3 1 (.slice av' (m + 1) cap') (m + 1) (xs ++ [.int .i64 t0]) → Below w0.heap.size w0 w' → wpList Tryz.prog ops Q rest (a.put o.dst (.slice av' (m + 1) cap')) w') :
    wpList Tryz.prog ops Q (o :: rest) a (w.alloc (.cells #[.int .i64 t0] 3)) := by
  obtain ⟨ii, hii, hz0, hz1, hz2⟩ := info_parts infoI
  have hw := hb.size
  have hown' : (w.alloc (.cells #[.int .i64 t0] 3)).ownsRow w0.heap.size 3 1 (.slice av m cap) m xs := own_same hown fun g hg => Below.heap_alloc _ _ _ (hown.lt g hg).2
  refine Ow.wpList_append_to _ hgd s x 33 ho w0.heap.size 3 ii _ 1 8 Tryz.underlying33 hii hz0 hz1 hz2 rfl (by decide) (.slice av m cap) m xs hs hown' ⟨w.heap.size, 0, none⟩ 1 1 (by omega) [.int .i64 t0] hx rfl (fun j u hu => Ow.new_row w [.int .i64 t0] _ _ rfl j u hu) (by intro u hu; simp at hu; subst hu; rfl) (by unfold maxLen; omega) (by omega) (by simp; omega) ?_
  intro v' w' q1 q2 q3
  obtain ⟨av', cap', rfl, _⟩ := Ow.own_form q1
  exact h av' cap' w' q1 ((hb.alloc hw _).grown q2 (by simp; omega) (fun g hg => (hown.lt g hg).1))
def liveTo (σ : St) (k : Nat) : List Nat := (List.range k).filter fun s => (σ.txns.getD s none).isSome
theorem liveTo_succ (σ : St) (k : Nat) : liveTo σ (k + 1) = liveTo σ k ++ (if (σ.txns.getD k none).isSome then [k] else []) := by
  unfold liveTo
  rw [List.range_succ, List.filter_append]
  congr 1
  simp only [List.filter_cons, List.filter_nil]
theorem liveTo_le (σ : St) (k : Nat) : (liveTo σ k).length ≤ k := by
  unfold liveTo
  have := List.length_filter_le (fun s => (σ.txns.getD s none).isSome) (List.range k)
  simpa using this
theorem liveRow_any {A : Book} {σ : St} {w : World} (hR : Rep A σ w) :
    Calls Tryz.prog 30 #[.pointer (some ⟨A.be, 0, none⟩)] w fun e w' => ∃ av cap, e = .returned (.slice av σ.live.length cap) ∧ w'.ownsRow w.heap.size 3 1 (.slice av σ.live.length cap) σ.live.length (σ.live.map i64) ∧ Below w.heap.size w w' := by
  have hE : ∀ k : Nat, k < 8 → w.cell? ⟨A.be, 5 + k, none⟩ = some (A.tp σ k) := fun k hk => hR.eng (5 + k) (engCs_txn A σ hk)
  have e0 := hE 0 (by omega)
  have e1 := hE 1 (by omega)
  have e2 := hE 2 (by omega)
  have e3 := hE 3 (by omega)
  have e4 := hE 4 (by omega)
  have e5 := hE 5 (by omega)
  have e6 := hE 6 (by omega)
  have e7 := hE 7 (by omega)
  have hls : σ.live = liveTo σ 8 := rfl
  rw [hls]
  obtain ⟨tv, htv⟩ : ∃ tv : Nat → Option Addr, ∀ k, A.tp σ k = .pointer (tv k) ∧ ((tv k).isSome = (σ.txns.getD k none).isSome) := by
    refine ⟨fun k => if (σ.txns.getD k none).isSome = true then some ⟨A.bt k, 0, none⟩ else none, fun k => ?_⟩
    unfold Book.tp
    dsimp only
    generalize σ.txns.getD k none = ot
    cases ot <;> exact ⟨rfl, rfl⟩
  rw [(htv 0).1] at e0
  rw [(htv 1).1] at e1
  rw [(htv 2).1] at e2
  rw [(htv 3).1] at e3
  rw [(htv 4).1] at e4
  rw [(htv 5).1] at e5
  rw [(htv 6).1] at e6
  rw [(htv 7).1] at e7
  have HTV := Lib.hid (fun k => (htv k).2)
  clear hE hR hls htv
  go_enter Tryz.func30, Tryz.ntmps30
  go_wp2
  go_loopw [3, 10] (fun l i wr => ∃ k : Nat, k ≤ 8 ∧ i = .int .i64 (k : Int) ∧ Below w.heap.size w wr ∧ ∃ av cap, l = .slice av (liveTo σ k).length cap ∧ wr.ownsRow w.heap.size 3 1 l (liveTo σ k).length ((liveTo σ k).map i64)) (fun _ i _ => 8 - (intOf i).toNat)
  case atStart => exact ⟨0, by omega, rfl, Below.refl _ _, none, 0, rfl, rfl, .inl ⟨rfl, rfl⟩⟩
  case round =>
    obtain ⟨k, hk, rfl, hb, av, cap, rfl, hown⟩ := hrel
    have hm0 := liveTo_le σ k
    have hsu := liveTo_succ σ k
    generalize hll : (liveTo σ k).length = m at *
    generalize hxs : (liveTo σ k).map i64 = xs at *
    have hT := HTV.out k
    have HS := Lib.hid (And.intro hsu (And.intro hll (And.intro hxs hk)))
    clear hsu hll hxs
    by_cases hlt : k < 8
    · have n1 : IntKind.i64.wrap ((k : Int) + 1) = (k : Int) + 1 := by rw [IntKind.wrap_i64]; omega
      have hm1 : m < 4000000 := by omega
      clear hm0 hk
      match k, hlt with
      | 0, _ =>
        cases hv : tv 0 with
        | none =>
          rw [hv] at hT
          have hTn : (σ.txns.getD 0 none).isSome = false := hT.symm
          rw [hv] at e0
          have hnew : liveTo σ (0 + 1) = liveTo σ 0 := by rw [HS.out.1, hTn]; simp
          have HN := Lib.hid hnew
          have hix : ∀ w', (Instr.index 106 (.agg #[.pointer none, .pointer (tv 1), .pointer (tv 2), .pointer (tv 3), .pointer (tv 4), .pointer (tv 5), .pointer (tv 6), .pointer (tv 7)]) (.int .i64 ((0 : Nat) : Int))).run Tryz.prog w' = .ok (.pointer none) w' := fun w' => by kernel_rfl
          have HO := Lib.hid (And.intro hown hb)
          clear hT hTn hnew hown hb
          go_wp2_with (refine wpList_index rfl (.tmp 9) (.tmp 10) 106 rfl (hix _) ?_)
          go_roundw
          case rel => exact ⟨0 + 1, by omega, rfl, HO.out.2, av, cap, by rw [HN.out, HS.out.2.1], by rw [HN.out, HS.out.2.1, HS.out.2.2.1]; exact HO.out.1⟩
          case measure => simp [intOf]
        | some ad =>
          rw [hv] at hT
          have hTn : (σ.txns.getD 0 none).isSome = true := hT.symm
          rw [hv] at e0
          have hnew : liveTo σ (0 + 1) = liveTo σ 0 ++ [0] := by rw [HS.out.1, hTn]; simp
          have HN := Lib.hid hnew
          have hix : ∀ w', (Instr.index 106 (.agg #[.pointer (some ad), .pointer (tv 1), .pointer (tv 2), .pointer (tv 3), .pointer (tv 4), .pointer (tv 5), .pointer (tv 6), .pointer (tv 7)]) (.int .i64 ((0 : Nat) : Int))).run Tryz.prog w' = .ok (.pointer (some ad)) w' := fun w' => by kernel_rfl
          clear hT hTn hnew
          go_wp2_with (first | (refine wpList_index rfl (.tmp 9) (.tmp 10) 106 rfl (hix _) ?_) | (refine wp_int _ rfl _ _ rfl w (by assumption) _ _ _ _ rfl (by assumption) (by omega) _ rfl ?_; intro avl capl wl ql pl))
          go_roundw
          case rel => exact ⟨0 + 1, by omega, rfl, pl, avl, capl, by rw [HN.out, List.length_append, HS.out.2.1]; rfl, by rw [HN.out, List.length_append, HS.out.2.1, List.map_append, HS.out.2.2.1]; exact ql⟩
          case measure => simp [intOf]
      | 1, _ =>
        cases hv : tv 1 with
        | none =>
          rw [hv] at hT
          have hTn : (σ.txns.getD 1 none).isSome = false := hT.symm
          rw [hv] at e1
          have hnew : liveTo σ (1 + 1) = liveTo σ 1 := by rw [HS.out.1, hTn]; simp
          have HN := Lib.hid hnew
          have hix : ∀ w', (Instr.index 106 (.agg #[.pointer (tv 0), .pointer none, .pointer (tv 2), .pointer (tv 3), .pointer (tv 4), .pointer (tv 5), .pointer (tv 6), .pointer (tv 7)]) (.int .i64 ((1 : Nat) : Int))).run Tryz.prog w' = .ok (.pointer none) w' := fun w' => by kernel_rfl
          have HO := Lib.hid (And.intro hown hb)
          clear hT hTn hnew hown hb
          go_wp2_with (refine wpList_index rfl (.tmp 9) (.tmp 10) 106 rfl (hix _) ?_)
          go_roundw
          case rel => exact ⟨1 + 1, by omega, rfl, HO.out.2, av, cap, by rw [HN.out, HS.out.2.1], by rw [HN.out, HS.out.2.1, HS.out.2.2.1]; exact HO.out.1⟩
          case measure => simp [intOf]
        | some ad =>
          rw [hv] at hT
          have hTn : (σ.txns.getD 1 none).isSome = true := hT.symm
          rw [hv] at e1
          have hnew : liveTo σ (1 + 1) = liveTo σ 1 ++ [1] := by rw [HS.out.1, hTn]; simp
          have HN := Lib.hid hnew
          have hix : ∀ w', (Instr.index 106 (.agg #[.pointer (tv 0), .pointer (some ad), .pointer (tv 2), .pointer (tv 3), .pointer (tv 4), .pointer (tv 5), .pointer (tv 6), .pointer (tv 7)]) (.int .i64 ((1 : Nat) : Int))).run Tryz.prog w' = .ok (.pointer (some ad)) w' := fun w' => by kernel_rfl
          clear hT hTn hnew
          go_wp2_with (first | (refine wpList_index rfl (.tmp 9) (.tmp 10) 106 rfl (hix _) ?_) | (refine wp_int _ rfl _ _ rfl w (by assumption) _ _ _ _ rfl (by assumption) (by omega) _ rfl ?_; intro avl capl wl ql pl))
          go_roundw
          case rel => exact ⟨1 + 1, by omega, rfl, pl, avl, capl, by rw [HN.out, List.length_append, HS.out.2.1]; rfl, by rw [HN.out, List.length_append, HS.out.2.1, List.map_append, HS.out.2.2.1]; exact ql⟩
          case measure => simp [intOf]
      | 2, _ =>
        cases hv : tv 2 with
        | none =>
          rw [hv] at hT
          have hTn : (σ.txns.getD 2 none).isSome = false := hT.symm
          rw [hv] at e2
          have hnew : liveTo σ (2 + 1) = liveTo σ 2 := by rw [HS.out.1, hTn]; simp
          have HN := Lib.hid hnew
          have hix : ∀ w', (Instr.index 106 (.agg #[.pointer (tv 0), .pointer (tv 1), .pointer none, .pointer (tv 3), .pointer (tv 4), .pointer (tv 5), .pointer (tv 6), .pointer (tv 7)]) (.int .i64 ((2 : Nat) : Int))).run Tryz.prog w' = .ok (.pointer none) w' := fun w' => by kernel_rfl
          have HO := Lib.hid (And.intro hown hb)
          clear hT hTn hnew hown hb
          go_wp2_with (refine wpList_index rfl (.tmp 9) (.tmp 10) 106 rfl (hix _) ?_)
          go_roundw
          case rel => exact ⟨2 + 1, by omega, rfl, HO.out.2, av, cap, by rw [HN.out, HS.out.2.1], by rw [HN.out, HS.out.2.1, HS.out.2.2.1]; exact HO.out.1⟩
          case measure => simp [intOf]
        | some ad =>
          rw [hv] at hT
          have hTn : (σ.txns.getD 2 none).isSome = true := hT.symm
          rw [hv] at e2
          have hnew : liveTo σ (2 + 1) = liveTo σ 2 ++ [2] := by rw [HS.out.1, hTn]; simp
          have HN := Lib.hid hnew
          have hix : ∀ w', (Instr.index 106 (.agg #[.pointer (tv 0), .pointer (tv 1), .pointer (some ad), .pointer (tv 3), .pointer (tv 4), .pointer (tv 5), .pointer (tv 6), .pointer (tv 7)]) (.int .i64 ((2 : Nat) : Int))).run Tryz.prog w' = .ok (.pointer (some ad)) w' := fun w' => by kernel_rfl
          clear hT hTn hnew
          go_wp2_with (first | (refine wpList_index rfl (.tmp 9) (.tmp 10) 106 rfl (hix _) ?_) | (refine wp_int _ rfl _ _ rfl w (by assumption) _ _ _ _ rfl (by assumption) (by omega) _ rfl ?_; intro avl capl wl ql pl))
          go_roundw
          case rel => exact ⟨2 + 1, by omega, rfl, pl, avl, capl, by rw [HN.out, List.length_append, HS.out.2.1]; rfl, by rw [HN.out, List.length_append, HS.out.2.1, List.map_append, HS.out.2.2.1]; exact ql⟩
          case measure => simp [intOf]
      | 3, _ =>
        cases hv : tv 3 with
        | none =>
          rw [hv] at hT
          have hTn : (σ.txns.getD 3 none).isSome = false := hT.symm
          rw [hv] at e3
          have hnew : liveTo σ (3 + 1) = liveTo σ 3 := by rw [HS.out.1, hTn]; simp
          have HN := Lib.hid hnew
          have hix : ∀ w', (Instr.index 106 (.agg #[.pointer (tv 0), .pointer (tv 1), .pointer (tv 2), .pointer none, .pointer (tv 4), .pointer (tv 5), .pointer (tv 6), .pointer (tv 7)]) (.int .i64 ((3 : Nat) : Int))).run Tryz.prog w' = .ok (.pointer none) w' := fun w' => by kernel_rfl
          have HO := Lib.hid (And.intro hown hb)
          clear hT hTn hnew hown hb
          go_wp2_with (refine wpList_index rfl (.tmp 9) (.tmp 10) 106 rfl (hix _) ?_)
          go_roundw
          case rel => exact ⟨3 + 1, by omega, rfl, HO.out.2, av, cap, by rw [HN.out, HS.out.2.1], by rw [HN.out, HS.out.2.1, HS.out.2.2.1]; exact HO.out.1⟩
          case measure => simp [intOf]
        | some ad =>
          rw [hv] at hT
          have hTn : (σ.txns.getD 3 none).isSome = true := hT.symm
          rw [hv] at e3
          have hnew : liveTo σ (3 + 1) = liveTo σ 3 ++ [3] := by rw [HS.out.1, hTn]; simp
          have HN := Lib.hid hnew
          have hix : ∀ w', (Instr.index 106 (.agg #[.pointer (tv 0), .pointer (tv 1), .pointer (tv 2), .pointer (some ad), .pointer (tv 4), .pointer (tv 5), .pointer (tv 6), .pointer (tv 7)]) (.int .i64 ((3 : Nat) : Int))).run Tryz.prog w' = .ok (.pointer (some ad)) w' := fun w' => by kernel_rfl
          clear hT hTn hnew
          go_wp2_with (first | (refine wpList_index rfl (.tmp 9) (.tmp 10) 106 rfl (hix _) ?_) | (refine wp_int _ rfl _ _ rfl w (by assumption) _ _ _ _ rfl (by assumption) (by omega) _ rfl ?_; intro avl capl wl ql pl))
          go_roundw
          case rel => exact ⟨3 + 1, by omega, rfl, pl, avl, capl, by rw [HN.out, List.length_append, HS.out.2.1]; rfl, by rw [HN.out, List.length_append, HS.out.2.1, List.map_append, HS.out.2.2.1]; exact ql⟩
          case measure => simp [intOf]
      | 4, _ =>
        cases hv : tv 4 with
        | none =>
          rw [hv] at hT
          have hTn : (σ.txns.getD 4 none).isSome = false := hT.symm
          rw [hv] at e4
          have hnew : liveTo σ (4 + 1) = liveTo σ 4 := by rw [HS.out.1, hTn]; simp
          have HN := Lib.hid hnew
          have hix : ∀ w', (Instr.index 106 (.agg #[.pointer (tv 0), .pointer (tv 1), .pointer (tv 2), .pointer (tv 3), .pointer none, .pointer (tv 5), .pointer (tv 6), .pointer (tv 7)]) (.int .i64 ((4 : Nat) : Int))).run Tryz.prog w' = .ok (.pointer none) w' := fun w' => by kernel_rfl
          have HO := Lib.hid (And.intro hown hb)
          clear hT hTn hnew hown hb
          go_wp2_with (refine wpList_index rfl (.tmp 9) (.tmp 10) 106 rfl (hix _) ?_)
          go_roundw
          case rel => exact ⟨4 + 1, by omega, rfl, HO.out.2, av, cap, by rw [HN.out, HS.out.2.1], by rw [HN.out, HS.out.2.1, HS.out.2.2.1]; exact HO.out.1⟩
          case measure => simp [intOf]
        | some ad =>
          rw [hv] at hT
          have hTn : (σ.txns.getD 4 none).isSome = true := hT.symm
          rw [hv] at e4
          have hnew : liveTo σ (4 + 1) = liveTo σ 4 ++ [4] := by rw [HS.out.1, hTn]; simp
          have HN := Lib.hid hnew
          have hix : ∀ w', (Instr.index 106 (.agg #[.pointer (tv 0), .pointer (tv 1), .pointer (tv 2), .pointer (tv 3), .pointer (some ad), .pointer (tv 5), .pointer (tv 6), .pointer (tv 7)]) (.int .i64 ((4 : Nat) : Int))).run Tryz.prog w' = .ok (.pointer (some ad)) w' := fun w' => by kernel_rfl
          clear hT hTn hnew
          go_wp2_with (first | (refine wpList_index rfl (.tmp 9) (.tmp 10) 106 rfl (hix _) ?_) | (refine wp_int _ rfl _ _ rfl w (by assumption) _ _ _ _ rfl (by assumption) (by omega) _ rfl ?_; intro avl capl wl ql pl))
          go_roundw
          case rel => exact ⟨4 + 1, by omega, rfl, pl, avl, capl, by rw [HN.out, List.length_append, HS.out.2.1]; rfl, by rw [HN.out, List.length_append, HS.out.2.1, List.map_append, HS.out.2.2.1]; exact ql⟩
          case measure => simp [intOf]
      | 5, _ =>
        cases hv : tv 5 with
        | none =>
          rw [hv] at hT
          have hTn : (σ.txns.getD 5 none).isSome = false := hT.symm
          rw [hv] at e5
          have hnew : liveTo σ (5 + 1) = liveTo σ 5 := by rw [HS.out.1, hTn]; simp
          have HN := Lib.hid hnew
          have hix : ∀ w', (Instr.index 106 (.agg #[.pointer (tv 0), .pointer (tv 1), .pointer (tv 2), .pointer (tv 3), .pointer (tv 4), .pointer none, .pointer (tv 6), .pointer (tv 7)]) (.int .i64 ((5 : Nat) : Int))).run Tryz.prog w' = .ok (.pointer none) w' := fun w' => by kernel_rfl
          have HO := Lib.hid (And.intro hown hb)
          clear hT hTn hnew hown hb
          go_wp2_with (refine wpList_index rfl (.tmp 9) (.tmp 10) 106 rfl (hix _) ?_)
          go_roundw
          case rel => exact ⟨5 + 1, by omega, rfl, HO.out.2, av, cap, by rw [HN.out, HS.out.2.1], by rw [HN.out, HS.out.2.1, HS.out.2.2.1]; exact HO.out.1⟩
          case measure => simp [intOf]
        | some ad =>
          rw [hv] at hT
          have hTn : (σ.txns.getD 5 none).isSome = true := hT.symm
          rw [hv] at e5
          have hnew : liveTo σ (5 + 1) = liveTo σ 5 ++ [5] := by rw [HS.out.1, hTn]; simp
          have HN := Lib.hid hnew
          have hix : ∀ w', (Instr.index 106 (.agg #[.pointer (tv 0), .pointer (tv 1), .pointer (tv 2), .pointer (tv 3), .pointer (tv 4), .pointer (some ad), .pointer (tv 6), .pointer (tv 7)]) (.int .i64 ((5 : Nat) : Int))).run Tryz.prog w' = .ok (.pointer (some ad)) w' := fun w' => by kernel_rfl
          clear hT hTn hnew
          go_wp2_with (first | (refine wpList_index rfl (.tmp 9) (.tmp 10) 106 rfl (hix _) ?_) | (refine wp_int _ rfl _ _ rfl w (by assumption) _ _ _ _ rfl (by assumption) (by omega) _ rfl ?_; intro avl capl wl ql pl))
          go_roundw
          case rel => exact ⟨5 + 1, by omega, rfl, pl, avl, capl, by rw [HN.out, List.length_append, HS.out.2.1]; rfl, by rw [HN.out, List.length_append, HS.out.2.1, List.map_append, HS.out.2.2.1]; exact ql⟩
          case measure => simp [intOf]
      | 6, _ =>
        cases hv : tv 6 with
        | none =>
          rw [hv] at hT
          have hTn : (σ.txns.getD 6 none).isSome = false := hT.symm
          rw [hv] at e6
          have hnew : liveTo σ (6 + 1) = liveTo σ 6 := by rw [HS.out.1, hTn]; simp
          have HN := Lib.hid hnew
          have hix : ∀ w', (Instr.index 106 (.agg #[.pointer (tv 0), .pointer (tv 1), .pointer (tv 2), .pointer (tv 3), .pointer (tv 4), .pointer (tv 5), .pointer none, .pointer (tv 7)]) (.int .i64 ((6 : Nat) : Int))).run Tryz.prog w' = .ok (.pointer none) w' := fun w' => by kernel_rfl
          have HO := Lib.hid (And.intro hown hb)
          clear hT hTn hnew hown hb
          go_wp2_with (refine wpList_index rfl (.tmp 9) (.tmp 10) 106 rfl (hix _) ?_)
          go_roundw
          case rel => exact ⟨6 + 1, by omega, rfl, HO.out.2, av, cap, by rw [HN.out, HS.out.2.1], by rw [HN.out, HS.out.2.1, HS.out.2.2.1]; exact HO.out.1⟩
          case measure => simp [intOf]
        | some ad =>
          rw [hv] at hT
          have hTn : (σ.txns.getD 6 none).isSome = true := hT.symm
          rw [hv] at e6
          have hnew : liveTo σ (6 + 1) = liveTo σ 6 ++ [6] := by rw [HS.out.1, hTn]; simp
          have HN := Lib.hid hnew
          have hix : ∀ w', (Instr.index 106 (.agg #[.pointer (tv 0), .pointer (tv 1), .pointer (tv 2), .pointer (tv 3), .pointer (tv 4), .pointer (tv 5), .pointer (some ad), .pointer (tv 7)]) (.int .i64 ((6 : Nat) : Int))).run Tryz.prog w' = .ok (.pointer (some ad)) w' := fun w' => by kernel_rfl
          clear hT hTn hnew
          go_wp2_with (first | (refine wpList_index rfl (.tmp 9) (.tmp 10) 106 rfl (hix _) ?_) | (refine wp_int _ rfl _ _ rfl w (by assumption) _ _ _ _ rfl (by assumption) (by omega) _ rfl ?_; intro avl capl wl ql pl))
          go_roundw
          case rel => exact ⟨6 + 1, by omega, rfl, pl, avl, capl, by rw [HN.out, List.length_append, HS.out.2.1]; rfl, by rw [HN.out, List.length_append, HS.out.2.1, List.map_append, HS.out.2.2.1]; exact ql⟩
          case measure => simp [intOf]
      | 7, _ =>
        cases hv : tv 7 with
        | none =>
          rw [hv] at hT
          have hTn : (σ.txns.getD 7 none).isSome = false := hT.symm
          rw [hv] at e7
          have hnew : liveTo σ (7 + 1) = liveTo σ 7 := by rw [HS.out.1, hTn]; simp
          have HN := Lib.hid hnew
          have hix : ∀ w', (Instr.index 106 (.agg #[.pointer (tv 0), .pointer (tv 1), .pointer (tv 2), .pointer (tv 3), .pointer (tv 4), .pointer (tv 5), .pointer (tv 6), .pointer none]) (.int .i64 ((7 : Nat) : Int))).run Tryz.prog w' = .ok (.pointer none) w' := fun w' => by kernel_rfl
          have HO := Lib.hid (And.intro hown hb)
          clear hT hTn hnew hown hb
          go_wp2_with (refine wpList_index rfl (.tmp 9) (.tmp 10) 106 rfl (hix _) ?_)
          go_roundw
          case rel => exact ⟨7 + 1, by omega, rfl, HO.out.2, av, cap, by rw [HN.out, HS.out.2.1], by rw [HN.out, HS.out.2.1, HS.out.2.2.1]; exact HO.out.1⟩
          case measure => simp [intOf]
        | some ad =>
          rw [hv] at hT
          have hTn : (σ.txns.getD 7 none).isSome = true := hT.symm
          rw [hv] at e7
          have hnew : liveTo σ (7 + 1) = liveTo σ 7 ++ [7] := by rw [HS.out.1, hTn]; simp
          have HN := Lib.hid hnew
          have hix : ∀ w', (Instr.index 106 (.agg #[.pointer (tv 0), .pointer (tv 1), .pointer (tv 2), .pointer (tv 3), .pointer (tv 4), .pointer (tv 5), .pointer (tv 6), .pointer (some ad)]) (.int .i64 ((7 : Nat) : Int))).run Tryz.prog w' = .ok (.pointer (some ad)) w' := fun w' => by kernel_rfl
          clear hT hTn hnew
          go_wp2_with (first | (refine wpList_index rfl (.tmp 9) (.tmp 10) 106 rfl (hix _) ?_) | (refine wp_int _ rfl _ _ rfl w (by assumption) _ _ _ _ rfl (by assumption) (by omega) _ rfl ?_; intro avl capl wl ql pl))
          go_roundw
          case rel => exact ⟨7 + 1, by omega, rfl, pl, avl, capl, by rw [HN.out, List.length_append, HS.out.2.1]; rfl, by rw [HN.out, List.length_append, HS.out.2.1, List.map_append, HS.out.2.2.1]; exact ql⟩
          case measure => simp [intOf]
      | k + 8, h => omega
    · obtain rfl : k = 8 := by omega
      clear hlt hT hk hm0
      have HO := Lib.hid (And.intro hown hb)
      clear hown hb
      go_wp2
      go_ret
      rw [HS.out.2.1, HS.out.2.2.1]
      exact ⟨av, cap, rfl, HO.out.1, HO.out.2⟩
end Go.Proofs.YtbefcdjcefmicaaGreat.Em

namespace Go.Proofs.YtbefcdjcefmicaaGreat.Em
open Go.ChangeShapes Go.WideShapes Go.ChangeAt Go.RowKit En
set_option linter.unusedVariables false
set_option linter.unusedSimpArgs false
set_option maxRecDepth 100000
set_option maxHeartbeats 1600000

def runOne (σ : St) (s : Nat) : Option (St × Bool) :=
  if (σ.status s).live = false then some (σ, false)
  else if (σ.status s).busy = false then (match issueOk σ s ⟨6, 0, 0, 0⟩ with | some σ1 => some (σ1, false) | none => none)
  else match oneStep σ s with | some (σ', _, _) => some (σ', true) | none => none
theorem one_any {A : Book} {σ : St} {w : World} (hL : Live A σ w) (s : Nat) (hs : s < 8) (σ2 : St) (b : Bool) (hrun : runOne σ s = some (σ2, b)) :
    Calls Tryz.prog 80 #[.pointer (some ⟨A.be, 0, none⟩), .int .i64 (s : Int)] w (Said A w σ2 (.bool b)) := by
  have HSt := Lib.hid (status_any hL s hs)
  have HL2 : Hid (∀ w1, Below w.heap.size w w1 → Live A σ (w1.alloc (.cells (statusCs (σ.status s)) 38)) ∧ Grow A.L w A.L (w1.alloc (.cells (statusCs (σ.status s)) 38))) := fun w1 hb => ⟨(hL.below hb).alloc _, (Grow.below hb).trans (Grow.alloc _ _ _)⟩
  have HSTEP : Hid (∀ σ' kd r' w1, oneStep σ s = some (σ', kd, r') → Below w.heap.size w w1 → Calls Tryz.prog 19 #[.pointer (some ⟨A.be, 0, none⟩), .int .i64 (s : Int)] (w1.alloc (.cells (statusCs (σ.status s)) 38)) (Stepped A (w1.alloc (.cells (statusCs (σ.status s)) 38)) σ' (kd : Int) r')) := fun σ' kd r' w1 h hb => step_calls ((hL.below hb).alloc (.cells (statusCs (σ.status s)) 38)) hs h
  have HISS : Hid (∀ σ1 w1, issueOk σ s ⟨6, 0, 0, 0⟩ = some σ1 → Below w.heap.size w w1 → Calls Tryz.prog 17 #[.pointer (some ⟨A.be, 0, none⟩), .int .i64 (s : Int), .agg #[.int .i64 6, .int .i64 0, .int .i64 0, .int .i64 0]] (w1.alloc (.cells (statusCs (σ.status s)) 38)) (Issued A (w1.alloc (.cells (statusCs (σ.status s)) 38)) σ1 0)) := fun σ1 w1 h hb => issue_to hs h A _ ((hL.below hb).alloc (.cells (statusCs (σ.status s)) 38))
  unfold runOne at hrun
  clear hL hs
  unfold statusCs at HSt HL2 HSTEP HISS
  generalize σ.status s = x at *
  cases hlv : x.live with
  | false =>
    rw [hlv] at HSt HL2
    rw [if_pos hlv] at hrun
    simp only [Option.some.injEq, Prod.mk.injEq] at hrun
    obtain ⟨rfl, rfl⟩ := hrun
    clear hlv HSTEP HISS
    go_enter Tryz.func80, Tryz.ntmps80
    go_wp2_with (go_at_call 18; refine HSt.out.mono ?_; rintro e w1 ⟨rfl, hb⟩; have HB1 := Lib.hid hb; clear hb)
    go_ret
    obtain ⟨q1, q2⟩ := HL2.out w1 HB1.out
    exact ⟨rfl, A, q1, q2, rfl⟩
  | true =>
    rw [if_neg (by simp [hlv])] at hrun
    rw [hlv] at HSt HL2 HSTEP HISS
    clear hlv
    cases hbu : x.busy with
    | false =>
      rw [hbu] at HSt HL2 HISS
      rw [if_pos hbu] at hrun
      split at hrun
      · rename_i σ1 hi
        simp only [Option.some.injEq, Prod.mk.injEq] at hrun
        obtain ⟨rfl, rfl⟩ := hrun
        have HI := Lib.hid (fun w1 hb => HISS.out σ1 w1 hi hb)
        clear hbu HSTEP HISS hi
        go_enter Tryz.func80, Tryz.ntmps80
        go_wp2_with (first | (go_at_call 18; refine HSt.out.mono ?_; rintro e w1 ⟨rfl, hb⟩; have HB1 := Lib.hid hb; clear hb) | (go_at_call 17; refine (HI.out w1 HB1.out).mono ?_; rintro e w2 ⟨A2, rfl, q1, q2, q3⟩; have H2 := Lib.hid (And.intro q1 (And.intro q2 q3)); clear q1 q2 q3))
        go_ret
        obtain ⟨q1, q2, q3⟩ := H2.out
        exact ⟨rfl, A2, q1, (HL2.out w1 HB1.out).2.trans q2, q3⟩
      · cases hrun
    | true =>
      rw [hbu] at HSt HL2 HSTEP
      rw [if_neg (by simp [hbu])] at hrun
      split at hrun
      · rename_i σ' kd r' hstep
        simp only [Option.some.injEq, Prod.mk.injEq] at hrun
        obtain ⟨rfl, rfl⟩ := hrun
        have HST := Lib.hid (fun w1 hb => HSTEP.out σ' kd r' w1 hstep hb)
        clear hbu HSTEP HISS hstep
        go_enter Tryz.func80, Tryz.ntmps80
        go_wp2_with (first | (go_at_call 18; refine HSt.out.mono ?_; rintro e w1 ⟨rfl, hb⟩; have HB1 := Lib.hid hb; clear hb) | (go_at_call 19; refine (HST.out w1 HB1.out).mono ?_; rintro e w2 ⟨A2, vp, rfl, q1, q2, q3, q4⟩; have H2 := Lib.hid (And.intro q2 (And.intro q3 q4)); clear q1 q2 q3 q4))
        go_ret
        obtain ⟨q1, q2, q3⟩ := H2.out
        exact ⟨rfl, A2, q1, (HL2.out w1 HB1.out).2.trans q2, q3⟩
      · cases hrun
end Go.Proofs.YtbefcdjcefmicaaGreat.Em
