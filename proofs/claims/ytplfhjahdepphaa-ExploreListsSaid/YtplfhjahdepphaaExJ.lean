/- Contract of the waking test of layer 27's laws. -/
import Derived.Test.YtplfhjahdepphaaExI
namespace Go.Proofs.Ytplfhjahdepphaa.Ex
open Go.ChangeShapes Go.WideShapes Go.ChangeAt Go.RowKit
set_option linter.unusedVariables false
set_option linter.unusedSimpArgs false
set_option maxRecDepth 100000

theorem sm21 : Sm [2, 1] := ⟨by decide, by decide⟩
theorem own_clip {w : World} {base n cap : Nat} {a : Option Addr} {e : TypeId} {xs : List Value} (h : w.ownsRow base e 1 (.slice a n cap) n xs) : Ow.Row w base 1 (.slice a n n) xs := by
  obtain ⟨_, _, he, _, _, h⟩ := Ow.own_form h
  simp only [Value.slice.injEq] at he
  obtain ⟨rfl, _, rfl⟩ := he
  exact h

theorem row_nats (w : World) (T : TypeId) (l : List Nat) (cs : Array Value) (n : Nat) (hc : cs = (nats l).toArray) (hn : l.length = n) (hm : n ≤ 1000000) : Ow.Row (w.alloc (.cells cs T)) 0 1 (.slice (some ⟨w.heap.size, 0, none⟩) n n) (nats l) := by
  subst hc
  have := row_lit w (nats l).toArray T n (by simp [nats_length, hn]) hm
  simpa using this
theorem row_nats2 (w : World) (o : Obj) (T : TypeId) (l : List Nat) (cs : Array Value) (n : Nat) (hc : cs = (nats l).toArray) (hn : l.length = n) (hm : n ≤ 1000000) : Ow.Row ((w.alloc o).alloc (.cells cs T)) 0 1 (.slice (some ⟨w.heap.size + 1, 0, none⟩) n n) (nats l) := by
  have := row_nats (w.alloc o) T l cs n hc hn hm
  rwa [show (w.alloc o).heap.size = w.heap.size + 1 by simp] at this
theorem same_eq (va vb : Value) (xs : List Nat) (ba bb : Nat) (w : World) (hA : Ow.Row w ba 1 va (nats xs)) (hB : Ow.Row w bb 1 vb (nats xs)) :
    Calls Try.prog 51 #[va, vb] w fun e w' => e = .returned (.bool true) ∧ Below w.heap.size w w' := by
  have := same_any va vb xs xs ba bb w hA hB
  rwa [show decide (xs = xs) = true by simp] at this

set_option maxHeartbeats 2000000 in
theorem awake_any (w : World) : Calls Try.prog 49 #[] w fun e w' => e = .returned (.bool true) ∧ Below w.heap.size w w' := by
  have HN : Hid (∀ v b W, Ow.Row W b 1 v (nats [2, 1]) → Calls Try.prog 50 #[v, .int .i64 1] W (NthP W [0, 1, 0])) := by
    intro v b W h
    have := nth_yes v [2, 1] sm21 b 1 (by decide +kernel) W h
    have e : nthF (sum [2, 1]) [2, 1] 1 = [0, 1, 0] := by decide +kernel
    rw [e] at this
    exact this
  have HRK : Hid (∀ v vs b bs W, Ow.Row W b 1 v (nats [2, 1]) → Ow.Row W bs 1 vs (nats [1, 0, 0]) → Calls Try.prog 53 #[v, vs] W (RankP W 2)) := by
    intro v vs b bs W h1 h2
    have hv : Valid [2, 1] [1, 0, 0] := ⟨by decide, by decide, by decide, by decide, by decide, by decide, trivial⟩
    have := rank_any v vs [2, 1] [1, 0, 0] sm21 hv rfl b bs W h1 h2
    have e : rankF [2, 1] [1, 0, 0] = 2 := by decide +kernel
    rw [e] at this
    exact this
  have HC : Hid (∀ v b W, Ow.Row W b 1 v (nats [2, 1]) → Calls Try.prog 48 #[v] W fun e w' => e = .returned (.int .i64 3) ∧ W = w') := by
    intro v b W h
    have := count_any v [2, 1] (by decide) (by decide) W (Plan.row_weak h (Nat.zero_le _))
    have e : cnt [2, 1] = 3 := by decide +kernel
    rw [e] at this
    exact this
  have HSC : Hid (∀ v b W, Ow.Row W b 1 v (nats [2, 1]) → Calls Try.prog 52 #[v, .int .i64 9] W (SchP W [[0, 0, 1], [0, 1, 0], [1, 0, 0]])) := by
    intro v b W h
    have := sched_any v [2, 1] sm21 b 9 (by decide) (by decide) W h
    have e : runF (min 9 (cN [2, 1])) (nthF (sum [2, 1]) [2, 1] 0) = [[0, 0, 1], [0, 1, 0], [1, 0, 0]] := by decide +kernel
    rw [e] at this
    exact this
  go_enter Try.func49, Try.ntmps49
  go_wp2_with fail
  refine (HN.out _ _ _ (row_lit w #[.int .i64 2, .int .i64 1] _ 2 rfl (by omega))).mono ?_
  rintro z w1 ⟨a1, n1, cap1, rfl, hown, hq⟩
  have hb1 : Below w.heap.size w w1 := (Plan.below_allocs1 w _).trans (hq.mono (by simp))
  have hr1 := own_clip hown
  clear hown hq HN
  go_wp2_with fail
  refine (HRK.out _ _ _ _ _ ((row_lit w1 #[.int .i64 2, .int .i64 1] _ 2 rfl (by omega)).below (Plan.below_allocs1 _ _)) (row_nats2 w1 _ _ [1, 0, 0] _ 3 rfl rfl (by omega))).mono ?_
  rintro z w2 ⟨rfl, hq⟩
  have hq2 : Below w1.heap.size w1 w2 := (Plan.below_allocs2 w1 _ _).trans (hq.mono (by simp; omega))
  have hb2 := hb1.trans (hq2.mono hb1.size)
  have hr2 := hr1.below hq2
  clear hb1 hq hq2 hr1 HRK
  go_wp2_with fail
  refine (HC.out _ _ _ (row_lit w2 #[.int .i64 2, .int .i64 1] _ 2 rfl (by omega))).mono ?_
  rintro z w3 ⟨rfl, rfl⟩
  clear HC
  go_wp2_with fail
  refine (same_eq _ _ [0, 1, 0] _ _ _ (hr2.below (Plan.below_allocs2 w2 _ _)) (row_nats2 w2 _ _ [0, 1, 0] _ 3 rfl rfl (by omega))).mono ?_
  rintro z w3 ⟨rfl, hq⟩
  have hq3 : Below w2.heap.size w2 w3 := (Plan.below_allocs2 w2 _ _).trans (hq.mono (by simp; omega))
  have hb3 := hb2.trans (hq3.mono hb2.size)
  clear hb2 hq hq3 hr2
  go_wp2_with fail
  refine (HSC.out _ _ _ (row_lit w3 #[.int .i64 2, .int .i64 1] _ 2 rfl (by omega))).mono ?_
  rintro z w4 ⟨gO, vs, rfl, _, _, _, _, _, hq⟩
  have hq3 : Below w3.heap.size w3 w4 := (Plan.below_allocs1 w3 _).trans (hq.mono (by simp))
  have hb4 := hb3.trans (hq3.mono hb3.size)
  clear hb3 hq hq3
  go_wp2_with fail
  go_ret
  exact ⟨rfl, hb4⟩
end Go.Proofs.Ytplfhjahdepphaa.Ex
