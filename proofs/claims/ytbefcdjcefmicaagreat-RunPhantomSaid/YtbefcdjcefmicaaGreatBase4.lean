/- Texts of this claim, laid together: Ha, Own, OwnR, OwnS, Hb, Hc, Hd. -/
import Derived.Test.YtbefcdjcefmicaaGreatBase3
import Derived.Deep.RegionHeld3
import Derived.Test.YtbefcdjcefmicaaGreatProg
import Derived.WalkKit
import Derived.ProofKit
import Derived.Laws.AppendOwn
import Derived.Laws.NewBlocks
import Derived.Laws.CopyOwn
import Derived.Laws.OwnMore
import Derived.Laws.AppendOwnNone
import Derived.ArgAppend
import Derived.Deep.RegionLaw
namespace Go.Proofs.YtbefcdjcefmicaaGreat.Em
open Go.ChangeShapes Go.WideShapes Go.ChangeAt Go.RowKit En
set_option linter.unusedVariables false
set_option linter.unusedSimpArgs false
set_option maxRecDepth 100000
set_option maxHeartbeats 1000000

theorem Fix.box {L : Lab} {w : World} {b : Nat} {v : Value} {T : TypeId} (h : Fix L w b (.cells #[v] T)) : Box L w b v := ⟨T, h⟩
theorem size_alloc1 (w : World) (o : Obj) : (w.alloc o).heap.size = w.heap.size + 1 := by simp
theorem fix_next {L : Lab} {w : World} {b : Nat} (hf : ∀ k, w.heap.size ≤ k → L k = none) (o : Obj) (hb : b = w.heap.size) : Fix L (w.alloc o) b o := by subst hb; exact Fix.alloc (hf _ (Nat.le_refl _))
theorem allocs1 {A : Book} {σ : St} {w : World} (hR : Rep A σ w) (c0 : Array Value) (T0 : TypeId) : Rep A σ (w.alloc (.cells c0 T0)) ∧ Grow A.L w A.L (w.alloc (.cells c0 T0)) ∧ Fix A.L (w.alloc (.cells c0 T0)) (w.heap.size) (.cells c0 T0) := by
  exact ⟨hR.alloc _, Grow.alloc _ _ _, fix_next hR.mem.fresh _ rfl⟩
theorem allocs2 {A : Book} {σ : St} {w : World} (hR : Rep A σ w) (c0 : Array Value) (T0 : TypeId) (c1 : Array Value) (T1 : TypeId) : Rep A σ ((w.alloc (.cells c0 T0)).alloc (.cells c1 T1)) ∧ Grow A.L w A.L ((w.alloc (.cells c0 T0)).alloc (.cells c1 T1)) ∧ Fix A.L ((w.alloc (.cells c0 T0)).alloc (.cells c1 T1)) (w.heap.size) (.cells c0 T0) ∧ Fix A.L ((w.alloc (.cells c0 T0)).alloc (.cells c1 T1)) (w.heap.size + 1) (.cells c1 T1) := by
  obtain ⟨r, g, f0⟩ := allocs1 hR c0 T0
  have k := Grow.alloc A.L (w.alloc (.cells c0 T0)) (.cells c1 T1)
  exact ⟨r.alloc _, g.trans k, f0.grow k, fix_next r.mem.fresh _ (by simp)⟩
theorem allocs3 {A : Book} {σ : St} {w : World} (hR : Rep A σ w) (c0 : Array Value) (T0 : TypeId) (c1 : Array Value) (T1 : TypeId) (c2 : Array Value) (T2 : TypeId) : Rep A σ (((w.alloc (.cells c0 T0)).alloc (.cells c1 T1)).alloc (.cells c2 T2)) ∧ Grow A.L w A.L (((w.alloc (.cells c0 T0)).alloc (.cells c1 T1)).alloc (.cells c2 T2)) ∧ Fix A.L (((w.alloc (.cells c0 T0)).alloc (.cells c1 T1)).alloc (.cells c2 T2)) (w.heap.size) (.cells c0 T0) ∧ Fix A.L (((w.alloc (.cells c0 T0)).alloc (.cells c1 T1)).alloc (.cells c2 T2)) (w.heap.size + 1) (.cells c1 T1) ∧ Fix A.L (((w.alloc (.cells c0 T0)).alloc (.cells c1 T1)).alloc (.cells c2 T2)) (w.heap.size + 2) (.cells c2 T2) := by
  obtain ⟨r, g, f0, f1⟩ := allocs2 hR c0 T0 c1 T1
  have k := Grow.alloc A.L ((w.alloc (.cells c0 T0)).alloc (.cells c1 T1)) (.cells c2 T2)
  exact ⟨r.alloc _, g.trans k, f0.grow k, f1.grow k, fix_next r.mem.fresh _ (by simp)⟩
theorem allocs4 {A : Book} {σ : St} {w : World} (hR : Rep A σ w) (c0 : Array Value) (T0 : TypeId) (c1 : Array Value) (T1 : TypeId) (c2 : Array Value) (T2 : TypeId) (c3 : Array Value) (T3 : TypeId) : Rep A σ ((((w.alloc (.cells c0 T0)).alloc (.cells c1 T1)).alloc (.cells c2 T2)).alloc (.cells c3 T3)) ∧ Grow A.L w A.L ((((w.alloc (.cells c0 T0)).alloc (.cells c1 T1)).alloc (.cells c2 T2)).alloc (.cells c3 T3)) ∧ Fix A.L ((((w.alloc (.cells c0 T0)).alloc (.cells c1 T1)).alloc (.cells c2 T2)).alloc (.cells c3 T3)) (w.heap.size) (.cells c0 T0) ∧ Fix A.L ((((w.alloc (.cells c0 T0)).alloc (.cells c1 T1)).alloc (.cells c2 T2)).alloc (.cells c3 T3)) (w.heap.size + 1) (.cells c1 T1) ∧ Fix A.L ((((w.alloc (.cells c0 T0)).alloc (.cells c1 T1)).alloc (.cells c2 T2)).alloc (.cells c3 T3)) (w.heap.size + 2) (.cells c2 T2) ∧ Fix A.L ((((w.alloc (.cells c0 T0)).alloc (.cells c1 T1)).alloc (.cells c2 T2)).alloc (.cells c3 T3)) (w.heap.size + 3) (.cells c3 T3) := by
  obtain ⟨r, g, f0, f1, f2⟩ := allocs3 hR c0 T0 c1 T1 c2 T2
  have k := Grow.alloc A.L (((w.alloc (.cells c0 T0)).alloc (.cells c1 T1)).alloc (.cells c2 T2)) (.cells c3 T3)
  exact ⟨r.alloc _, g.trans k, f0.grow k, f1.grow k, f2.grow k, fix_next r.mem.fresh _ (by simp)⟩
theorem allocs5 {A : Book} {σ : St} {w : World} (hR : Rep A σ w) (c0 : Array Value) (T0 : TypeId) (c1 : Array Value) (T1 : TypeId) (c2 : Array Value) (T2 : TypeId) (c3 : Array Value) (T3 : TypeId) (c4 : Array Value) (T4 : TypeId) : Rep A σ (((((w.alloc (.cells c0 T0)).alloc (.cells c1 T1)).alloc (.cells c2 T2)).alloc (.cells c3 T3)).alloc (.cells c4 T4)) ∧ Grow A.L w A.L (((((w.alloc (.cells c0 T0)).alloc (.cells c1 T1)).alloc (.cells c2 T2)).alloc (.cells c3 T3)).alloc (.cells c4 T4)) ∧ Fix A.L (((((w.alloc (.cells c0 T0)).alloc (.cells c1 T1)).alloc (.cells c2 T2)).alloc (.cells c3 T3)).alloc (.cells c4 T4)) (w.heap.size) (.cells c0 T0) ∧ Fix A.L (((((w.alloc (.cells c0 T0)).alloc (.cells c1 T1)).alloc (.cells c2 T2)).alloc (.cells c3 T3)).alloc (.cells c4 T4)) (w.heap.size + 1) (.cells c1 T1) ∧ Fix A.L (((((w.alloc (.cells c0 T0)).alloc (.cells c1 T1)).alloc (.cells c2 T2)).alloc (.cells c3 T3)).alloc (.cells c4 T4)) (w.heap.size + 2) (.cells c2 T2) ∧ Fix A.L (((((w.alloc (.cells c0 T0)).alloc (.cells c1 T1)).alloc (.cells c2 T2)).alloc (.cells c3 T3)).alloc (.cells c4 T4)) (w.heap.size + 3) (.cells c3 T3) ∧ Fix A.L (((((w.alloc (.cells c0 T0)).alloc (.cells c1 T1)).alloc (.cells c2 T2)).alloc (.cells c3 T3)).alloc (.cells c4 T4)) (w.heap.size + 4) (.cells c4 T4) := by
  obtain ⟨r, g, f0, f1, f2, f3⟩ := allocs4 hR c0 T0 c1 T1 c2 T2 c3 T3
  have k := Grow.alloc A.L ((((w.alloc (.cells c0 T0)).alloc (.cells c1 T1)).alloc (.cells c2 T2)).alloc (.cells c3 T3)) (.cells c4 T4)
  exact ⟨r.alloc _, g.trans k, f0.grow k, f1.grow k, f2.grow k, f3.grow k, fix_next r.mem.fresh _ (by simp)⟩
theorem allocs6 {A : Book} {σ : St} {w : World} (hR : Rep A σ w) (c0 : Array Value) (T0 : TypeId) (c1 : Array Value) (T1 : TypeId) (c2 : Array Value) (T2 : TypeId) (c3 : Array Value) (T3 : TypeId) (c4 : Array Value) (T4 : TypeId) (c5 : Array Value) (T5 : TypeId) : Rep A σ ((((((w.alloc (.cells c0 T0)).alloc (.cells c1 T1)).alloc (.cells c2 T2)).alloc (.cells c3 T3)).alloc (.cells c4 T4)).alloc (.cells c5 T5)) ∧ Grow A.L w A.L ((((((w.alloc (.cells c0 T0)).alloc (.cells c1 T1)).alloc (.cells c2 T2)).alloc (.cells c3 T3)).alloc (.cells c4 T4)).alloc (.cells c5 T5)) ∧ Fix A.L ((((((w.alloc (.cells c0 T0)).alloc (.cells c1 T1)).alloc (.cells c2 T2)).alloc (.cells c3 T3)).alloc (.cells c4 T4)).alloc (.cells c5 T5)) (w.heap.size) (.cells c0 T0) ∧ Fix A.L ((((((w.alloc (.cells c0 T0)).alloc (.cells c1 T1)).alloc (.cells c2 T2)).alloc (.cells c3 T3)).alloc (.cells c4 T4)).alloc (.cells c5 T5)) (w.heap.size + 1) (.cells c1 T1) ∧ Fix A.L ((((((w.alloc (.cells c0 T0)).alloc (.cells c1 T1)).alloc (.cells c2 T2)).alloc (.cells c3 T3)).alloc (.cells c4 T4)).alloc (.cells c5 T5)) (w.heap.size + 2) (.cells c2 T2) ∧ Fix A.L ((((((w.alloc (.cells c0 T0)).alloc (.cells c1 T1)).alloc (.cells c2 T2)).alloc (.cells c3 T3)).alloc (.cells c4 T4)).alloc (.cells c5 T5)) (w.heap.size + 3) (.cells c3 T3) ∧ Fix A.L ((((((w.alloc (.cells c0 T0)).alloc (.cells c1 T1)).alloc (.cells c2 T2)).alloc (.cells c3 T3)).alloc (.cells c4 T4)).alloc (.cells c5 T5)) (w.heap.size + 4) (.cells c4 T4) ∧ Fix A.L ((((((w.alloc (.cells c0 T0)).alloc (.cells c1 T1)).alloc (.cells c2 T2)).alloc (.cells c3 T3)).alloc (.cells c4 T4)).alloc (.cells c5 T5)) (w.heap.size + 5) (.cells c5 T5) := by
  obtain ⟨r, g, f0, f1, f2, f3, f4⟩ := allocs5 hR c0 T0 c1 T1 c2 T2 c3 T3 c4 T4
  have k := Grow.alloc A.L (((((w.alloc (.cells c0 T0)).alloc (.cells c1 T1)).alloc (.cells c2 T2)).alloc (.cells c3 T3)).alloc (.cells c4 T4)) (.cells c5 T5)
  exact ⟨r.alloc _, g.trans k, f0.grow k, f1.grow k, f2.grow k, f3.grow k, f4.grow k, fix_next r.mem.fresh _ (by simp)⟩
theorem allocs7 {A : Book} {σ : St} {w : World} (hR : Rep A σ w) (c0 : Array Value) (T0 : TypeId) (c1 : Array Value) (T1 : TypeId) (c2 : Array Value) (T2 : TypeId) (c3 : Array Value) (T3 : TypeId) (c4 : Array Value) (T4 : TypeId) (c5 : Array Value) (T5 : TypeId) (c6 : Array Value) (T6 : TypeId) : Rep A σ (((((((w.alloc (.cells c0 T0)).alloc (.cells c1 T1)).alloc (.cells c2 T2)).alloc (.cells c3 T3)).alloc (.cells c4 T4)).alloc (.cells c5 T5)).alloc (.cells c6 T6)) ∧ Grow A.L w A.L (((((((w.alloc (.cells c0 T0)).alloc (.cells c1 T1)).alloc (.cells c2 T2)).alloc (.cells c3 T3)).alloc (.cells c4 T4)).alloc (.cells c5 T5)).alloc (.cells c6 T6)) ∧ Fix A.L (((((((w.alloc (.cells c0 T0)).alloc (.cells c1 T1)).alloc (.cells c2 T2)).alloc (.cells c3 T3)).alloc (.cells c4 T4)).alloc (.cells c5 T5)).alloc (.cells c6 T6)) (w.heap.size) (.cells c0 T0) ∧ Fix A.L (((((((w.alloc (.cells c0 T0)).alloc (.cells c1 T1)).alloc (.cells c2 T2)).alloc (.cells c3 T3)).alloc (.cells c4 T4)).alloc (.cells c5 T5)).alloc (.cells c6 T6)) (w.heap.size + 1) (.cells c1 T1) ∧ Fix A.L (((((((w.alloc (.cells c0 T0)).alloc (.cells c1 T1)).alloc (.cells c2 T2)).alloc (.cells c3 T3)).alloc (.cells c4 T4)).alloc (.cells c5 T5)).alloc (.cells c6 T6)) (w.heap.size + 2) (.cells c2 T2) ∧ Fix A.L (((((((w.alloc (.cells c0 T0)).alloc (.cells c1 T1)).alloc (.cells c2 T2)).alloc (.cells c3 T3)).alloc (.cells c4 T4)).alloc (.cells c5 T5)).alloc (.cells c6 T6)) (w.heap.size + 3) (.cells c3 T3) ∧ Fix A.L (((((((w.alloc (.cells c0 T0)).alloc (.cells c1 T1)).alloc (.cells c2 T2)).alloc (.cells c3 T3)).alloc (.cells c4 T4)).alloc (.cells c5 T5)).alloc (.cells c6 T6)) (w.heap.size + 4) (.cells c4 T4) ∧ Fix A.L (((((((w.alloc (.cells c0 T0)).alloc (.cells c1 T1)).alloc (.cells c2 T2)).alloc (.cells c3 T3)).alloc (.cells c4 T4)).alloc (.cells c5 T5)).alloc (.cells c6 T6)) (w.heap.size + 5) (.cells c5 T5) ∧ Fix A.L (((((((w.alloc (.cells c0 T0)).alloc (.cells c1 T1)).alloc (.cells c2 T2)).alloc (.cells c3 T3)).alloc (.cells c4 T4)).alloc (.cells c5 T5)).alloc (.cells c6 T6)) (w.heap.size + 6) (.cells c6 T6) := by
  obtain ⟨r, g, f0, f1, f2, f3, f4, f5⟩ := allocs6 hR c0 T0 c1 T1 c2 T2 c3 T3 c4 T4 c5 T5
  have k := Grow.alloc A.L ((((((w.alloc (.cells c0 T0)).alloc (.cells c1 T1)).alloc (.cells c2 T2)).alloc (.cells c3 T3)).alloc (.cells c4 T4)).alloc (.cells c5 T5)) (.cells c6 T6)
  exact ⟨r.alloc _, g.trans k, f0.grow k, f1.grow k, f2.grow k, f3.grow k, f4.grow k, f5.grow k, fix_next r.mem.fresh _ (by simp)⟩
theorem older_any {A : Book} {σ : St} {w : World} (hR : Rep A σ w) (s : Nat) (bh : Nat) (h : Hunt) (hh : HuntAt (kp A σ s) A.L w bh h) (link : Nat) :
    Calls Tryz.prog 198 #[.pointer (some ⟨bh, 0, none⟩), .int .u64 (link : Int)] w (Tells A w s (σ, .older h link)) := by
  have F := Lib.hid (allocs2 hR #[.pointer (some ⟨bh, 0, none⟩)] 233 #[.int .u64 (link : Int)] 24)
  have HH := Lib.hid hh
  clear hh
  clear hR
  go_enter Tryz.func198, Tryz.ntmps198
  go_wp2
  go_ret
  obtain ⟨r1, r2, f0, f1⟩ := F.out
  exact ⟨A, _, rfl, r1, r2, Stay.refl _ _, _, _, rfl, ⟨_, f0.box, HH.out.grow r2⟩, f1.box⟩
theorem ended_any {A : Book} {σ : St} {w : World} (hR : Rep A σ w) (s : Nat) (bh : Nat) (h : Hunt) (hh : HuntAt (kp A σ s) A.L w bh h) (link : Nat) (mb : Nat) :
    Calls Tryz.prog 197 #[.pointer (some ⟨bh, 0, none⟩), .int .u64 (link : Int), .int .i64 (mb : Int)] w (Tells A w s (σ, .ended h link mb)) := by
  have F := Lib.hid (allocs3 hR #[.pointer (some ⟨bh, 0, none⟩)] 233 #[.int .u64 (link : Int)] 24 #[.int .i64 (mb : Int)] 3)
  have HH := Lib.hid hh
  clear hh
  clear hR
  go_enter Tryz.func197, Tryz.ntmps197
  go_wp2
  go_ret
  obtain ⟨r1, r2, f0, f1, f2⟩ := F.out
  exact ⟨A, _, rfl, r1, r2, Stay.refl _ _, _, _, _, rfl, ⟨_, f0.box, HH.out.grow r2⟩, f1.box, f2.box⟩
theorem ender_any {A : Book} {σ : St} {w : World} (hR : Rep A σ w) (s : Nat) (bh : Nat) (h : Hunt) (hh : HuntAt (kp A σ s) A.L w bh h) (link : Nat) (mb : Nat) (id : Nat) :
    Calls Tryz.prog 211 #[.pointer (some ⟨bh, 0, none⟩), .int .u64 (link : Int), .int .i64 (mb : Int), .int .i64 (id : Int)] w (Tells A w s (σ, .ender h link mb id)) := by
  have F := Lib.hid (allocs4 hR #[.pointer (some ⟨bh, 0, none⟩)] 233 #[.int .u64 (link : Int)] 24 #[.int .i64 (mb : Int)] 3 #[.int .i64 (id : Int)] 3)
  have HH := Lib.hid hh
  clear hh
  clear hR
  go_enter Tryz.func211, Tryz.ntmps211
  go_wp2
  go_ret
  obtain ⟨r1, r2, f0, f1, f2, f3⟩ := F.out
  exact ⟨A, _, rfl, r1, r2, Stay.refl _ _, _, _, _, _, rfl, ⟨_, f0.box, HH.out.grow r2⟩, f3.box, f1.box, f2.box⟩
theorem draw_any {A : Book} {σ : St} {w : World} (hR : Rep A σ w) (s : Nat)  :
    Calls Tryz.prog 84 #[.pointer (some ⟨A.be, 0, none⟩), .pointer (some ⟨A.bt s, 0, none⟩), .pointer (some ⟨A.bc s, 0, none⟩)] w (Tells A w s (σ, .draw)) := by
  have F := Lib.hid (allocs3 hR #[.pointer (some ⟨A.be, 0, none⟩)] 27 #[.pointer (some ⟨A.bt s, 0, none⟩)] 102 #[.pointer (some ⟨A.bc s, 0, none⟩)] 107)
  clear hR
  go_enter Tryz.func84, Tryz.ntmps84
  go_wp2
  go_ret
  obtain ⟨r1, r2, f0, f1, f2⟩ := F.out
  exact ⟨A, _, rfl, r1, r2, Stay.refl _ _, _, _, _, rfl, f0.box, f1.box, f2.box⟩
theorem commit_any {A : Book} {σ : St} {w : World} (hR : Rep A σ w) (s : Nat)  :
    Calls Tryz.prog 162 #[.pointer (some ⟨A.be, 0, none⟩), .pointer (some ⟨A.bt s, 0, none⟩), .pointer (some ⟨A.bc s, 0, none⟩)] w (Tells A w s (σ, .commit)) := by
  have F := Lib.hid (allocs3 hR #[.pointer (some ⟨A.be, 0, none⟩)] 27 #[.pointer (some ⟨A.bt s, 0, none⟩)] 102 #[.pointer (some ⟨A.bc s, 0, none⟩)] 107)
  clear hR
  go_enter Tryz.func162, Tryz.ntmps162
  go_wp2
  go_ret
  obtain ⟨r1, r2, f0, f1, f2⟩ := F.out
  exact ⟨A, _, rfl, r1, r2, Stay.refl _ _, _, _, _, rfl, f0.box, f1.box, f2.box⟩
theorem abort_any {A : Book} {σ : St} {w : World} (hR : Rep A σ w) (s : Nat) (er : Nat) (reason : Nat) :
    Calls Tryz.prog 85 #[.pointer (some ⟨A.be, 0, none⟩), .pointer (some ⟨A.bt s, 0, none⟩), .pointer (some ⟨A.bc s, 0, none⟩), .int .i64 (er : Int), .int .i64 (reason : Int)] w (Tells A w s (σ, .abort er reason)) := by
  have F := Lib.hid (allocs5 hR #[.pointer (some ⟨A.be, 0, none⟩)] 27 #[.pointer (some ⟨A.bt s, 0, none⟩)] 102 #[.pointer (some ⟨A.bc s, 0, none⟩)] 107 #[.int .i64 (er : Int)] 26 #[.int .i64 (reason : Int)] 3)
  clear hR
  go_enter Tryz.func85, Tryz.ntmps85
  go_wp2
  go_ret
  obtain ⟨r1, r2, f0, f1, f2, f3, f4⟩ := F.out
  exact ⟨A, _, rfl, r1, r2, Stay.refl _ _, _, _, _, _, _, rfl, f0.box, f1.box, f4.box, f2.box, f3.box⟩
theorem fresh_any {A : Book} {σ : St} {w : World} (hR : Rep A σ w) (s : Nat) (link : Nat) :
    Calls Tryz.prog 125 #[.pointer (some ⟨A.be, 0, none⟩), .pointer (some ⟨A.bt s, 0, none⟩), .pointer (some ⟨A.bc s, 0, none⟩), .int .u64 (link : Int)] w (Tells A w s (σ, .fresh link)) := by
  have F := Lib.hid (allocs4 hR #[.pointer (some ⟨A.be, 0, none⟩)] 27 #[.pointer (some ⟨A.bt s, 0, none⟩)] 102 #[.pointer (some ⟨A.bc s, 0, none⟩)] 107 #[.int .u64 (link : Int)] 24)
  clear hR
  go_enter Tryz.func125, Tryz.ntmps125
  go_wp2
  go_ret
  obtain ⟨r1, r2, f0, f1, f2, f3⟩ := F.out
  exact ⟨A, _, rfl, r1, r2, Stay.refl _ _, _, _, _, _, rfl, f0.box, f2.box, f1.box, f3.box⟩
theorem own_any {A : Book} {σ : St} {w : World} (hR : Rep A σ w) (s : Nat) (link : Nat) :
    Calls Tryz.prog 126 #[.pointer (some ⟨A.be, 0, none⟩), .pointer (some ⟨A.bt s, 0, none⟩), .pointer (some ⟨A.bc s, 0, none⟩), .int .u64 (link : Int)] w (Tells A w s (σ, .own link)) := by
  have F := Lib.hid (allocs4 hR #[.pointer (some ⟨A.be, 0, none⟩)] 27 #[.pointer (some ⟨A.bt s, 0, none⟩)] 102 #[.pointer (some ⟨A.bc s, 0, none⟩)] 107 #[.int .u64 (link : Int)] 24)
  clear hR
  go_enter Tryz.func126, Tryz.ntmps126
  go_wp2
  go_ret
  obtain ⟨r1, r2, f0, f1, f2, f3⟩ := F.out
  exact ⟨A, _, rfl, r1, r2, Stay.refl _ _, _, _, _, _, rfl, f0.box, f3.box, f1.box, f2.box⟩
theorem claim_any {A : Book} {σ : St} {w : World} (hR : Rep A σ w) (s : Nat) (link : Nat) (x : Nat) :
    Calls Tryz.prog 153 #[.pointer (some ⟨A.be, 0, none⟩), .pointer (some ⟨A.bt s, 0, none⟩), .pointer (some ⟨A.bc s, 0, none⟩), .int .u64 (link : Int), .int .u64 (x : Int)] w (Tells A w s (σ, .claim link x)) := by
  have F := Lib.hid (allocs5 hR #[.pointer (some ⟨A.be, 0, none⟩)] 27 #[.pointer (some ⟨A.bt s, 0, none⟩)] 102 #[.pointer (some ⟨A.bc s, 0, none⟩)] 107 #[.int .u64 (link : Int)] 24 #[.int .u64 (x : Int)] 24)
  clear hR
  go_enter Tryz.func153, Tryz.ntmps153
  go_wp2
  go_ret
  obtain ⟨r1, r2, f0, f1, f2, f3, f4⟩ := F.out
  exact ⟨A, _, rfl, r1, r2, Stay.refl _ _, _, _, _, _, _, rfl, f0.box, f3.box, f4.box, f1.box, f2.box⟩
theorem push_any {A : Book} {σ : St} {w : World} (hR : Rep A σ w) (s : Nat) (link : Nat) (head : Nat) :
    Calls Tryz.prog 169 #[.pointer (some ⟨A.be, 0, none⟩), .pointer (some ⟨A.bt s, 0, none⟩), .pointer (some ⟨A.bc s, 0, none⟩), .int .u64 (link : Int), .int .u64 (head : Int)] w (Tells A w s (σ, .push link head)) := by
  have F := Lib.hid (allocs5 hR #[.pointer (some ⟨A.be, 0, none⟩)] 27 #[.pointer (some ⟨A.bt s, 0, none⟩)] 102 #[.pointer (some ⟨A.bc s, 0, none⟩)] 107 #[.int .u64 (link : Int)] 24 #[.int .u64 (head : Int)] 24)
  clear hR
  go_enter Tryz.func169, Tryz.ntmps169
  go_wp2
  go_ret
  obtain ⟨r1, r2, f0, f1, f2, f3, f4⟩ := F.out
  exact ⟨A, _, rfl, r1, r2, Stay.refl _ _, _, _, _, _, _, rfl, f0.box, f3.box, f4.box, f2.box, f1.box⟩
theorem ends_any {A : Book} {σ : St} {w : World} (hR : Rep A σ w) (s : Nat) (r : Res) (vp : Value) (hp : (vp = A.vpairs s ∧ r.pairs = (σ.c s).r.pairs) ∨ (vp = .slice none 0 0 ∧ r.pairs = [])) :
    Calls Tryz.prog 107 #[.pointer (some ⟨A.be, 0, none⟩), .pointer (some ⟨A.bc s, 0, none⟩), .agg #[.int .i64 (r.e : Int), .int .i64 (r.value : Int), vp, .int .i64 (r.over : Int), .int .i64 (r.reason : Int)]] w (Tells A w s (σ, .fin r)) := by
  have F := Lib.hid (allocs3 hR #[.pointer (some ⟨A.be, 0, none⟩)] 27 #[.pointer (some ⟨A.bc s, 0, none⟩)] 107 #[.int .i64 (r.e : Int), .int .i64 (r.value : Int), vp, .int .i64 (r.over : Int), .int .i64 (r.reason : Int)] 42)
  have HP := Lib.hid hp
  clear hR hp
  go_enter Tryz.func107, Tryz.ntmps107
  go_wp2
  go_ret
  obtain ⟨r1, r2, f0, f1, f2⟩ := F.out
  exact ⟨A, _, rfl, r1, r2, Stay.refl _ _, _, _, _, rfl, f0.box, f1.box, _, _, f2, HP.out⟩
/-- As ends_any; the numbers as they stand in the walk. -/
theorem ends_at {A : Book} {σ : St} {w : World} (hR : Rep A σ w) (s : Nat) (r : Res) (re rv ro rr : Int) (vp : Value) (hcs : resCs r vp = [.int .i64 re, .int .i64 rv, vp, .int .i64 ro, .int .i64 rr]) (hp : (vp = A.vpairs s ∧ r.pairs = (σ.c s).r.pairs) ∨ (vp = .slice none 0 0 ∧ r.pairs = [])) :
    Calls Tryz.prog 107 #[.pointer (some ⟨A.be, 0, none⟩), .pointer (some ⟨A.bc s, 0, none⟩), .agg #[.int .i64 re, .int .i64 rv, vp, .int .i64 ro, .int .i64 rr]] w (Tells A w s (σ, .fin r)) := by
  have h := ends_any hR s r vp hp
  simp only [resCs, List.cons.injEq, Value.int.injEq, true_and, and_true] at hcs
  obtain ⟨e1, e2, e3, e4⟩ := hcs
  rw [e1, e2, e3, e4] at h
  exact h
end Go.Proofs.YtbefcdjcefmicaaGreat.Em

namespace Go.Proofs.YtbefcdjcefmicaaGreat.Ow
open Go.ChangeShapes Go.WideShapes Go.ChangeAt Go.RowKit

theorem own_below {w w1 : World} {base : Nat} {e : TypeId} {size : Nat} {v : Value} {n : Nat} {xs : List Value} (h : w.ownsRow base e size v n xs) (hb : Below w.heap.size w w1) : w1.ownsRow base e size v n xs := by
  refine ⟨h.1, ?_⟩
  rcases h.2 with h0 | ⟨g, cap, cur, h1, h2, h3, h4⟩
  · exact .inl h0
  · refine .inr ⟨g, cap, cur, h1, h2, ?_, h4⟩
    have hlt : g < w.heap.size := (Array.getElem?_eq_some_iff.1 h3).1
    rw [hb.block g hlt, h3]

/-- A slice that reads as so many cells (read only). -/
def Row (w : World) (base size : Nat) (v : Value) (xs : List Value) : Prop :=
  ∃ a n cap, v = .slice a n cap ∧ xs.length = n * size ∧ n ≤ cap ∧ cap ≤ maxLen ∧ (n = 0 ∨ ∃ g off, a = some ⟨g, off, none⟩ ∧ base ≤ g ∧ g < w.heap.size ∧ ∀ j, j < n * size → w.cell? ⟨g, off + j, none⟩ = xs[j]?)
theorem Row.below {w w1 : World} {base size : Nat} {v : Value} {xs : List Value} (h : Row w base size v xs) (hb : Below w.heap.size w w1) : Row w1 base size v xs := by
  obtain ⟨a, n, cap, h1, h2, h3, h4, h5⟩ := h
  refine ⟨a, n, cap, h1, h2, h3, h4, ?_⟩
  rcases h5 with h5 | ⟨g, off, e1, e2, e3, e4⟩
  · exact .inl h5
  · refine .inr ⟨g, off, e1, e2, Nat.lt_of_lt_of_le e3 hb.size, fun j hj => ?_⟩
    rw [hb.cell (p := ⟨g, off + j, none⟩) e3]
    exact e4 j hj
theorem own_form {w : World} {base : Nat} {e : TypeId} {size : Nat} {v : Value} {n : Nat} {xs : List Value} (h : w.ownsRow base e size v n xs) : ∃ a cap, v = .slice a n cap ∧ n ≤ cap ∧ cap ≤ 9223372036854775807 ∧ Row w base size (.slice a n n) xs := by
  rcases h.2 with ⟨h0, hn⟩ | ⟨g, cap, cur, h1, h2, h3, h4, h5, h6, h7⟩
  · subst hn; exact ⟨none, 0, h0, by omega, by omega, none, 0, 0, rfl, h.1, by omega, by unfold maxLen; omega, .inl rfl⟩
  · have hm := h5
    unfold maxLen at hm
    refine ⟨some ⟨g, 0, none⟩, cap, h1, h4, hm, some ⟨g, 0, none⟩, n, n, rfl, h.1, by omega, by omega, .inr ⟨g, 0, rfl, h2, (Array.getElem?_eq_some_iff.1 h3).1, fun j hj => ?_⟩⟩
    subst h1
    rw [Nat.zero_add]
    exact h.cellAt j hj

/-- The cells of a block that was just laid. -/
theorem new_row (w : World) (cs : List Value) (T : TypeId) (g : Nat) (hg : g = w.heap.size) (j : Nat) (u : Value) (h : cs[j]? = some u) : (w.alloc (.cells cs.toArray T)).cell? ((⟨g, 0, none⟩ : Addr).add j) = some u := by
  subst hg
  have e : (⟨w.heap.size, 0, none⟩ : Addr).add j = ⟨w.heap.size, j, none⟩ := by simp [Addr.add]; exact fun h => h.symm
  rw [e, World.cell?_alloc_at _ _ _ _ rfl]
  simpa using h
theorem grown_below {w w1 w2 : World} {base : Nat} {e : TypeId} {size : Nat} {v : Value} {n : Nat} {xs : List Value} (h : w1.ownsRow base e size v n xs) (hb : Below base w w1) (hs : base ≤ w1.heap.size) (hg : w1.grownBy w2 v.ownBlock) : Below base w w2 :=
  hb.grown hg hs (fun k hk => (h.lt k hk).1)

theorem below_base {w w1 w2 : World} (h : Below w.heap.size w w1) (k : Below w1.heap.size w1 w2) : Below w.heap.size w w2 := h.trans (k.mono h.size)
end Go.Proofs.YtbefcdjcefmicaaGreat.Ow

namespace Go.Proofs.YtbefcdjcefmicaaGreat.Ow
open Go.ChangeShapes Go.WideShapes Go.ChangeAt Go.RowKit
set_option linter.unusedVariables false

/-- A guarded operation whose guard says yes, as one that is not guarded. -/
theorem wpList_unguard {P : Program} {ops : Array Oper} {Q : Exit → Act → World → Prop} {a : Act} {w : World} {rest : List Oper} {o : Oper} (hw : Region.wanted o (yielded ops a.tmps) = true)
    (h : wpList P ops Q ({ o with guard := none } :: rest) a w) : wpList P ops Q (o :: rest) a w := by
  unfold wpList at h ⊢
  rw [if_pos hw]
  rw [if_pos (by simp [Region.wanted])] at h
  exact h

theorem run_append_none {P : Program} {w : World} (base : Nat) (t ty e : TypeId) (i : TypeInfo) (size : Nat) (ht : P.underlying t = some (.slice e)) (hi : P.info? e = some i)
    (v : Value) (n c : Nat) (xs : List Value) (hown : w.ownsRow base e size v n xs) :
    (Builtin.append_ #[t, t] ty #[v, .slice none 0 c]).run P w = .ok v w := by
  rcases hown.2 with ⟨rfl, rfl⟩ | ⟨g, cap, cur, rfl, _, _, hnc, _⟩
  · simp [Builtin.append_, run_underlying ht, sizeOf, typeInfo, hi, Builtin.lenOf, Builtin.firstCells]
  · simp [Builtin.append_, run_underlying ht, sizeOf, typeInfo, hi, Builtin.lenOf, Builtin.firstCells, hnc, storeCells]

theorem wpList_append_row {P : Program} {ops : Array Oper} {rest : List Oper} {o : Oper} {a : Act} {Q : Exit → Act → World → Prop} (w : World) (hgd : o.guard = none) (s x : Operand) (t : TypeId)
    (ho : o.op = .call { callee := .builtin .append, args := #[s, x], argTypes := #[t, t] })
    (base : Nat) (e : TypeId) (i : TypeInfo) (z : Value) (size bytes : Nat) (ht : P.underlying t = some (.slice e)) (hi : P.info? e = some i) (hz : i.zero = some z)
    (hsize : i.size = size) (hby : i.bytes = bytes) (hzs : z.cells.size = size) (hsz : 0 < size)
    (v : Value) (n : Nat) (xs : List Value) (hs : a.eval s = v) (hown : w.ownsRow base e size v n xs)
    (bx : Nat) (xv : Value) (news : List Value) (hx : a.eval x = xv) (hr : Row w bx size xv news) (m : Nat) (hl : news.length = m * size) (h1 : ∀ u ∈ news, u.oneCell' = true)
    (h63 : n + m ≤ maxLen) (hbytes : (n + m) * bytes ≤ 140737488355328) (hbase : base ≤ w.heap.size)
    (h : ∀ v' w', w'.ownsRow base e size v' (n + m) (xs ++ news) → w.grownBy w' v.ownBlock → wpList P ops Q rest (a.put o.dst v') w') : wpList P ops Q (o :: rest) a w := by
  obtain ⟨ao, m', c, rfl, hm', hmc, hcm, hcell⟩ := hr
  obtain rfl : m = m' := by
    rw [hl] at hm'
    exact Nat.eq_of_mul_eq_mul_right hsz hm'
  cases ao with
  | none =>
    have hm0 : m = 0 := by
      rcases hcell with h0 | ⟨g, off, h0, _⟩
      · exact h0
      · cases h0
    subst hm0
    obtain rfl : news = [] := List.eq_nil_of_length_eq_zero (by simpa using hl)
    refine wpList_plain hgd fun K hK => ?_
    have hrun := run_append_none (P := P) (w := w) base t o.type e i size ht hi v n c xs hown
    unfold Oper.wp
    simp [execOp, ho, resolve, invoke, builtin, hs, hx, hrun, Result.andThen]
    exact hK _ _ (h v w (by simpa using hown) ⟨rfl, rfl, rfl, Nat.le_refl _, fun _ _ _ => rfl⟩)
  | some ad =>
    have hnews : ∀ j u, news[j]? = some u → w.cell? (ad.add j) = some u := by
      intro j u hj
      have hjl : j < news.length := (List.getElem?_eq_some_iff.1 hj).1
      rcases hcell with h0 | ⟨g, off, h0, _, _, hc⟩
      · subst h0; omega
      · simp only [Option.some.injEq] at h0
        subst h0
        have e1 : (⟨g, off, none⟩ : Addr).add j = ⟨g, off + j, none⟩ := by
          unfold Addr.add; split
          · rename_i h; subst h; rfl
          · rfl
        rw [e1, hc j (by omega)]
        exact hj
    exact wpList_append_own w hgd s x t ho base e i z size bytes ht hi hz hsize hby hzs hsz v n xs hs hown ad m c news hx hl hnews h1 h63 hbytes hbase fun v' w' h2 h3 _ => h v' w' h2 h3

theorem run_append_row {P : Program} (w : World) (t ty : TypeId) (base : Nat) (e : TypeId) (i : TypeInfo) (z : Value) (size bytes : Nat) (ht : P.underlying t = some (.slice e)) (hi : P.info? e = some i) (hz : i.zero = some z)
    (hsize : i.size = size) (hby : i.bytes = bytes) (hzs : z.cells.size = size) (hsz : 0 < size)
    (v : Value) (n : Nat) (xs : List Value) (hown : w.ownsRow base e size v n xs)
    (bx : Nat) (xv : Value) (news : List Value) (hr : Row w bx size xv news) (m : Nat) (hl : news.length = m * size) (h1 : ∀ u ∈ news, u.oneCell' = true)
    (h63 : n + m ≤ maxLen) (hbytes : (n + m) * bytes ≤ 140737488355328) (hbase : base ≤ w.heap.size) :
    ∃ v' w', (Builtin.append_ #[t, t] ty #[v, xv]).run P w = .ok v' w' ∧ w'.ownsRow base e size v' (n + m) (xs ++ news) ∧ w.grownBy w' v.ownBlock := by
  obtain ⟨ao, m', c, rfl, hm', hmc, hcm, hcell⟩ := hr
  obtain rfl : m = m' := by
    rw [hl] at hm'
    exact Nat.eq_of_mul_eq_mul_right hsz hm'
  cases ao with
  | none =>
    have hm0 : m = 0 := by
      rcases hcell with h0 | ⟨g, off, h0, _⟩
      · exact h0
      · cases h0
    subst hm0
    obtain rfl : news = [] := List.eq_nil_of_length_eq_zero (by simpa using hl)
    exact ⟨v, w, run_append_none (P := P) (w := w) base t ty e i size ht hi v n c xs hown, by simpa using hown, ⟨rfl, rfl, rfl, Nat.le_refl _, fun _ _ _ => rfl⟩⟩
  | some ad =>
    have hnews : ∀ j u, news[j]? = some u → w.cell? (ad.add j) = some u := by
      intro j u hj
      have hjl : j < news.length := (List.getElem?_eq_some_iff.1 hj).1
      rcases hcell with h0 | ⟨g, off, h0, _, _, hc⟩
      · subst h0; omega
      · simp only [Option.some.injEq] at h0
        subst h0
        have e1 : (⟨g, off, none⟩ : Addr).add j = ⟨g, off + j, none⟩ := by
          unfold Addr.add; split
          · rename_i h; subst h; rfl
          · rfl
        rw [e1, hc j (by omega)]
        exact hj
    obtain ⟨v', w', q1, q2, q3, _⟩ := run_append_own (P := P) w base t ty e i z size bytes ht hi hz hsize hby hzs hsz v n xs hown ad m c news hl hnews h1 h63 hbytes hbase
    exact ⟨v', w', q1, q2, q3⟩

theorem wp_append_row {P : Program} (w : World) {o : Oper} {a : Act} {K : Act → World → Prop} {Q : Exit → Act → World → Prop} (s x : Operand) (t : TypeId)
    (ho : o.op = .call { callee := .builtin .append, args := #[s, x], argTypes := #[t, t] })
    (base : Nat) (e : TypeId) (i : TypeInfo) (z : Value) (size bytes : Nat) (ht : P.underlying t = some (.slice e)) (hi : P.info? e = some i) (hz : i.zero = some z)
    (hsize : i.size = size) (hby : i.bytes = bytes) (hzs : z.cells.size = size) (hsz : 0 < size)
    (v : Value) (n : Nat) (xs : List Value) (hs : a.eval s = v) (hown : w.ownsRow base e size v n xs)
    (bx : Nat) (xv : Value) (news : List Value) (hx : a.eval x = xv) (hr : Row w bx size xv news) (m : Nat) (hl : news.length = m * size) (h1 : ∀ u ∈ news, u.oneCell' = true)
    (h63 : n + m ≤ maxLen) (hbytes : (n + m) * bytes ≤ 140737488355328) (hbase : base ≤ w.heap.size)
    (h : ∀ v' w', w'.ownsRow base e size v' (n + m) (xs ++ news) → w.grownBy w' v.ownBlock → K (a.put o.dst v') w') : o.wp P a w K Q := by
  obtain ⟨v', w', hr, h2, h3⟩ := run_append_row (P := P) w t o.type base e i z size bytes ht hi hz hsize hby hzs hsz v n xs hown bx xv news hr m hl h1 h63 hbytes hbase
  unfold Oper.wp execOp
  simp only [ho, resolve, invoke, builtin, Sem.run_bind, Sem.run_pure, Result.andThen_ok, List.map_toArray, List.map_cons, List.map_nil, hs, hx, hr]
  exact h v' w' h2 h3

/-- The elements of a row that is no longer than its capacity; what came of a full one that grows. -/
theorem wpList_append_full {P : Program} {ops : Array Oper} {rest : List Oper} {o : Oper} {a : Act} {Q : Exit → Act → World → Prop} (w : World) (hgd : o.guard = none) (s x : Operand) (t : TypeId)
    (ho : o.op = .call { callee := .builtin .append, args := #[s, x], argTypes := #[t, t] })
    (e : TypeId) (i : TypeInfo) (z : Value) (size bytes : Nat) (ht : P.underlying t = some (.slice e)) (hi : P.info? e = some i) (hz : i.zero = some z)
    (hsize : i.size = size) (hby : i.bytes = bytes) (hzs : z.cells.size = size) (hsz : 0 < size)
    (ao : Option Addr) (n bs : Nat) (olds : List Value) (hs : a.eval s = .slice ao n n) (hr : Row w bs size (.slice ao n n) olds)
    (ad : Addr) (m c : Nat) (news : List Value) (hx : a.eval x = .slice (some ad) m c) (hn : news.length = m * size) (hc : ∀ j u, news[j]? = some u → w.cell? (ad.add j) = some u) (h1c : ∀ u ∈ news, u.oneCell' = true)
    (hm : 0 < m) (b1 : n + m ≤ maxLen) (b2 : (n + m) * bytes ≤ 140737488355328)
    (hK : ∀ v' w', w'.ownsRow w.heap.size e size v' (n + m) (olds ++ news) → w.grownBy w' none → wpList P ops Q rest (a.put o.dst v') w') :
    wpList P ops Q (o :: rest) a w := by
  obtain ⟨ao', n', c', he, hl, hnc, hcm, hcell⟩ := hr
  simp only [Value.slice.injEq] at he
  obtain ⟨rfl, rfl, rfl⟩ := he
  refine wpList_append_grows w hgd s x t ho e i z size bytes ht hi hz hsize hby hzs hsz ao n n olds hs ?_ hl ?_ ad m c news hx hn hc h1c (by omega) b1 b2 hK
  · rintro rfl
    rcases hcell with h0 | ⟨g, off, h0, _⟩
    · exact ⟨h0, h0⟩
    · cases h0
  · rintro b rfl j u hj
    have hjl : j < olds.length := (List.getElem?_eq_some_iff.1 hj).1
    rcases hcell with h0 | ⟨g, off, h0, _, _, hcl⟩
    · subst h0; omega
    · simp only [Option.some.injEq] at h0
      subst h0
      have e1 : (⟨g, off, none⟩ : Addr).add j = ⟨g, off + j, none⟩ := by
        unfold Addr.add; split
        · rename_i h; subst h; rfl
        · rfl
      rw [e1, hcl j (by omega)]
      exact hj
end Go.Proofs.YtbefcdjcefmicaaGreat.Ow

namespace Go.Proofs.YtbefcdjcefmicaaGreat.Ow
open Go.ChangeShapes Go.WideShapes Go.ChangeAt Go.RowKit
set_option linter.unusedVariables false

theorem append_where {P : Program} (w : World) (base : Nat) (t ty e : TypeId) (i : TypeInfo) (z : Value) (size bytes : Nat) (ht : P.underlying t = some (.slice e)) (hi : P.info? e = some i) (hz : i.zero = some z)
    (hsize : i.size = size) (hby : i.bytes = bytes) (hzs : z.cells.size = size) (hsz : 0 < size)
    (v : Value) (n : Nat) (xs : List Value) (hown : w.ownsRow base e size v n xs)
    (a : Addr) (m c : Nat) (hm : 0 < m) (news : List Value) (hl : news.length = m * size) (hnews : ∀ j u, news[j]? = some u → w.cell? (a.add j) = some u) (h1 : ∀ u ∈ news, u.oneCell' = true)
    (h63 : n + m ≤ maxLen) (hbytes : (n + m) * bytes ≤ 140737488355328) (v' : Value) (w' : World)
    (hr' : (Builtin.append_ #[t, t] ty #[v, .slice (some a) m c]).run P w = .ok v' w') :
    v'.ownBlock = v.ownBlock ∨ ∀ g, v'.ownBlock = some g → w.heap.size ≤ g := by
  subst hsize
  subst hby
  have hsmall : n + m ≤ 9223372036854775807 := by simp only [maxLen] at h63; omega
  rcases hown.2 with ⟨rfl, rfl⟩ | ⟨g, cap, cur, rfl, hbg, hg, hnc, hcm, hcs, htake⟩
  · have hr := run_append_nil (P := P) w t ty e i z ht hi hz a m c news hl hnews (by omega) (by omega) (by have hb := hbytes; simp only [Nat.zero_add] at hb; omega)
    rw [hr] at hr'
    injection hr' with e1 e2
    subst e1
    right
    intro g hg
    simp only [Value.ownBlock, Option.some.injEq] at hg
    omega
  · by_cases hroom : n + m ≤ cap
    · have hfit : n * i.size + news.length ≤ cur.size := by rw [hl, hcs, ← Nat.add_mul]; exact Nat.mul_le_mul_right _ hroom
      have hr := run_append_room (P := P) w t ty e i ht hi g n cap cur hg a m c news hl hnews h1 hroom hfit
      rw [hr] at hr'
      injection hr' with e1 e2
      subst e1
      left
      rfl
    · have holds : ∀ j u, xs[j]? = some u → w.cell? ((⟨g, 0, none⟩ : Addr).add j) = some u := hown.cells (g := g) rfl
      have hr := run_append_grow (P := P) w t ty e i z ht hi hz ⟨g, 0, none⟩ n cap xs hown.1 holds a m c news hl hnews (by omega) (by omega) (growslice_fits (by omega) hbytes)
      rw [hr] at hr'
      injection hr' with e1 e2
      subst e1
      right
      intro g hg
      simp only [Value.ownBlock, Option.some.injEq] at hg
      omega

theorem wpList_append_to {P : Program} {ops : Array Oper} {rest : List Oper} {o : Oper} {a : Act} {Q : Exit → Act → World → Prop} (w : World) (hgd : o.guard = none) (s x : Operand) (t : TypeId)
    (ho : o.op = .call { callee := .builtin .append, args := #[s, x], argTypes := #[t, t] })
    (base : Nat) (e : TypeId) (i : TypeInfo) (z : Value) (size bytes : Nat) (ht : P.underlying t = some (.slice e)) (hi : P.info? e = some i) (hz : i.zero = some z)
    (hsize : i.size = size) (hby : i.bytes = bytes) (hzs : z.cells.size = size) (hsz : 0 < size)
    (v : Value) (n : Nat) (xs : List Value) (hs : a.eval s = v) (hown : w.ownsRow base e size v n xs)
    (ad : Addr) (m c : Nat) (hm : 0 < m) (news : List Value) (hx : a.eval x = .slice (some ad) m c) (hl : news.length = m * size) (hnews : ∀ j u, news[j]? = some u → w.cell? (ad.add j) = some u) (h1 : ∀ u ∈ news, u.oneCell' = true)
    (h63 : n + m ≤ maxLen) (hbytes : (n + m) * bytes ≤ 140737488355328) (hbase : base ≤ w.heap.size)
    (h : ∀ v' w', w'.ownsRow base e size v' (n + m) (xs ++ news) → w.grownBy w' v.ownBlock → (v'.ownBlock = v.ownBlock ∨ ∀ g, v'.ownBlock = some g → w.heap.size ≤ g) → wpList P ops Q rest (a.put o.dst v') w') :
    wpList P ops Q (o :: rest) a w := by
  refine wpList_plain hgd fun _ hK => ?_
  obtain ⟨v', w', hr, h2, h3, _⟩ := run_append_own (P := P) w base t o.type e i z size bytes ht hi hz hsize hby hzs hsz v n xs hown ad m c news hl hnews h1 h63 hbytes hbase
  have h4 := append_where (P := P) w base t o.type e i z size bytes ht hi hz hsize hby hzs hsz v n xs hown ad m c hm news hl hnews h1 h63 hbytes v' w' hr
  unfold Oper.wp execOp
  simp only [ho, resolve, invoke, builtin, Sem.run_bind, Sem.run_pure, Result.andThen_ok, List.map_toArray, List.map_cons, List.map_nil, hs, hx, hr]
  exact hK _ _ (h v' w' h2 h3 h4)
theorem wp_append_to {P : Program} (w : World) {o : Oper} {a : Act} {K : Act → World → Prop} {Q : Exit → Act → World → Prop} (s x : Operand) (t : TypeId)
    (ho : o.op = .call { callee := .builtin .append, args := #[s, x], argTypes := #[t, t] })
    (base : Nat) (e : TypeId) (i : TypeInfo) (z : Value) (size bytes : Nat) (ht : P.underlying t = some (.slice e)) (hi : P.info? e = some i) (hz : i.zero = some z)
    (hsize : i.size = size) (hby : i.bytes = bytes) (hzs : z.cells.size = size) (hsz : 0 < size)
    (v : Value) (n : Nat) (xs : List Value) (hs : a.eval s = v) (hown : w.ownsRow base e size v n xs)
    (ad : Addr) (m c : Nat) (hm : 0 < m) (news : List Value) (hx : a.eval x = .slice (some ad) m c) (hl : news.length = m * size) (hnews : ∀ j u, news[j]? = some u → w.cell? (ad.add j) = some u) (h1 : ∀ u ∈ news, u.oneCell' = true)
    (h63 : n + m ≤ maxLen) (hbytes : (n + m) * bytes ≤ 140737488355328) (hbase : base ≤ w.heap.size)
    (h : ∀ v' w', w'.ownsRow base e size v' (n + m) (xs ++ news) → w.grownBy w' v.ownBlock → (v'.ownBlock = v.ownBlock ∨ ∀ g, v'.ownBlock = some g → w.heap.size ≤ g) → K (a.put o.dst v') w') : o.wp P a w K Q := by
  obtain ⟨v', w', hr, h2, h3, _⟩ := run_append_own (P := P) w base t o.type e i z size bytes ht hi hz hsize hby hzs hsz v n xs hown ad m c news hl hnews h1 h63 hbytes hbase
  have h4 := append_where (P := P) w base t o.type e i z size bytes ht hi hz hsize hby hzs hsz v n xs hown ad m c hm news hl hnews h1 h63 hbytes v' w' hr
  unfold Oper.wp execOp
  simp only [ho, resolve, invoke, builtin, Sem.run_bind, Sem.run_pure, Result.andThen_ok, List.map_toArray, List.map_cons, List.map_nil, hs, hx, hr]
  exact h v' w' h2 h3 h4
theorem grown_trans {a w w' : World} {row : Option Nat} (h : a.grownBy w row) (k : w.grownBy w' row) : a.grownBy w' row :=
  ⟨k.os.trans h.os, k.tape.trans h.tape, k.output.trans h.output, Nat.le_trans h.size k.size, fun i hi hne => (k.block i (Nat.lt_of_lt_of_le hi h.size) hne).trans (h.block i hi hne)⟩
end Go.Proofs.YtbefcdjcefmicaaGreat.Ow

namespace Go.Proofs.YtbefcdjcefmicaaGreat.Em
open Go.ChangeShapes Go.WideShapes Go.ChangeAt Go.RowKit En
set_option linter.unusedVariables false
set_option linter.unusedSimpArgs false
set_option maxRecDepth 100000
set_option maxHeartbeats 1000000

/-- A function has done its part; closures lead where they led. -/
def Does (A : Book) (w : World) (s : Nat) (σ' : St) (v : Value) : Ending → World → Prop := fun e w' =>
  e = .returned v ∧ ∃ A', Rep A' σ' w' ∧ Grow A.L w A'.L w' ∧ Stay A A' s ∧ A'.bx = A.bx ∧ A'.vpairs = A.vpairs
theorem kp_same {A A' : Book} {σ σ' : St} {s : Nat} (st : Stay A A' s) (h1 : A'.bx = A.bx) (h2 : A'.vpairs = A.vpairs) (h3 : (σ'.c s).op.key = (σ.c s).op.key) (h4 : (σ'.c s).r.pairs = (σ.c s).r.pairs) : kp A' σ' s = kp A σ s := by
  unfold kp; rw [st.be, st.bt, st.bc, h1, h2, h3, h4]
theorem info_parts {P : Program} {t : TypeId} {z : Value} {s b : Nat} (h : (P.info? t).map (fun i => (i.zero, i.size, i.bytes)) = some (some z, s, b)) : ∃ i, P.info? t = some i ∧ i.zero = some z ∧ i.size = s ∧ i.bytes = b := by
  cases hi : P.info? t with
  | none => rw [hi] at h; cases h
  | some i =>
    rw [hi] at h
    simp only [Option.map_some, Option.some.injEq, Prod.mk.injEq] at h
    exact ⟨i, rfl, h.1, h.2.1, h.2.2⟩
theorem slotOf_cast {l : Nat} (h1 : 1 ≤ l % 131072) : ((slotOf l : Nat) : Int) = (l : Int) % 131072 - 1 := by unfold slotOf; omega
theorem data_any {A : Book} {σ : St} {w : World} (hR : Rep A σ w) (l : Nat) (h1 : 1 ≤ l % 131072) (h2 : l % 131072 ≤ σ.slots) (hl : l < 18446744073709551616) :
    Calls Tryz.prog 64 #[.pointer (some ⟨A.be, 0, none⟩), .int .u64 (l : Int)] w fun e w' => e = .returned (.pointer (some ⟨A.bv, 2 * slotOf l, none⟩)) ∧ w = w' := by
  have c4 : w.cell? ⟨A.be, 4, none⟩ = some (.slice (some ⟨A.bv, 0, none⟩) σ.slots σ.slots) := hR.eng 4 rfl
  have hu := Word.unlink_any (l : Int) (by omega) (by omega) w
  rw [← slotOf_cast h1] at hu
  have hi : slotOf l < σ.slots := by unfold slotOf; omega
  have hsl := hR.sl
  generalize slotOf l = i at *
  generalize hn : σ.slots = n at *
  have b1 : (i : Int) < (n : Int) := by omega
  have b0 : (0 : Int) ≤ (i : Int) := by omega
  have HU := Lib.hid hu
  clear hR h1 h2 hl hi hn hu
  go_enter Tryz.func64, Tryz.ntmps64
  go_wp2_with (go_at_call 92; refine HU.out.mono ?_; rintro e w' ⟨rfl, rfl⟩)
  go_ret
  refine ⟨?_, rfl⟩
  first | rfl | (simp [Nat.mul_comm]; done)
theorem ThnRep.form {p : KP} {L : Lab} {w : World} {v : Value} {key : Nat} {t : Thn} (h : ThnRep p L w v key t) : ∃ f c, v = .func (.func f) #[] c := by
  cases t
  · obtain ⟨b0, b1, b2, b3, e, _⟩ := h; exact ⟨_, _, e⟩
  · obtain ⟨b0, b1, b2, b3, b4, e, _⟩ := h; exact ⟨_, _, e⟩
  · obtain ⟨b0, b1, b2, b3, e, _⟩ := h; exact ⟨_, _, e⟩
  · obtain ⟨b0, b1, b2, b3, b4, e, _⟩ := h; exact ⟨_, _, e⟩
theorem find_any {A : Book} {σ : St} {w : World} (hR : Rep A σ w) (s key at_ : Nat) (vt : Value) (thn : Thn) (hv : ThnRep (kp A σ s) A.L w vt key thn) :
    Calls Tryz.prog 108 #[.pointer (some ⟨A.be, 0, none⟩), .pointer (some ⟨A.bt s, 0, none⟩), .int .i64 (key : Int), .int .u64 (at_ : Int), vt] w (Tells A w s (σ, .start ⟨key, at_, thn⟩)) := by
  obtain ⟨fv, cv, rfl⟩ := hv.form
  have F := Lib.hid (allocs1 hR #[.pointer (some ⟨A.be, 0, none⟩), .pointer (some ⟨A.bt s, 0, none⟩), .int .i64 (key : Int), .int .u64 (at_ : Int), .func (.func fv) #[] cv] 235)
  have HV := Lib.hid hv
  clear hR hv
  go_enter Tryz.func108, Tryz.ntmps108
  go_wp2
  go_ret
  obtain ⟨r1, r2, f0⟩ := F.out
  exact ⟨A, _, rfl, r1, r2, Stay.refl _ _, _, rfl, _, _, f0, HV.out.grow r2⟩
theorem infoS : (Tryz.prog.info? 237).map (fun i => (i.zero, i.size, i.bytes)) = some (some (.agg #[.int .i64 0, .int .u64 0, .bool false]), 3, 24) := by kernel_rfl
theorem read_any {A : Book} {σ : St} {w : World} (hR : Rep A σ w) (s : Nat) (t : Txn) (ht : σ.txns.getD s none = some t) (key link : Nat) (got : Bool) (hn : t.reads.length < 1000000) :
    Calls Tryz.prog 110 #[.pointer (some ⟨A.bt s, 0, none⟩), .int .i64 (key : Int), .int .u64 (link : Int), .bool got] w (Does A w s (σ.read s key link got) (.tuple #[])) := by
  have c8 : w.cell? ⟨A.bt s, 8, none⟩ = some (A.vreads s) := hR.txn ht 8 rfl
  have z8 := hR.txnF ht 8
  have hA := hR.alloc (.cells #[.int .i64 (key : Int), .int .u64 (link : Int), .bool got] 237)
  have hown := hA.mem.all (.reads s)
  rw [mem_reads ht] at hown
  have ho := hown.1
  obtain ⟨av, capv, hv, _⟩ := Ow.own_form ho
  have hst : σ.read s key link got = σ.setT s { t with reads := t.reads ++ [(key, link, got)] } := by unfold St.read; rw [txn_get ht]
  rw [hst]
  have e2 : readCs (t.reads ++ [(key, link, got)]) = readCs t.reads ++ [.int .i64 (key : Int), .int .u64 (link : Int), .bool got] := by simp [readCs]
  have hlen : (t.reads ++ [(key, link, got)]).length = t.reads.length + 1 := by simp
  have hbm : 0 ≤ (w.alloc (.cells #[.int .i64 (key : Int), .int .u64 (link : Int), .bool got] 237)).heap.size := Nat.zero_le _
  rw [hv] at c8
  have HA := Lib.hid (And.intro hA (Grow.alloc A.L w (.cells #[.int .i64 (key : Int), .int .u64 (link : Int), .bool got] 237)))
  have HT := Lib.hid ht
  have HV := Lib.hid hv
  have HE := Lib.hid (And.intro e2 hlen)
  rw [hv] at ho
  clear hR hA ht hown hst hv e2 hlen
  generalize hrl : t.reads.length = n at *
  have HN := Lib.hid hrl
  clear hrl
  obtain ⟨i0, hi, hz0, hz1, hz2⟩ := info_parts infoS
  go_enter Tryz.func110, Tryz.ntmps110
  go_wp2_with (at_builtin; refine Ow.wpList_append_to _ rfl (.tmp 12) (.tmp 17) 115 rfl 0 _ i0 _ 3 24 Tryz.underlying115 hi hz0 hz1 hz2 rfl (by decide) (.slice av n capv) n (readCs t.reads) rfl ho ⟨w.heap.size, 0, none⟩ 1 1 (by omega) [.int .i64 (key : Int), .int .u64 (link : Int), .bool got] rfl rfl ?c1 (by intro u hu; simp at hu; rcases hu with rfl | rfl | rfl <;> rfl) (by unfold maxLen; omega) (by omega) hbm ?_)
  case c1 => exact Ow.new_row w [.int .i64 (key : Int), .int .u64 (link : Int), .bool got] _ _ rfl
  intro v' w2 hown2 hg2 hwh
  obtain ⟨hA, hG⟩ := HA.out
  obtain ⟨e2, hlen⟩ := HE.out
  obtain ⟨a4, cap4, hv4, _⟩ := Ow.own_form hown2
  have hrow := hA.readsOn HT.out (t.reads ++ [(key, link, got)]) v' (by rw [HV.out]; exact hg2) (by rw [e2, hlen]; exact hown2) (by rw [HV.out, size_alloc1]; exact hwh)
  have HO := Lib.hid (And.intro hrow.1 hrow.2.1)
  have HV4 := Lib.hid hv4
  obtain ⟨_, _, c82, z82⟩ := hrow
  rw [HV.out] at c82
  clear hA hG e2 hlen hown2 hg2 hwh ho c8 z8 hn hbm
  subst hv4
  go_wp2_with fail
  go_end0
  obtain ⟨r1, r2⟩ := HO.out
  exact ⟨rfl, _, r1, HA.out.2.trans r2, ⟨rfl, rfl, rfl, rfl, rfl, rfl, rfl, rfl, rfl, rfl, rfl, fun _ _ => rfl, fun _ _ => rfl⟩, rfl, rfl⟩
end Go.Proofs.YtbefcdjcefmicaaGreat.Em

namespace Go.Proofs.YtbefcdjcefmicaaGreat.Em
open Go.ChangeShapes Go.WideShapes Go.ChangeAt Go.RowKit En
set_option linter.unusedVariables false
set_option linter.unusedSimpArgs false
set_option maxRecDepth 100000
set_option maxHeartbeats 1000000

theorem infoE : (Tryz.prog.info? 138).map (fun i => (i.zero, i.size, i.bytes)) = some (some (.agg #[.int .i64 0, .int .i64 0, .int .u64 0, .int .i64 0, .int .i64 0, .int .i64 0, .int .i64 0, .int .i64 0, .int .i64 0, .slice none 0 0, .int .i64 0, .int .i64 0]), 12, 112) := by kernel_rfl
theorem grown_drew {w w' : World} {row : Option Nat} (h : w.drew.grownBy w' row) : w.grownBy w' row := ⟨h.os, h.tape, h.output, h.size, h.block⟩
theorem event_any {A : Book} {σ : St} {w : World} (hR : Rep A σ w) (s : Nat) (e : Ev) (k t n ok oy oh ov re rv ro rr : Int) (a : Option Addr) (pn pc : Nat) (hcs : evCs e (.slice a pn pc) = [Value.int .i64 k, .int .i64 t, .int .u64 n, .int .i64 ok, .int .i64 oy, .int .i64 oh, .int .i64 ov, .int .i64 re, .int .i64 rv, .slice a pn pc, .int .i64 ro, .int .i64 rr])
    (hp : PRow A.L w (.slice a pn pc) (pairCs e.res.pairs)) (hn : σ.tale.length < 1000000) :
    Calls Tryz.prog 53 #[.pointer (some ⟨A.be, 0, none⟩), .agg #[Value.int .i64 k, .int .i64 t, .int .u64 n, .int .i64 ok, .int .i64 oy, .int .i64 oh, .int .i64 ov, .int .i64 re, .int .i64 rv, .slice a pn pc, .int .i64 ro, .int .i64 rr]] w (Does A w s (σ.event e) (.tuple #[])) := by
  obtain ⟨h1, g1, _⟩ := allocs1 hR #[Value.int .i64 k, .int .i64 t, .int .u64 n, .int .i64 ok, .int .i64 oy, .int .i64 oh, .int .i64 ov, .int .i64 re, .int .i64 rv, .slice a pn pc, .int .i64 ro, .int .i64 rr] 138
  have c24 : (w.alloc (.cells #[Value.int .i64 k, .int .i64 t, .int .u64 n, .int .i64 ok, .int .i64 oy, .int .i64 oh, .int .i64 ov, .int .i64 re, .int .i64 rv, .slice a pn pc, .int .i64 ro, .int .i64 rr] 138)).cell? ⟨A.be, 24, none⟩ = some A.vtale := h1.eng 24 rfl
  obtain ⟨h2, g2, _, _⟩ := allocs2 hR #[Value.int .i64 k, .int .i64 t, .int .u64 n, .int .i64 ok, .int .i64 oy, .int .i64 oh, .int .i64 ov, .int .i64 re, .int .i64 rv, .slice a pn pc, .int .i64 ro, .int .i64 rr] 138 #[Value.int .i64 k, .int .i64 t, .int .u64 n, .int .i64 ok, .int .i64 oy, .int .i64 oh, .int .i64 ov, .int .i64 re, .int .i64 rv, .slice a pn pc, .int .i64 ro, .int .i64 rr] 138
  have hd : Rep A σ ((w.alloc (.cells #[Value.int .i64 k, .int .i64 t, .int .u64 n, .int .i64 ok, .int .i64 oy, .int .i64 oh, .int .i64 ov, .int .i64 re, .int .i64 rv, .slice a pn pc, .int .i64 ro, .int .i64 rr] 138)).alloc (.cells #[Value.int .i64 k, .int .i64 t, .int .u64 n, .int .i64 ok, .int .i64 oy, .int .i64 oh, .int .i64 ov, .int .i64 re, .int .i64 rv, .slice a pn pc, .int .i64 ro, .int .i64 rr] 138)) := h2
  have c25 : ((w.alloc (.cells #[Value.int .i64 k, .int .i64 t, .int .u64 n, .int .i64 ok, .int .i64 oy, .int .i64 oh, .int .i64 ov, .int .i64 re, .int .i64 rv, .slice a pn pc, .int .i64 ro, .int .i64 rr] 138)).alloc (.cells #[Value.int .i64 k, .int .i64 t, .int .u64 n, .int .i64 ok, .int .i64 oy, .int .i64 oh, .int .i64 ov, .int .i64 re, .int .i64 rv, .slice a pn pc, .int .i64 ro, .int .i64 rr] 138)).cell? ⟨A.be, 24, none⟩ = some A.vtale := h2.eng 24 rfl
  have hown := (hd.mem.all .tale).1
  obtain ⟨av, capv, hv, _⟩ := Ow.own_form hown
  rw [hv] at c24 c25 hown
  have F : ∀ v' w2, w2.ownsRow 0 138 12 v' (σ.tale.length + 1) (A.taleCs ++ [Value.int .i64 k, .int .i64 t, .int .u64 n, .int .i64 ok, .int .i64 oy, .int .i64 oh, .int .i64 ov, .int .i64 re, .int .i64 rv, .slice a pn pc, .int .i64 ro, .int .i64 rr]) → ((w.alloc (.cells #[Value.int .i64 k, .int .i64 t, .int .u64 n, .int .i64 ok, .int .i64 oy, .int .i64 oh, .int .i64 ov, .int .i64 re, .int .i64 rv, .slice a pn pc, .int .i64 ro, .int .i64 rr] 138)).alloc (.cells #[Value.int .i64 k, .int .i64 t, .int .u64 n, .int .i64 ok, .int .i64 oy, .int .i64 oh, .int .i64 ov, .int .i64 re, .int .i64 rv, .slice a pn pc, .int .i64 ro, .int .i64 rr] 138)).grownBy w2 A.vtale.ownBlock → (v'.ownBlock = A.vtale.ownBlock ∨ ∀ g, v'.ownBlock = some g → ((w.alloc (.cells #[Value.int .i64 k, .int .i64 t, .int .u64 n, .int .i64 ok, .int .i64 oy, .int .i64 oh, .int .i64 ov, .int .i64 re, .int .i64 rv, .slice a pn pc, .int .i64 ro, .int .i64 rr] 138)).alloc (.cells #[Value.int .i64 k, .int .i64 t, .int .u64 n, .int .i64 ok, .int .i64 oy, .int .i64 oh, .int .i64 ov, .int .i64 re, .int .i64 rv, .slice a pn pc, .int .i64 ro, .int .i64 rr] 138)).heap.size ≤ g) →
      (∃ A', Rep A' (σ.event e) (w2.setCell ⟨A.be, 24, none⟩ v') ∧ Grow A.L w A'.L (w2.setCell ⟨A.be, 24, none⟩ v') ∧ Stay A A' s ∧ A'.bx = A.bx ∧ A'.vpairs = A.vpairs) ∧ w2.cell? ⟨A.be, 24, none⟩ = some A.vtale ∧ w2.frozen? ⟨A.be, 24, none⟩ = false := by
    intro v' w2 q1 q2 q3
    obtain ⟨r1, r2, r3, r4⟩ := hd.eventOn e _ v' (hp.grow g2) q2 (by rw [hcs]; exact q1) q3
    exact ⟨⟨_, r1, g2.trans r2, ⟨rfl, rfl, rfl, rfl, rfl, rfl, rfl, rfl, rfl, rfl, rfl, fun _ _ => rfl, fun _ _ => rfl⟩, rfl, rfl⟩, r3, r4⟩
  have hos := size_alloc1 (w.alloc (.cells #[Value.int .i64 k, .int .i64 t, .int .u64 n, .int .i64 ok, .int .i64 oy, .int .i64 oh, .int .i64 ov, .int .i64 re, .int .i64 rv, .slice a pn pc, .int .i64 ro, .int .i64 rr] 138)) (.cells #[Value.int .i64 k, .int .i64 t, .int .u64 n, .int .i64 ok, .int .i64 oy, .int .i64 oh, .int .i64 ov, .int .i64 re, .int .i64 rv, .slice a pn pc, .int .i64 ro, .int .i64 rr] 138)
  rw [size_alloc1] at hos
  rw [hv] at F
  have HF := Lib.hid F
  have HO := Lib.hid hown
  have HS := Lib.hid hos
  obtain ⟨i0, hi, hz0, hz1, hz2⟩ := info_parts infoE
  clear hR h1 g1 h2 g2 hd hv hp hcs F hown hos
  generalize A.taleCs = xs at *
  generalize σ.tale.length = len at *
  go_enter Tryz.func53, Tryz.ntmps53
  go_wp2_with fail
  go_region_law (first | (refine Ow.wp_append_to _ (.tmp 8) (.tmp 10) 66 rfl 0 _ i0 _ 12 112 Tryz.underlying66 hi hz0 hz1 hz2 rfl (by decide) (.slice av len capv) len xs rfl HO.out ⟨w.heap.size + 1, 0, none⟩ 1 1 (by omega) [Value.int .i64 k, .int .i64 t, .int .u64 n, .int .i64 ok, .int .i64 oy, .int .i64 oh, .int .i64 ov, .int .i64 re, .int .i64 rv, .slice a pn pc, .int .i64 ro, .int .i64 rr] rfl rfl (by intro j u hu; exact Ow.new_row (w.alloc (.cells #[Value.int .i64 k, .int .i64 t, .int .u64 n, .int .i64 ok, .int .i64 oy, .int .i64 oh, .int .i64 ov, .int .i64 re, .int .i64 rv, .slice a pn pc, .int .i64 ro, .int .i64 rr] 138)) [Value.int .i64 k, .int .i64 t, .int .u64 n, .int .i64 ok, .int .i64 oy, .int .i64 oh, .int .i64 ov, .int .i64 re, .int .i64 rv, .slice a pn pc, .int .i64 ro, .int .i64 rr] _ _ (size_alloc1 _ _).symm j u hu) (by intro u hu; simp at hu; rcases hu with rfl | rfl | rfl | rfl | rfl | rfl | rfl | rfl | rfl | rfl | rfl | rfl <;> rfl) (by unfold maxLen; omega) (by omega) (Nat.zero_le _) ?_; intro v' w2 q1 q2 q3; obtain ⟨r1, r2, r3⟩ := HF.out v' w2 q1 (grown_drew q2) q3; obtain ⟨a4, cap4, rfl, _⟩ := Ow.own_form q1; have R1 := Lib.hid r1; clear r1 q1 q2 q3))
  all_goals (go_end0; exact ⟨rfl, R1.out⟩)
end Go.Proofs.YtbefcdjcefmicaaGreat.Em

namespace Go.Proofs.YtbefcdjcefmicaaGreat.Em
open Go.ChangeShapes Go.WideShapes Go.ChangeAt Go.RowKit En
set_option linter.unusedVariables false
set_option linter.unusedSimpArgs false
set_option maxRecDepth 100000
set_option maxHeartbeats 1000000

theorem rd_one {x : Nat} (h1 : x ≤ 1099511627776) : rd x = (1, x) := if_pos h1
theorem rd_three : rd 2305843009213693952 = (3, 0) := by decide
theorem rd_two {x : Nat} (h3 : 4611686018427387904 < x ∧ x ≤ 4611686018427453439) : rd x = (2, x - 4611686018427387904) := by
  unfold rd tm ever txnBit
  rw [if_neg (by omega), if_neg (by omega), if_pos (by omega)]
theorem rd_none {x : Nat} (h1 : ¬ x ≤ 1099511627776) (h2 : ¬ x = 2305843009213693952) (h3 : ¬ (4611686018427387904 < x ∧ x ≤ 4611686018427453439)) : rd x = (0, 0) := by
  unfold rd tm ever txnBit
  rw [if_neg (by omega), if_neg (by omega), if_neg (by omega)]
theorem rd_cast (x : Nat) : Word.rdK (x : Int) = ((rd x).1 : Int) ∧ Word.rdN (x : Int) = ((rd x).2 : Int) := by
  unfold Word.rdK Word.rdN
  by_cases h1 : x ≤ 1099511627776
  · have i1 : (x : Int) ≤ 1099511627776 := by omega
    rw [rd_one h1]
    simp only [if_pos i1]
    exact ⟨rfl, trivial⟩
  · have i1 : ¬ (x : Int) ≤ 1099511627776 := by omega
    by_cases h2 : x = 2305843009213693952
    · subst h2
      rw [rd_three]
      exact ⟨by decide, by decide⟩
    · have i2 : ¬ (x : Int) = 2305843009213693952 := by omega
      by_cases h3 : 4611686018427387904 < x ∧ x ≤ 4611686018427453439
      · have i3 : 4611686018427387904 < (x : Int) ∧ (x : Int) ≤ 4611686018427453439 := by omega
        rw [rd_two h3]
        simp only [if_neg i1, if_neg i2, if_pos i3]
        exact ⟨rfl, by omega⟩
      · have i3 : ¬ (4611686018427387904 < (x : Int) ∧ (x : Int) ≤ 4611686018427453439) := by omega
        rw [rd_none h1 h2 h3]
        simp only [if_neg i1, if_neg i2, if_neg i3]
        exact ⟨rfl, rfl⟩
theorem rd_small (x : Nat) (hx : x < 18446744073709551616) : (rd x).1 ≤ 3 ∧ ((rd x).1 = 2 → (rd x).2 ≤ 65535) ∧ (rd x).2 < 18446744073709551616 := by
  by_cases h1 : x ≤ 1099511627776
  · rw [rd_one h1]; exact ⟨by simp only; omega, by simp only; omega, hx⟩
  · by_cases h2 : x = 2305843009213693952
    · subst h2; rw [rd_three]; exact ⟨by decide, by decide, by decide⟩
    · by_cases h3 : 4611686018427387904 < x ∧ x ≤ 4611686018427453439
      · rw [rd_two h3]; exact ⟨by simp only; omega, by simp only; omega, by simp only; omega⟩
      · rw [rd_none h1 h2 h3]; exact ⟨by simp only; omega, by simp only; omega, by simp only; omega⟩
theorem rd_any (x : Nat) (hx : x < 18446744073709551616) (w : World) : Calls Tryz.prog 93 #[.int .u64 (x : Int)] w fun e w' => e = .returned (.agg #[.int .i64 ((rd x).1 : Int), .int .u64 ((rd x).2 : Int)]) ∧ Below w.heap.size w w' := by
  have h := Word.read_any (x : Int) (by omega) (by omega) w
  rw [(rd_cast x).1, (rd_cast x).2] at h
  exact h
theorem Box.below {L : Lab} {w w' : World} {b : Nat} {v : Value} (h : Box L w b v) (g : Below w.heap.size w w') : Box L w' b v := h.grow (Grow.below g)
theorem Fix.cell {L : Lab} {w : World} {b : Nat} {cs : Array Value} {T : TypeId} (h : Fix L w b (.cells cs T)) (i : Nat) {v : Value} (hv : cs[i]? = some v) : w.cell? ⟨b, i, none⟩ = some v := by rw [cell_of_row w b i _ _ _ h.2]; exact hv

theorem begin_any {A : Book} {σ : St} {w : World} (hR : Rep A σ w) (s : Nat) (t : Txn) (ht : σ.txns.getD s none = some t) (bh : Nat) (hu : Hunt) (hh : HuntAt (kp A σ s) A.L w bh hu) (link x : Nat) (hx : x < 18446744073709551616) :
    Calls Tryz.prog 181 #[.pointer (some ⟨bh, 0, none⟩), .int .u64 (link : Int), .int .u64 (x : Int)] w (Tells A w s (σ, σ.beginK s hu link x)) := by
  obtain ⟨hk3, hk2, hnb⟩ := rd_small x hx
  have hrd := rd_any x hx
  obtain ⟨r1, g1, f0, f1⟩ := allocs2 hR #[.pointer (some ⟨bh, 0, none⟩)] 233 #[.int .u64 (link : Int)] 24
  have hid : (σ.t s).id = t.id := by rw [txn_get ht]
  unfold St.beginK
  rw [hid]
  generalize hK : (rd x).1 = k at *
  generalize hN : (rd x).2 = n at *
  have hh1 := hh.grow g1
  have HR := Lib.hid (And.intro r1 g1)
  have HX := Lib.hid hrd
  have HF := Lib.hid (And.intro f0 (And.intro f1 hh1))
  have HT := Lib.hid ht
  clear r1 g1 f0 f1 hh1 hh hR hrd ht hx hK hN hid
  by_cases k1 : k = 1
  · subst k1
    clear hk3 hk2
    by_cases hn : n ≤ hu.at_
    · rw [if_pos ⟨rfl, hn⟩]
      have d1 : decide ((n : Int) ≤ (hu.at_ : Int)) = true := by simpa using hn
      have d2 : decide (n ≤ hu.at_) = true := by simpa using hn
      clear hn hnb
      go_enter Tryz.func181, Tryz.ntmps181
      go_wp2_with (go_at_call 93; refine (HX.out _).mono ?_; rintro e w2 ⟨rfl, hq⟩)
      obtain ⟨r1, g1⟩ := HR.out
      obtain ⟨f0, f1, hh1⟩ := HF.out
      obtain ⟨r3, g3, f2⟩ := allocs1 (r1.below hq) #[.int .i64 1, .int .u64 (n : Int)] 190
      have gq := (Grow.below (L := A.L) hq).trans g3
      have F0 := f0.grow gq
      have F1 := f1.grow gq
      have hh3 := hh1.grow gq
      have c0 := F0.cell 0 rfl
      have c1 := F1.cell 0 rfl
      have s0 := f2.cell 0 rfl
      have s1 := f2.cell 1 rfl
      obtain ⟨vt, HTy, fh, hth⟩ := hh3
      have h0 : (w2.alloc (.cells #[.int .i64 1, .int .u64 (n : Int)] 190)).cell? ⟨bh, 1, none⟩ = some (.pointer (some ⟨A.bt s, 0, none⟩)) := fh.cell 1 rfl
      have h3 := fh.cell 3 (v := .int .u64 (hu.at_ : Int)) rfl
      have t0 : (w2.alloc (.cells #[.int .i64 1, .int .u64 (n : Int)] 190)).cell? ⟨A.bt s, 0, none⟩ = some (.int .i64 (t.id : Int)) := r3.txn HT.out 0 rfl
      have GG := Lib.hid (And.intro r3 (And.intro (g1.trans gq) (And.intro F0 (And.intro F1 (show HuntAt (kp A σ s) A.L _ bh hu from ⟨vt, HTy, fh, hth⟩)))))
      clear r1 g1 f0 f1 hh1 r3 g3 gq F0 F1 f2 fh hth hq
      generalize w2.heap.size = b2 at *
      generalize w2.alloc (.cells #[.int .i64 1, .int .u64 (n : Int)] 190) = w3 at *
      go_quiet (fail)
      go_wp2_with (go_at_call 197; refine (ended_any (GG.out.1.drewN _) s bh hu (GG.out.2.2.2.2.grow (Grow.drewN _ _ _)) link 0).mono ?_; rintro e w4 ⟨A', v, rfl, q1, q2, q3, q4⟩)
      go_ret
      exact ⟨A', v, rfl, q1, (GG.out.2.1.trans (Grow.drewN _ _ _)).trans q2, q3, q4⟩
    · rw [if_neg (fun e => hn e.2), if_pos (Or.inl (by omega))]
      have d1 : decide ((n : Int) ≤ (hu.at_ : Int)) = false := by simpa using hn
      have d2 : decide (n ≤ hu.at_) = false := by simpa using hn
      clear hn hnb
      go_enter Tryz.func181, Tryz.ntmps181
      go_wp2_with (go_at_call 93; refine (HX.out _).mono ?_; rintro e w2 ⟨rfl, hq⟩)
      obtain ⟨r1, g1⟩ := HR.out
      obtain ⟨f0, f1, hh1⟩ := HF.out
      obtain ⟨r3, g3, f2⟩ := allocs1 (r1.below hq) #[.int .i64 1, .int .u64 (n : Int)] 190
      have gq := (Grow.below (L := A.L) hq).trans g3
      have F0 := f0.grow gq
      have F1 := f1.grow gq
      have hh3 := hh1.grow gq
      have c0 := F0.cell 0 rfl
      have c1 := F1.cell 0 rfl
      have s0 := f2.cell 0 rfl
      have s1 := f2.cell 1 rfl
      obtain ⟨vt, HTy, fh, hth⟩ := hh3
      have h0 : (w2.alloc (.cells #[.int .i64 1, .int .u64 (n : Int)] 190)).cell? ⟨bh, 1, none⟩ = some (.pointer (some ⟨A.bt s, 0, none⟩)) := fh.cell 1 rfl
      have h3 := fh.cell 3 (v := .int .u64 (hu.at_ : Int)) rfl
      have t0 : (w2.alloc (.cells #[.int .i64 1, .int .u64 (n : Int)] 190)).cell? ⟨A.bt s, 0, none⟩ = some (.int .i64 (t.id : Int)) := r3.txn HT.out 0 rfl
      have GG := Lib.hid (And.intro r3 (And.intro (g1.trans gq) (And.intro F0 (And.intro F1 (show HuntAt (kp A σ s) A.L _ bh hu from ⟨vt, HTy, fh, hth⟩)))))
      clear r1 g1 f0 f1 hh1 r3 g3 gq F0 F1 f2 fh hth hq
      generalize w2.heap.size = b2 at *
      generalize w2.alloc (.cells #[.int .i64 1, .int .u64 (n : Int)] 190) = w3 at *
      go_quiet (fail)
      go_wp2_with fail
      go_quiet (fail)
      go_wp2_with fail
      go_wp2_with (go_at_call 198; refine (older_any (GG.out.1.drewN _) s bh hu (GG.out.2.2.2.2.grow (Grow.drewN _ _ _)) link).mono ?_; rintro e w4 ⟨A', v, rfl, q1, q2, q3, q4⟩)
      go_ret
      exact ⟨A', v, rfl, q1, (GG.out.2.1.trans (Grow.drewN _ _ _)).trans q2, q3, q4⟩
  · by_cases k2 : k = 2
    · subst k2
      have hn5 := hk2 rfl
      rw [if_neg (by omega)]
      have ew : IntKind.i64.wrap (n : Int) = (n : Int) := by rw [IntKind.wrap_i64]; omega
      clear hk3 hk2 k1 hnb
      by_cases hn : n = t.id
      · rw [if_pos (Or.inr hn)]
        have d1 : ((n : Int) == (t.id : Int)) = true := by simp; omega
        have d2 : ((n : Int) = (t.id : Int)) = True := by simp; omega
        clear hn hn5
        go_enter Tryz.func181, Tryz.ntmps181
        go_wp2_with (go_at_call 93; refine (HX.out _).mono ?_; rintro e w2 ⟨rfl, hq⟩)
        obtain ⟨r1, g1⟩ := HR.out
        obtain ⟨f0, f1, hh1⟩ := HF.out
        obtain ⟨r3, g3, f2⟩ := allocs1 (r1.below hq) #[.int .i64 2, .int .u64 (n : Int)] 190
        have gq := (Grow.below (L := A.L) hq).trans g3
        have F0 := f0.grow gq
        have F1 := f1.grow gq
        have hh3 := hh1.grow gq
        have c0 := F0.cell 0 rfl
        have c1 := F1.cell 0 rfl
        have s0 := f2.cell 0 rfl
        have s1 := f2.cell 1 rfl
        obtain ⟨vt, HTy, fh, hth⟩ := hh3
        have h0 : (w2.alloc (.cells #[.int .i64 2, .int .u64 (n : Int)] 190)).cell? ⟨bh, 1, none⟩ = some (.pointer (some ⟨A.bt s, 0, none⟩)) := fh.cell 1 rfl
        have h3 := fh.cell 3 (v := .int .u64 (hu.at_ : Int)) rfl
        have t0 : (w2.alloc (.cells #[.int .i64 2, .int .u64 (n : Int)] 190)).cell? ⟨A.bt s, 0, none⟩ = some (.int .i64 (t.id : Int)) := r3.txn HT.out 0 rfl
        have GG := Lib.hid (And.intro r3 (And.intro (g1.trans gq) (And.intro F0 (And.intro F1 (show HuntAt (kp A σ s) A.L _ bh hu from ⟨vt, HTy, fh, hth⟩)))))
        clear r1 g1 f0 f1 hh1 r3 g3 gq F0 F1 f2 fh hth hq
        generalize w2.heap.size = b2 at *
        generalize w2.alloc (.cells #[.int .i64 2, .int .u64 (n : Int)] 190) = w3 at *
        go_quiet (fail)
        go_wp2_with fail
        go_quiet (fail)
        go_wp2_with (go_at_call 198; refine (older_any (GG.out.1.drewN _) s bh hu (GG.out.2.2.2.2.grow (Grow.drewN _ _ _)) link).mono ?_; rintro e w4 ⟨A', v, rfl, q1, q2, q3, q4⟩)
        go_ret
        exact ⟨A', v, rfl, q1, (GG.out.2.1.trans (Grow.drewN _ _ _)).trans q2, q3, q4⟩
      · rw [if_neg (by omega)]
        have d1 : ((n : Int) == (t.id : Int)) = false := by simp; omega
        have d2 : ((n : Int) = (t.id : Int)) = False := by simp; omega
        clear hn hn5
        go_enter Tryz.func181, Tryz.ntmps181
        go_wp2_with (go_at_call 93; refine (HX.out _).mono ?_; rintro e w2 ⟨rfl, hq⟩)
        obtain ⟨r1, g1⟩ := HR.out
        obtain ⟨f0, f1, hh1⟩ := HF.out
        obtain ⟨r3, g3, f2⟩ := allocs1 (r1.below hq) #[.int .i64 2, .int .u64 (n : Int)] 190
        have gq := (Grow.below (L := A.L) hq).trans g3
        have F0 := f0.grow gq
        have F1 := f1.grow gq
        have hh3 := hh1.grow gq
        have c0 := F0.cell 0 rfl
        have c1 := F1.cell 0 rfl
        have s0 := f2.cell 0 rfl
        have s1 := f2.cell 1 rfl
        obtain ⟨vt, HTy, fh, hth⟩ := hh3
        have h0 : (w2.alloc (.cells #[.int .i64 2, .int .u64 (n : Int)] 190)).cell? ⟨bh, 1, none⟩ = some (.pointer (some ⟨A.bt s, 0, none⟩)) := fh.cell 1 rfl
        have h3 := fh.cell 3 (v := .int .u64 (hu.at_ : Int)) rfl
        have t0 : (w2.alloc (.cells #[.int .i64 2, .int .u64 (n : Int)] 190)).cell? ⟨A.bt s, 0, none⟩ = some (.int .i64 (t.id : Int)) := r3.txn HT.out 0 rfl
        have GG := Lib.hid (And.intro r3 (And.intro (g1.trans gq) (And.intro F0 (And.intro F1 (show HuntAt (kp A σ s) A.L _ bh hu from ⟨vt, HTy, fh, hth⟩)))))
        clear r1 g1 f0 f1 hh1 r3 g3 gq F0 F1 f2 fh hth hq
        generalize w2.heap.size = b2 at *
        generalize w2.alloc (.cells #[.int .i64 2, .int .u64 (n : Int)] 190) = w3 at *
        have GA : ∀ q, Rep A σ (w3.drewN q) ∧ Grow A.L w A.L (w3.drewN q) ∧ Fix A.L (w3.drewN q) w.heap.size (.cells #[.pointer (some ⟨bh, 0, none⟩)] 233) ∧ Fix A.L (w3.drewN q) (w.heap.size + 1) (.cells #[.int .u64 (link : Int)] 24) ∧ HuntAt (kp A σ s) A.L (w3.drewN q) bh hu := fun q =>
          ⟨GG.out.1.drewN q, GG.out.2.1.trans (Grow.drewN _ _ q), GG.out.2.2.1.grow (Grow.drewN _ _ q), GG.out.2.2.2.1.grow (Grow.drewN _ _ q), GG.out.2.2.2.2.grow (Grow.drewN _ _ q)⟩
        have HA := Lib.hid GA
        clear GA
        go_quiet (fail)
        go_wp2_with fail
        go_quiet (fail)
        generalize hw : (w3.drewN _).drewN _ = w5
        have GB : Rep A σ w5 ∧ Grow A.L w A.L w5 ∧ Fix A.L w5 w.heap.size (.cells #[.pointer (some ⟨bh, 0, none⟩)] 233) ∧ Fix A.L w5 (w.heap.size + 1) (.cells #[.int .u64 (link : Int)] 24) ∧ HuntAt (kp A σ s) A.L w5 bh hu := by
          rw [← hw]
          obtain ⟨p1, p2, p3, p4, p5⟩ := HA.out _
          exact ⟨p1.drewN _, p2.trans (Grow.drewN _ _ _), p3.grow (Grow.drewN _ _ _), p4.grow (Grow.drewN _ _ _), p5.grow (Grow.drewN _ _ _)⟩
        have s15 : w5.cell? ⟨b2, 1, none⟩ = some (.int .u64 (n : Int)) := by rw [← hw]; exact s1
        have HM := Lib.hid (allocs1 GB.1 #[.int .i64 (n : Int)] 3)
        have HB := Lib.hid GB
        clear GB hw
        go_wp2_with fail
        go_ret
        obtain ⟨m1, m2, m3⟩ := HM.out
        obtain ⟨_, p2, p3, p4, p5⟩ := HB.out
        exact ⟨A, _, rfl, m1, p2.trans m2, Stay.refl _ _, _, _, _, rfl, ⟨_, (p3.grow m2).box, p5.grow m2⟩, m3.box, (p4.grow m2).box⟩
    · rw [if_neg (fun e => k1 e.1), if_pos (Or.inl k2)]
      have d1 : ((k : Int) == 1) = false := by simp; omega
      have d2 : ((k : Int) = 1) = False := by simp; omega
      have d3 : ((k : Int) == 2) = false := by simp; omega
      have d4 : ((k : Int) = 2) = False := by simp; omega
      have d5 : ((k : Int) != 2) = true := by simp; omega
      clear k1 k2 hk2 hk3 hnb
      go_enter Tryz.func181, Tryz.ntmps181
      go_wp2_with (go_at_call 93; refine (HX.out _).mono ?_; rintro e w2 ⟨rfl, hq⟩)
      obtain ⟨r1, g1⟩ := HR.out
      obtain ⟨f0, f1, hh1⟩ := HF.out
      obtain ⟨r3, g3, f2⟩ := allocs1 (r1.below hq) #[.int .i64 (k : Int), .int .u64 (n : Int)] 190
      have gq := (Grow.below (L := A.L) hq).trans g3
      have F0 := f0.grow gq
      have F1 := f1.grow gq
      have hh3 := hh1.grow gq
      have c0 := F0.cell 0 rfl
      have c1 := F1.cell 0 rfl
      have s0 := f2.cell 0 rfl
      have s1 := f2.cell 1 rfl
      obtain ⟨vt, HTy, fh, hth⟩ := hh3
      have h0 : (w2.alloc (.cells #[.int .i64 (k : Int), .int .u64 (n : Int)] 190)).cell? ⟨bh, 1, none⟩ = some (.pointer (some ⟨A.bt s, 0, none⟩)) := fh.cell 1 rfl
      have h3 := fh.cell 3 (v := .int .u64 (hu.at_ : Int)) rfl
      have t0 : (w2.alloc (.cells #[.int .i64 (k : Int), .int .u64 (n : Int)] 190)).cell? ⟨A.bt s, 0, none⟩ = some (.int .i64 (t.id : Int)) := r3.txn HT.out 0 rfl
      have GG := Lib.hid (And.intro r3 (And.intro (g1.trans gq) (And.intro F0 (And.intro F1 (show HuntAt (kp A σ s) A.L _ bh hu from ⟨vt, HTy, fh, hth⟩)))))
      clear r1 g1 f0 f1 hh1 r3 g3 gq F0 F1 f2 fh hth hq
      generalize w2.heap.size = b2 at *
      generalize w2.alloc (.cells #[.int .i64 (k : Int), .int .u64 (n : Int)] 190) = w3 at *
      go_quiet (fail)
      go_wp2_with fail
      go_quiet (fail)
      go_wp2_with (go_at_call 198; refine (older_any (GG.out.1.drewN _) s bh hu (GG.out.2.2.2.2.grow (Grow.drewN _ _ _)) link).mono ?_; rintro e w4 ⟨A', v, rfl, q1, q2, q3, q4⟩)
      go_ret
      exact ⟨A', v, rfl, q1, (GG.out.2.1.trans (Grow.drewN _ _ _)).trans q2, q3, q4⟩
end Go.Proofs.YtbefcdjcefmicaaGreat.Em
