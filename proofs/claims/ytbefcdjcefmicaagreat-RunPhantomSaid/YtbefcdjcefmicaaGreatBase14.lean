/- Texts of this claim, laid together: Sc, Sn, En, Oa. -/
import Derived.Test.YtbefcdjcefmicaaGreatBase13
import Derived.Test.YtbefcdjcefmicaaGreatBase11
namespace Go.Proofs.YtbefcdjcefmicaaGreat.Em
open Go.ChangeShapes Go.WideShapes Go.ChangeAt Go.RowKit En
set_option linter.unusedVariables false
set_option linter.unusedSimpArgs false
set_option maxRecDepth 100000
set_option maxHeartbeats 1600000

/-- What a scan asks of the keys that its transaction wrote. -/
def CelsOk (σ : St) (t : Txn) : Prop := ∀ key x, t.cell key = some x → x.there = true → VL σ x.own
theorem enter_tellP : ∀ args w, (callFunc 111 args).run Tryz.prog w = .ok (.enter 111 args) w := fun args w => by kernel_rfl
theorem scanN_hi (s n : Nat) (σ : St) (key : Nat) (h : (σ.c s).op.hi < key) : scanN s (n + 1) σ key = (σ, .fin (σ.c s).r) := by unfold scanN; rw [if_pos h]
theorem scanN_none (s n : Nat) (σ : St) (key : Nat) (h : ¬ (σ.c s).op.hi < key) (hx : (σ.t s).cell key = none) : scanN s (n + 1) σ key = (σ, .start ⟨key, (σ.t s).begin_, .scan key⟩) := by unfold scanN; rw [if_neg h, hx]
theorem scanN_some (s n : Nat) (σ : St) (key : Nat) (x : Cel) (h : ¬ (σ.c s).op.hi < key) (hx : (σ.t s).cell key = some x) : scanN s (n + 1) σ key = scanN s n (if x.there then σ.tell s key (σ.valueOf x.own) else σ) (key + 1) := by
  conv => lhs; unfold scanN
  rw [if_neg h, hx]
theorem scan_end {A : Book} {σ : St} {w : World} (hR : Rep A σ w) (s : Nat) (t : Txn) (ht : σ.txns.getD s none = some t) (c : Cal) (hc : σ.calls.getD s none = some c) (key : Nat) (hk : c.op.hi < key) :
    Calls Tryz.prog 83 #[.pointer (some ⟨A.be, 0, none⟩), .pointer (some ⟨A.bt s, 0, none⟩), .pointer (some ⟨A.bc s, 0, none⟩), .int .i64 (key : Int)] w (Tells A w s (σ, .fin c.r)) := by
  obtain ⟨r5, g5, f0, f1, f2, f3, f4⟩ := allocs5 hR #[.pointer (some ⟨A.be, 0, none⟩)] 27 #[.pointer (some ⟨A.bt s, 0, none⟩)] 102 #[.pointer (some ⟨A.bc s, 0, none⟩)] 107 #[.int .i64 (key : Int)] 3 #[.func (.func 111) #[] #[.pointer (some ⟨w.heap.size + 1 + 1, 0, none⟩), .pointer (some ⟨w.heap.size + 1 + 1 + 1, 0, none⟩)]] 209
  have a0 := f0.cell 0 (v := .pointer (some ⟨A.be, 0, none⟩)) rfl
  have a1 := f1.cell 0 (v := .pointer (some ⟨A.bt s, 0, none⟩)) rfl
  have a2 := f2.cell 0 (v := .pointer (some ⟨A.bc s, 0, none⟩)) rfl
  have a3 := f3.cell 0 (v := .int .i64 (key : Int)) rfl
  have a4 := f4.cell 0 (v := .func (.func 111) #[] #[.pointer (some ⟨w.heap.size + 1 + 1, 0, none⟩), .pointer (some ⟨w.heap.size + 1 + 1 + 1, 0, none⟩)]) rfl
  have a7 := r5.txn ht 7 (v := .map (some (A.bm s))) rfl
  have ah := r5.call hc 2 (v := .int .i64 (c.op.hi : Int)) rfl
  have hlk := fun n => lookup_run (r5.drewN n) ht key
  obtain ⟨pv, hpv⟩ : ∃ pv, A.px s t key = .pointer pv := by unfold Book.px; split <;> exact ⟨_, rfl⟩
  rw [hpv] at hlk
  have hown := (hR.mem.all (.pairs s))
  rw [mem_pairs hc] at hown
  obtain ⟨pa, pcap, hvp, _⟩ := Ow.own_form hown.1
  have HW : Hid (∀ w6, Below (((((w.alloc (.cells #[.pointer (some ⟨A.be, 0, none⟩)] 27)).alloc (.cells #[.pointer (some ⟨A.bt s, 0, none⟩)] 102)).alloc (.cells #[.pointer (some ⟨A.bc s, 0, none⟩)] 107)).alloc (.cells #[.int .i64 (key : Int)] 3)).alloc (.cells #[.func (.func 111) #[] #[.pointer (some ⟨w.heap.size + 1 + 1, 0, none⟩), .pointer (some ⟨w.heap.size + 1 + 1 + 1, 0, none⟩)]] 209)).heap.size (((((w.alloc (.cells #[.pointer (some ⟨A.be, 0, none⟩)] 27)).alloc (.cells #[.pointer (some ⟨A.bt s, 0, none⟩)] 102)).alloc (.cells #[.pointer (some ⟨A.bc s, 0, none⟩)] 107)).alloc (.cells #[.int .i64 (key : Int)] 3)).alloc (.cells #[.func (.func 111) #[] #[.pointer (some ⟨w.heap.size + 1 + 1, 0, none⟩), .pointer (some ⟨w.heap.size + 1 + 1 + 1, 0, none⟩)]] 209)) w6 → w6.cell? ⟨w.heap.size, 0, none⟩ = some (.pointer (some ⟨A.be, 0, none⟩)) ∧ w6.cell? ⟨w.heap.size + 1 + 1, 0, none⟩ = some (.pointer (some ⟨A.bc s, 0, none⟩)) ∧ w6.cell? ⟨A.bc s, 5, none⟩ = some (.int .i64 (c.r.e : Int)) ∧ w6.cell? ⟨A.bc s, 6, none⟩ = some (.int .i64 (c.r.value : Int)) ∧ w6.cell? ⟨A.bc s, 7, none⟩ = some (A.vpairs s) ∧ w6.cell? ⟨A.bc s, 8, none⟩ = some (.int .i64 (c.r.over : Int)) ∧ w6.cell? ⟨A.bc s, 9, none⟩ = some (.int .i64 (c.r.reason : Int)) ∧
      Calls Tryz.prog 107 #[.pointer (some ⟨A.be, 0, none⟩), .pointer (some ⟨A.bc s, 0, none⟩), .agg #[.int .i64 (c.r.e : Int), .int .i64 (c.r.value : Int), A.vpairs s, .int .i64 (c.r.over : Int), .int .i64 (c.r.reason : Int)]] w6.drew (Tells A w6.drew s (σ, .fin c.r)) ∧ Grow A.L w A.L w6.drew) := by
    intro w6 hb
    have q := r5.below hb
    have gd := Grow.below (L := A.L) hb
    have g := g5.trans gd
    exact ⟨(f0.grow gd).cell 0 rfl, (f2.grow gd).cell 0 rfl, q.call hc 5 rfl, q.call hc 6 rfl, q.call hc 7 rfl, q.call hc 8 rfl, q.call hc 9 rfl, ends_at q.drew s c.r c.r.e c.r.value c.r.over c.r.reason (A.vpairs s) rfl (.inl ⟨rfl, by rw [call_get hc]⟩), g.trans (Grow.drew _ _)⟩
  rw [hvp] at HW
  clear hR ht hc r5 g5 f0 f1 f2 f3 f4 hpv hown hvp
  generalize c.op.hi = hi at *
  have fh1 : decide ((hi : Int) < (key : Int)) = true := by first | (simp; done) | (simp; omega)
  have fh2 : ((hi : Int) < (key : Int)) = True := by first | (simp; done) | (simp; omega)
  have fh3 : (hi < key) = True := by first | (simp; done) | (simp; omega)
  have fh4 : decide (hi < key) = true := by first | (simp; done) | (simp; omega)
  clear hk
  go_enter Tryz.func83, Tryz.ntmps83
  go_wp2_with fail
  generalize hw5 : ((((w.alloc _).alloc _).alloc _).alloc _).alloc _ = w5 at *
  go_quiet (fail)
  go_wp2_with fail
  go_quiet (fail)
  first | generalize hw6 : (w5.drewN _).drewN _ = w6 | generalize hw6 : w5.drewN _ = w6
  have hb6 : Below w5.heap.size w5 w6 := by rw [← hw6]; exact ⟨rfl, rfl, rfl, Nat.le_refl _, fun _ _ => rfl⟩
  obtain ⟨e0, e2, k5, k6, k7, k8, k9, he, gg⟩ := HW.out w6 hb6
  have HE := Lib.hid (And.intro he gg)
  clear a0 a1 a2 a3 a4 a7 ah hlk hw6 hb6 he gg
  go_wp2_with fail
  refine wp_region_still_tail 6 (by kernel_rfl) (by kernel_rfl) ?_
  simp only [List.take_succ_cons, List.take_zero, List.drop_succ_cons, List.drop_zero]
  repeat still_step
  refine wpStill_nil ?_
  change wpList _ _ _ _ _ w6.drew
  generalize w6.drew = wd at *
  go_wp2_with (go_at_call 107; refine HE.out.1.mono ?_; rintro e w2 ⟨A2, v, rfl, p1, p2, p3, p4⟩)
  go_ret
  exact ⟨A2, v, rfl, p1, HE.out.2.trans p2, p3, p4⟩
theorem scan_find {A : Book} {σ : St} {w : World} (hR : Rep A σ w) (s : Nat) (t : Txn) (ht : σ.txns.getD s none = some t) (c : Cal) (hc : σ.calls.getD s none = some c) (key : Nat) (hk : ¬ c.op.hi < key) (hx : t.cell key = none) :
    Calls Tryz.prog 83 #[.pointer (some ⟨A.be, 0, none⟩), .pointer (some ⟨A.bt s, 0, none⟩), .pointer (some ⟨A.bc s, 0, none⟩), .int .i64 (key : Int)] w (Tells A w s (σ, .start ⟨key, t.begin_, .scan key⟩)) := by
  obtain ⟨r5, g5, f0, f1, f2, f3, f4⟩ := allocs5 hR #[.pointer (some ⟨A.be, 0, none⟩)] 27 #[.pointer (some ⟨A.bt s, 0, none⟩)] 102 #[.pointer (some ⟨A.bc s, 0, none⟩)] 107 #[.int .i64 (key : Int)] 3 #[.func (.func 111) #[] #[.pointer (some ⟨w.heap.size + 1 + 1, 0, none⟩), .pointer (some ⟨w.heap.size + 1 + 1 + 1, 0, none⟩)]] 209
  have a0 := f0.cell 0 (v := .pointer (some ⟨A.be, 0, none⟩)) rfl
  have a1 := f1.cell 0 (v := .pointer (some ⟨A.bt s, 0, none⟩)) rfl
  have a2 := f2.cell 0 (v := .pointer (some ⟨A.bc s, 0, none⟩)) rfl
  have a3 := f3.cell 0 (v := .int .i64 (key : Int)) rfl
  have a4 := f4.cell 0 (v := .func (.func 111) #[] #[.pointer (some ⟨w.heap.size + 1 + 1, 0, none⟩), .pointer (some ⟨w.heap.size + 1 + 1 + 1, 0, none⟩)]) rfl
  have a7 := r5.txn ht 7 (v := .map (some (A.bm s))) rfl
  have ah := r5.call hc 2 (v := .int .i64 (c.op.hi : Int)) rfl
  have hlk := fun n => lookup_run (r5.drewN n) ht key
  have hpx : A.px s t key = .pointer none := by unfold Book.px; rw [hx]; rfl
  rw [hpx] at hlk
  have HW : Hid (∀ w6, Below (((((w.alloc (.cells #[.pointer (some ⟨A.be, 0, none⟩)] 27)).alloc (.cells #[.pointer (some ⟨A.bt s, 0, none⟩)] 102)).alloc (.cells #[.pointer (some ⟨A.bc s, 0, none⟩)] 107)).alloc (.cells #[.int .i64 (key : Int)] 3)).alloc (.cells #[.func (.func 111) #[] #[.pointer (some ⟨w.heap.size + 1 + 1, 0, none⟩), .pointer (some ⟨w.heap.size + 1 + 1 + 1, 0, none⟩)]] 209)).heap.size (((((w.alloc (.cells #[.pointer (some ⟨A.be, 0, none⟩)] 27)).alloc (.cells #[.pointer (some ⟨A.bt s, 0, none⟩)] 102)).alloc (.cells #[.pointer (some ⟨A.bc s, 0, none⟩)] 107)).alloc (.cells #[.int .i64 (key : Int)] 3)).alloc (.cells #[.func (.func 111) #[] #[.pointer (some ⟨w.heap.size + 1 + 1, 0, none⟩), .pointer (some ⟨w.heap.size + 1 + 1 + 1, 0, none⟩)]] 209)) w6 → w6.cell? ⟨w.heap.size, 0, none⟩ = some (.pointer (some ⟨A.be, 0, none⟩)) ∧ w6.cell? ⟨w.heap.size + 1, 0, none⟩ = some (.pointer (some ⟨A.bt s, 0, none⟩)) ∧ w6.cell? ⟨w.heap.size + 1 + 1 + 1, 0, none⟩ = some (.int .i64 (key : Int)) ∧ w6.cell? ⟨A.bt s, 3, none⟩ = some (.int .u64 (t.begin_ : Int)) ∧
      Calls Tryz.prog 108 #[.pointer (some ⟨A.be, 0, none⟩), .pointer (some ⟨A.bt s, 0, none⟩), .int .i64 (key : Int), .int .u64 (t.begin_ : Int), .func (.func 112) #[] #[.pointer (some ⟨w.heap.size + 1, 0, none⟩), .pointer (some ⟨w.heap.size + 1 + 1 + 1, 0, none⟩), .pointer (some ⟨w.heap.size + 1 + 1 + 1 + 1, 0, none⟩), .pointer (some ⟨w.heap.size, 0, none⟩), .pointer (some ⟨w.heap.size + 1 + 1, 0, none⟩)]] w6.drew (Tells A w6.drew s (σ, .start ⟨key, t.begin_, .scan key⟩)) ∧ Grow A.L w A.L w6.drew) := by
    intro w6 hb
    have q := r5.below hb
    have gd := Grow.below (L := A.L) hb
    have ge := gd.trans (Grow.drew A.L _)
    exact ⟨(f0.grow gd).cell 0 rfl, (f1.grow gd).cell 0 rfl, (f3.grow gd).cell 0 rfl, q.txn ht 3 rfl, find_any q.drew s key t.begin_ (.func (.func 112) #[] #[.pointer (some ⟨w.heap.size + 1, 0, none⟩), .pointer (some ⟨w.heap.size + 1 + 1 + 1, 0, none⟩), .pointer (some ⟨w.heap.size + 1 + 1 + 1 + 1, 0, none⟩), .pointer (some ⟨w.heap.size, 0, none⟩), .pointer (some ⟨w.heap.size + 1 + 1, 0, none⟩)]) (.scan key) ⟨_, _, _, _, _, rfl, f1.box.grow ge, f3.box.grow ge, ⟨_, f4.box.grow ge, _, _, rfl, f2.box.grow ge, f3.box.grow ge⟩, f0.box.grow ge, f2.box.grow ge⟩, g5.trans ge⟩
  clear hR ht hc r5 g5 f0 f1 f2 f3 f4 hpx hx
  generalize c.op.hi = hi at *
  generalize t.begin_ = bg at *
  have fh1 : decide ((hi : Int) < (key : Int)) = false := by first | (simp; done) | (simp; omega)
  have fh2 : ((hi : Int) < (key : Int)) = False := by first | (simp; done) | (simp; omega)
  have fh3 : (hi < key) = False := by first | (simp; done) | (simp; omega)
  have fh4 : decide (hi < key) = false := by first | (simp; done) | (simp; omega)
  clear hk
  go_enter Tryz.func83, Tryz.ntmps83
  go_wp2_with fail
  generalize hw5 : ((((w.alloc _).alloc _).alloc _).alloc _).alloc _ = w5 at *
  go_quiet (fail)
  go_wp2_with fail
  go_quiet (fail)
  first | generalize hw6 : (w5.drewN _).drewN _ = w6 | generalize hw6 : w5.drewN _ = w6
  have hb6 : Below w5.heap.size w5 w6 := by rw [← hw6]; exact ⟨rfl, rfl, rfl, Nat.le_refl _, fun _ _ => rfl⟩
  obtain ⟨e0, e1, e3, eb, he, gg⟩ := HW.out w6 hb6
  have HE := Lib.hid (And.intro he gg)
  clear a0 a1 a2 a3 a4 a7 ah hlk hw6 hb6 he gg
  go_wp2_with fail
  refine wp_region_still_tail 8 (by kernel_rfl) (by kernel_rfl) ?_
  simp only [List.take_succ_cons, List.take_zero, List.drop_succ_cons, List.drop_zero]
  repeat still_step
  refine wpStill_nil ?_
  change wpList _ _ _ _ _ w6.drew
  generalize w6.drew = wd at *
  go_wp2_with (go_at_call 108; refine HE.out.1.mono ?_; rintro e w2 ⟨A2, v, rfl, p1, p2, p3, p4⟩)
  go_ret
  exact ⟨A2, v, rfl, p1, HE.out.2.trans p2, p3, p4⟩
theorem scan_past {A : Book} {σ : St} {w : World} (hR : Rep A σ w) (s : Nat) (t : Txn) (ht : σ.txns.getD s none = some t) (c : Cal) (hc : σ.calls.getD s none = some c) (key : Nat) (hk : ¬ c.op.hi < key) (hk63 : key ≤ 63) (x : Cel) (hx : t.cell key = some x) (hth : x.there = false) (res : St × K) (hrec : ∀ (A' : Book) (w' : World), Rep A' σ w' → Stay A A' s → A'.bx = A.bx → Calls Tryz.prog 83 #[.pointer (some ⟨A.be, 0, none⟩), .pointer (some ⟨A.bt s, 0, none⟩), .pointer (some ⟨A.bc s, 0, none⟩), .int .i64 ((key : Int) + 1)] w' (Tells A' w' s res)) :
    Calls Tryz.prog 83 #[.pointer (some ⟨A.be, 0, none⟩), .pointer (some ⟨A.bt s, 0, none⟩), .pointer (some ⟨A.bc s, 0, none⟩), .int .i64 (key : Int)] w (Tells A w s res) := by
  obtain ⟨r5, g5, f0, f1, f2, f3, f4⟩ := allocs5 hR #[.pointer (some ⟨A.be, 0, none⟩)] 27 #[.pointer (some ⟨A.bt s, 0, none⟩)] 102 #[.pointer (some ⟨A.bc s, 0, none⟩)] 107 #[.int .i64 (key : Int)] 3 #[.func (.func 111) #[] #[.pointer (some ⟨w.heap.size + 1 + 1, 0, none⟩), .pointer (some ⟨w.heap.size + 1 + 1 + 1, 0, none⟩)]] 209
  have a0 := f0.cell 0 (v := .pointer (some ⟨A.be, 0, none⟩)) rfl
  have a1 := f1.cell 0 (v := .pointer (some ⟨A.bt s, 0, none⟩)) rfl
  have a2 := f2.cell 0 (v := .pointer (some ⟨A.bc s, 0, none⟩)) rfl
  have a3 := f3.cell 0 (v := .int .i64 (key : Int)) rfl
  have a4 := f4.cell 0 (v := .func (.func 111) #[] #[.pointer (some ⟨w.heap.size + 1 + 1, 0, none⟩), .pointer (some ⟨w.heap.size + 1 + 1 + 1, 0, none⟩)]) rfl
  have a7 := r5.txn ht 7 (v := .map (some (A.bm s))) rfl
  have ah := r5.call hc 2 (v := .int .i64 (c.op.hi : Int)) rfl
  have hlk := fun n => lookup_run (r5.drewN n) ht key
  have hpx : A.px s t key = .pointer (some ⟨A.bx s key, 0, none⟩) := by unfold Book.px; rw [hx]; rfl
  rw [hpx] at hlk
  have n1 : IntKind.i64.wrap ((key : Int) + 1) = (key : Int) + 1 := by rw [IntKind.wrap_i64]; omega
  have HW : Hid (∀ w6, Below (((((w.alloc (.cells #[.pointer (some ⟨A.be, 0, none⟩)] 27)).alloc (.cells #[.pointer (some ⟨A.bt s, 0, none⟩)] 102)).alloc (.cells #[.pointer (some ⟨A.bc s, 0, none⟩)] 107)).alloc (.cells #[.int .i64 (key : Int)] 3)).alloc (.cells #[.func (.func 111) #[] #[.pointer (some ⟨w.heap.size + 1 + 1, 0, none⟩), .pointer (some ⟨w.heap.size + 1 + 1 + 1, 0, none⟩)]] 209)).heap.size (((((w.alloc (.cells #[.pointer (some ⟨A.be, 0, none⟩)] 27)).alloc (.cells #[.pointer (some ⟨A.bt s, 0, none⟩)] 102)).alloc (.cells #[.pointer (some ⟨A.bc s, 0, none⟩)] 107)).alloc (.cells #[.int .i64 (key : Int)] 3)).alloc (.cells #[.func (.func 111) #[] #[.pointer (some ⟨w.heap.size + 1 + 1, 0, none⟩), .pointer (some ⟨w.heap.size + 1 + 1 + 1, 0, none⟩)]] 209)) w6 → w6.cell? ⟨w.heap.size, 0, none⟩ = some (.pointer (some ⟨A.be, 0, none⟩)) ∧ w6.cell? ⟨w.heap.size + 1, 0, none⟩ = some (.pointer (some ⟨A.bt s, 0, none⟩)) ∧ w6.cell? ⟨w.heap.size + 1 + 1, 0, none⟩ = some (.pointer (some ⟨A.bc s, 0, none⟩)) ∧ w6.cell? ⟨w.heap.size + 1 + 1 + 1, 0, none⟩ = some (.int .i64 (key : Int)) ∧ w6.cell? ⟨A.bx s key, 2, none⟩ = some (.bool false) ∧
      Calls Tryz.prog 83 #[.pointer (some ⟨A.be, 0, none⟩), .pointer (some ⟨A.bt s, 0, none⟩), .pointer (some ⟨A.bc s, 0, none⟩), .int .i64 ((key : Int) + 1)] w6 (Tells A w6 s res) ∧ Grow A.L w A.L w6) := by
    intro w6 hb
    have q := r5.below hb
    have gd := Grow.below (L := A.L) hb
    obtain ⟨_, _, x2⟩ := q.cel ht hx
    rw [hth] at x2
    exact ⟨(f0.grow gd).cell 0 rfl, (f1.grow gd).cell 0 rfl, (f2.grow gd).cell 0 rfl, (f3.grow gd).cell 0 rfl, x2, hrec A _ q (Stay.refl _ _) rfl, g5.trans gd⟩
  clear hR ht hc r5 g5 f0 f1 f2 f3 f4 hpx hx hth hrec hk63
  generalize c.op.hi = hi at *
  generalize A.bx s key = kx at *
  have fh1 : decide ((hi : Int) < (key : Int)) = false := by first | (simp; done) | (simp; omega)
  have fh2 : ((hi : Int) < (key : Int)) = False := by first | (simp; done) | (simp; omega)
  have fh3 : (hi < key) = False := by first | (simp; done) | (simp; omega)
  have fh4 : decide (hi < key) = false := by first | (simp; done) | (simp; omega)
  clear hk
  go_enter Tryz.func83, Tryz.ntmps83
  go_wp2_with fail
  generalize hw5 : ((((w.alloc _).alloc _).alloc _).alloc _).alloc _ = w5 at *
  go_quiet (fail)
  go_wp2_with fail
  go_quiet (fail)
  first | generalize hw6 : (w5.drewN _).drewN _ = w6 | generalize hw6 : w5.drewN _ = w6
  have hb6 : Below w5.heap.size w5 w6 := by rw [← hw6]; exact ⟨rfl, rfl, rfl, Nat.le_refl _, fun _ _ => rfl⟩
  obtain ⟨e0, e1, e2, e3, x2, he, gg⟩ := HW.out w6 hb6
  have HE := Lib.hid (And.intro he gg)
  clear a0 a1 a2 a3 a4 a7 ah hlk hw6 hb6 he gg
  go_wp2_with (go_at_call 83; refine HE.out.1.mono ?_; rintro e w2 ⟨A2, v, rfl, p1, p2, p3, p4⟩)
  go_ret
  exact ⟨A2, v, rfl, p1, HE.out.2.trans p2, p3, p4⟩
theorem scan_told {A : Book} {σ : St} {w : World} (hR : Rep A σ w) (s : Nat) (t : Txn) (ht : σ.txns.getD s none = some t) (c : Cal) (hc : σ.calls.getD s none = some c) (key : Nat) (hk : ¬ c.op.hi < key) (hk63 : key ≤ 63) (x : Cel) (hx : t.cell key = some x) (hth : x.there = true) (hv : VL σ x.own) (hpl : c.r.pairs.length < 1000000) (res : St × K) (hrec : ∀ (A' : Book) (w' : World), Rep A' (σ.tell s key (σ.valueOf x.own)) w' → Stay A A' s → A'.bx = A.bx → Calls Tryz.prog 83 #[.pointer (some ⟨A.be, 0, none⟩), .pointer (some ⟨A.bt s, 0, none⟩), .pointer (some ⟨A.bc s, 0, none⟩), .int .i64 ((key : Int) + 1)] w' (Tells A' w' s res)) :
    Calls Tryz.prog 83 #[.pointer (some ⟨A.be, 0, none⟩), .pointer (some ⟨A.bt s, 0, none⟩), .pointer (some ⟨A.bc s, 0, none⟩), .int .i64 (key : Int)] w (Tells A w s res) := by
  obtain ⟨r5, g5, f0, f1, f2, f3, f4⟩ := allocs5 hR #[.pointer (some ⟨A.be, 0, none⟩)] 27 #[.pointer (some ⟨A.bt s, 0, none⟩)] 102 #[.pointer (some ⟨A.bc s, 0, none⟩)] 107 #[.int .i64 (key : Int)] 3 #[.func (.func 111) #[] #[.pointer (some ⟨w.heap.size + 1 + 1, 0, none⟩), .pointer (some ⟨w.heap.size + 1 + 1 + 1, 0, none⟩)]] 209
  have a0 := f0.cell 0 (v := .pointer (some ⟨A.be, 0, none⟩)) rfl
  have a1 := f1.cell 0 (v := .pointer (some ⟨A.bt s, 0, none⟩)) rfl
  have a2 := f2.cell 0 (v := .pointer (some ⟨A.bc s, 0, none⟩)) rfl
  have a3 := f3.cell 0 (v := .int .i64 (key : Int)) rfl
  have a4 := f4.cell 0 (v := .func (.func 111) #[] #[.pointer (some ⟨w.heap.size + 1 + 1, 0, none⟩), .pointer (some ⟨w.heap.size + 1 + 1 + 1, 0, none⟩)]) rfl
  have a7 := r5.txn ht 7 (v := .map (some (A.bm s))) rfl
  have ah := r5.call hc 2 (v := .int .i64 (c.op.hi : Int)) rfl
  have hlk := fun n => lookup_run (r5.drewN n) ht key
  have hpx : A.px s t key = .pointer (some ⟨A.bx s key, 0, none⟩) := by unfold Book.px; rw [hx]; rfl
  rw [hpx] at hlk
  have n1 : IntKind.i64.wrap ((key : Int) + 1) = (key : Int) + 1 := by rw [IntKind.wrap_i64]; omega
  have HW : Hid (∀ w6, Below (((((w.alloc (.cells #[.pointer (some ⟨A.be, 0, none⟩)] 27)).alloc (.cells #[.pointer (some ⟨A.bt s, 0, none⟩)] 102)).alloc (.cells #[.pointer (some ⟨A.bc s, 0, none⟩)] 107)).alloc (.cells #[.int .i64 (key : Int)] 3)).alloc (.cells #[.func (.func 111) #[] #[.pointer (some ⟨w.heap.size + 1 + 1, 0, none⟩), .pointer (some ⟨w.heap.size + 1 + 1 + 1, 0, none⟩)]] 209)).heap.size (((((w.alloc (.cells #[.pointer (some ⟨A.be, 0, none⟩)] 27)).alloc (.cells #[.pointer (some ⟨A.bt s, 0, none⟩)] 102)).alloc (.cells #[.pointer (some ⟨A.bc s, 0, none⟩)] 107)).alloc (.cells #[.int .i64 (key : Int)] 3)).alloc (.cells #[.func (.func 111) #[] #[.pointer (some ⟨w.heap.size + 1 + 1, 0, none⟩), .pointer (some ⟨w.heap.size + 1 + 1 + 1, 0, none⟩)]] 209)) w6 → w6.cell? ⟨w.heap.size, 0, none⟩ = some (.pointer (some ⟨A.be, 0, none⟩)) ∧ w6.cell? ⟨w.heap.size + 1 + 1 + 1 + 1, 0, none⟩ = some (.func (.func 111) #[] #[.pointer (some ⟨w.heap.size + 1 + 1, 0, none⟩), .pointer (some ⟨w.heap.size + 1 + 1 + 1, 0, none⟩)]) ∧ w6.cell? ⟨A.bx s key, 2, none⟩ = some (.bool true) ∧ w6.cell? ⟨A.bx s key, 0, none⟩ = some (.int .u64 (x.own : Int)) ∧
      Calls Tryz.prog 64 #[.pointer (some ⟨A.be, 0, none⟩), .int .u64 (x.own : Int)] w6.drew (fun e w' => e = .returned (.pointer (some ⟨A.bv, 2 * slotOf x.own, none⟩)) ∧ w' = w6.drew) ∧ w6.drew.cell? ⟨A.bv, 2 * slotOf x.own + 1, none⟩ = some (.int .i64 (σ.valueOf x.own : Int)) ∧
      Calls Tryz.prog 111 #[.int .i64 (σ.valueOf x.own : Int), .pointer (some ⟨w.heap.size + 1 + 1, 0, none⟩), .pointer (some ⟨w.heap.size + 1 + 1 + 1, 0, none⟩)] w6.drew (TldP A w6.drew s (σ.tell s key (σ.valueOf x.own))) ∧ Grow A.L w A.L w6.drew ∧
      ∀ (A' : Book) w', Grow A.L w6.drew A'.L w' → w'.cell? ⟨w.heap.size, 0, none⟩ = some (.pointer (some ⟨A.be, 0, none⟩)) ∧ w'.cell? ⟨w.heap.size + 1, 0, none⟩ = some (.pointer (some ⟨A.bt s, 0, none⟩)) ∧ w'.cell? ⟨w.heap.size + 1 + 1, 0, none⟩ = some (.pointer (some ⟨A.bc s, 0, none⟩)) ∧ w'.cell? ⟨w.heap.size + 1 + 1 + 1, 0, none⟩ = some (.int .i64 (key : Int))) := by
    intro w6 hb
    have q := r5.below hb
    have gd := Grow.below (L := A.L) hb
    have ge := gd.trans (Grow.drew A.L _)
    obtain ⟨x0, _, x2⟩ := q.cel ht hx
    rw [hth] at x2
    exact ⟨(f0.grow gd).cell 0 rfl, (f4.grow gd).cell 0 rfl, x2, x0, flip (data_any q.drew x.own hv.lo hv.hi hv.u), (q.drew.val (slotOf_lt hv)).2, tellP_any q.drew s c hc key (σ.valueOf x.own) _ _ (f2.box.grow ge) (f3.box.grow ge) hpl, g5.trans ge, fun A' w' g => ⟨((f0.grow ge).grow g).cell 0 rfl, ((f1.grow ge).grow g).cell 0 rfl, ((f2.grow ge).grow g).cell 0 rfl, ((f3.grow ge).grow g).cell 0 rfl⟩⟩
  have HREC := Lib.hid hrec
  clear hR ht hc r5 g5 f0 f1 f2 f3 f4 hpx hx hth hrec hk63 hv hpl
  generalize σ.tell s key (σ.valueOf x.own) = σ1 at *
  generalize σ.valueOf x.own = va at *
  generalize 2 * slotOf x.own = iv at *
  generalize x.own = ow at *
  generalize c.op.hi = hi at *
  generalize A.bx s key = kx at *
  have fh1 : decide ((hi : Int) < (key : Int)) = false := by first | (simp; done) | (simp; omega)
  have fh2 : ((hi : Int) < (key : Int)) = False := by first | (simp; done) | (simp; omega)
  have fh3 : (hi < key) = False := by first | (simp; done) | (simp; omega)
  have fh4 : decide (hi < key) = false := by first | (simp; done) | (simp; omega)
  clear hk
  go_enter Tryz.func83, Tryz.ntmps83
  go_wp2_with fail
  generalize hw5 : ((((w.alloc _).alloc _).alloc _).alloc _).alloc _ = w5 at *
  go_quiet (fail)
  go_wp2_with fail
  go_quiet (fail)
  first | generalize hw6 : (w5.drewN _).drewN _ = w6 | generalize hw6 : w5.drewN _ = w6
  have hb6 : Below w5.heap.size w5 w6 := by rw [← hw6]; exact ⟨rfl, rfl, rfl, Nat.le_refl _, fun _ _ => rfl⟩
  obtain ⟨e0, e4, x2, x0, hd, v1, ht, gg, hz⟩ := HW.out w6 hb6
  have HD := Lib.hid hd
  have HT := Lib.hid ht
  have HG := Lib.hid gg
  have HZ := Lib.hid hz
  clear a0 a1 a2 a3 a4 a7 ah hlk hw6 hb6 hd ht gg hz
  go_wp2_with fail
  refine wp_region_still_tail 10 (by kernel_rfl) (by kernel_rfl) ?_
  simp only [List.take_succ_cons, List.take_zero, List.drop_succ_cons, List.drop_zero]
  repeat still_step
  still_call HD.out
  repeat still_step
  refine wpStill_nil ?_
  change wpList _ _ _ _ _ w6.drew
  generalize w6.drew = wd at *
  go_wp2_with (first | (go_at_call 111; refine HT.out.mono ?_; rintro e w2 ⟨rfl, A2, p1, p2, p3, p4⟩; obtain ⟨e0, e1, e2, e3⟩ := HZ.out A2 w2 p2; have HR := Lib.hid (HREC.out A2 w2 p1 p3 p4); have HQ := Lib.hid (And.intro (HG.out.trans p2) p3); clear p1 p2 p3 p4) | (go_at_call 83; refine HR.out.mono ?_; rintro e w3 ⟨A3, v, rfl, p1, p2, p3, p4⟩))
  go_ret
  exact ⟨A3, v, rfl, p1, HQ.out.1.trans p2, HQ.out.2.trans p3, p4⟩
end Go.Proofs.YtbefcdjcefmicaaGreat.Em

namespace Go.Proofs.YtbefcdjcefmicaaGreat.Em
open Go.ChangeShapes Go.WideShapes Go.ChangeAt Go.RowKit En
set_option linter.unusedVariables false
set_option linter.unusedSimpArgs false
set_option maxRecDepth 100000
set_option maxHeartbeats 1600000

theorem scan_tells (s : Nat) : ∀ (n : Nat) {A : Book} {σ : St} {w : World} (hR : Rep A σ w) (t : Txn) (ht : σ.txns.getD s none = some t) (c : Cal) (hc : σ.calls.getD s none = some c) (key : Nat) (hnk : n = c.op.hi + 1 - key) (hk64 : key ≤ 64) (hhi : c.op.hi ≤ 63) (hcx : CelsOk σ t) (hpl : c.r.pairs.length + n < 1000000),
    Calls Tryz.prog 83 #[.pointer (some ⟨A.be, 0, none⟩), .pointer (some ⟨A.bt s, 0, none⟩), .pointer (some ⟨A.bc s, 0, none⟩), .int .i64 (key : Int)] w (Tells A w s (scanN s n σ key)) := by
  intro n
  induction n with
  | zero =>
    intro A σ w hR t ht c hc key hnk hk64 hhi hcx hpl
    have h := scan_end hR s t ht c hc key (by omega)
    have e : scanN s 0 σ key = (σ, .fin c.r) := by unfold scanN; rw [call_get hc]
    rw [e]; exact h
  | succ n ih =>
    intro A σ w hR t ht c hc key hnk hk64 hhi hcx hpl
    have ec := call_get hc
    have et := txn_get ht
    have hk : ¬ c.op.hi < key := by omega
    cases hx : t.cell key with
    | none =>
      have h := scan_find hR s t ht c hc key hk hx
      rw [scanN_none s n σ key (by rw [ec]; exact hk) (by rw [et]; exact hx), et]
      exact h
    | some x =>
      rw [scanN_some s n σ key x (by rw [ec]; exact hk) (by rw [et]; exact hx)]
      cases hth : x.there with
      | false =>
        rw [if_neg (by decide)]
        refine scan_past hR s t ht c hc key hk (by omega) x hx hth _ fun A' w' r st bx => ?_
        have h := ih r t ht c hc (key + 1) (by omega) (by omega) hhi hcx (by omega)
        rw [st.be, st.bt, st.bc] at h
        exact h
      | true =>
        rw [if_pos rfl]
        refine scan_told hR s t ht c hc key hk (by omega) x hx hth (hcx key x hx hth) (by omega) _ fun A' w' r st bx => ?_
        have hc2 : (σ.tell s key (σ.valueOf x.own)).calls.getD s none = some { c with r := { c.r with pairs := c.r.pairs ++ [(key, σ.valueOf x.own)] } } := by
          unfold St.tell; rw [ec, getC_set (lt_of_call hc), if_pos rfl]
        have h := ih r t ht _ hc2 (key + 1) (by simp only; omega) (by omega) hhi (fun k y hy hty => let q := hcx k y hy hty; ⟨q.lo, q.hi, q.u⟩) (by simp only [List.length_append, List.length_cons, List.length_nil]; omega)
        rw [st.be, st.bt, st.bc] at h
        exact h
theorem scan_any {A : Book} {σ : St} {w : World} (hR : Rep A σ w) (s : Nat) (t : Txn) (ht : σ.txns.getD s none = some t) (c : Cal) (hc : σ.calls.getD s none = some c) (key : Nat) (hk64 : key ≤ 64) (hhi : c.op.hi ≤ 63) (hcx : CelsOk σ t) (hpl : c.r.pairs.length < 100000) :
    Calls Tryz.prog 83 #[.pointer (some ⟨A.be, 0, none⟩), .pointer (some ⟨A.bt s, 0, none⟩), .pointer (some ⟨A.bc s, 0, none⟩), .int .i64 (key : Int)] w (Tells A w s (σ.scan s key)) := by
  have h := scan_tells s (c.op.hi + 1 - key) hR t ht c hc key rfl hk64 hhi hcx (by omega)
  unfold St.scan
  rw [call_get hc]
  exact h
theorem k_scan {A : Book} {σ : St} {w : World} (hR : Rep A σ w) (s : Nat) (t : Txn) (ht : σ.txns.getD s none = some t) (c : Cal) (hc : σ.calls.getD s none = some c) (key link at_ b0 b1 b2 b3 b4 : Nat) (B0 : Box A.L w b0 (.pointer (some ⟨A.bt s, 0, none⟩))) (B1 : Box A.L w b1 (.int .i64 (key : Int))) (B2 : TellBox (kp A σ s) A.L w b2 key) (B3 : Box A.L w b3 (.pointer (some ⟨A.be, 0, none⟩))) (B4 : Box A.L w b4 (.pointer (some ⟨A.bc s, 0, none⟩))) (hl : link = 0 ∨ VL σ link) (hk : key ≤ 63) (hhi : c.op.hi ≤ 63) (hcx : CelsOk σ t) (hpl : c.r.pairs.length < 100000 - 1) (hn : t.reads.length < 1000000) :
    Calls Tryz.prog 112 #[.int .u64 (link : Int), .pointer (some ⟨b0, 0, none⟩), .pointer (some ⟨b1, 0, none⟩), .pointer (some ⟨b2, 0, none⟩), .pointer (some ⟨b3, 0, none⟩), .pointer (some ⟨b4, 0, none⟩)] w (Tells A w s (σ.thn s ⟨key, at_, .scan key⟩ link)) := by
  obtain ⟨vt, X2, m0, m1, hvt, N0, N1⟩ := B2
  have c0 := B0.cell
  have c1 := B1.cell
  have n1 : IntKind.i64.wrap ((key : Int) + 1) = (key : Int) + 1 := by rw [IntKind.wrap_i64]; omega
  have hr := read_any hR s t ht key link false hn
  have HR := Lib.hid hr
  have ht1 : ∀ σ' : St, σ' = σ.read s key link false → ∃ t', σ'.txns.getD s none = some t' ∧ t'.cells = t.cells := by
    rintro σ' rfl
    refine ⟨{ t with reads := t.reads ++ [(key, link, false)] }, ?_, rfl⟩
    unfold St.read
    rw [getT_set (lt_of_txn ht), if_pos rfl, txn_get ht]
  have hslots : (σ.read s key link false).slots = σ.slots := rfl
  have hcalls : (σ.read s key link false).calls = σ.calls := rfl
  have hvals : (σ.read s key link false).valueOf link = σ.valueOf link := rfl
  have hcx1 : ∀ (σ' : St) (t' : Txn), σ'.slots = σ.slots → t'.cells = t.cells → CelsOk σ' t' := by
    intro σ' t' h1 h2 k y hy hty
    have q := hcx k y (by unfold Txn.cell at hy ⊢; rw [← h2]; exact hy) hty
    exact ⟨q.lo, by rw [h1]; exact q.hi, q.u⟩
  have hlt := lt_of_call hc
  obtain ⟨σ1, hσ1⟩ : ∃ σ1, σ1 = σ.read s key link false := ⟨_, rfl⟩
  obtain ⟨t1, ht1', htc⟩ := ht1 σ1 hσ1
  rw [← hσ1] at hslots hcalls hvals HR
  have e1 : σ.thn s ⟨key, at_, .scan key⟩ link = (if link = 0 then σ1 else σ1.tell s key (σ1.valueOf link)).scan s (key + 1) := by simp only [St.thn, ← hσ1]
  rw [e1]
  have HB : Hid (∀ (A1 : Book) w1, Grow A.L w A1.L w1 → w1.cell? ⟨b0, 0, none⟩ = some (.pointer (some ⟨A.bt s, 0, none⟩)) ∧ w1.cell? ⟨b1, 0, none⟩ = some (.int .i64 (key : Int)) ∧ w1.cell? ⟨b2, 0, none⟩ = some vt ∧ w1.cell? ⟨b3, 0, none⟩ = some (.pointer (some ⟨A.be, 0, none⟩)) ∧ w1.cell? ⟨b4, 0, none⟩ = some (.pointer (some ⟨A.bc s, 0, none⟩))) := fun A1 w1 g => ⟨(B0.grow g).cell, (B1.grow g).cell, (X2.grow g).cell, (B3.grow g).cell, (B4.grow g).cell⟩
  have hc1 : σ1.calls.getD s none = some c := by rw [hcalls]; exact hc
  have HSC : Hid (∀ (A1 : Book) w1, Rep A1 σ1 w1 → Stay A A1 s → Calls Tryz.prog 83 #[.pointer (some ⟨A.be, 0, none⟩), .pointer (some ⟨A.bt s, 0, none⟩), .pointer (some ⟨A.bc s, 0, none⟩), .int .i64 ((key : Int) + 1)] w1 (Tells A1 w1 s (σ1.scan s (key + 1)))) := by
    intro A1 w1 r st
    have h := scan_any r s t1 ht1' c hc1 (key + 1) (by omega) hhi (hcx1 σ1 t1 hslots htc) (by omega)
    rw [st.be, st.bt, st.bc] at h
    exact h
  have HTL : Hid (link ≠ 0 → ∀ (A1 : Book) w1, Rep A1 σ1 w1 → Grow A.L w A1.L w1 → Stay A A1 s → Calls Tryz.prog 64 #[.pointer (some ⟨A.be, 0, none⟩), .int .u64 (link : Int)] w1.drew (fun e w' => e = .returned (.pointer (some ⟨A1.bv, 2 * slotOf link, none⟩)) ∧ w' = w1.drew) ∧ w1.drew.cell? ⟨A1.bv, 2 * slotOf link + 1, none⟩ = some (.int .i64 (σ1.valueOf link : Int)) ∧ Calls Tryz.prog 111 #[.int .i64 (σ1.valueOf link : Int), ptr m0, ptr m1] w1.drew (TldP A1 w1.drew s (σ1.tell s key (σ1.valueOf link)))) := by
    intro h0 A1 w1 r g st
    have hv := hl.resolve_left h0
    have hv1 : VL σ1 link := ⟨hv.lo, by rw [hslots]; exact hv.hi, hv.u⟩
    have gd := g.trans (Grow.drew _ _)
    have hd := flip (data_any r.drew link hv1.lo hv1.hi hv1.u)
    rw [st.be] at hd
    have N0' : Box A1.L w1.drew m0 (ptr (A1.bc s)) := by
      have := N0.grow gd
      show Box A1.L w1.drew m0 (ptr (A1.bc s))
      rw [st.bc]; exact this
    exact ⟨hd, (r.drew.val (slotOf_lt hv1)).2, tellP_any r.drew s c hc1 key (σ1.valueOf link) m0 m1 N0' (N1.grow gd) (by omega)⟩
  have HS2 : Hid (∀ (A1 : Book) w1, Rep A1 (σ1.tell s key (σ1.valueOf link)) w1 → Stay A A1 s → Calls Tryz.prog 83 #[.pointer (some ⟨A.be, 0, none⟩), .pointer (some ⟨A.bt s, 0, none⟩), .pointer (some ⟨A.bc s, 0, none⟩), .int .i64 ((key : Int) + 1)] w1 (Tells A1 w1 s ((σ1.tell s key (σ1.valueOf link)).scan s (key + 1)))) := by
    intro A1 w1 r st
    have hc2 : (σ1.tell s key (σ1.valueOf link)).calls.getD s none = some { c with r := { c.r with pairs := c.r.pairs ++ [(key, σ1.valueOf link)] } } := by
      unfold St.tell; rw [call_get hc1, getC_set (lt_of_call hc1), if_pos rfl]
    have h := scan_any r s t1 ht1' _ hc2 (key + 1) (by omega) hhi (hcx1 _ t1 hslots htc) (by simp only [List.length_append, List.length_cons, List.length_nil]; omega)
    rw [st.be, st.bt, st.bc] at h
    exact h
  clear hR ht hc hl hk hhi hcx hpl hn hr ht1 hslots hcalls hvals hcx1 hlt e1 hc1 htc ht1' B0 B1 X2 B3 B4 N0 N1 hσ1
  subst hvt
  generalize σ1.valueOf link = va at *
  by_cases h0 : link = 0
  · rw [if_pos h0]
    have fl1 : ((link : Int) == 0) = true := by first | (simp; done) | (simp; omega)
    have fl2 : ((link : Int) = 0) = True := by first | (simp; done) | (simp; omega)
    have fl3 : (link = 0) = True := by first | (simp; done) | (simp; omega)
    have fl4 : (link == 0) = true := by first | (simp; done) | (simp; omega)
    have fl5 : ((link : Int) != 0) = false := by first | (simp; done) | (simp; omega)
    clear h0 HTL HS2
    go_enter Tryz.func112, Tryz.ntmps112
    go_wp2_with (first | (go_at_call 110; refine HR.out.mono ?_; rintro e w1 ⟨rfl, A1, q1, q2, q3, q4, q5⟩; obtain ⟨d0, d1, d2, d3, d4⟩ := HB.out A1 w1 q2; have HQ := Lib.hid (And.intro q1 (And.intro q2 q3)); have HSS := Lib.hid (HSC.out A1 w1 q1 q3); clear q1 q2 q3 q4 q5) | (go_at_call 83; refine HSS.out.mono ?_; rintro e w2 ⟨A2, v, rfl, p1, p2, p3, p4⟩))
    go_ret
    exact ⟨A2, v, rfl, p1, HQ.out.2.1.trans p2, HQ.out.2.2.trans p3, p4⟩
  · rw [if_neg h0]
    have fl1 : ((link : Int) == 0) = false := by first | (simp; done) | (simp; omega)
    have fl2 : ((link : Int) = 0) = False := by first | (simp; done) | (simp; omega)
    have fl3 : (link = 0) = False := by first | (simp; done) | (simp; omega)
    have fl4 : (link == 0) = false := by first | (simp; done) | (simp; omega)
    have fl5 : ((link : Int) != 0) = true := by first | (simp; done) | (simp; omega)
    have HT0 := Lib.hid (HTL.out h0)
    clear h0 HTL HSC
    go_enter Tryz.func112, Tryz.ntmps112
    go_wp2_with (go_at_call 110; refine HR.out.mono ?_; rintro e w1 ⟨rfl, A1, q1, q2, q3, q4, q5⟩; obtain ⟨d0, d1, d2, d3, d4⟩ := HB.out A1 w1 q2; have HQ := Lib.hid (And.intro q1 (And.intro q2 q3)); clear q1 q2 q3 q4 q5)
    obtain ⟨hd, hv, ht⟩ := HT0.out A1 w1 HQ.out.1 HQ.out.2.1 HQ.out.2.2
    have HD := Lib.hid hd
    have HT := Lib.hid ht
    clear hd ht
    go_wp2_with fail
    refine wp_region_still_tail 7 (by kernel_rfl) (by kernel_rfl) ?_
    simp only [List.take_succ_cons, List.take_zero, List.drop_succ_cons, List.drop_zero]
    repeat still_step
    still_call HD.out
    repeat still_step
    refine wpStill_nil ?_
    change wpList _ _ _ _ _ w1.drew
    have HGD := Lib.hid (HQ.out.2.1.trans (Grow.drew A1.L w1))
    generalize w1.drew = wd at *
    go_wp2_with (first | (go_at_call 111; refine HT.out.mono ?_; rintro e w2 ⟨rfl, A2, p1, p2, p3, p4⟩; obtain ⟨d0, d1, d2, d3, d4⟩ := HB.out A2 w2 (HGD.out.trans p2); have HSS := Lib.hid (HS2.out A2 w2 p1 (HQ.out.2.2.trans p3)); have HY := Lib.hid (And.intro (HGD.out.trans p2) (HQ.out.2.2.trans p3)); clear p1 p2 p3 p4) | (go_at_call 83; refine HSS.out.mono ?_; rintro e w3 ⟨A3, v, rfl, p1, p2, p3, p4⟩))
    go_ret
    exact ⟨A3, v, rfl, p1, HY.out.1.trans p2, HY.out.2.trans p3, p4⟩
end Go.Proofs.YtbefcdjcefmicaaGreat.Em

namespace Go.Proofs.YtbefcdjcefmicaaGreat.Em
open Go.ChangeShapes Go.WideShapes Go.ChangeAt Go.RowKit En
set_option linter.unusedVariables false
set_option linter.unusedSimpArgs false
set_option maxRecDepth 100000
set_option maxHeartbeats 1600000

theorem Fix.set2 {L : Lab} {w : World} {b : Nat} {x y : Value} {T : TypeId} (h : Fix L w b (.cells #[x, y] T)) (u v : Value) : Fix L ((w.setCell ⟨b, 0, none⟩ u).setCell ⟨b, 1, none⟩ v) b (.cells #[u, v] T) := by
  refine ⟨h.1, ?_⟩
  have h2 := h.2
  simp [World.setCell, Array.getElem?_modify, h2]
/-- A stamp is laid into a new block. -/
theorem Rep.stamp {A : Book} {σ σ1 : St} {w w2 : World} (hR : Rep A σ w) (r2 : Rep A σ1 w2) (g : Grow A.L w A.L w2) (ht : σ1.tale = σ.tale) {b : Nat} {x y : Value} {T : TypeId} (hb : w.heap.size ≤ b) (fx : Fix A.L w2 b (.cells #[x, y] T)) (u v : Value) :
    Rep A σ1 ((w2.setCell ⟨b, 0, none⟩ u).setCell ⟨b, 1, none⟩ v) ∧ Grow A.L w A.L ((w2.setCell ⟨b, 0, none⟩ u).setCell ⟨b, 1, none⟩ v) ∧ Fix A.L ((w2.setCell ⟨b, 0, none⟩ u).setCell ⟨b, 1, none⟩ v) b (.cells #[u, v] T) := by
  obtain ⟨r3, g3⟩ := hR.setNew r2 g ht rfl (a := ⟨b, 0, none⟩) hb fx.1 u
  obtain ⟨r4, g4⟩ := hR.setNew r3 g3 ht rfl (a := ⟨b, 1, none⟩) hb fx.1 v
  exact ⟨r4, g4, fx.set2 u v⟩
theorem k_ended {A : Book} {σ : St} {w : World} (hR : Rep A σ w) (s : Nat) (hmp : A.mp = 0) (t : Txn) (ht : σ.txns.getD s none = some t) (hu : Hunt) (link mb b0 b1 b2 : Nat) (B0 : HuntBox (kp A σ s) A.L w b0 hu) (B1 : Box A.L w b1 (.int .u64 (link : Int))) (B2 : Box A.L w b2 (.int .i64 (mb : Int))) (hv : VL σ link) (hx : σ.word (wslot link 1) < 18446744073709551616) (hcnt : σ.count < 4000000000000000000) (HT : mb = 0 → ThnTo σ.tick s hu link) :
    Calls Tryz.prog 209 #[.pointer (some ⟨b0, 0, none⟩), .pointer (some ⟨b1, 0, none⟩), .pointer (some ⟨b2, 0, none⟩)] w (Ran A w s (σ.run s (.ended hu link mb))) := by
  have hsl := hR.sl
  obtain ⟨bh, X0, hh0⟩ := B0
  obtain ⟨vt, TT, fh, hth⟩ := id hh0
  have c0 := X0.cell
  have c1 := B1.cell
  have h0 : w.cell? ⟨bh, 0, none⟩ = some (.pointer (some ⟨A.be, 0, none⟩)) := fh.cell 0 rfl
  have e2 : w.cell? ⟨A.be, 2, none⟩ = some (.pointer (some ⟨A.ba, 0, none⟩)) := hR.eng 2 rfl
  have HSl := Lib.hid (slot_at link 1 1 rfl hv.lo (by have := hv.hi; omega) hv.u (by omega))
  have HL : Hid (∀ w', Rep A σ w' → Calls Tryz.prog 73 #[.pointer (some ⟨A.ba, 0, none⟩), .int .i64 ((wslot link 1 : Nat) : Int)] w' (Did A w' σ.tick (.int .u64 (σ.word (wslot link 1) : Int)))) := fun w' r => load_any r (wslot link 1) (wslot_lt hR hv.lo hv.hi (by omega)) hcnt
  have HKK : Hid (∀ w', Rep A σ.tick w' → Grow A.L w A.L w' → w'.cell? ⟨b0, 0, none⟩ = some (.pointer (some ⟨bh, 0, none⟩)) ∧ w'.cell? ⟨b1, 0, none⟩ = some (.int .u64 (link : Int)) ∧ w'.cell? ⟨bh, 0, none⟩ = some (.pointer (some ⟨A.be, 0, none⟩)) ∧ w'.cell? ⟨A.be, 2, none⟩ = some (.pointer (some ⟨A.ba, 0, none⟩))) := fun w' r g => ⟨(X0.grow g).cell, (B1.grow g).cell, (fh.grow g).cell 0 rfl, r.eng 2 rfl⟩
  have hrd := rd_any (σ.word (wslot link 1)) hx
  have HRD := Lib.hid hrd
  have HRd : Hid (Rep A σ w.drew) := hR.drew
  have HG : Hid (Grow A.L w A.L w.drew) := Grow.drew _ _
  have HFX : Hid (Fix A.L (w.drew.alloc (.cells #[.int .i64 0, .int .u64 0] 190)) w.heap.size (.cells #[.int .i64 0, .int .u64 0] 190)) := fix_next hR.drew.mem.fresh _ rfl
  have x0 := World.new_ne w _ c0
  have x1 := World.new_ne w _ c1
  have x2 := World.new_ne w _ h0
  have x3 := World.new_ne w _ e2
  generalize hkd : (rd (σ.word (wslot link 1))).1 = kd at *
  generalize hn : (rd (σ.word (wslot link 1))).2 = n at *
  have HST : Hid (∀ w2 b, Rep A σ.tick w2 → Grow A.L w A.L w2 → w.heap.size ≤ b → Fix A.L w2 b (.cells #[.int .i64 0, .int .u64 0] 190) → Rep A σ.tick ((w2.setCell ⟨b, 0, none⟩ (.int .i64 (kd : Int))).setCell ⟨b, 1, none⟩ (.int .u64 (n : Int))) ∧ Grow A.L w A.L ((w2.setCell ⟨b, 0, none⟩ (.int .i64 (kd : Int))).setCell ⟨b, 1, none⟩ (.int .u64 (n : Int))) ∧ Fix A.L ((w2.setCell ⟨b, 0, none⟩ (.int .i64 (kd : Int))).setCell ⟨b, 1, none⟩ (.int .u64 (n : Int))) b (.cells #[.int .i64 (kd : Int), .int .u64 (n : Int)] 190)) := fun w2 b r g hb fx => hR.stamp r g rfl hb fx _ _
  have HSZ : Hid (∀ w1, Grow A.L w A.L w1 → w.heap.size ≤ w1.heap.size) := fun w1 g => g.size
  have HB : Hid (∀ w1, Rep A σ.tick w1 → Grow A.L w A.L w1 → w1.cell? ⟨b0, 0, none⟩ = some (.pointer (some ⟨bh, 0, none⟩)) ∧ w1.cell? ⟨b1, 0, none⟩ = some (.int .u64 (link : Int)) ∧ w1.cell? ⟨b2, 0, none⟩ = some (.int .i64 (mb : Int)) ∧ w1.cell? ⟨bh, 0, none⟩ = some (.pointer (some ⟨A.be, 0, none⟩)) ∧ w1.cell? ⟨bh, 1, none⟩ = some (.pointer (some ⟨A.bt s, 0, none⟩)) ∧ w1.cell? ⟨bh, 3, none⟩ = some (.int .u64 (hu.at_ : Int)) ∧ w1.cell? ⟨A.bt s, 0, none⟩ = some (.int .i64 (t.id : Int))) :=
    fun w1 q g => ⟨(X0.grow g).cell, (B1.grow g).cell, (B2.grow g).cell, (fh.grow g).cell 0 rfl, (fh.grow g).cell 1 rfl, (fh.grow g).cell 3 rfl, q.txn (s := s) (t := t) ht 0 rfl⟩
  have HSeen : Hid (∀ w1, Rep A σ.tick w1 → Grow A.L w A.L w1 → Calls Tryz.prog 210 #[.pointer (some ⟨bh, 0, none⟩), .int .u64 (link : Int), .int .i64 (mb : Int)] w1 (Tells A w1 s (σ.tick.seen s hu link mb))) := fun w1 q g => seen_any q s hmp bh hu (show HuntAt (kp A σ.tick s) A.L w1 bh hu from hh0.grow g) link mb HT
  have HOld : Hid (∀ w1, Rep A σ.tick w1 → Grow A.L w A.L w1 → Calls Tryz.prog 198 #[.pointer (some ⟨bh, 0, none⟩), .int .u64 (link : Int)] w1 (Tells A w1 s (σ.tick, .older hu link))) := fun w1 q g => older_any q s bh hu (show HuntAt (kp A σ.tick s) A.L w1 bh hu from hh0.grow g) link
  have HEnder : Hid (∀ w1, Rep A σ.tick w1 → Grow A.L w A.L w1 → Calls Tryz.prog 211 #[.pointer (some ⟨bh, 0, none⟩), .int .u64 (link : Int), .int .i64 (mb : Int), .int .i64 (n : Int)] w1 (Tells A w1 s (σ.tick, .ender hu link mb n))) := fun w1 q g => ender_any q s bh hu (show HuntAt (kp A σ.tick s) A.L w1 bh hu from hh0.grow g) link mb n
  have hn2 : kd = 2 → n ≤ 65535 := by
    intro h; have := (rd_small (σ.word (wslot link 1)) hx).2.1; rw [hkd, hn] at this; have := this h; omega
  have hrun : σ.run s (.ended hu link mb) = if kd = 1 ∧ n ≤ hu.at_ then (σ.tick, some (.older hu link)) else if kd ≠ 2 ∨ n = t.id then ((σ.tick.seen s hu link mb).1, some (σ.tick.seen s hu link mb).2) else (σ.tick, some (.ender hu link mb n)) := by
    have e : σ.tick.t s = t := txn_get ht
    simp only [St.run, hkd, hn, e]
  have HRUN := Lib.hid hrun
  have HN2 := Lib.hid hn2
  generalize σ.run s (.ended hu link mb) = rr at *
  clear hn2 hR hcnt hv X0 B1 B2 fh hth hh0 HT hx hrd hkd hn hrun ht hmp hsl
  generalize hu.at_ = ha at *
  generalize t.id = tid at *
  generalize σ.word (wslot link 1) = x at *
  go_enter Tryz.func209, Tryz.ntmps209
  go_wp2_with fail
  go_region_held3 (fun w' => w'.cell? ⟨b0, 0, none⟩ = some (.pointer (some ⟨bh, 0, none⟩)) ∧ w'.cell? ⟨b1, 0, none⟩ = some (.int .u64 (link : Int)) ∧ w'.cell? ⟨bh, 0, none⟩ = some (.pointer (some ⟨A.be, 0, none⟩)) ∧ w'.cell? ⟨A.be, 2, none⟩ = some (.pointer (some ⟨A.ba, 0, none⟩)))
    (first | exact ⟨c0, c1, h0, e2⟩ | assumption | exact HKK.out _ q1 q4 | exact HKK.out _ (q1.alloc _) (q4.trans (Grow.alloc _ _ _)) | exact HKK.out _ r2 g2 | exact HKK.out _ (r2.alloc _) (g2.trans (Grow.alloc _ _ _)) | exact HKK.out _ (HST.out _ _ r2 g2 hb FX.out).1 (HST.out _ _ r2 g2 hb FX.out).2.1 | go_keep)
    (first | (go_at_call 62; refine (HSl.out _).mono ?_; rintro e w' ⟨rfl, rfl⟩) | (go_at_call 73; refine (HL.out _ HRd.out).mono ?_; rintro e w1 ⟨rfl, q1, q2⟩; have q4 := HG.out.trans q2) | (go_at_call 73; refine (HL.out _ (HRd.out.alloc _)).mono ?_; rintro e w1 ⟨rfl, q1, q2⟩; have q4 := (HG.out.trans (Grow.alloc _ _ _)).trans q2; have FX1 := Lib.hid (HFX.out.grow q2)) | (go_at_call 93; refine (HRD.out _).mono ?_; rintro e w2 ⟨rfl, hq⟩; have r2 := q1.below hq; have g2 := q4.trans (Grow.below hq); have FX := Lib.hid (FX1.out.grow (Grow.below hq)); have hb := Nat.le_refl w.heap.size; have nb0 := FX.out.cell 0 (v := .int .i64 0) rfl; have nb1 := FX.out.cell 1 (v := .int .u64 0) rfl; have nz0 := FX.out.frozen 0; have nz1 := FX.out.frozen 1) | (go_at_call 93; refine (HRD.out _).mono ?_; rintro e w2 ⟨rfl, hq⟩; have r2 := (q1.alloc _).below hq; have g2 := (q4.trans (Grow.alloc A.L _ _)).trans (Grow.below hq); have FX := Lib.hid ((fix_next q1.mem.fresh (.cells #[.int .i64 0, .int .u64 0] 190) rfl).grow (Grow.below (L := A.L) hq)); have hb := HSZ.out _ q4; have nb0 := FX.out.cell 0 (v := .int .i64 0) rfl; have nb1 := FX.out.cell 1 (v := .int .u64 0) rfl; have nz0 := FX.out.frozen 0; have nz1 := FX.out.frozen 1) | (go_at_call 93; refine (HRD.out _).mono ?_; rintro e w2 ⟨rfl, hq⟩; have r2 := q1.below hq; have g2 := q4.trans (Grow.below hq)))
  all_goals
    rename_i hHeld
    clear hHeld x0 x1 x2 x3 c0 c1 h0 e2
    first
    | (have HZ := Lib.hid (HST.out _ _ r2 g2 hb FX.out)
       clear FX hb nb0 nb1 nz0 nz1 r2 g2 q1 q4
       generalize hW : (World.setCell _ _ _).setCell _ _ = W at *)
    | (have HZ := Lib.hid (And.intro (r2.alloc (.cells #[.int .i64 (kd : Int), .int .u64 (n : Int)] 190)) (And.intro (g2.trans (Grow.alloc _ _ (.cells #[.int .i64 (kd : Int), .int .u64 (n : Int)] 190))) (fix_next r2.mem.fresh (.cells #[.int .i64 (kd : Int), .int .u64 (n : Int)] 190) rfl)))
       clear r2 g2 q1 q4
       generalize hW : w2.alloc _ = W at *)
    obtain ⟨r3, g3, f3⟩ := HZ.out
    have s0 := f3.cell 0 (v := .int .i64 (kd : Int)) rfl
    have s1 := f3.cell 1 (v := .int .u64 (n : Int)) rfl
    obtain ⟨d0, d1, d2, h0, h1, h3, t0⟩ := HB.out W r3 g3
    clear f3 r3 g3 hW hq q2
    have hn2 := HN2.out
    clear HN2
    by_cases k1 : kd = 1
    · have fa1 : ((kd : Int) == 1) = true := by first | (simp; done) | (simp; omega)
      have fa2 : ((kd : Int) = 1) = True := by first | (simp; done) | (simp; omega)
      have fa3 : (kd = 1) = True := by first | (simp; done) | (simp; omega)
      have fa4 : (kd == 1) = true := by first | (simp; done) | (simp; omega)
      have fa5 : ((kd : Int) != 1) = false := by first | (simp; done) | (simp; omega)
      have fe1 : ((kd : Int) == 2) = false := by first | (simp; done) | (simp; omega)
      have fe2 : ((kd : Int) = 2) = False := by first | (simp; done) | (simp; omega)
      have fe3 : (kd = 2) = False := by first | (simp; done) | (simp; omega)
      have fe4 : (kd == 2) = false := by first | (simp; done) | (simp; omega)
      have fe5 : ((kd : Int) != 2) = true := by first | (simp; done) | (simp; omega)
      by_cases hna : n ≤ ha
      · have HE := Lib.hid (HRUN.out.trans (if_pos ⟨k1, hna⟩))
        have fb1 : decide ((n : Int) ≤ (ha : Int)) = true := by first | (simp; done) | (simp; omega)
        have fb2 : ((n : Int) ≤ (ha : Int)) = True := by first | (simp; done) | (simp; omega)
        have fb3 : (n ≤ ha) = True := by first | (simp; done) | (simp; omega)
        have fb4 : decide (n ≤ ha) = true := by first | (simp; done) | (simp; omega)
        subst k1
        clear hna
        go_wp2_with fail
        go_quiet (fail)
        go_wp2_with (go_at_call 198; refine (HOld.out _ (HZ.out.1.drewN _) (HZ.out.2.1.trans (Grow.drewN _ _ _))).mono ?_; rintro e w4 ⟨A2, v, rfl, p1, p2, p3, p4⟩)
        go_ret
        rw [HE.out]
        exact ⟨A2, v, rfl, p1, (HZ.out.2.1.trans (Grow.drewN _ _ _)).trans p2, p3, p4⟩
      · have HE := Lib.hid ((HRUN.out.trans (if_neg (fun h => hna h.2))).trans (if_pos (Or.inl (by omega))))
        have fb1 : decide ((n : Int) ≤ (ha : Int)) = false := by first | (simp; done) | (simp; omega)
        have fb2 : ((n : Int) ≤ (ha : Int)) = False := by first | (simp; done) | (simp; omega)
        have fb3 : (n ≤ ha) = False := by first | (simp; done) | (simp; omega)
        have fb4 : decide (n ≤ ha) = false := by first | (simp; done) | (simp; omega)
        subst k1
        clear hna
        go_wp2_with fail
        go_quiet (fail)
        go_wp2_with fail
        go_quiet (fail)
        go_wp2_with (go_at_call 210; refine (HSeen.out _ (HZ.out.1.drewN _) (HZ.out.2.1.trans (Grow.drewN _ _ _))).mono ?_; rintro e w4 ⟨A2, v, rfl, p1, p2, p3, p4⟩)
        go_ret
        rw [HE.out]
        exact ⟨A2, v, rfl, p1, (HZ.out.2.1.trans (Grow.drewN _ _ _)).trans p2, p3, p4⟩
    · have HE0 := Lib.hid (HRUN.out.trans (if_neg (fun h => k1 h.1)))
      have fa1 : ((kd : Int) == 1) = false := by first | (simp; done) | (simp; omega)
      have fa2 : ((kd : Int) = 1) = False := by first | (simp; done) | (simp; omega)
      have fa3 : (kd = 1) = False := by first | (simp; done) | (simp; omega)
      have fa4 : (kd == 1) = false := by first | (simp; done) | (simp; omega)
      have fa5 : ((kd : Int) != 1) = true := by first | (simp; done) | (simp; omega)
      by_cases k2 : kd = 2
      · have fe1 : ((kd : Int) == 2) = true := by first | (simp; done) | (simp; omega)
        have fe2 : ((kd : Int) = 2) = True := by first | (simp; done) | (simp; omega)
        have fe3 : (kd = 2) = True := by first | (simp; done) | (simp; omega)
        have fe4 : (kd == 2) = true := by first | (simp; done) | (simp; omega)
        have fe5 : ((kd : Int) != 2) = false := by first | (simp; done) | (simp; omega)
        have hn5 := hn2 k2
        have ew : IntKind.i64.wrap (n : Int) = (n : Int) := by rw [IntKind.wrap_i64]; omega
        by_cases hni : n = tid
        · have HE := Lib.hid (HE0.out.trans (if_pos (Or.inr hni)))
          have fb1 : ((n : Int) == (tid : Int)) = true := by first | (simp; done) | (simp; omega)
          have fb2 : ((n : Int) = (tid : Int)) = True := by first | (simp; done) | (simp; omega)
          have fb3 : (n = tid) = True := by first | (simp; done) | (simp; omega)
          have fb4 : (n == tid) = true := by first | (simp; done) | (simp; omega)
          have fb5 : ((n : Int) != (tid : Int)) = false := by first | (simp; done) | (simp; omega)
          subst k2
          clear k1 hni hn5
          go_wp2_with fail
          go_quiet (fail)
          go_wp2_with fail
          go_quiet (fail)
          go_wp2_with (go_at_call 210; refine (HSeen.out _ (HZ.out.1.drewN _) (HZ.out.2.1.trans (Grow.drewN _ _ _))).mono ?_; rintro e w4 ⟨A2, v, rfl, p1, p2, p3, p4⟩)
          go_ret
          rw [HE.out]
          exact ⟨A2, v, rfl, p1, (HZ.out.2.1.trans (Grow.drewN _ _ _)).trans p2, p3, p4⟩
        · have HE := Lib.hid (HE0.out.trans (if_neg (by omega)))
          have fb1 : ((n : Int) == (tid : Int)) = false := by first | (simp; done) | (simp; omega)
          have fb2 : ((n : Int) = (tid : Int)) = False := by first | (simp; done) | (simp; omega)
          have fb3 : (n = tid) = False := by first | (simp; done) | (simp; omega)
          have fb4 : (n == tid) = false := by first | (simp; done) | (simp; omega)
          have fb5 : ((n : Int) != (tid : Int)) = true := by first | (simp; done) | (simp; omega)
          subst k2
          clear k1 hni hn5
          go_wp2_with fail
          go_quiet (fail)
          go_wp2_with fail
          go_quiet (fail)
          go_wp2_with (go_at_call 211; refine (HEnder.out _ (HZ.out.1.drewN _) (HZ.out.2.1.trans (Grow.drewN _ _ _))).mono ?_; rintro e w4 ⟨A2, v, rfl, p1, p2, p3, p4⟩)
          go_ret
          rw [HE.out]
          exact ⟨A2, v, rfl, p1, (HZ.out.2.1.trans (Grow.drewN _ _ _)).trans p2, p3, p4⟩
      · have HE := Lib.hid (HE0.out.trans (if_pos (Or.inl k2)))
        have fe1 : ((kd : Int) == 2) = false := by first | (simp; done) | (simp; omega)
        have fe2 : ((kd : Int) = 2) = False := by first | (simp; done) | (simp; omega)
        have fe3 : (kd = 2) = False := by first | (simp; done) | (simp; omega)
        have fe4 : (kd == 2) = false := by first | (simp; done) | (simp; omega)
        have fe5 : ((kd : Int) != 2) = true := by first | (simp; done) | (simp; omega)
        clear k1 k2
        go_wp2_with fail
        go_quiet (fail)
        go_wp2_with fail
        go_quiet (fail)
        go_wp2_with (go_at_call 210; refine (HSeen.out _ (HZ.out.1.drewN _) (HZ.out.2.1.trans (Grow.drewN _ _ _))).mono ?_; rintro e w4 ⟨A2, v, rfl, p1, p2, p3, p4⟩)
        go_ret
        rw [HE.out]
        exact ⟨A2, v, rfl, p1, (HZ.out.2.1.trans (Grow.drewN _ _ _)).trans p2, p3, p4⟩
end Go.Proofs.YtbefcdjcefmicaaGreat.Em

namespace Go.Proofs.YtbefcdjcefmicaaGreat.Em
open Go.ChangeShapes Go.WideShapes Go.ChangeAt Go.RowKit En
set_option linter.unusedVariables false
set_option linter.unusedSimpArgs false
set_option maxRecDepth 100000
set_option maxHeartbeats 1600000

theorem k_own {A : Book} {σ : St} {w : World} (hR : Rep A σ w) (s : Nat) (t : Txn) (ht : σ.txns.getD s none = some t) (link : Nat) (hv : VL σ link) (hx : σ.word (wslot link 1) < 18446744073709551616) (hcnt : σ.count < 4000000000000000000) (b0 b1 b2 b3 : Nat)
    (B0 : Box A.L w b0 (.pointer (some ⟨A.be, 0, none⟩))) (B1 : Box A.L w b1 (.int .u64 (link : Int))) (B2 : Box A.L w b2 (.pointer (some ⟨A.bt s, 0, none⟩))) (B3 : Box A.L w b3 (.pointer (some ⟨A.bc s, 0, none⟩))) :
    Calls Tryz.prog 152 #[.pointer (some ⟨b0, 0, none⟩), .pointer (some ⟨b1, 0, none⟩), .pointer (some ⟨b2, 0, none⟩), .pointer (some ⟨b3, 0, none⟩)] w (Ran A w s (σ.run s (.own link))) := by
  have hsl := hR.sl
  have c0 := B0.cell
  have c1 := B1.cell
  have e2 : w.cell? ⟨A.be, 2, none⟩ = some (.pointer (some ⟨A.ba, 0, none⟩)) := hR.eng 2 rfl
  have HSl := Lib.hid (slot_at link 1 1 rfl hv.lo (by have := hv.hi; omega) hv.u (by omega))
  have HL : Hid (∀ w', Rep A σ w' → Calls Tryz.prog 73 #[.pointer (some ⟨A.ba, 0, none⟩), .int .i64 ((wslot link 1 : Nat) : Int)] w' (Did A w' σ.tick (.int .u64 (σ.word (wslot link 1) : Int)))) := fun w' r => load_any r (wslot link 1) (wslot_lt hR hv.lo hv.hi (by omega)) hcnt
  have HKK : Hid (∀ w', Rep A σ.tick w' → Grow A.L w A.L w' → w'.cell? ⟨b0, 0, none⟩ = some (.pointer (some ⟨A.be, 0, none⟩)) ∧ w'.cell? ⟨b1, 0, none⟩ = some (.int .u64 (link : Int)) ∧ w'.cell? ⟨A.be, 2, none⟩ = some (.pointer (some ⟨A.ba, 0, none⟩))) := fun w' r g => ⟨(B0.grow g).cell, (B1.grow g).cell, r.eng 2 rfl⟩
  have hrd := rd_any (σ.word (wslot link 1)) hx
  have HRD := Lib.hid hrd
  have HRd : Hid (Rep A σ w.drew) := hR.drew
  have HG : Hid (Grow A.L w A.L w.drew) := Grow.drew _ _
  have HFX : Hid (Fix A.L (w.drew.alloc (.cells #[.int .u64 0] 24)) w.heap.size (.cells #[.int .u64 0] 24)) := fix_next hR.drew.mem.fresh _ rfl
  have x0 := World.new_ne w _ c0
  have x1 := World.new_ne w _ c1
  have x3 := World.new_ne w _ e2
  have hn2 : (rd (σ.word (wslot link 1))).1 = 2 → (rd (σ.word (wslot link 1))).2 ≤ 65535 := by
    intro h; have := (rd_small (σ.word (wslot link 1)) hx).2.1 h; omega
  have hrun : σ.run s (.own link) = if (rd (σ.word (wslot link 1))).1 = 3 then (σ.tick, some (.claim link (σ.word (wslot link 1)))) else if (rd (σ.word (wslot link 1))).1 = 2 then (σ.tick, some (.ownTxn link (σ.word (wslot link 1)) (rd (σ.word (wslot link 1))).2)) else (σ.tick, some (.abort 14 2)) := by
    simp only [St.run]
  have HRUN := Lib.hid hrun
  have HN2 := Lib.hid hn2
  generalize σ.run s (.own link) = rr at *
  have hl0 : A.L w.heap.size = none := hR.mem.fresh _ (Nat.le_refl _)
  have HSET : Hid (∀ w', Rep A σ.tick w' → Grow A.L w A.L w' → Rep A σ.tick (w'.setCell ⟨w.heap.size, 0, none⟩ (.int .u64 (σ.word (wslot link 1) : Int))) ∧ Grow A.L w A.L (w'.setCell ⟨w.heap.size, 0, none⟩ (.int .u64 (σ.word (wslot link 1) : Int)))) := fun w' r g => hR.setNew r g rfl rfl (a := ⟨w.heap.size, 0, none⟩) (Nat.le_refl _) hl0 (.int .u64 (σ.word (wslot link 1) : Int))
  have HB : Hid (∀ w1, Rep A σ.tick w1 → Grow A.L w A.L w1 → w1.cell? ⟨b0, 0, none⟩ = some (.pointer (some ⟨A.be, 0, none⟩)) ∧ w1.cell? ⟨b1, 0, none⟩ = some (.int .u64 (link : Int)) ∧ w1.cell? ⟨b2, 0, none⟩ = some (.pointer (some ⟨A.bt s, 0, none⟩)) ∧ w1.cell? ⟨b3, 0, none⟩ = some (.pointer (some ⟨A.bc s, 0, none⟩))) := fun w1 q g => ⟨(B0.grow g).cell, (B1.grow g).cell, (B2.grow g).cell, (B3.grow g).cell⟩
  have HX := Lib.hid (And.intro B0 (And.intro B1 (And.intro B2 B3)))
  have HAb : Hid (∀ w1, Rep A σ.tick w1 → Calls Tryz.prog 85 #[.pointer (some ⟨A.be, 0, none⟩), .pointer (some ⟨A.bt s, 0, none⟩), .pointer (some ⟨A.bc s, 0, none⟩), .int .i64 14, .int .i64 2] w1 (Tells A w1 s (σ.tick, .abort 14 2))) := fun w1 q => abort_any q s 14 2
  have HCl : Hid (∀ (x : Nat) w1, Rep A σ.tick w1 → Calls Tryz.prog 153 #[.pointer (some ⟨A.be, 0, none⟩), .pointer (some ⟨A.bt s, 0, none⟩), .pointer (some ⟨A.bc s, 0, none⟩), .int .u64 (link : Int), .int .u64 (x : Int)] w1 (Tells A w1 s (σ.tick, .claim link x))) := fun x w1 q => claim_any q s link x
  clear hR hcnt hv hx hrd hrun ht hsl B0 B1 B2 B3 hl0 hn2
  generalize (rd (σ.word (wslot link 1))).1 = kd at *
  generalize (rd (σ.word (wslot link 1))).2 = n at *
  generalize σ.word (wslot link 1) = x at *
  go_enter Tryz.func152, Tryz.ntmps152
  go_wp2_with fail
  go_region_held3 (fun w' => w'.cell? ⟨b0, 0, none⟩ = some (.pointer (some ⟨A.be, 0, none⟩)) ∧ w'.cell? ⟨b1, 0, none⟩ = some (.int .u64 (link : Int)) ∧ w'.cell? ⟨A.be, 2, none⟩ = some (.pointer (some ⟨A.ba, 0, none⟩)))
    (first | exact ⟨c0, c1, e2⟩ | assumption | exact HKK.out _ q1 q4 | exact HKK.out _ (q1.alloc _) (q4.trans (Grow.alloc _ _ _)) | exact HKK.out _ (HSET.out _ q1 q4).1 (HSET.out _ q1 q4).2 | go_keep)
    (first | (go_at_call 62; refine (HSl.out _).mono ?_; rintro e w' ⟨rfl, rfl⟩) | (go_at_call 73; refine (HL.out _ HRd.out).mono ?_; rintro e w1 ⟨rfl, q1, q2⟩; have q4 := HG.out.trans q2) | (go_at_call 73; refine (HL.out _ (HRd.out.alloc _)).mono ?_; rintro e w1 ⟨rfl, q1, q2⟩; have q4 := (HG.out.trans (Grow.alloc _ _ _)).trans q2; have FX := Lib.hid (HFX.out.grow q2); have nb := FX.out.cell 0 (v := .int .u64 0) rfl; have nz := FX.out.frozen 0))
  all_goals
    rename_i hHeld
    clear hHeld x0 x1 x3 c0 c1 e2
    first
    | (have HZ := Lib.hid (And.intro (HSET.out _ q1 q4).1 (And.intro (HSET.out _ q1 q4).2 (FX.out.setSame (.int .u64 (x : Int)))))
       clear FX nb nz q1 q4
       generalize hW : World.setCell _ _ _ = W at *)
    | (have HZ := Lib.hid (And.intro (q1.alloc (.cells #[.int .u64 (x : Int)] 24)) (And.intro (q4.trans (Grow.alloc _ _ (.cells #[.int .u64 (x : Int)] 24))) (fix_next q1.mem.fresh (.cells #[.int .u64 (x : Int)] 24) rfl)))
       clear q1 q4
       generalize hW : w1.alloc _ = W at *)
    have s5 := HZ.out.2.2.cell 0 (v := .int .u64 (x : Int)) rfl
    clear q2 hW
    have hn2 := HN2.out
    clear HN2
    by_cases k3 : kd = 3
    · have HE := Lib.hid (HRUN.out.trans (if_pos k3))
      have fa1 : ((kd : Int) == 3) = true := by first | (simp; done) | (simp; omega)
      have fa2 : ((kd : Int) = 3) = True := by first | (simp; done) | (simp; omega)
      have fa3 : (kd = 3) = True := by first | (simp; done) | (simp; omega)
      have fa4 : (kd == 3) = true := by first | (simp; done) | (simp; omega)
      have fa5 : ((kd : Int) != 3) = false := by first | (simp; done) | (simp; omega)
      subst k3
      clear hn2
      go_wp2_with (first | (go_at_call 93; refine (HRD.out _).mono ?_; rintro e w2 ⟨rfl, hq⟩; have gq := Grow.below (L := A.L) hq; obtain ⟨r3, g3, f3⟩ := allocs1 (HZ.out.1.below hq) #[.int .i64 (3 : Int), .int .u64 (n : Int)] 190; have s0 := f3.cell 0 (v := .int .i64 (3 : Int)) rfl; have s1 := f3.cell 1 (v := .int .u64 (n : Int)) rfl; have g4 := (HZ.out.2.1.trans gq).trans g3; have s5' := ((HZ.out.2.2.grow gq).grow g3).cell 0 (v := .int .u64 (x : Int)) rfl; obtain ⟨d0, d1, d2, d3⟩ := HB.out _ r3 g4; have HF := Lib.hid (And.intro r3 (And.intro g4 ((HZ.out.2.2.grow gq).grow g3))); clear r3 g3 f3 gq g4 hq) | (go_at_call 153; refine (HCl.out x _ HF.out.1).mono ?_; rintro e w4 ⟨A2, v, rfl, p1, p2, p3, p4⟩))
      go_ret
      rw [HE.out]
      exact ⟨A2, v, rfl, p1, HF.out.2.1.trans p2, p3, p4⟩
    · have HE0 := Lib.hid (HRUN.out.trans (if_neg k3))
      have fa1 : ((kd : Int) == 3) = false := by first | (simp; done) | (simp; omega)
      have fa2 : ((kd : Int) = 3) = False := by first | (simp; done) | (simp; omega)
      have fa3 : (kd = 3) = False := by first | (simp; done) | (simp; omega)
      have fa4 : (kd == 3) = false := by first | (simp; done) | (simp; omega)
      have fa5 : ((kd : Int) != 3) = true := by first | (simp; done) | (simp; omega)
      by_cases k2 : kd = 2
      · have HE := Lib.hid (HE0.out.trans (if_pos k2))
        have hn5 := hn2 k2
        have ew : IntKind.i64.wrap (n : Int) = (n : Int) := by rw [IntKind.wrap_i64]; omega
        have fb1 : ((kd : Int) == 2) = true := by first | (simp; done) | (simp; omega)
        have fb2 : ((kd : Int) = 2) = True := by first | (simp; done) | (simp; omega)
        have fb3 : (kd = 2) = True := by first | (simp; done) | (simp; omega)
        have fb4 : (kd == 2) = true := by first | (simp; done) | (simp; omega)
        have fb5 : ((kd : Int) != 2) = false := by first | (simp; done) | (simp; omega)
        subst k2
        clear hn2 hn5 k3
        go_wp2_with (go_at_call 93; refine (HRD.out _).mono ?_; rintro e w2 ⟨rfl, hq⟩; have gq := Grow.below (L := A.L) hq; obtain ⟨r3, g3, f3⟩ := allocs1 (HZ.out.1.below hq) #[.int .i64 (2 : Int), .int .u64 (n : Int)] 190; have s0 := f3.cell 0 (v := .int .i64 (2 : Int)) rfl; have s1 := f3.cell 1 (v := .int .u64 (n : Int)) rfl; have g4 := (HZ.out.2.1.trans gq).trans g3; have s5' := ((HZ.out.2.2.grow gq).grow g3).cell 0 (v := .int .u64 (x : Int)) rfl; obtain ⟨d0, d1, d2, d3⟩ := HB.out _ r3 g4; have HF := Lib.hid (And.intro r3 (And.intro g4 ((HZ.out.2.2.grow gq).grow g3))); clear r3 g3 f3 gq g4 hq)
        obtain ⟨r5, g5, f5⟩ := allocs1 HF.out.1 #[.int .i64 (n : Int)] 3
        rw [size_alloc1] at f5
        have gg := HF.out.2.1.trans g5
        have HY := Lib.hid (And.intro r5 (And.intro gg (And.intro f5 (HF.out.2.2.grow g5))))
        go_ret
        rw [HE.out]
        obtain ⟨X0, X1, X2, X3⟩ := HX.out
        obtain ⟨r5, gg, f5, f6⟩ := HY.out
        exact ⟨A, _, rfl, r5, gg, Stay.refl _ _, _, _, _, _, _, _, rfl, X0.grow gg, f5.box, X2.grow gg, X3.grow gg, X1.grow gg, f6.box⟩
      · have HE := Lib.hid (HE0.out.trans (if_neg k2))
        have fb1 : ((kd : Int) == 2) = false := by first | (simp; done) | (simp; omega)
        have fb2 : ((kd : Int) = 2) = False := by first | (simp; done) | (simp; omega)
        have fb3 : (kd = 2) = False := by first | (simp; done) | (simp; omega)
        have fb4 : (kd == 2) = false := by first | (simp; done) | (simp; omega)
        have fb5 : ((kd : Int) != 2) = true := by first | (simp; done) | (simp; omega)
        clear k3 k2 hn2
        go_wp2_with (first | (go_at_call 93; refine (HRD.out _).mono ?_; rintro e w2 ⟨rfl, hq⟩; have gq := Grow.below (L := A.L) hq; obtain ⟨r3, g3, f3⟩ := allocs1 (HZ.out.1.below hq) #[.int .i64 (kd : Int), .int .u64 (n : Int)] 190; have s0 := f3.cell 0 (v := .int .i64 (kd : Int)) rfl; have s1 := f3.cell 1 (v := .int .u64 (n : Int)) rfl; have g4 := (HZ.out.2.1.trans gq).trans g3; have s5' := ((HZ.out.2.2.grow gq).grow g3).cell 0 (v := .int .u64 (x : Int)) rfl; obtain ⟨d0, d1, d2, d3⟩ := HB.out _ r3 g4; have HF := Lib.hid (And.intro r3 (And.intro g4 ((HZ.out.2.2.grow gq).grow g3))); clear r3 g3 f3 gq g4 hq) | (go_at_call 85; refine (HAb.out _ HF.out.1).mono ?_; rintro e w4 ⟨A2, v, rfl, p1, p2, p3, p4⟩))
        go_ret
        rw [HE.out]
        exact ⟨A2, v, rfl, p1, HF.out.2.1.trans p2, p3, p4⟩
end Go.Proofs.YtbefcdjcefmicaaGreat.Em
