/- Texts of this claim, laid together: Tu, Ju, Cm. -/
import Derived.Test.YtbefcdjcefmicaaGreatBase9
import Derived.Test.YtbefcdjcefmicaaGreatBase6
import Derived.Test.YtbefcdjcefmicaaGreatBase5
import Derived.Test.YtbefcdjcefmicaaGreatBase4
import Derived.Test.YtbefcdjcefmicaaGreatBase8
namespace Go.Proofs.YtbefcdjcefmicaaGreat.Em
open Go.ChangeShapes Go.WideShapes Go.ChangeAt Go.RowKit En
set_option linter.unusedVariables false
set_option linter.unusedSimpArgs false
set_option maxRecDepth 100000
set_option maxHeartbeats 1600000

theorem store_i {A : Book} {σ : St} {w : World} (h : Rep A σ w) (i n : Nat) (z y : Int) (hz : z = (i : Int)) (hy : y = (n : Int)) (hi : i < σ.words.length) (hc : σ.count < 4000000000000000000) :
    Calls Tryz.prog 77 #[.pointer (some ⟨A.ba, 0, none⟩), .int .i64 z, .int .u64 y] w (Did A w (σ.put i n) (.tuple #[])) := by subst hz hy; exact store_any h i n hi hc
theorem trnCs_length (l : List Trn) : (trnCs l).length = l.length * 3 := by
  induction l with
  | nil => rfl
  | cons x l ih => simp only [trnCs, List.flatMap_cons, List.length_append, List.length_cons, List.length_nil] at ih ⊢; omega
theorem turns_any {A : Book} {σ : St} {w : World} (hR : Rep A σ w) (s : Nat) (l : List Trn) (lv : Value) (hl : FRow A.L w 3 lv (trnCs l)) (r : Res) (vp : Value) (hp : (vp = A.vpairs s ∧ r.pairs = (σ.c s).r.pairs) ∨ (vp = .slice none 0 0 ∧ r.pairs = [])) :
    Calls Tryz.prog 122 #[.pointer (some ⟨A.be, 0, none⟩), .pointer (some ⟨A.bt s, 0, none⟩), .pointer (some ⟨A.bc s, 0, none⟩), lv, .agg #[.int .i64 (r.e : Int), .int .i64 (r.value : Int), vp, .int .i64 (r.over : Int), .int .i64 (r.reason : Int)]] w (Tells A w s (σ, .turns l r)) := by
  have hl0 := hl
  obtain ⟨a, n, cap, rfl, hlen, hcap, hmax, hrow⟩ := hl
  rw [trnCs_length] at hlen
  have FA := Lib.hid (allocs5 hR #[.pointer (some ⟨A.be, 0, none⟩)] 27 #[.pointer (some ⟨A.bt s, 0, none⟩)] 102 #[.pointer (some ⟨A.bc s, 0, none⟩)] 107 #[.slice a n cap] 211 #[.int .i64 (r.e : Int), .int .i64 (r.value : Int), vp, .int .i64 (r.over : Int), .int .i64 (r.reason : Int)] 42)
  have HL := Lib.hid (And.intro hl0 hp)
  clear hR hp hl0 hcap hmax hrow
  cases l with
  | nil =>
    obtain rfl : n = 0 := by simp at hlen; omega
    clear hlen
    go_enter Tryz.func122, Tryz.ntmps122
    go_wp2_with fail
    go_ret
    obtain ⟨r1, r2, f0, f1, f2, f3, f4⟩ := FA.out
    exact ⟨A, _, rfl, r1, r2, Stay.refl _ _, _, _, _, _, rfl, f0.box, f1.box, f2.box, _, _, f4, HL.out.2⟩
  | cons x l =>
    have hn0 : n ≠ 0 := by simp at hlen; omega
    have d1 : ((n : Int) == 0) = false := by simp; omega
    have d2 : ((n : Int) = 0) = False := by simp; omega
    have d3 : (n = 0) = False := by simp; omega
    clear hlen hn0
    go_enter Tryz.func122, Tryz.ntmps122
    go_wp2_with fail
    go_ret
    obtain ⟨r1, r2, f0, f1, f2, f3, f4⟩ := FA.out
    exact ⟨A, _, rfl, r1, r2, Stay.refl _ _, _, _, _, _, _, rfl, ⟨_, f3.box, HL.out.1.grow r2⟩, f0.box, f1.box, f2.box, _, _, f4, HL.out.2⟩
theorem k_turnsE {A : Book} {σ : St} {w : World} (hR : Rep A σ w) (s : Nat) (t : Txn) (ht : σ.txns.getD s none = some t) (c : Cal) (hc : σ.calls.getD s none = some c) (r : Res) (hs : s < 8) (hcnt : σ.count < 4000000000000000000) (b0 b1 b2 b3 : Nat)
    (B0 : Box A.L w b0 (.pointer (some ⟨A.be, 0, none⟩))) (B1 : Box A.L w b1 (.pointer (some ⟨A.bt s, 0, none⟩))) (B2 : Box A.L w b2 (.pointer (some ⟨A.bc s, 0, none⟩))) (B3 : ResBox (kp A σ s) A.L w b3 r) :
    Calls Tryz.prog 146 #[.pointer (some ⟨b0, 0, none⟩), .pointer (some ⟨b1, 0, none⟩), .pointer (some ⟨b2, 0, none⟩), .pointer (some ⟨b3, 0, none⟩)] w (Ran A w s (σ.run s (.turns [] r))) := by
  obtain ⟨vp, TR, FR, hp⟩ := B3
  have hps : (kp A σ s).ps = c.r.pairs := by show (σ.c s).r.pairs = _; rw [call_get hc]
  rw [hps] at hp
  have hform : ∃ a n cap, vp = .slice a n cap := by
    rcases hp with ⟨h1, _⟩ | ⟨h1, _⟩
    · have hown := hR.mem.all (.pairs s)
      rw [mem_pairs hc] at hown
      obtain ⟨a, cap, h2, _⟩ := Ow.own_form hown.1
      exact ⟨a, _, cap, h1.trans h2⟩
    · exact ⟨none, 0, 0, h1⟩
  obtain ⟨va, vn, vc, hvp⟩ := hform
  have c0 := B0.cell
  have c1 := B1.cell
  have c2 := B2.cell
  have e2 : w.cell? ⟨A.be, 2, none⟩ = some (.pointer (some ⟨A.ba, 0, none⟩)) := hR.eng 2 rfl
  have t2 : w.cell? ⟨A.bt s, 2, none⟩ = some (.int .i64 (s : Int)) := hR.txn ht 2 rfl
  have n1 : IntKind.i64.wrap (1 + (s : Int)) = 1 + (s : Int) := by rw [IntKind.wrap_i64]; omega
  have HL := Lib.hid (store_i hR.drew (1 + s) 0 (1 + (s : Int)) 0 (by omega) rfl (by rw [hR.nw]; omega) hcnt)
  have HG : Hid (Grow A.L w A.L w.drew) := Grow.drew _ _
  have HK : Hid (∀ w', Rep A σ w' → Grow A.L w A.L w' → w'.cell? ⟨b0, 0, none⟩ = some (.pointer (some ⟨A.be, 0, none⟩)) ∧ w'.cell? ⟨A.be, 2, none⟩ = some (.pointer (some ⟨A.ba, 0, none⟩)) ∧ w'.cell? ⟨b1, 0, none⟩ = some (.pointer (some ⟨A.bt s, 0, none⟩)) ∧ w'.cell? ⟨A.bt s, 2, none⟩ = some (.int .i64 (s : Int))) := fun w' r g => ⟨(B0.grow g).cell, r.eng 2 rfl, (B1.grow g).cell, r.txn ht 2 rfl⟩
  have HB : Hid (∀ w1, Rep A (σ.put (1 + s) 0) w1 → Grow A.L w A.L w1 → Calls Tryz.prog 138 #[.pointer (some ⟨A.be, 0, none⟩), .pointer (some ⟨A.bc s, 0, none⟩), .agg #[.int .i64 (r.e : Int), .int .i64 (r.value : Int), vp, .int .i64 (r.over : Int), .int .i64 (r.reason : Int)]] w1 (Ran A w1 s ((σ.put (1 + s) 0).finish s r, none)) ∧ w1.cell? ⟨b0, 0, none⟩ = some (.pointer (some ⟨A.be, 0, none⟩)) ∧ w1.cell? ⟨b2, 0, none⟩ = some (.pointer (some ⟨A.bc s, 0, none⟩)) ∧ w1.cell? ⟨b3, 0, none⟩ = some (.int .i64 (r.e : Int)) ∧ w1.cell? ⟨b3, 1, none⟩ = some (.int .i64 (r.value : Int)) ∧ w1.cell? ⟨b3, 2, none⟩ = some vp ∧ w1.cell? ⟨b3, 3, none⟩ = some (.int .i64 (r.over : Int)) ∧ w1.cell? ⟨b3, 4, none⟩ = some (.int .i64 (r.reason : Int))) := by
    intro w1 q g
    have fr := FR.grow g
    exact ⟨finish_any q s c hc r va vn vc vp hvp hp, (B0.grow g).cell, (B2.grow g).cell, fr.cell 0 rfl, fr.cell 1 rfl, fr.cell 2 rfl, fr.cell 3 rfl, fr.cell 4 rfl⟩
  have hrun : σ.run s (.turns [] r) = ((σ.put (1 + s) 0).finish s r, none) := rfl
  rw [hrun]
  clear hR ht hc hs hcnt B0 B1 B2 FR hp hps hrun
  subst hvp
  go_enter Tryz.func146, Tryz.ntmps146
  go_wp2_with fail
  refine wp_region_still_tail 9 (by kernel_rfl) (by kernel_rfl) ?_
  simp only [List.take_succ_cons, List.take_zero, List.drop_succ_cons, List.drop_zero]
  repeat still_step
  refine wpStill_nil ?_
  change wpList _ _ _ _ _ w.drew
  generalize w.drew = wd at *
  go_wp2_with (first | (go_at_call 77; refine HL.out.mono ?_; rintro e w1 ⟨rfl, q1, q2⟩; have g1 := HG.out.trans q2; obtain ⟨hf, d0, d2, k0, k1, k2, k3, k4⟩ := HB.out w1 q1 g1; have HQ := Lib.hid (And.intro hf g1); clear q1 q2 g1 hf) | (go_at_call 138; refine HQ.out.1.mono ?_; rintro e w2 ⟨A2, v, rfl, p1, p2, p3, rfl⟩))
  trace_state
  go_ret
  exact ⟨A2, _, rfl, p1, HQ.out.2.trans p2, p3, rfl⟩
theorem k_turnsC {A : Book} {σ : St} {w : World} (hR : Rep A σ w) (s : Nat) (c : Cal) (hc : σ.calls.getD s none = some c) (x : Trn) (l : List Trn) (r : Res) (hx : x.at_ < σ.words.length) (hcnt : σ.count < 4000000000000000000) (b0 b1 b2 b3 b4 : Nat)
    (B0 : ListBox A.L w b0 (x :: l)) (B1 : Box A.L w b1 (.pointer (some ⟨A.be, 0, none⟩))) (B2 : Box A.L w b2 (.pointer (some ⟨A.bt s, 0, none⟩))) (B3 : Box A.L w b3 (.pointer (some ⟨A.bc s, 0, none⟩))) (B4 : ResBox (kp A σ s) A.L w b4 r) :
    Calls Tryz.prog 147 #[.pointer (some ⟨b0, 0, none⟩), .pointer (some ⟨b1, 0, none⟩), .pointer (some ⟨b2, 0, none⟩), .pointer (some ⟨b3, 0, none⟩), .pointer (some ⟨b4, 0, none⟩)] w (Ran A w s (σ.run s (.turns (x :: l) r))) := by
  obtain ⟨vp, TR, FR, hp⟩ := B4
  have hps : (kp A σ s).ps = c.r.pairs := by show (σ.c s).r.pairs = _; rw [call_get hc]
  rw [hps] at hp
  have hform : ∃ a n cap, vp = .slice a n cap := by
    rcases hp with ⟨h1, _⟩ | ⟨h1, _⟩
    · have hown := hR.mem.all (.pairs s)
      rw [mem_pairs hc] at hown
      obtain ⟨a, cap, h2, _⟩ := Ow.own_form hown.1
      exact ⟨a, _, cap, h1.trans h2⟩
    · exact ⟨none, 0, 0, h1⟩
  obtain ⟨va, vn, vc, hvp⟩ := hform
  obtain ⟨lv, X0, R0⟩ := B0
  obtain ⟨a, n, cap, rfl, hlen, hcap, hmax, hrow⟩ := R0
  rw [trnCs_length] at hlen
  obtain rfl : n = l.length + 1 := by simp at hlen; omega
  obtain ⟨g, off, rfl, hlg, hltg, hcs⟩ := hrow.resolve_left (by omega)
  have c0 := X0.cell
  have c1 := B1.cell
  have c2 := B2.cell
  have c3 := B3.cell
  have e2 : w.cell? ⟨A.be, 2, none⟩ = some (.pointer (some ⟨A.ba, 0, none⟩)) := hR.eng 2 rfl
  have l0 : w.cell? ⟨g, off, none⟩ = some (.int .i64 (x.at_ : Int)) := hcs 0 (by omega)
  have l1 : w.cell? ⟨g, off + 1, none⟩ = some (.int .u64 (x.old : Int)) := hcs 1 (by omega)
  have l2 : w.cell? ⟨g, off + 2, none⟩ = some (.int .u64 (x.new : Int)) := hcs 2 (by omega)
  obtain ⟨r1, g1, f0⟩ := allocs1 hR #[.int .i64 (x.at_ : Int), .int .u64 (x.old : Int), .int .u64 (x.new : Int)] 213
  have y0 := f0.cell 0 (v := .int .i64 (x.at_ : Int)) rfl
  have y1 := f0.cell 1 (v := .int .u64 (x.old : Int)) rfl
  have y2 := f0.cell 2 (v := .int .u64 (x.new : Int)) rfl
  have z1 := (B1.grow g1).cell
  have ze := r1.eng 2 (v := .pointer (some ⟨A.ba, 0, none⟩)) rfl
  obtain ⟨a', ha'⟩ : ∃ a', a' = if cap = 1 then (some (⟨g, off, none⟩ : Addr)) else some ⟨g, off + 3, none⟩ := ⟨_, rfl⟩
  have hsl : ∀ w', (Instr.slice 211 (.slice (some ⟨g, off, none⟩) (l.length + 1) cap) (some (.int .i64 1)) none none).run Tryz.prog w' = .ok (.slice a' l.length (cap - 1)) w' := by
    intro w'
    have he : Tryz.prog.elem 211 = 213 := by kernel_rfl
    have hz : (sizeOf 213).run Tryz.prog w' = .ok 3 w' := by kernel_rfl
    rw [run_slice_l (P := Tryz.prog) w' 211 (some ⟨g, off, none⟩) (l.length + 1) cap (by kernel_rfl) .i64 1 (by decide) (by omega), he, hz, ha']
    by_cases h1 : cap = 1
    · simp [Result.andThen, sliced, h1]
    · simp [Result.andThen, sliced, h1, Addr.add]
  have HB : Hid (∀ σ' w2, Rep A σ' w2 → σ'.calls = σ.calls → Grow A.L w A.L w2 → w2.cell? ⟨b0, 0, none⟩ = some (.slice (some ⟨g, off, none⟩) (l.length + 1) cap) ∧ w2.cell? ⟨b1, 0, none⟩ = some (.pointer (some ⟨A.be, 0, none⟩)) ∧ w2.cell? ⟨b2, 0, none⟩ = some (.pointer (some ⟨A.bt s, 0, none⟩)) ∧ w2.cell? ⟨b3, 0, none⟩ = some (.pointer (some ⟨A.bc s, 0, none⟩)) ∧ w2.cell? ⟨b4, 0, none⟩ = some (.int .i64 (r.e : Int)) ∧ w2.cell? ⟨b4, 1, none⟩ = some (.int .i64 (r.value : Int)) ∧ w2.cell? ⟨b4, 2, none⟩ = some vp ∧ w2.cell? ⟨b4, 3, none⟩ = some (.int .i64 (r.over : Int)) ∧ w2.cell? ⟨b4, 4, none⟩ = some (.int .i64 (r.reason : Int)) ∧
      Calls Tryz.prog 122 #[.pointer (some ⟨A.be, 0, none⟩), .pointer (some ⟨A.bt s, 0, none⟩), .pointer (some ⟨A.bc s, 0, none⟩), .slice a' l.length (cap - 1), .agg #[.int .i64 (r.e : Int), .int .i64 (r.value : Int), vp, .int .i64 (r.over : Int), .int .i64 (r.reason : Int)]] w2.drew (Tells A w2.drew s (σ', .turns l r))) := by
    intro σ' w2 q hcl gr
    have fr := FR.grow gr
    have hrow' : FRow A.L w2.drew 3 (.slice a' l.length (cap - 1)) (trnCs l) := by
      refine ⟨_, _, _, rfl, trnCs_length l, by omega, by omega, ?_⟩
      by_cases hc1 : cap = 1
      · exact .inl (by omega)
      refine .inr ⟨g, off + 3, by rw [ha', if_neg hc1], hlg, Nat.lt_of_lt_of_le hltg gr.size, fun j hj => ?_⟩
      rw [World.cell?_drew, World.cell?_of_block (w := w) (a := ⟨g, off + 3 + j, none⟩) (gr.block g hltg hlg), show off + 3 + j = off + (3 + j) by omega, hcs (3 + j) (by omega)]
      simp [trnCs, Nat.add_comm 3 j]
    have hp' : (vp = A.vpairs s ∧ r.pairs = (σ'.c s).r.pairs) ∨ (vp = .slice none 0 0 ∧ r.pairs = []) := by
      have e : σ'.c s = c := by unfold St.c; rw [hcl, hc]; rfl
      rw [e]; exact hp
    exact ⟨(X0.grow gr).cell, (B1.grow gr).cell, (B2.grow gr).cell, (B3.grow gr).cell, fr.cell 0 rfl, fr.cell 1 rfl, fr.cell 2 rfl, fr.cell 3 rfl, fr.cell 4 rfl, turns_any q.drew s l _ hrow' r vp hp'⟩
  clear ha'
  have HG := Lib.hid (g1.trans (Grow.drew A.L (w.alloc (.cells #[.int .i64 (x.at_ : Int), .int .u64 (x.old : Int), .int .u64 (x.new : Int)] 213))))
  have nl : ¬ ((l.length : Int) + 1 ≤ 0) := by omega
  have nl2 : (0 : Int) < (l.length : Int) + 1 := by omega
  by_cases ho : x.old = 0
  · have HL := Lib.hid (store_any r1.drew x.at_ x.new hx hcnt)
    have hrun : σ.run s (.turns (x :: l) r) = (σ.put x.at_ x.new, some (.turns l r)) := by simp only [St.run, if_pos ho]
    rw [hrun]
    have HB1 := Lib.hid (fun w2 q gr => HB.out (σ.put x.at_ x.new) w2 q rfl gr)
    have d1 : ((x.old : Int) == 0) = true := by simpa using ho
    have d2 : ((x.old : Int) = 0) = True := by simpa using ho
    clear hR r1 g1 f0 hc hx hcnt X0 B1 B2 B3 FR hp hps hrun HB ho hlen hcap hmax hrow hcs c1 c2 c3 e2
    generalize x.at_ = xa at *
    generalize x.old = xo at *
    generalize x.new = xn at *
    subst hvp
    go_enter Tryz.func147, Tryz.ntmps147
    go_wp2_with fail
    generalize w.alloc _ = w1 at *
    refine wp_region_still_tail 8 (by kernel_rfl) (by kernel_rfl) ?_
    simp only [List.take_succ_cons, List.take_zero, List.drop_succ_cons, List.drop_zero]
    repeat still_step
    refine wpStill_nil ?_
    change wpList _ _ _ _ _ w1.drew
    generalize w1.drew = wd at *
    go_wp2_with (go_at_call 77; refine HL.out.mono ?_; rintro e w2 ⟨rfl, q1, q2⟩; have gr := HG.out.trans q2; obtain ⟨d0, d1, d2, d3, k0, k1, k2, k3, k4, hf⟩ := HB1.out w2 q1 gr; have HQ := Lib.hid (And.intro hf (gr.trans (Grow.drew _ _))); clear q1 q2 gr hf)
    refine wp_region_still_tail 6 (by kernel_rfl) (by kernel_rfl) ?_
    simp only [List.take_succ_cons, List.take_zero, List.drop_succ_cons, List.drop_zero]
    repeat still_step
    refine wpStill_nil ?_
    change wpList _ _ _ _ _ w2.drew
    generalize w2.drew = wd2 at *
    go_wp2_with (go_at_call 122; refine HQ.out.1.mono ?_; rintro e w3 ⟨A2, v, rfl, p1, p2, p3, p4⟩)
    go_ret
    exact ⟨A2, v, rfl, p1, HQ.out.2.trans p2, p3, p4⟩
  · have HL := Lib.hid (cas_any r1.drew x.at_ x.old x.new hx hcnt)
    have hrun : σ.run s (.turns (x :: l) r) = (σ.cas x.at_ x.old x.new, some (.turns l r)) := by simp only [St.run, if_neg ho]
    rw [hrun]
    have HB1 := Lib.hid (fun w2 q gr => HB.out (σ.cas x.at_ x.old x.new) w2 q (by unfold St.cas; split <;> rfl) gr)
    have d1 : ((x.old : Int) == 0) = false := by simpa using ho
    have d2 : ((x.old : Int) = 0) = False := by simpa using ho
    clear hR r1 g1 f0 hc hx hcnt X0 B1 B2 B3 FR hp hps hrun HB ho hlen hcap hmax hrow hcs c1 c2 c3 e2
    generalize x.at_ = xa at *
    generalize x.old = xo at *
    generalize x.new = xn at *
    subst hvp
    go_enter Tryz.func147, Tryz.ntmps147
    go_wp2_with fail
    generalize w.alloc _ = w1 at *
    refine wp_region_still_tail 10 (by kernel_rfl) (by kernel_rfl) ?_
    simp only [List.take_succ_cons, List.take_zero, List.drop_succ_cons, List.drop_zero]
    repeat still_step
    refine wpStill_nil ?_
    change wpList _ _ _ _ _ w1.drew
    generalize w1.drew = wd at *
    go_wp2_with (go_at_call 75; refine HL.out.mono ?_; rintro e w2 ⟨rfl, q1, q2⟩; have gr := HG.out.trans q2; obtain ⟨d0, d1, d2, d3, k0, k1, k2, k3, k4, hf⟩ := HB1.out w2 q1 gr; have HQ := Lib.hid (And.intro hf (gr.trans (Grow.drew _ _))); clear q1 q2 gr hf)
    refine wp_region_still_tail 6 (by kernel_rfl) (by kernel_rfl) ?_
    simp only [List.take_succ_cons, List.take_zero, List.drop_succ_cons, List.drop_zero]
    repeat still_step
    refine wpStill_nil ?_
    change wpList _ _ _ _ _ w2.drew
    generalize w2.drew = wd2 at *
    go_wp2_with (go_at_call 122; refine HQ.out.1.mono ?_; rintro e w3 ⟨A2, v, rfl, p1, p2, p3, p4⟩)
    go_ret
    exact ⟨A2, v, rfl, p1, HQ.out.2.trans p2, p3, p4⟩
end Go.Proofs.YtbefcdjcefmicaaGreat.Em

namespace Go.Proofs.YtbefcdjcefmicaaGreat.Em
open Go.ChangeShapes Go.WideShapes Go.ChangeAt Go.RowKit En
set_option linter.unusedVariables false
set_option linter.unusedSimpArgs false
set_option maxRecDepth 100000
set_option maxHeartbeats 1600000

theorem own_at {w : World} {e : TypeId} {n size : Nat} {v : Value} {xs : List Value} (h : w.ownsRow 0 e size v n xs) {j : Nat} {u : Value} (hj : xs[j]? = some u) : ∃ g cap, v = .slice (some ⟨g, 0, none⟩) n cap ∧ w.cell? ⟨g, j, none⟩ = some u := by
  have hc := fun g hg => h.cells (g := g) hg
  rcases h.2 with ⟨rfl, h0⟩ | ⟨g, cap, cur, rfl, hb, hg, hnc, hcm, hcs, htake⟩
  · have h1 := h.1
    rw [h0] at h1
    have : xs = [] := by simpa using h1
    rw [this] at hj
    simp at hj
  · refine ⟨g, cap, rfl, ?_⟩
    have := hc g rfl j u hj
    have hadd : (⟨g, 0, none⟩ : Addr).add j = ⟨g, j, none⟩ := by unfold Addr.add; split <;> simp_all
    rw [hadd] at this
    exact this
theorem readCs_get (l : List (Nat × Nat × Bool)) (i : Nat) (h : i < l.length) : (readCs l)[3 * i]? = some (i64 (l.getD i (0, 0, false)).1) ∧ (readCs l)[3 * i + 1]? = some (u64 (l.getD i (0, 0, false)).2.1) ∧ (readCs l)[3 * i + 2]? = some (.bool (l.getD i (0, 0, false)).2.2) := by
  induction l generalizing i with
  | nil => simp at h
  | cons x l ih =>
    cases i with
    | zero => simp [readCs]
    | succ i =>
      have := ih i (by simpa using h)
      simp only [readCs, List.flatMap_cons] at this ⊢
      have e : ∀ k, ([i64 x.1, u64 x.2.1, .bool x.2.2] ++ List.flatMap (fun r => [i64 r.1, u64 r.2.1, .bool r.2.2]) l)[3 * (i + 1) + k]? = (List.flatMap (fun r => [i64 r.1, u64 r.2.1, .bool r.2.2]) l)[3 * i + k]? := by
        intro k
        rw [List.getElem?_append_right (by simp; omega)]
        congr 1
        simp
        omega
      have e0 := e 0
      simp only [Nat.add_zero] at e0
      rw [e0, e 1, e 2]
      exact this
theorem judge_step (t : Txn) (i : Nat) (h : i < t.reads.length) (hn : t.needs (t.reads.getD i (0, 0, false)) = false) : judgeK t i = judgeK t (i + 1) := by
  unfold judgeK
  have e : t.reads.length - i = (t.reads.length - (i + 1)) + 1 := by omega
  have k : t.need (t.reads.length - i) i = t.need (t.reads.length - (i + 1)) (i + 1) := by
    rw [e]
    show (if i < t.reads.length ∧ t.needs (t.reads.getD i (0, 0, false)) = false then _ else _) = _
    rw [if_pos ⟨h, hn⟩]
  rw [k]
theorem need_stop (t : Txn) (n i : Nat) (h : ¬ (i < t.reads.length ∧ t.needs (t.reads.getD i (0, 0, false)) = false)) : t.need n i = i := by
  cases n with
  | zero => rfl
  | succ n =>
    show (if i < t.reads.length ∧ t.needs (t.reads.getD i (0, 0, false)) = false then _ else _) = _
    rw [if_neg h]
theorem judge_end (t : Txn) : judgeK t t.reads.length = waitK t 0 := by
  unfold judgeK
  rw [need_stop _ _ _ (by omega), if_pos rfl]
theorem judge_find (t : Txn) (i : Nat) (h : i < t.reads.length) (hn : t.needs (t.reads.getD i (0, 0, false)) = true) : judgeK t i = .start ⟨(t.reads.getD i (0, 0, false)).1, t.end_, .judge i (t.reads.getD i (0, 0, false)).2.1⟩ := by
  unfold judgeK
  rw [need_stop _ _ _ (fun h => by rw [hn] at h; exact absurd h.2 (by simp)), if_neg (by omega)]
theorem judge_any {A : Book} {σ : St} {w : World} (hR : Rep A σ w) (s : Nat) (t : Txn) (ht : σ.txns.getD s none = some t) (i0 : Nat) (hi0 : i0 ≤ t.reads.length) (hrl : t.reads.length < 1000000) :
    Calls Tryz.prog 116 #[.pointer (some ⟨A.be, 0, none⟩), .pointer (some ⟨A.bt s, 0, none⟩), .pointer (some ⟨A.bc s, 0, none⟩), .int .i64 (i0 : Int)] w (Tells A w s (σ, judgeK t i0)) := by
  obtain ⟨r4, g4, f0, f1, f2, f3⟩ := allocs4 hR #[.pointer (some ⟨A.be, 0, none⟩)] 27 #[.pointer (some ⟨A.bt s, 0, none⟩)] 102 #[.pointer (some ⟨A.bc s, 0, none⟩)] 107 #[.int .i64 (i0 : Int)] 3
  have HR := Lib.hid (And.intro r4 (And.intro g4 (And.intro f0 (And.intro f1 (And.intro f2 f3)))))
  have HT := Lib.hid (And.intro ht (And.intro hi0 hrl))
  have HW := Lib.hid hR
  have hown := hR.mem.all (.reads s)
  rw [mem_reads ht] at hown
  obtain ⟨av, capv, hv, _⟩ := Ow.own_form hown.1
  have HV := Lib.hid hv
  clear hR ht hi0 hrl r4 g4 f0 f1 f2 f3 hown hv
  go_enter Tryz.func116, Tryz.ntmps116
  go_wp2_with fail
  go_loopw [10] (fun _ wr => ∃ i : Nat, i ≤ t.reads.length ∧ judgeK t i0 = judgeK t i ∧ Rep A σ wr ∧ Grow A.L w A.L wr ∧ Fix A.L wr w.heap.size (.cells #[.pointer (some ⟨A.be, 0, none⟩)] 27) ∧ Fix A.L wr (w.heap.size + 1) (.cells #[.pointer (some ⟨A.bt s, 0, none⟩)] 102) ∧ Fix A.L wr (w.heap.size + 1 + 1) (.cells #[.pointer (some ⟨A.bc s, 0, none⟩)] 107) ∧ Fix A.L wr (w.heap.size + 1 + 1 + 1) (.cells #[.int .i64 (i : Int)] 3)) (fun _ wr => match wr.cell? ⟨w.heap.size + 1 + 1 + 1, 0, none⟩ with | some (.int _ i) => ((t.reads.length : Int) - i).toNat | _ => 0)
  case atStart =>
    obtain ⟨r4, g4, f0, f1, f2, f3⟩ := HR.out
    exact ⟨i0, HT.out.2.1, rfl, r4, g4, f0, f1, f2, f3⟩
  case round =>
    obtain ⟨i, hi, hj, r, g, f0, f1, f2, f3⟩ := hrel
    have c0 := f0.cell 0 (v := .pointer (some ⟨A.be, 0, none⟩)) rfl
    have c1 := f1.cell 0 (v := .pointer (some ⟨A.bt s, 0, none⟩)) rfl
    have c2 := f2.cell 0 (v := .pointer (some ⟨A.bc s, 0, none⟩)) rfl
    have c3 := f3.cell 0 (v := .int .i64 (i : Int)) rfl
    have t8 := r.txn HT.out.1 8 (v := A.vreads s) rfl
    have hbase : (wr.cell? ⟨w.heap.size + 1 + 1 + 1, 0, none⟩) = some (.int .i64 (i : Int)) := c3
    rw [HV.out] at t8
    by_cases hlt : i < t.reads.length
    · have hown := r.mem.all (.reads s)
      rw [mem_reads HT.out.1] at hown
      obtain ⟨e0, e1, e2⟩ := readCs_get t.reads i hlt
      obtain ⟨g0, cap0, hv0, k0⟩ := own_at hown.1 e0
      obtain ⟨g1, cap1, hv1, k1⟩ := own_at hown.1 e1
      obtain ⟨g2, cap2, hv2, k2⟩ := own_at hown.1 e2
      rw [hv0] at hv1 hv2
      obtain rfl : g0 = g1 := by simp at hv1; exact hv1.1
      obtain rfl : g0 = g2 := by simp at hv2; exact hv2.1
      rw [HV.out] at hv0
      obtain ⟨rfl, rfl⟩ : av = some ⟨g0, 0, none⟩ ∧ capv = cap0 := by simpa using hv0
      have HK : Hid (∀ w', Rep A σ w' → Grow A.L wr A.L w' → w'.cell? ⟨w.heap.size + 1, 0, none⟩ = some (.pointer (some ⟨A.bt s, 0, none⟩)) ∧ w'.cell? ⟨w.heap.size + 1 + 1 + 1, 0, none⟩ = some (.int .i64 (i : Int)) ∧ w'.cell? ⟨A.bt s, 8, none⟩ = some (.slice (some ⟨g0, 0, none⟩) t.reads.length capv) ∧ w'.cell? ⟨g0, 3 * i, none⟩ = some (.int .i64 ((t.reads.getD i (0, 0, false)).1 : Int)) ∧ w'.cell? ⟨g0, 3 * i + 1, none⟩ = some (.int .u64 ((t.reads.getD i (0, 0, false)).2.1 : Int)) ∧ w'.cell? ⟨g0, 3 * i + 2, none⟩ = some (.bool (t.reads.getD i (0, 0, false)).2.2)) := by
        intro w' r' g'
        have hown' := r'.mem.all (.reads s)
        rw [mem_reads HT.out.1] at hown'
        obtain ⟨_, _, hv0', k0'⟩ := own_at hown'.1 e0
        obtain ⟨_, _, hv1', k1'⟩ := own_at hown'.1 e1
        obtain ⟨_, _, hv2', k2'⟩ := own_at hown'.1 e2
        rw [HV.out] at hv0' hv1' hv2'
        simp at hv0' hv1' hv2'
        rw [← hv0'.1] at k0'
        rw [← hv1'.1] at k1'
        rw [← hv2'.1] at k2'
        have t8' := r'.txn HT.out.1 8 (v := A.vreads s) rfl
        rw [HV.out] at t8'
        exact ⟨(f1.grow g').cell 0 rfl, (f3.grow g').cell 0 rfl, t8', k0', k1', k2'⟩
      have HN := Lib.hid (fun w' (q : Rep A σ w') => needs_any q s t HT.out.1 (t.reads.getD i (0, 0, false)).1 (t.reads.getD i (0, 0, false)).2.1 (t.reads.getD i (0, 0, false)).2.2)
      have HS : Hid (t.needs (t.reads.getD i (0, 0, false)) = false → judgeK t i = judgeK t (i + 1)) := judge_step t i hlt
      have HFI : Hid (t.needs (t.reads.getD i (0, 0, false)) = true → judgeK t i = .start ⟨(t.reads.getD i (0, 0, false)).1, t.end_, .judge i (t.reads.getD i (0, 0, false)).2.1⟩) := judge_find t i hlt
      have HQ := Lib.hid (And.intro hj (And.intro r (And.intro g (And.intro hlt (And.intro f0 (And.intro f1 (And.intro f2 f3)))))))
      have HRd : Hid (Rep A σ wr.drew) := r.drew
      have HG : Hid (Grow A.L wr A.L wr.drew) := Grow.drew _ _
      have b1 : decide ((i : Int) < (t.reads.length : Int)) = true := by simpa using hlt
      have b2 : decide (i < t.reads.length) = true := by simpa using hlt
      have b3 : ((i : Int) < (t.reads.length : Int)) = True := by simpa using hlt
      have n1 : IntKind.i64.wrap ((i : Int) + 1) = (i : Int) + 1 := by rw [IntKind.wrap_i64]; have := HT.out.2.2; omega
      rw [Nat.mul_comm 3] at k0 k1 k2 HK
      clear hj r g hi f0 f1 f2 f3 hown e0 e1 e2 hv0 hv1 hv2
      generalize hnb : t.needs (t.reads.getD i (0, 0, false)) = nb at *
      generalize (t.reads.getD i (0, 0, false)).1 = key at *
      generalize (t.reads.getD i (0, 0, false)).2.1 = link at *
      generalize (t.reads.getD i (0, 0, false)).2.2 = got at *
      clear hnb
      cases nb with
      | false =>
        clear HFI
        go_wp2_with fail
        go_region_held3 (fun w' => w'.cell? ⟨w.heap.size + 1, 0, none⟩ = some (.pointer (some ⟨A.bt s, 0, none⟩)) ∧ w'.cell? ⟨w.heap.size + 1 + 1 + 1, 0, none⟩ = some (.int .i64 (i : Int)) ∧ w'.cell? ⟨A.bt s, 8, none⟩ = some (.slice (some ⟨g0, 0, none⟩) t.reads.length capv) ∧ w'.cell? ⟨g0, i * 3, none⟩ = some (.int .i64 (key : Int)) ∧ w'.cell? ⟨g0, i * 3 + 1, none⟩ = some (.int .u64 (link : Int)) ∧ w'.cell? ⟨g0, i * 3 + 2, none⟩ = some (.bool got))
          (first | exact ⟨c1, c3, t8, k0, k1, k2⟩ | assumption | exact HK.out _ (by assumption) (by assumption))
          (first | (go_at_call 140; refine (HN.out _ HRd.out).mono ?_; rintro e w1 ⟨rfl, hb⟩; have q1 := HRd.out.below hb; have q2 := HG.out.trans (Grow.below (L := A.L) hb)))
        obtain ⟨hj, r, g, hlt, f0, f1, f2, f3⟩ := HQ.out
        have F3 := f3.grow q2
        have y3 := F3.cell 0 (v := .int .i64 (i : Int)) rfl
        have z3 := F3.frozen 0
        obtain ⟨r5, g5⟩ := HW.out.setNew q1 (g.trans q2) rfl rfl (a := ⟨w.heap.size + 1 + 1 + 1, 0, none⟩) (by simp; omega) F3.1 (.int .i64 ((i : Int) + 1))
        have F0 := (f0.grow q2).setOther (a := ⟨w.heap.size + 1 + 1 + 1, 0, none⟩) (by simp <;> omega) (.int .i64 ((i : Int) + 1))
        have F1 := (f1.grow q2).setOther (a := ⟨w.heap.size + 1 + 1 + 1, 0, none⟩) (by simp <;> omega) (.int .i64 ((i : Int) + 1))
        have F2 := (f2.grow q2).setOther (a := ⟨w.heap.size + 1 + 1 + 1, 0, none⟩) (by simp <;> omega) (.int .i64 ((i : Int) + 1))
        have HZ := Lib.hid (And.intro r5 (And.intro g5 (And.intro F0 (And.intro F1 (And.intro F2 (F3.setSame (.int .i64 ((i : Int) + 1))))))))
        have HB := Lib.hid hbase
        clear hj r g hlt f0 f1 f2 f3 F3 r5 g5 F0 F1 F2 hbase
        go_wp2_with fail
        go_roundw
        case rel =>
          obtain ⟨r5, g5, F0, F1, F2, F3⟩ := HZ.out
          exact ⟨i + 1, by have := HQ.out.2.2.2.1; omega, HQ.out.1.trans (HS.out trivial), r5, g5, F0, F1, F2, F3⟩
        case measure =>
          rw [HB.out, (HZ.out.2.2.2.2.2).cell 0 (v := .int .i64 ((i : Int) + 1)) rfl]
          have := HQ.out.2.2.2.1
          simp
          omega
      | true =>
        clear HS
        go_wp2_with fail
        go_region_held3 (fun w' => w'.cell? ⟨w.heap.size + 1, 0, none⟩ = some (.pointer (some ⟨A.bt s, 0, none⟩)) ∧ w'.cell? ⟨w.heap.size + 1 + 1 + 1, 0, none⟩ = some (.int .i64 (i : Int)) ∧ w'.cell? ⟨A.bt s, 8, none⟩ = some (.slice (some ⟨g0, 0, none⟩) t.reads.length capv) ∧ w'.cell? ⟨g0, i * 3, none⟩ = some (.int .i64 (key : Int)) ∧ w'.cell? ⟨g0, i * 3 + 1, none⟩ = some (.int .u64 (link : Int)) ∧ w'.cell? ⟨g0, i * 3 + 2, none⟩ = some (.bool got))
          (first | exact ⟨c1, c3, t8, k0, k1, k2⟩ | assumption | exact HK.out _ (by assumption) (by assumption))
          (first | (go_at_call 140; refine (HN.out _ HRd.out).mono ?_; rintro e w1 ⟨rfl, hb⟩; have q1 := HRd.out.below hb; have q2 := HG.out.trans (Grow.below (L := A.L) hb)))
        obtain ⟨hj, r, g, hlt, f0, f1, f2, f3⟩ := HQ.out
        have HX : Hid (∀ n w5, w1.drewN n = w5 → Rep A σ w5 ∧ Grow A.L w A.L w5 ∧ Grow A.L wr A.L w5 ∧ w5.cell? ⟨w.heap.size + 1, 0, none⟩ = some (.pointer (some ⟨A.bt s, 0, none⟩)) ∧ w5.cell? ⟨w.heap.size + 1 + 1 + 1, 0, none⟩ = some (.int .i64 (i : Int)) ∧ w5.cell? ⟨A.bt s, 8, none⟩ = some (.slice (some ⟨g0, 0, none⟩) t.reads.length capv) ∧ w5.cell? ⟨g0, i * 3, none⟩ = some (.int .i64 (key : Int)) ∧ w5.cell? ⟨g0, i * 3 + 1, none⟩ = some (.int .u64 (link : Int)) ∧ w5.cell? ⟨g0, i * 3 + 2, none⟩ = some (.bool got)) := by
          rintro n w5 rfl
          obtain ⟨x1, x2, x3, x4, x5, x6⟩ := HK.out _ (q1.drewN n) (q2.trans (Grow.drewN _ _ n))
          exact ⟨q1.drewN n, (g.trans q2).trans (Grow.drewN _ _ n), q2.trans (Grow.drewN _ _ n), x1, x2, x3, x4, x5, x6⟩
        have d1 : ((i : Int) == (t.reads.length : Int)) = false := by simp; omega
        have d2 : (i == t.reads.length) = false := by simp; omega
        have d3 : ((i : Int) = (t.reads.length : Int)) = False := by simp; omega
        obtain ⟨_, _, _, x1, x2, x3, _⟩ := HX.out 0 w1 rfl
        have HP := Lib.hid (And.intro q1 q2)
        clear hj r g hlt f0 f1 f2 f3 q1 q2 c0 c1 c2 c3 t8 k0 k1 k2 hbase
        go_wp2_with fail
        go_quiet (fail)
        generalize hw5 : w1.drewN _ = w5
        obtain ⟨r5, g5, gr5, x1, x2, x3, x4, x5, x6⟩ := HX.out _ w5 hw5
        obtain ⟨y1, y2, y3, y4, y5, y6⟩ := HK.out (w5.alloc (.cells #[.int .i64 0, .int .u64 0, .bool false] 237)) (r5.alloc _) (gr5.trans (Grow.alloc _ _ _))
        have H5 := Lib.hid (And.intro r5 (And.intro g5 gr5))
        clear r5 g5 gr5 hw5
        go_wp2_with fail
        go_region
        generalize hw6 : (w5.alloc _).drew = w6
        obtain ⟨_, _, _, hlt, f0, f1, f2, f3⟩ := HQ.out
        obtain ⟨r7, g7, f4⟩ := allocs1 H5.out.1 #[.int .i64 (key : Int), .int .u64 (link : Int), .bool got] 237
        have g56 : Grow A.L w5 A.L w6 := by rw [← hw6]; exact g7.trans (Grow.drew _ _)
        have r6 : Rep A σ w6 := by rw [← hw6]; exact r7.drew
        have F4 : Fix A.L w6 w5.heap.size (.cells #[.int .i64 (key : Int), .int .u64 (link : Int), .bool got] 237) := by rw [← hw6]; exact f4.grow (Grow.drew _ _)
        have gq := (H5.out.2.2).trans g56
        have F0 := f0.grow gq
        have F1 := f1.grow gq
        have F2 := f2.grow gq
        have F3 := f3.grow gq
        have y0 := F0.cell 0 (v := .pointer (some ⟨A.be, 0, none⟩)) rfl
        have y1 := F1.cell 0 (v := .pointer (some ⟨A.bt s, 0, none⟩)) rfl
        have y4 := F4.cell 0 (v := .int .i64 (key : Int)) rfl
        have yt := r6.txn HT.out.1 4 (v := .int .u64 (t.end_ : Int)) rfl
        have gd := Grow.drew A.L w6
        have hf := find_any r6.drew s key t.end_ (.func (.func 142) #[] #[.pointer (some ⟨w5.heap.size, 0, none⟩), .pointer (some ⟨w.heap.size, 0, none⟩), .pointer (some ⟨w.heap.size + 1, 0, none⟩), .pointer (some ⟨w.heap.size + 1 + 1, 0, none⟩), .pointer (some ⟨w.heap.size + 1 + 1 + 1, 0, none⟩)]) (.judge i link) ⟨_, _, _, _, _, rfl, ⟨_, _, _, F4.grow gd⟩, F0.box.grow gd, F1.box.grow gd, F2.box.grow gd, F3.box.grow gd⟩
        have HE := Lib.hid (And.intro hf ((H5.out.2.1.trans g56).trans gd))
        clear hlt f0 f1 f2 f3 r7 g7 f4 g56 r6 F4 gq F0 F1 F2 F3 gd hf hw6 x1 x2 x3 x4 x5 x6
        go_wp2_with fail
        refine wp_region_still_tail 9 (by kernel_rfl) (by kernel_rfl) ?_
        simp only [List.take_succ_cons, List.take_zero, List.drop_succ_cons, List.drop_zero]
        repeat still_step
        refine wpStill_nil ?_
        change wpList _ _ _ _ _ w6.drew
        generalize w6.drew = wd at *
        go_wp2_with (go_at_call 108; refine HE.out.1.mono ?_; rintro e w2 ⟨A2, v, rfl, p1, p2, p3, p4⟩)
        go_ret
        rw [HQ.out.1, HFI.out trivial]
        exact ⟨A2, v, rfl, p1, HE.out.2.trans p2, p3, p4⟩
    · obtain rfl : i = t.reads.length := by omega
      have HQ := Lib.hid (And.intro hj (And.intro r g))
      have HA : Hid (∀ w', Rep A σ w' → Calls Tryz.prog 141 #[.pointer (some ⟨A.be, 0, none⟩), .pointer (some ⟨A.bt s, 0, none⟩), .pointer (some ⟨A.bc s, 0, none⟩), .int .i64 0] w' (Tells A w' s (σ, waitK t 0))) := fun w' q => wait_any q s t HT.out.1 0
      have HJ := Lib.hid (judge_end t)
      clear hj r g hi hlt f0 f1 f2 f3
      generalize t.reads.length = n at *
      have d1 : decide ((n : Int) < (n : Int)) = false := by simp
      go_wp2_with fail
      go_quiet (fail)
      generalize hw5 : wr.drewN _ = w5
      have c0 : w5.cell? ⟨w.heap.size, 0, none⟩ = some (.pointer (some ⟨A.be, 0, none⟩)) := by rw [← hw5]; exact c0
      have c1 : w5.cell? ⟨w.heap.size + 1, 0, none⟩ = some (.pointer (some ⟨A.bt s, 0, none⟩)) := by rw [← hw5]; exact c1
      have c2 : w5.cell? ⟨w.heap.size + 1 + 1, 0, none⟩ = some (.pointer (some ⟨A.bc s, 0, none⟩)) := by rw [← hw5]; exact c2
      have c3 : w5.cell? ⟨w.heap.size + 1 + 1 + 1, 0, none⟩ = some (.int .i64 (n : Int)) := by rw [← hw5]; exact c3
      have t8 : w5.cell? ⟨A.bt s, 8, none⟩ = some (.slice av n capv) := by rw [← hw5]; exact t8
      have r5 : Rep A σ w5 := by rw [← hw5]; exact HQ.out.2.1.drewN _
      have g5 : Grow A.L w A.L w5 := by rw [← hw5]; exact HQ.out.2.2.trans (Grow.drewN _ _ _)
      have H5 := Lib.hid (And.intro r5 g5)
      clear r5 g5 hw5
      go_wp2_with fail
      go_quiet (fail)
      go_wp2_with (go_at_call 141; refine (HA.out _ (H5.out.1.drewN _)).mono ?_; rintro e w2 ⟨A2, v, rfl, p1, p2, p3, p4⟩)
      go_ret
      rw [HQ.out.1, HJ.out]
      exact ⟨A2, v, rfl, p1, (H5.out.2.trans (Grow.drewN _ _ _)).trans p2, p3, p4⟩
end Go.Proofs.YtbefcdjcefmicaaGreat.Em

namespace Go.Proofs.YtbefcdjcefmicaaGreat.Em
open Go.ChangeShapes Go.WideShapes Go.ChangeAt Go.RowKit En
set_option linter.unusedVariables false
set_option linter.unusedSimpArgs false
set_option maxRecDepth 100000
set_option maxHeartbeats 1600000

theorem trnCs_append (a b : List Trn) : trnCs (a ++ b) = trnCs a ++ trnCs b := by simp [trnCs]
theorem infoT : (Tryz.prog.info? 213).map (fun i => (i.zero, i.size, i.bytes)) = some (some (.agg #[.int .i64 0, .int .u64 0, .int .u64 0]), 3, 24) := by kernel_rfl
/-- A turn is put behind a row of turns. -/
theorem wp_turn {ops : Array Oper} {rest : List Oper} {o : Oper} {a : Act} {Q : Exit → Act → World → Prop} (w : World) (hgd : o.guard = none) (s x : Operand)
    (ho : o.op = .call { callee := .builtin .append, args := #[s, x], argTypes := #[211, 211] })
    (w0 : World) (hb : Below w0.heap.size w0 w) (av : Option Addr) (m cap : Nat) (xs : List Value) (hs : a.eval s = .slice av m cap) (hown : w.ownsRow w0.heap.size 213 3 (.slice av m cap) m xs) (hm : m < 4000000)
    (t0 t1 t2 : Int) (hx : a.eval x = .slice (some ⟨w.heap.size, 0, none⟩) 1 1)
    (h : ∀ av' cap' w', w'.ownsRow w0.heap.size 213 3 (.slice av' (m + 1) cap') (m + 1) (xs ++ [.int .i64 t0, .int .u64 t1, .int .u64 t2]) → Below w0.heap.size w0 w' → wpList Tryz.prog ops Q rest (a.put o.dst (.slice av' (m + 1) cap')) w') :
    wpList Tryz.prog ops Q (o :: rest) a (w.alloc (.cells #[.int .i64 t0, .int .u64 t1, .int .u64 t2] 213)) := by
  obtain ⟨ii, hii, hz0, hz1, hz2⟩ := info_parts infoT
  have hw := hb.size
  have hown' : (w.alloc (.cells #[.int .i64 t0, .int .u64 t1, .int .u64 t2] 213)).ownsRow w0.heap.size 213 3 (.slice av m cap) m xs := own_same hown fun g hg => Below.heap_alloc _ _ _ (hown.lt g hg).2
  refine Ow.wpList_append_to _ hgd s x 211 ho w0.heap.size 213 ii _ 3 24 Tryz.underlying211 hii hz0 hz1 hz2 rfl (by decide) (.slice av m cap) m xs hs hown' ⟨w.heap.size, 0, none⟩ 1 1 (by omega) [.int .i64 t0, .int .u64 t1, .int .u64 t2] hx rfl (fun j u hu => Ow.new_row w [.int .i64 t0, .int .u64 t1, .int .u64 t2] _ _ rfl j u hu) (by intro u hu; simp at hu; rcases hu with rfl | rfl | rfl <;> rfl) (by unfold maxLen; omega) (by omega) (by simp; omega) ?_
  intro v' w' q1 q2 q3
  obtain ⟨av', cap', rfl, _⟩ := Ow.own_form q1
  exact h av' cap' w' q1 ((hb.alloc hw _).grown q2 (by simp; omega) (fun g hg => (hown.lt g hg).1))
/-- A row of turns that was made behind w0 stays so. -/
theorem frow_of_own {L : Lab} {w0 w : World} {av : Option Addr} {m cap : Nat} {xs : List Value} (h : w.ownsRow w0.heap.size 213 3 (.slice av m cap) m xs) (hL : ∀ b, w0.heap.size ≤ b → L b = none) : FRow L w 3 (.slice av m cap) xs := by
  obtain ⟨a, c, e, h1, h2, h3⟩ := Ow.own_form h
  obtain ⟨rfl, rfl⟩ : av = a ∧ cap = c := by simpa using e
  refine ⟨av, m, cap, rfl, h.1, h1, by unfold maxLen; omega, ?_⟩
  rcases h.2 with ⟨h0, hn⟩ | ⟨g, cap', cur, hv, hb, hg, hnc, hcm, hcs, htake⟩
  · exact .inl (by first | exact h0 | omega)
  · obtain ⟨rfl, rfl⟩ : av = some ⟨g, 0, none⟩ ∧ cap = cap' := by simpa using hv
    refine .inr ⟨g, 0, rfl, hL g (h.lt g rfl).1, (h.lt g rfl).2, fun j hj => ?_⟩
    rw [Nat.zero_add]
    exact h.cellAt j hj
/-- As turns_any; the numbers as they stand in the walk. -/
theorem turns_at {A : Book} {σ : St} {w : World} (hR : Rep A σ w) (s : Nat) (l : List Trn) (lv : Value) (hl : FRow A.L w 3 lv (trnCs l)) (r : Res) (re rv ro rr : Int) (vp : Value) (hcs : resCs r vp = [.int .i64 re, .int .i64 rv, vp, .int .i64 ro, .int .i64 rr]) (hp : (vp = A.vpairs s ∧ r.pairs = (σ.c s).r.pairs) ∨ (vp = .slice none 0 0 ∧ r.pairs = [])) :
    Calls Tryz.prog 122 #[.pointer (some ⟨A.be, 0, none⟩), .pointer (some ⟨A.bt s, 0, none⟩), .pointer (some ⟨A.bc s, 0, none⟩), lv, .agg #[.int .i64 re, .int .i64 rv, vp, .int .i64 ro, .int .i64 rr]] w (Tells A w s (σ, .turns l r)) := by
  have h := turns_any hR s l lv hl r vp hp
  simp only [resCs, List.cons.injEq, Value.int.injEq, true_and, and_true] at hcs
  obtain ⟨e1, e2, e3, e4⟩ := hcs
  rw [e1, e2, e3, e4] at h
  exact h
/-- The transaction's keys have their cells; what these lead to are slots. -/
def KeysOk (σ : St) (t : Txn) : Prop := ∀ key ∈ t.keys, ∃ x, t.cell key = some x ∧ (x.own = 0 ∨ VL σ x.own) ∧ (x.old = 0 ∨ VL σ x.old)
def cTurn (t : Txn) (key : Nat) : List Trn :=
  (if ((t.cell key).getD default).own ≠ 0 then ⟨wslot ((t.cell key).getD default).own 0, 0, t.end_⟩ :: (if ((t.cell key).getD default).there then [] else [⟨wslot ((t.cell key).getD default).own 1, 0, t.end_⟩]) else [])
  ++ (if ((t.cell key).getD default).old ≠ 0 then [⟨wslot ((t.cell key).getD default).old 1, 0, t.end_⟩] else [])
theorem commitTurns_eq (σ : St) (t : Txn) : commitTurns σ t = t.keys.flatMap (cTurn t) := rfl
theorem flat_snoc (f : Nat → List Trn) (l : List Nat) (k : Nat) (h : k < l.length) : (l.take (k + 1)).flatMap f = (l.take k).flatMap f ++ f (l.getD k 0) := by
  rw [List.take_succ_eq_append_getElem h, List.flatMap_append]
  simp [List.getD, h]
theorem cTurn_length (t : Txn) (key : Nat) : (cTurn t key).length ≤ 3 := by
  unfold cTurn
  repeat' split
  all_goals simp
theorem flat_length (f : Nat → List Trn) (hf : ∀ k, (f k).length ≤ 3) (l : List Nat) : (l.flatMap f).length ≤ 3 * l.length := by
  induction l with
  | nil => simp
  | cons x l ih => simp only [List.flatMap_cons, List.length_append, List.length_cons]; have := hf x; omega
theorem help_txns (σ : St) (x : Nat) : (σ.help x).txns = σ.txns := by unfold St.help St.cas; split <;> rfl
theorem help_calls (σ : St) (x : Nat) : (σ.help x).calls = σ.calls := by unfold St.help St.cas; split <;> rfl
theorem k_helpJ {A : Book} {σ : St} {w : World} (hR : Rep A σ w) (s : Nat) (t : Txn) (ht : σ.txns.getD s none = some t) (hen : t.end_ < 281474976710656) (hid : t.id ≤ 2000) (hrl : t.reads.length < 1000000) (hcnt : σ.count < 4000000000000000000) (b0 b1 b2 : Nat)
    (B0 : Box A.L w b0 (.pointer (some ⟨A.be, 0, none⟩))) (B1 : Box A.L w b1 (.pointer (some ⟨A.bt s, 0, none⟩))) (B2 : Box A.L w b2 (.pointer (some ⟨A.bc s, 0, none⟩))) :
    Calls Tryz.prog 115 #[.pointer (some ⟨b0, 0, none⟩), .pointer (some ⟨b1, 0, none⟩), .pointer (some ⟨b2, 0, none⟩)] w (Ran A w s (σ.run s .helpJ)) := by
  have c0 := B0.cell
  have c1 := B1.cell
  have t4 : w.cell? ⟨A.bt s, 4, none⟩ = some (.int .u64 (t.end_ : Int)) := hR.txn ht 4 rfl
  have t0 : w.cell? ⟨A.bt s, 0, none⟩ = some (.int .i64 (t.id : Int)) := hR.txn ht 0 rfl
  have HC := Lib.hid (flip (clock_any t.end_ t.id hen (by omega) w.drew))
  have hlo : lastOf (clockW t.end_ t.id) = t.id := by unfold lastOf clockW; omega
  have HL := Lib.hid (help_any hR.drew (clockW t.end_ t.id) (by unfold clockW; omega) (by omega) hcnt)
  have HG : Hid (Grow A.L w A.L w.drew) := Grow.drew _ _
  have hrun : σ.run s .helpJ = (σ.help (clockW t.end_ t.id), some (judgeK t 0)) := by
    have e : (σ.help (clockW t.end_ t.id)).t s = t := by unfold St.t; rw [help_txns, ht]; rfl
    simp only [St.run, txn_get ht, e]
  rw [hrun]
  have HB : Hid (∀ w1, Rep A (σ.help (clockW t.end_ t.id)) w1 → Grow A.L w A.L w1 → Calls Tryz.prog 116 #[.pointer (some ⟨A.be, 0, none⟩), .pointer (some ⟨A.bt s, 0, none⟩), .pointer (some ⟨A.bc s, 0, none⟩), .int .i64 0] w1 (Tells A w1 s (σ.help (clockW t.end_ t.id), judgeK t 0)) ∧ w1.cell? ⟨b0, 0, none⟩ = some (.pointer (some ⟨A.be, 0, none⟩)) ∧ w1.cell? ⟨b1, 0, none⟩ = some (.pointer (some ⟨A.bt s, 0, none⟩)) ∧ w1.cell? ⟨b2, 0, none⟩ = some (.pointer (some ⟨A.bc s, 0, none⟩))) :=
    fun w1 q g => ⟨judge_any q s t (by rw [help_txns]; exact ht) 0 (Nat.zero_le _) hrl, (B0.grow g).cell, (B1.grow g).cell, (B2.grow g).cell⟩
  clear hR ht hen hid hrl hcnt B0 B1 B2 hrun hlo
  generalize σ.help (clockW t.end_ t.id) = σ1 at *
  generalize judgeK t 0 = k at *
  go_enter Tryz.func115, Tryz.ntmps115
  go_wp2_with fail
  refine wp_region_still_tail 10 (by kernel_rfl) (by kernel_rfl) ?_
  simp only [List.take_succ_cons, List.take_zero, List.drop_succ_cons, List.drop_zero]
  repeat still_step
  still_call HC.out
  refine wpStill_nil ?_
  change wpList _ _ _ _ _ w.drew
  generalize w.drew = wd at *
  go_wp2_with (first | (go_at_call 74; refine HL.out.mono ?_; rintro e w1 ⟨rfl, q1, q2⟩; have g1 := HG.out.trans q2; obtain ⟨hf, d0, d1, d2⟩ := HB.out w1 q1 g1; have HQ := Lib.hid (And.intro hf g1); clear q1 q2 g1 hf) | (go_at_call 116; refine HQ.out.1.mono ?_; rintro e w2 ⟨A2, v, rfl, p1, p2, p3, p4⟩))
  go_ret
  exact ⟨A2, v, rfl, p1, HQ.out.2.trans p2, p3, p4⟩
set_option maxHeartbeats 16000000 in
theorem k_commit {A : Book} {σ : St} {w : World} (hR : Rep A σ w) (s : Nat) (t : Txn) (ht : σ.txns.getD s none = some t) (hm : A.mt s = 0) (hen : t.end_ ≤ 1099511627776) (hid : t.id ≤ 2000) (hkl : t.keys.length < 1000000) (hK : KeysOk σ t) (htl : σ.tale.length < 1000000) (hcnt : σ.count < 4000000000000000000) (b0 b1 b2 : Nat)
    (B0 : Box A.L w b0 (.pointer (some ⟨A.be, 0, none⟩))) (B1 : Box A.L w b1 (.pointer (some ⟨A.bt s, 0, none⟩))) (B2 : Box A.L w b2 (.pointer (some ⟨A.bc s, 0, none⟩))) :
    Calls Tryz.prog 182 #[.pointer (some ⟨b0, 0, none⟩), .pointer (some ⟨b1, 0, none⟩), .pointer (some ⟨b2, 0, none⟩)] w (Ran A w s (σ.run s .commit)) := by
  have c0 := B0.cell
  have c1 := B1.cell
  have e2 : w.cell? ⟨A.be, 2, none⟩ = some (.pointer (some ⟨A.ba, 0, none⟩)) := hR.eng 2 rfl
  have t4 : w.cell? ⟨A.bt s, 4, none⟩ = some (.int .u64 (t.end_ : Int)) := hR.txn ht 4 rfl
  have t0 : w.cell? ⟨A.bt s, 0, none⟩ = some (.int .i64 (t.id : Int)) := hR.txn ht 0 rfl
  have HP := Lib.hid (place_still hR.drew t.id (by omega))
  have HA := Lib.hid (pack_still 3 (t.end_ : Int) 3 t.end_ rfl rfl (by omega) (by omega) w.drew)
  have HL := Lib.hid (store_any hR.drew (σ.place t.id) (pack 3 t.end_) (by rw [hR.nw]; unfold St.place; omega) hcnt)
  have HG : Hid (Grow A.L w A.L w.drew) := Grow.drew _ _
  obtain ⟨σ2, hσ2⟩ : ∃ σ2, σ2 = (σ.put (σ.place t.id) (pack 3 t.end_)).tellEnd s { kind := 5, t := t.id } := ⟨_, rfl⟩
  have hrun : σ.run s .commit = (σ2, some (.turns (t.keys.flatMap (cTurn t)) { over := 3 })) := by
    rw [hσ2, ← commitTurns_eq (σ.put (σ.place t.id) (pack 3 t.end_)) t]
    simp only [St.run, txn_get ht]
    rfl
  rw [hrun]
  obtain ⟨t2, ht2, hk2, hc2, hen2⟩ : ∃ t2, σ2.txns.getD s none = some t2 ∧ t2.keys = t.keys ∧ t2.cells = t.cells ∧ t2.end_ = t.end_ := by
    have ht1 : (σ.put (σ.place t.id) (pack 3 t.end_)).txns.getD s none = some t := ht
    rw [hσ2]
    unfold St.tellEnd
    rw [txn_get ht1]
    by_cases ho : t.over = true
    · rw [if_pos ho]; exact ⟨t, ht1, rfl, rfl, rfl⟩
    · rw [if_neg ho]
      refine ⟨{ t with over := true }, ?_, rfl, rfl, rfl⟩
      show ((σ.put (σ.place t.id) (pack 3 t.end_)).setT s { t with over := true }).txns.getD s none = _
      rw [getT_set (lt_of_txn ht1), if_pos rfl]
  have hsl2 : σ2.slots = σ.slots := by rw [hσ2]; unfold St.tellEnd; split <;> rfl
  have HB1 : Hid (∀ w1, Rep A (σ.put (σ.place t.id) (pack 3 t.end_)) w1 → Grow A.L w A.L w1 → Calls Tryz.prog 119 #[.pointer (some ⟨A.be, 0, none⟩), .pointer (some ⟨A.bt s, 0, none⟩), .agg #[.int .i64 5, .int .i64 (t.id : Int), .int .u64 0, .int .i64 0, .int .i64 0, .int .i64 0, .int .i64 0, .int .i64 0, .int .i64 0, .slice none 0 0, .int .i64 0, .int .i64 0]] w1.drew (Told A w1.drew s σ2) ∧ w1.cell? ⟨b0, 0, none⟩ = some (.pointer (some ⟨A.be, 0, none⟩)) ∧ w1.cell? ⟨b1, 0, none⟩ = some (.pointer (some ⟨A.bt s, 0, none⟩)) ∧ w1.cell? ⟨A.bt s, 0, none⟩ = some (.int .i64 (t.id : Int))) := by
    intro w1 q g
    rw [hσ2]
    exact ⟨tell_any q.drew s t ht hm _ 5 t.id 0 rfl rfl htl, (B0.grow g).cell, (B1.grow g).cell, q.txn ht 0 rfl⟩
  have HB2 : Hid (∀ A2 w2, Rep A2 σ2 w2 → Grow A.L w A2.L w2 → Stay A A2 s → A2.bx = A.bx → ∀ w3, Below w2.heap.size w2 w3 → w3.cell? ⟨b0, 0, none⟩ = some (.pointer (some ⟨A.be, 0, none⟩)) ∧ w3.cell? ⟨b1, 0, none⟩ = some (.pointer (some ⟨A.bt s, 0, none⟩)) ∧ w3.cell? ⟨b2, 0, none⟩ = some (.pointer (some ⟨A.bc s, 0, none⟩)) ∧ w3.cell? ⟨A.bt s, 4, none⟩ = some (.int .u64 (t.end_ : Int)) ∧ w3.cell? ⟨A.bt s, 7, none⟩ = some (.map (some (A.bm s))) ∧ w3.cell? ⟨A.bt s, 6, none⟩ = some (A2.vkeys s) ∧
      (∃ av cap, A2.vkeys s = .slice av t.keys.length cap) ∧ (∀ k, k < t.keys.length → ∀ g cap, A2.vkeys s = .slice (some ⟨g, 0, none⟩) t.keys.length cap → w3.cell? ⟨g, k, none⟩ = some (.int .i64 (t.keys.getD k 0 : Int))) ∧ (∀ k, k < t.keys.length → ∃ g cap, A2.vkeys s = .slice (some ⟨g, 0, none⟩) t.keys.length cap) ∧
      (∀ key x, t.cell key = some x → (Instr.lookup 114 (.map (some (A.bm s))) (.int .i64 (key : Int)) false).run Tryz.prog w3 = .ok (.pointer (some ⟨A.bx s key, 0, none⟩)) w3 ∧ w3.cell? ⟨A.bx s key, 0, none⟩ = some (.int .u64 (x.own : Int)) ∧ w3.cell? ⟨A.bx s key, 1, none⟩ = some (.int .u64 (x.old : Int)) ∧ w3.cell? ⟨A.bx s key, 2, none⟩ = some (.bool x.there))) := by
    intro A2 w2 q g st hbx w3 hb
    have r3 := q.below hb
    have gg := g.trans (Grow.below (L := A2.L) hb)
    have a4 := r3.txn ht2 4 (v := .int .u64 (t2.end_ : Int)) rfl
    have a7 := r3.txn ht2 7 (v := .map (some (A2.bm s))) rfl
    have a6 := r3.txn ht2 6 (v := A2.vkeys s) rfl
    rw [st.bt] at a4 a7 a6
    rw [st.bm] at a7
    rw [hen2] at a4
    have hown := r3.mem.all (.keys s)
    rw [mem_keys ht2, hk2] at hown
    obtain ⟨av, cap, hv, _⟩ := Ow.own_form hown.1
    have hget : ∀ k, k < t.keys.length → (t.keys.map i64)[k]? = some (i64 (t.keys.getD k 0)) := fun k hk => by simp [List.getD, hk]
    refine ⟨(B0.grow gg).cell, (B1.grow gg).cell, (B2.grow gg).cell, a4, a7, a6, ⟨av, cap, hv⟩, fun k hk g' cap' hv' => ?_, fun k hk => ?_, fun key x hx => ?_⟩
    · obtain ⟨g1, cap1, hv1, hc1⟩ := own_at hown.1 (hget k hk)
      rw [hv'] at hv1
      obtain ⟨rfl, _⟩ : g' = g1 ∧ cap' = cap1 := by simpa using hv1
      exact hc1
    · obtain ⟨g1, cap1, hv1, hc1⟩ := own_at hown.1 (hget k hk)
      exact ⟨g1, cap1, hv1⟩
    · have hx2 : t2.cell key = some x := by unfold Txn.cell at hx ⊢; rw [hc2]; exact hx
      have hl := lookup_run r3 ht2 key
      have hpx : A2.px s t2 key = .pointer (some ⟨A2.bx s key, 0, none⟩) := by unfold Book.px; rw [hx2]; rfl
      rw [hpx, hbx, st.bm] at hl
      obtain ⟨x0, x1, x2⟩ := r3.cel ht2 hx2
      rw [hbx] at x0 x1 x2
      exact ⟨hl, x0, x1, x2⟩
  have HT := Lib.hid (Word.time_yes (t.end_ : Int) (by omega) (by omega))
  have HTU : Hid (∀ A2 w2, Rep A2 σ2 w2 → Stay A A2 s → ∀ w3 av m cap, Below w2.heap.size w2 w3 → w3.ownsRow w2.heap.size 213 3 (.slice av m cap) m (trnCs (t.keys.flatMap (cTurn t))) → Calls Tryz.prog 122 #[.pointer (some ⟨A.be, 0, none⟩), .pointer (some ⟨A.bt s, 0, none⟩), .pointer (some ⟨A.bc s, 0, none⟩), .slice av m cap, .agg #[.int .i64 0, .int .i64 0, .slice none 0 0, .int .i64 3, .int .i64 0]] w3 (Tells A2 w3 s (σ2, .turns (t.keys.flatMap (cTurn t)) { over := 3 }))) := by
    intro A2 w2 q st w3 av m cap hb ho
    have h := turns_at (q.below hb) s (t.keys.flatMap (cTurn t)) (.slice av m cap) (frow_of_own ho q.mem.fresh) { over := 3 } 0 0 3 0 (.slice none 0 0) rfl (.inr ⟨rfl, rfl⟩)
    rw [st.be, st.bt, st.bc] at h
    exact h
  have HS : Hid (∀ (l n : Nat), VL σ l → n ≤ 2 → ∀ w, Calls Tryz.prog 62 #[.int .u64 (l : Int), .int .i64 (n : Int)] w fun e w' => e = .returned (.int .i64 ((wslot l n : Nat) : Int)) ∧ w = w') := fun l n hv hn w' => slot_any l n hv.lo (by have := hv.hi; have := hR.sl; omega) hv.u hn w'
  have HKK := Lib.hid (And.intro hK hkl)
  clear hR ht hm hen hid hkl hK htl hcnt B0 B1 B2 hrun hσ2 ht2 hk2 hc2 hen2 hsl2
  go_enter Tryz.func182, Tryz.ntmps182
  go_wp2_with fail
  refine wp_region_still_tail 15 (by kernel_rfl) (by kernel_rfl) ?_
  simp only [List.take_succ_cons, List.take_zero, List.drop_succ_cons, List.drop_zero]
  repeat still_step
  still_call HP.out
  repeat still_step
  still_call HA.out
  refine wpStill_nil ?_
  change wpList _ _ _ _ _ w.drew
  generalize w.drew = wd at *
  go_wp2_with (go_at_call 77; refine HL.out.mono ?_; rintro e w1 ⟨rfl, q1, q2⟩; have g1 := HG.out.trans q2; obtain ⟨hf, d0, d1, d2⟩ := HB1.out w1 q1 g1; have HQ := Lib.hid (And.intro hf (g1.trans (Grow.drew _ _))); clear q1 q2 g1 hf)
  refine wp_region_still_tail 7 (by kernel_rfl) (by kernel_rfl) ?_
  simp only [List.take_succ_cons, List.take_zero, List.drop_succ_cons, List.drop_zero]
  repeat still_step
  refine wpStill_nil ?_
  change wpList _ _ _ _ _ w1.drew
  generalize w1.drew = wd1 at *
  go_wp2_with (first | (go_at_call 119; refine HQ.out.1.mono ?_; rintro e w2 ⟨rfl, A2, q1, q2, q3, q4, q5⟩; obtain ⟨y0, y1, y2, y4, y7, y6, ⟨kv, kc, hkv⟩, _, _, _⟩ := HB2.out A2 w2 q1 (HQ.out.2.trans q2) q3 q4 w2 (Below.refl _ _); rw [hkv] at y6; have H2 := Lib.hid (And.intro q1 (And.intro (HQ.out.2.trans q2) (And.intro q3 (And.intro q4 hkv)))); clear q1 q2 q3 q4 q5 hkv) | (go_at_call 183; refine (HT.out _).mono ?_; rintro e w3 ⟨rfl, rfl⟩))
  go_loopw [6, 47] (fun l i wr => ∃ k : Nat, k ≤ t.keys.length ∧ i = .int .i64 (k : Int) ∧ Below w2.heap.size w2 wr ∧ ∃ av cap, l = .slice av ((t.keys.take k).flatMap (cTurn t)).length cap ∧ wr.ownsRow w2.heap.size 213 3 l ((t.keys.take k).flatMap (cTurn t)).length (trnCs ((t.keys.take k).flatMap (cTurn t)))) (fun _ i _ => t.keys.length - (intOf i).toNat)
  case atStart =>
    exact ⟨0, Nat.zero_le _, rfl, Below.refl _ _, none, 0, rfl, rfl, .inl ⟨rfl, rfl⟩⟩
  case round =>
    obtain ⟨k, hk, rfl, hb, av, cap, rfl, hown⟩ := hrel
    have hm0 := flat_length (cTurn t) (cTurn_length t) (t.keys.take k)
    by_cases hlt : k < t.keys.length
    · obtain ⟨x0, x1, x2, x4, x7, x6, _, hget, hform, hcel⟩ := HB2.out A2 w2 H2.out.1 H2.out.2.1 H2.out.2.2.1 H2.out.2.2.2.1 wr hb
      obtain ⟨g, cap', hv⟩ := hform k hlt
      obtain ⟨rfl, rfl⟩ : kv = some ⟨g, 0, none⟩ ∧ kc = cap' := by have := H2.out.2.2.2.2.symm.trans hv; simpa using this
      have hke := hget k hlt g kc hv
      obtain ⟨x, hx, ho1, ho2⟩ := HKK.out.1 (t.keys.getD k 0) (by simp [List.getD, hlt])
      obtain ⟨hlk, ce0, ce1, ce2⟩ := hcel _ x hx
      have hfs := flat_snoc (cTurn t) t.keys k hlt
      have hcT : cTurn t (t.keys.getD k 0) = (if x.own ≠ 0 then ⟨wslot x.own 0, 0, t.end_⟩ :: (if x.there then [] else [⟨wslot x.own 1, 0, t.end_⟩]) else []) ++ (if x.old ≠ 0 then [⟨wslot x.old 1, 0, t.end_⟩] else []) := by unfold cTurn; rw [hx]; rfl
      rw [hcT] at hfs
      have hlen : (t.keys.take k).length ≤ 1000000 := by have := HKK.out.2; simp; omega
      have HC : Hid (∀ w', Below w2.heap.size w2 w' → w'.cell? ⟨A.bx s (t.keys.getD k 0), 0, none⟩ = some (.int .u64 (x.own : Int)) ∧ w'.cell? ⟨A.bx s (t.keys.getD k 0), 1, none⟩ = some (.int .u64 (x.old : Int)) ∧ w'.cell? ⟨A.bx s (t.keys.getD k 0), 2, none⟩ = some (.bool x.there)) := fun w' hb' => by
        obtain ⟨_, _, _, _, _, _, _, _, _, hcel'⟩ := HB2.out A2 w2 H2.out.1 H2.out.2.1 H2.out.2.2.1 H2.out.2.2.2.1 w' hb'
        exact (hcel' _ x hx).2
      have HO := Lib.hid (And.intro ho1 (And.intro ho2 (And.intro hlt hfs)))
      have nb1 : (k : Int) < (t.keys.length : Int) := by omega
      have n1 : IntKind.i64.wrap ((k : Int) + 1) = (k : Int) + 1 := by rw [IntKind.wrap_i64]; have := HKK.out.2; omega
      clear x0 x2 y0 y1 y2 y4 y7 y6 hget hform hcel hv ho1 ho2 hcT hx
      generalize t.keys.getD k 0 = key at *
      generalize hxs : trnCs ((t.keys.take k).flatMap (cTurn t)) = xs at *
      have HXS := Lib.hid hxs
      clear hxs
      generalize hmm : ((t.keys.take k).flatMap (cTurn t)).length = m at *
      have HM := Lib.hid hmm
      clear hmm hfs
      have hm1 : m < 3000001 := by omega
      clear hm0 hlen hk
      generalize A.bx s key = bx at *
      by_cases ho : x.own ≠ 0
      · have ho' : x.own ≠ 0 := ho
        have d1 : ((x.own : Int) == 0) = false := by simp; omega
        have d2 : ((x.own : Int) != 0) = true := by simp; omega
        have d3 : ((x.own : Int) = 0) = False := by simp; omega
        clear ho'
        cases ht : x.there with
        | true =>
          by_cases hl : x.old ≠ 0
          · have e1 : ((x.old : Int) == 0) = false := by simp; omega
            have e2 : ((x.old : Int) != 0) = true := by simp; omega
            have e3 : ((x.old : Int) = 0) = False := by simp; omega
            have hfs := HO.out.2.2.2
            simp only [if_pos ho, if_pos hl, ht, if_true, if_false, Bool.false_eq_true, List.nil_append, List.append_nil, List.cons_append] at hfs
            have HFS := Lib.hid hfs
            clear hfs
            obtain ⟨ws, W0, W1, W2⟩ : ∃ ws : Int → Int → Int, ws (x.own : Int) 0 = ((wslot x.own 0 : Nat) : Int) ∧ ws (x.own : Int) 1 = ((wslot x.own 1 : Nat) : Int) ∧ ws (x.old : Int) 1 = ((wslot x.old 1 : Nat) : Int) := ⟨fun a b => if b = 0 then ((wslot a.toNat 0 : Nat) : Int) else ((wslot a.toNat 1 : Nat) : Int), by simp, by simp, by simp⟩
            have SL : Hid (∀ a b : Int, ((a = (x.own : Int) ∧ b = 0) ∨ (a = (x.own : Int) ∧ b = 1) ∨ (a = (x.old : Int) ∧ b = 1)) → ∀ w, Calls Tryz.prog 62 #[.int .u64 a, .int .i64 b] w fun e w' => e = .returned (.int .i64 (ws a b)) ∧ w = w') := by
              rintro a b (⟨rfl, rfl⟩ | ⟨rfl, rfl⟩ | ⟨rfl, rfl⟩) w''
              · rw [W0]; exact (HS.out x.own 0 (HO.out.1.resolve_left ho) (by omega) w'')
              · rw [W1]; exact (HS.out x.own 1 (HO.out.1.resolve_left ho) (by omega) w'')
              · rw [W2]; exact (HS.out x.old 1 (HO.out.2.1.resolve_left hl) (by omega) w'')
            have HW := Lib.hid (And.intro W0 (And.intro W1 W2))
            clear W0 W1 W2
            clear ho hl
            rw [ht] at ce2 HC
            clear ht
            go_wp2_with (first | (go_at_call 62; refine (SL.out _ _ (by first | exact .inl ⟨rfl, rfl⟩ | exact .inr (.inl ⟨rfl, rfl⟩) | exact .inr (.inr ⟨rfl, rfl⟩)) _).mono ?_; rintro e w' ⟨rfl, rfl⟩) | (refine wp_turn _ rfl _ _ rfl w2 (by assumption) _ _ _ _ rfl (by assumption) (by omega) _ _ _ rfl ?_; intro avl capl wl ql pl; obtain ⟨ce0, ce1, ce2⟩ := HC.out wl pl))
            go_roundw
            case rel =>
              simp only [HW.out.1, HW.out.2.1, HW.out.2.2] at ql
              refine ⟨k + 1, by have := HO.out.2.2.1; omega, rfl, pl, avl, capl, ?_, ?_⟩
              · first | (rw [HFS.out, List.length_append, HM.out]; done) | (rw [HFS.out, List.length_append, HM.out]; rfl)
              · rw [HFS.out, List.length_append, HM.out, trnCs_append, HXS.out]; simp only [List.append_assoc, List.cons_append, List.nil_append] at ql; exact ql
            case measure => have := HO.out.2.2.1; simp [intOf]; omega
          · have e1 : ((x.old : Int) == 0) = true := by simp; omega
            have e2 : ((x.old : Int) != 0) = false := by simp; omega
            have e3 : ((x.old : Int) = 0) = True := by simp; omega
            have hfs := HO.out.2.2.2
            simp only [if_pos ho, if_neg hl, ht, if_true, if_false, Bool.false_eq_true, List.nil_append, List.append_nil, List.cons_append] at hfs
            have HFS := Lib.hid hfs
            clear hfs
            obtain ⟨ws, W0, W1, W2⟩ : ∃ ws : Int → Int → Int, ws (x.own : Int) 0 = ((wslot x.own 0 : Nat) : Int) ∧ ws (x.own : Int) 1 = ((wslot x.own 1 : Nat) : Int) ∧ ws (x.old : Int) 1 = ((wslot x.old 1 : Nat) : Int) := ⟨fun a b => if b = 0 then ((wslot a.toNat 0 : Nat) : Int) else ((wslot a.toNat 1 : Nat) : Int), by simp, by simp, by simp⟩
            have SL : Hid (∀ a b : Int, ((a = (x.own : Int) ∧ b = 0) ∨ (a = (x.own : Int) ∧ b = 1) ∨ False) → ∀ w, Calls Tryz.prog 62 #[.int .u64 a, .int .i64 b] w fun e w' => e = .returned (.int .i64 (ws a b)) ∧ w = w') := by
              rintro a b (⟨rfl, rfl⟩ | ⟨rfl, rfl⟩ | h) w''
              · rw [W0]; exact (HS.out x.own 0 (HO.out.1.resolve_left ho) (by omega) w'')
              · rw [W1]; exact (HS.out x.own 1 (HO.out.1.resolve_left ho) (by omega) w'')
              · exact h.elim
            have HW := Lib.hid (And.intro W0 (And.intro W1 W2))
            clear W0 W1 W2
            clear ho hl
            rw [ht] at ce2 HC
            clear ht
            go_wp2_with (first | (go_at_call 62; refine (SL.out _ _ (by first | exact .inl ⟨rfl, rfl⟩ | exact .inr (.inl ⟨rfl, rfl⟩) | exact .inr (.inr ⟨rfl, rfl⟩)) _).mono ?_; rintro e w' ⟨rfl, rfl⟩) | (refine wp_turn _ rfl _ _ rfl w2 (by assumption) _ _ _ _ rfl (by assumption) (by omega) _ _ _ rfl ?_; intro avl capl wl ql pl; obtain ⟨ce0, ce1, ce2⟩ := HC.out wl pl))
            go_roundw
            case rel =>
              simp only [HW.out.1, HW.out.2.1, HW.out.2.2] at ql
              refine ⟨k + 1, by have := HO.out.2.2.1; omega, rfl, pl, avl, capl, ?_, ?_⟩
              · first | (rw [HFS.out, List.length_append, HM.out]; done) | (rw [HFS.out, List.length_append, HM.out]; rfl)
              · rw [HFS.out, List.length_append, HM.out, trnCs_append, HXS.out]; exact ql
            case measure => have := HO.out.2.2.1; simp [intOf]; omega
              | false =>
          by_cases hl : x.old ≠ 0
          · have e1 : ((x.old : Int) == 0) = false := by simp; omega
            have e2 : ((x.old : Int) != 0) = true := by simp; omega
            have e3 : ((x.old : Int) = 0) = False := by simp; omega
            have hfs := HO.out.2.2.2
            simp only [if_pos ho, if_pos hl, ht, if_true, if_false, Bool.false_eq_true, List.nil_append, List.append_nil, List.cons_append] at hfs
            have HFS := Lib.hid hfs
            clear hfs
            obtain ⟨ws, W0, W1, W2⟩ : ∃ ws : Int → Int → Int, ws (x.own : Int) 0 = ((wslot x.own 0 : Nat) : Int) ∧ ws (x.own : Int) 1 = ((wslot x.own 1 : Nat) : Int) ∧ ws (x.old : Int) 1 = ((wslot x.old 1 : Nat) : Int) := ⟨fun a b => if b = 0 then ((wslot a.toNat 0 : Nat) : Int) else ((wslot a.toNat 1 : Nat) : Int), by simp, by simp, by simp⟩
            have SL : Hid (∀ a b : Int, ((a = (x.own : Int) ∧ b = 0) ∨ (a = (x.own : Int) ∧ b = 1) ∨ (a = (x.old : Int) ∧ b = 1)) → ∀ w, Calls Tryz.prog 62 #[.int .u64 a, .int .i64 b] w fun e w' => e = .returned (.int .i64 (ws a b)) ∧ w = w') := by
              rintro a b (⟨rfl, rfl⟩ | ⟨rfl, rfl⟩ | ⟨rfl, rfl⟩) w''
              · rw [W0]; exact (HS.out x.own 0 (HO.out.1.resolve_left ho) (by omega) w'')
              · rw [W1]; exact (HS.out x.own 1 (HO.out.1.resolve_left ho) (by omega) w'')
              · rw [W2]; exact (HS.out x.old 1 (HO.out.2.1.resolve_left hl) (by omega) w'')
            have HW := Lib.hid (And.intro W0 (And.intro W1 W2))
            clear W0 W1 W2
            clear ho hl
            rw [ht] at ce2 HC
            clear ht
            go_wp2_with (first | (go_at_call 62; refine (SL.out _ _ (by first | exact .inl ⟨rfl, rfl⟩ | exact .inr (.inl ⟨rfl, rfl⟩) | exact .inr (.inr ⟨rfl, rfl⟩)) _).mono ?_; rintro e w' ⟨rfl, rfl⟩) | (refine wp_turn _ rfl _ _ rfl w2 (by assumption) _ _ _ _ rfl (by assumption) (by omega) _ _ _ rfl ?_; intro avl capl wl ql pl; obtain ⟨ce0, ce1, ce2⟩ := HC.out wl pl))
            go_roundw
            case rel =>
              simp only [HW.out.1, HW.out.2.1, HW.out.2.2] at ql
              refine ⟨k + 1, by have := HO.out.2.2.1; omega, rfl, pl, avl, capl, ?_, ?_⟩
              · first | (rw [HFS.out, List.length_append, HM.out]; done) | (rw [HFS.out, List.length_append, HM.out]; rfl)
              · rw [HFS.out, List.length_append, HM.out, trnCs_append, HXS.out]; simp only [List.append_assoc, List.cons_append, List.nil_append] at ql; exact ql
            case measure => have := HO.out.2.2.1; simp [intOf]; omega
          · have e1 : ((x.old : Int) == 0) = true := by simp; omega
            have e2 : ((x.old : Int) != 0) = false := by simp; omega
            have e3 : ((x.old : Int) = 0) = True := by simp; omega
            have hfs := HO.out.2.2.2
            simp only [if_pos ho, if_neg hl, ht, if_true, if_false, Bool.false_eq_true, List.nil_append, List.append_nil, List.cons_append] at hfs
            have HFS := Lib.hid hfs
            clear hfs
            obtain ⟨ws, W0, W1, W2⟩ : ∃ ws : Int → Int → Int, ws (x.own : Int) 0 = ((wslot x.own 0 : Nat) : Int) ∧ ws (x.own : Int) 1 = ((wslot x.own 1 : Nat) : Int) ∧ ws (x.old : Int) 1 = ((wslot x.old 1 : Nat) : Int) := ⟨fun a b => if b = 0 then ((wslot a.toNat 0 : Nat) : Int) else ((wslot a.toNat 1 : Nat) : Int), by simp, by simp, by simp⟩
            have SL : Hid (∀ a b : Int, ((a = (x.own : Int) ∧ b = 0) ∨ (a = (x.own : Int) ∧ b = 1) ∨ False) → ∀ w, Calls Tryz.prog 62 #[.int .u64 a, .int .i64 b] w fun e w' => e = .returned (.int .i64 (ws a b)) ∧ w = w') := by
              rintro a b (⟨rfl, rfl⟩ | ⟨rfl, rfl⟩ | h) w''
              · rw [W0]; exact (HS.out x.own 0 (HO.out.1.resolve_left ho) (by omega) w'')
              · rw [W1]; exact (HS.out x.own 1 (HO.out.1.resolve_left ho) (by omega) w'')
              · exact h.elim
            have HW := Lib.hid (And.intro W0 (And.intro W1 W2))
            clear W0 W1 W2
            clear ho hl
            rw [ht] at ce2 HC
            clear ht
            go_wp2_with (first | (go_at_call 62; refine (SL.out _ _ (by first | exact .inl ⟨rfl, rfl⟩ | exact .inr (.inl ⟨rfl, rfl⟩) | exact .inr (.inr ⟨rfl, rfl⟩)) _).mono ?_; rintro e w' ⟨rfl, rfl⟩) | (refine wp_turn _ rfl _ _ rfl w2 (by assumption) _ _ _ _ rfl (by assumption) (by omega) _ _ _ rfl ?_; intro avl capl wl ql pl; obtain ⟨ce0, ce1, ce2⟩ := HC.out wl pl))
            go_roundw
            case rel =>
              simp only [HW.out.1, HW.out.2.1, HW.out.2.2] at ql
              refine ⟨k + 1, by have := HO.out.2.2.1; omega, rfl, pl, avl, capl, ?_, ?_⟩
              · first | (rw [HFS.out, List.length_append, HM.out]; done) | (rw [HFS.out, List.length_append, HM.out]; rfl)
              · rw [HFS.out, List.length_append, HM.out, trnCs_append, HXS.out]; simp only [List.append_assoc, List.cons_append, List.nil_append] at ql; exact ql
            case measure => have := HO.out.2.2.1; simp [intOf]; omega
      · have d1 : ((x.own : Int) == 0) = true := by simp; omega
        have d2 : ((x.own : Int) != 0) = false := by simp; omega
        have d3 : ((x.own : Int) = 0) = True := by simp; omega
        by_cases hl : x.old ≠ 0
        · have e1 : ((x.old : Int) == 0) = false := by simp; omega
          have e2 : ((x.old : Int) != 0) = true := by simp; omega
          have e3 : ((x.old : Int) = 0) = False := by simp; omega
          have hfs := HO.out.2.2.2
          simp only [if_neg ho, if_pos hl, List.nil_append, List.append_nil, List.cons_append] at hfs
          have HFS := Lib.hid hfs
          clear hfs
          obtain ⟨ws, W0, W1, W2⟩ : ∃ ws : Int → Int → Int, ws (x.own : Int) 0 = ((wslot x.own 0 : Nat) : Int) ∧ ws (x.own : Int) 1 = ((wslot x.own 1 : Nat) : Int) ∧ ws (x.old : Int) 1 = ((wslot x.old 1 : Nat) : Int) := ⟨fun a b => if b = 0 then ((wslot a.toNat 0 : Nat) : Int) else ((wslot a.toNat 1 : Nat) : Int), by simp, by simp, by simp⟩
          have SL : Hid (∀ a b : Int, (False ∨ False ∨ (a = (x.old : Int) ∧ b = 1)) → ∀ w, Calls Tryz.prog 62 #[.int .u64 a, .int .i64 b] w fun e w' => e = .returned (.int .i64 (ws a b)) ∧ w = w') := by
            rintro a b (h | h | ⟨rfl, rfl⟩) w''
            · exact h.elim
            · exact h.elim
            · rw [W2]; exact (HS.out x.old 1 (HO.out.2.1.resolve_left hl) (by omega) w'')
          have HW := Lib.hid (And.intro W0 (And.intro W1 W2))
          clear W0 W1 W2
          clear ho hl
          go_wp2_with (first | (go_at_call 62; refine (SL.out _ _ (by first | exact .inl ⟨rfl, rfl⟩ | exact .inr (.inl ⟨rfl, rfl⟩) | exact .inr (.inr ⟨rfl, rfl⟩)) _).mono ?_; rintro e w' ⟨rfl, rfl⟩) | (refine wp_turn _ rfl _ _ rfl w2 (by assumption) _ _ _ _ rfl (by assumption) (by omega) _ _ _ rfl ?_; intro avl capl wl ql pl; obtain ⟨ce0, ce1, ce2⟩ := HC.out wl pl))
          go_roundw
          case rel =>
            simp only [HW.out.1, HW.out.2.1, HW.out.2.2] at ql
            refine ⟨k + 1, by have := HO.out.2.2.1; omega, rfl, pl, avl, capl, ?_, ?_⟩
            · first | (rw [HFS.out, List.length_append, HM.out]; done) | (rw [HFS.out, List.length_append, HM.out]; rfl)
            · rw [HFS.out, List.length_append, HM.out, trnCs_append, HXS.out]; exact ql
          case measure => have := HO.out.2.2.1; simp [intOf]; omega
        · have e1 : ((x.old : Int) == 0) = true := by simp; omega
          have e2 : ((x.old : Int) != 0) = false := by simp; omega
          have e3 : ((x.old : Int) = 0) = True := by simp; omega
          have hfs := HO.out.2.2.2
          simp only [if_neg ho, if_neg hl, List.nil_append, List.append_nil, List.cons_append] at hfs
          have HFS := Lib.hid hfs
          clear hfs
          clear ho hl
          go_wp2_with fail
          go_roundw
          case rel =>
            refine ⟨k + 1, by have := HO.out.2.2.1; omega, rfl, hb, av, cap, ?_, ?_⟩
            · first | (rw [HFS.out, HM.out]; done) | (rw [HFS.out, HM.out]; rfl)
            · rw [HFS.out, HM.out, HXS.out]; exact hown
          case measure => have := HO.out.2.2.1; simp [intOf]; omega
    · obtain rfl : k = t.keys.length := by omega
      rw [List.take_length] at hown ⊢
      obtain ⟨x0, x1, x2, x4, x7, x6, _⟩ := HB2.out A2 w2 H2.out.1 H2.out.2.1 H2.out.2.2.1 H2.out.2.2.2.1 wr hb
      have HE := Lib.hid (And.intro (HTU.out A2 w2 H2.out.1 H2.out.2.2.1 wr av _ cap hb hown) (Grow.below (L := A2.L) hb))
      clear hown hb hlt hk hm0
      generalize (t.keys.flatMap (cTurn t)).length = m at *
      go_wp2_with (go_at_call 122; refine HE.out.1.mono ?_; rintro e w4 ⟨A3, v, rfl, p1, p2, p3, p4⟩)
      go_ret
      exact ⟨A3, v, rfl, p1, (H2.out.2.1.trans HE.out.2).trans p2, H2.out.2.2.1.trans p3, p4⟩
end Go.Proofs.YtbefcdjcefmicaaGreat.Em
