/- Texts of this claim, laid together: Sx, Sz, Sq, Fud, Fr0, Fr1, Fr2, Fr3, Fr4, Fra, Sr, Lt. -/
import Derived.Test.YtbefcdjcefmicaaGreatGll1
import Derived.Test.YtbefcdjcefmicaaGreatGll2
import Derived.Test.YtbefcdjcefmicaaGreatBase21
import Derived.Defers
import Derived.Test.YtbefcdjcefmicaaGreatBase15
namespace Go.Proofs.YtbefcdjcefmicaaGreat.Em
open Go.ChangeShapes Go.WideShapes Go.ChangeAt Go.RowKit En
set_option linter.unusedVariables false
set_option linter.unusedSimpArgs false
set_option maxRecDepth 100000
set_option maxHeartbeats 1600000

/-- What a step of sweeping asks. -/
def okS (σ : St) : S → Bool
  | .now => decide (σ.word 0 < 18446744073709551616)
  | .live s => decide (s < 8)
  | .head key => decide (key ≤ 63)
  | .visit _ _ link => vl σ link && small σ (wslot link 0)
  | .maker _ _ _ id => decide (id ≤ 2000) && small σ (σ.place id)
  | .garbage _ _ link _ => vl σ link && small σ (wslot link 1)
  | .on key link => decide (key ≤ 63) && vl σ link
  | .unlink _ _ link => vl σ link
  | .cut key ahead link _ => decide (key ≤ 63) && (decide (σ.cut = []) && (decide (σ.cuts = 0) && (decide (ahead = 0) && decide (σ.word (9 + key) = link))))
theorem SRep.enter {e : Nat} {L : Lab} {w : World} {v : Value} : ∀ {k : S}, SRep e L w v (some k) → ∃ f b c, v = .func (.func f) b c ∧ ∀ args w, (callFunc f args).run Tryz.prog w = .ok (.enter f args) w
  | .now, h => ⟨_, _, _, h, fun _ _ => by kernel_rfl⟩
  | .live _, h => let ⟨_, _, e, _⟩ := h; ⟨_, _, _, e, fun _ _ => by kernel_rfl⟩
  | .head _, h => let ⟨_, _, e, _⟩ := h; ⟨_, _, _, e, fun _ _ => by kernel_rfl⟩
  | .visit _ _ _, h => let ⟨_, _, _, _, e, _⟩ := h; ⟨_, _, _, e, fun _ _ => by kernel_rfl⟩
  | .maker _ _ _ _, h => let ⟨_, _, _, _, _, e, _⟩ := h; ⟨_, _, _, e, fun _ _ => by kernel_rfl⟩
  | .garbage _ _ _ _, h => let ⟨_, _, _, _, _, e, _⟩ := h; ⟨_, _, _, e, fun _ _ => by kernel_rfl⟩
  | .on _ _, h => let ⟨_, _, _, e, _⟩ := h; ⟨_, _, _, e, fun _ _ => by kernel_rfl⟩
  | .unlink _ _ _, h => let ⟨_, _, _, _, e, _⟩ := h; ⟨_, _, _, e, fun _ _ => by kernel_rfl⟩
  | .cut _ _ _ _, h => let ⟨_, _, _, _, _, e, _⟩ := h; ⟨_, _, _, e, fun _ _ => by kernel_rfl⟩
theorem sRuns {A : Book} {σ : St} {w : World} (hR : Rep A σ w) (hcnt : σ.count < 3000000000000000000) : ∀ (k : S) (_ : okS σ k = true) (f : FuncId) (b c : Array Value), SRep A.be A.L w (.func (.func f) b c) (some k) → Calls Tryz.prog f (b ++ c) w (SRan A σ w (σ.sweepRun k))
  | .now, h, f, b, c, hs => by
    obtain ⟨rfl, rfl, rfl⟩ := func_inj hs
    exact sw_now hR (by omega) (of_decide_eq_true h)
  | .live s, h, f, b, c, hs => by
    obtain ⟨b0, b1, e, k0, k1⟩ := hs
    obtain ⟨rfl, rfl, rfl⟩ := func_inj e
    exact k_live hR s (of_decide_eq_true h) (by omega) b0 b1 k0 k1
  | .head key, h, f, b, c, hs => by
    obtain ⟨b0, b1, e, k0, k1⟩ := hs
    obtain ⟨rfl, rfl, rfl⟩ := func_inj e
    exact k_head hR key (of_decide_eq_true h) (by omega) b0 b1 k0 k1
  | .visit key ahead link, h, f, b, c, hs => by
    obtain ⟨b0, b1, b2, b3, e, k0, k1, k2, k3⟩ := hs
    obtain ⟨rfl, rfl, rfl⟩ := func_inj e
    obtain ⟨h1, h2⟩ := and_ok h
    by_cases hx : (rd (σ.word (wslot link 0))).1 = 2
    · exact k_svisit_y hR key ahead link (vl_iff h1) (small_iff h2) (by simp [hx]) (by omega) b0 b1 b2 b3 k0 k1 k2 k3
    · exact k_svisit_n hR key ahead link (vl_iff h1) (small_iff h2) (by simp [hx]) (by omega) b0 b1 b2 b3 k0 k1 k2 k3
  | .maker key ahead link id, h, f, b, c, hs => by
    obtain ⟨b0, b1, b2, b3, b4, e, k0, k1, k2, k3, k4⟩ := hs
    obtain ⟨rfl, rfl, rfl⟩ := func_inj e
    obtain ⟨h1, h2⟩ := and_ok h
    have hid := of_decide_eq_true h1
    by_cases hx : stateOf (σ.word (σ.place id)) = 4
    · exact k_smaker_y hR key ahead link id (by omega) (place_lt hR hid) (small_iff h2) (by simp [hx]) (by omega) b0 b1 b2 b3 b4 k0 k1 k2 k3 k4
    · exact k_smaker_n hR key ahead link id (by omega) (place_lt hR hid) (small_iff h2) (by simp [hx]) (by omega) b0 b1 b2 b3 b4 k0 k1 k2 k3 k4
  | .garbage key ahead link bb, h, f, b, c, hs => by
    obtain ⟨b0, b1, b2, b3, b4, e, k0, k1, k2, k3, k4⟩ := hs
    obtain ⟨rfl, rfl, rfl⟩ := func_inj e
    obtain ⟨h1, h2⟩ := and_ok h
    cases hx : garbage (σ.word (wslot link 1)) σ.low with
    | true => exact k_garbage_y hR key ahead link bb (vl_iff h1) (small_iff h2) hx (by omega) b0 b1 b2 b3 b4 k0 k1 k2 k3 k4
    | false => exact k_garbage_n hR key ahead link bb (vl_iff h1) (small_iff h2) hx (by omega) b0 b1 b2 b3 b4 k0 k1 k2 k3 k4
  | .on key link, h, f, b, c, hs => by
    obtain ⟨b0, b1, b2, e, k0, k1, k2⟩ := hs
    obtain ⟨rfl, rfl, rfl⟩ := func_inj e
    obtain ⟨h1, h2⟩ := and_ok h
    exact k_on hR key link (of_decide_eq_true h1) (vl_iff h2) (by omega) b0 b1 b2 k0 k1 k2
  | .unlink key ahead link, h, f, b, c, hs => by
    obtain ⟨b0, b1, b2, b3, e, k0, k1, k2, k3⟩ := hs
    obtain ⟨rfl, rfl, rfl⟩ := func_inj e
    exact k_unlink hR key ahead link (vl_iff h) (by omega) b0 b1 b2 b3 k0 k1 k2 k3
  | .cut key ahead link nx, h, f, b, c, hs => by
    obtain ⟨b0, b1, b2, b3, b4, e, k0, k1, k2, k3, k4⟩ := hs
    obtain ⟨rfl, rfl, rfl⟩ := func_inj e
    obtain ⟨h1, h⟩ := and_ok h
    obtain ⟨h2, h⟩ := and_ok h
    obtain ⟨h3, h⟩ := and_ok h
    obtain ⟨h4, h5⟩ := and_ok h
    exact k_cut hR key ahead link nx (of_decide_eq_true h1) (of_decide_eq_true h2) (of_decide_eq_true h3) (of_decide_eq_true h4) (of_decide_eq_true h5) (by omega) b0 b1 b2 b3 b4 k0 k1 k2 k3 k4
theorem sweepRun_keeps (σ : St) (k : S) : (σ.sweepRun k).1.calls = σ.calls ∧ (σ.sweepRun k).1.count = σ.count + 1 ∧ (σ.sweepRun k).1.looks = σ.looks := by
  cases k <;> simp only [St.sweepRun] <;> (repeat' split) <;> exact ⟨rfl, rfl, rfl⟩
theorem Live.sonly {A A' : Book} {σ σ' : St} {w w' : World} (hL : Live A σ w) (r : Rep A' σ' w') (g : Grow A.L w A'.L w') (s : SOnly A A') (hc : σ'.calls = σ.calls) : Live A' σ' w' := by
  obtain ⟨⟨L, v, c, f, m, rfl⟩, hm⟩ := s
  have ek : ∀ s, kp { A with L := L, vsweep := v, vcut := c, vfree := f, mp := m } σ' s = kp A σ s := fun s => by unfold kp St.c; rw [hc]
  refine ⟨r, hm.trans hL.mp, hL.mt, fun s h c hcs => ?_, fun s h hcs => hL.idle s h (by rw [← hc]; exact hcs)⟩
  obtain ⟨e1, k, e2, e3⟩ := hL.call s h c (by rw [← hc]; exact hcs)
  exact ⟨e1, k, e2, by rw [ek]; exact e3.grow g⟩
/-- A Sweep has been done. -/
def Swept (A : Book) (w : World) (σ' : St) (x : Bool) : Ending → World → Prop := fun e w' => e = .returned (.bool x) ∧ ∃ A', SOnly A A' ∧ Live A' σ' w' ∧ Grow A.L w A'.L w' ∧ SRep A'.be A'.L w' (A'.sv σ'.sw) σ'.sw ∧ CRow A' σ' w'
theorem fnNe (f : FuncId) (b c : Array Value) (w : World) : (binOp .eql 47 (.func (.func f) b c) .nilFunc).run Tryz.prog w = .ok (.bool false) w := by rfl
theorem fnEq (w : World) : (binOp .eql 47 .nilFunc .nilFunc).run Tryz.prog w = .ok (.bool true) w := by rfl
theorem sweep_some {A : Book} {σ : St} {w : World} (hL : Live A σ w) (k : S) (hsw : σ.sw = some k) (hS : SRep A.be A.L w (A.sv σ.sw) σ.sw) (hC : CRow A σ w) (hcut : σ.cut = []) (hcnt : σ.count < 3000000000000000000) (hlk : σ.looks < 1000000000000000000) (hok : okS σ k = true) :
    Calls Tryz.prog 81 #[.pointer (some ⟨A.be, 0, none⟩)] w (Swept A w ({ (σ.sweepRun k).1 with looks := σ.looks + 1 }) (σ.sweepRun k).2) := by
  obtain ⟨r2, g2, f0, f1⟩ := allocs2 hL.rep #[.pointer (some ⟨A.be, 0, none⟩)] 27 #[.int .i64 (σ.count : Int)] 3
  have hcn := Lib.hid ((count_any (hL.rep.alloc (.cells #[.pointer (some ⟨A.be, 0, none⟩)] 27)) (by omega)).mono (fun e w9 h => (⟨h.1, h.2.symm⟩ : e = _ ∧ w9 = w.alloc (.cells #[.pointer (some ⟨A.be, 0, none⟩)] 27))))
  have e2 : (w.alloc (.cells #[.pointer (some ⟨A.be, 0, none⟩)] 27)).cell? ⟨A.be, 2, none⟩ = some (.pointer (some ⟨A.ba, 0, none⟩)) := (hL.rep.alloc _).eng 2 rfl
  have y0 := f0.cell 0 (v := .pointer (some ⟨A.be, 0, none⟩)) rfl
  have HG := Lib.hid (give_none r2 hcut)
  rw [hsw] at hS
  obtain ⟨fv, fb, fc, hv, he⟩ := hS.enter
  obtain ⟨hk1, hk2, hk3⟩ := sweepRun_keeps σ k
  have H3 : Hid (∀ w3, Below ((w.alloc (.cells #[.pointer (some ⟨A.be, 0, none⟩)] 27)).alloc (.cells #[.int .i64 (σ.count : Int)] 3)).heap.size ((w.alloc (.cells #[.pointer (some ⟨A.be, 0, none⟩)] 27)).alloc (.cells #[.int .i64 (σ.count : Int)] 3)) w3 →
      w3.cell? ⟨w.heap.size, 0, none⟩ = some (.pointer (some ⟨A.be, 0, none⟩)) ∧ w3.cell? ⟨A.be, 25, none⟩ = some (.func (.func fv) fb fc) ∧ Calls Tryz.prog fv (fb ++ fc) w3 (fun e w4 => e = .returned (.bool (σ.sweepRun k).2) ∧ ∃ A', SOnly A A' ∧ Rep A' (σ.sweepRun k).1 w4 ∧ Grow A.L w A'.L w4 ∧ SRep A'.be A'.L w4 (A'.sv (σ.sweepRun k).1.sw) (σ.sweepRun k).1.sw ∧ CRow A' (σ.sweepRun k).1 w4 ∧ Box A'.L w4 w.heap.size (.pointer (some ⟨A'.be, 0, none⟩)) ∧ Box A'.L w4 (w.heap.size + 1) (.int .i64 (σ.count : Int)))) := by
    intro w3 hb
    have gb := Grow.below (L := A.L) hb
    have r3 := r2.below hb
    have c25 := r3.eng 25 (v := A.sv σ.sw) rfl
    rw [hsw, hv] at c25
    refine ⟨(f0.grow gb).cell 0 rfl, c25, ?_⟩
    have hS3 := hS.grow (g2.trans gb)
    rw [hv] at hS3
    refine (sRuns r3 hcnt k hok fv fb fc hS3).mono ?_
    rintro e w4 ⟨rfl, A', s1, s2, s3, s4, s5⟩
    have hbe : A'.be = A.be := by obtain ⟨⟨L, v, c, f, m, rfl⟩, _⟩ := s1; rfl
    exact ⟨rfl, A', s1, s2, (g2.trans gb).trans s3, s4, s5 (hC.keep rfl rfl (g2.trans gb)), by rw [hbe]; exact ((f0.grow gb).grow s3).box, ((f1.grow gb).grow s3).box⟩
  have HLH := Lib.hid (And.intro hL (And.intro hcnt (And.intro hlk (And.intro hk1 (And.intro hk2 hk3)))))
  clear r2 g2 f0 f1 hL hS hC hcut hcnt hlk hok hv hsw hk1 hk2 hk3
  generalize σ.sweepRun k = rr at *
  have hne := fnNe fv fb fc
  go_enter_defers Tryz.func81, Tryz.ntmps81
  go_wp2_with (first | (go_at_call 52; refine hcn.out.mono ?_; rintro e w1 ⟨rfl, rfl⟩) | (go_at_call 105; refine HG.out.mono ?_; rintro e w3 ⟨rfl, hb⟩; obtain ⟨x0, x25, hc⟩ := H3.out w3 hb; have HC := Lib.hid hc; clear hc hb))
  refine HC.out.mono ?_
  rintro e w4 ⟨rfl, A', s1, s2, s3, s4, s5, B0, B1⟩
  have HD := Lib.hid (sweep_countD s2 σ.count 1 HLH.out.2.2.2.2.1 (by rw [HLH.out.2.2.2.2.1]; have := HLH.out.2.1; omega) (by rw [HLH.out.2.2.2.2.2]; exact HLH.out.2.2.1) (by omega) _ _ B0 B1)
  have HS := Lib.hid (And.intro s1 (And.intro s2 (And.intro s3 (And.intro s4 s5))))
  clear s1 s2 s3 s4 s5 B0 B1 HC
  go_wp2
  refine leaves_cons (f := 104) (args := #[.pointer (some ⟨w.heap.size, 0, none⟩), .pointer (some ⟨w.heap.size + 1, 0, none⟩)]) (by simp) (by simp [go_sem]) ?_
  refine HD.out.mono ?_
  rintro e u w5 ⟨rfl, rfl, r5, g5⟩
  simp [Leaves, settle, results, Tryz.results81]
  obtain ⟨s1, s2, s3, s4, s5⟩ := HS.out
  obtain ⟨hL, _, _, hk1, hk2, hk3⟩ := HLH.out
  rw [hk3] at r5
  exact ⟨rfl, A', s1, hL.sonly r5 (s3.trans g5) s1 hk1, s3.trans g5, s4.grow g5, s5.keep rfl rfl g5⟩
theorem sweep_none {A : Book} {σ : St} {w : World} (hL : Live A σ w) (hsw : σ.sw = none) (hC : CRow A σ w) (hcut : σ.cut = []) (hcnt : σ.count < 3000000000000000000) (hlk : σ.looks < 1000000000000000000) (hok : okS σ .now = true) :
    Calls Tryz.prog 81 #[.pointer (some ⟨A.be, 0, none⟩)] w (Swept A w ({ (σ.sweepRun .now).1 with looks := σ.looks + 1 }) (σ.sweepRun .now).2) := by
  obtain ⟨r2, g2, f0, f1⟩ := allocs2 hL.rep #[.pointer (some ⟨A.be, 0, none⟩)] 27 #[.int .i64 (σ.count : Int)] 3
  have hcn := Lib.hid ((count_any (hL.rep.alloc (.cells #[.pointer (some ⟨A.be, 0, none⟩)] 27)) (by omega)).mono (fun e w9 h => (⟨h.1, h.2.symm⟩ : e = _ ∧ w9 = w.alloc (.cells #[.pointer (some ⟨A.be, 0, none⟩)] 27))))
  have e2 : (w.alloc (.cells #[.pointer (some ⟨A.be, 0, none⟩)] 27)).cell? ⟨A.be, 2, none⟩ = some (.pointer (some ⟨A.ba, 0, none⟩)) := (hL.rep.alloc _).eng 2 rfl
  have y0 := f0.cell 0 (v := .pointer (some ⟨A.be, 0, none⟩)) rfl
  have HG := Lib.hid (give_none r2 hcut)
  have he : ∀ args w, (callFunc 106 args).run Tryz.prog w = .ok (.enter 106 args) w := fun _ _ => by kernel_rfl
  obtain ⟨hk1, hk2, hk3⟩ := sweepRun_keeps σ .now
  have H3 : Hid (∀ w3, Below ((w.alloc (.cells #[.pointer (some ⟨A.be, 0, none⟩)] 27)).alloc (.cells #[.int .i64 (σ.count : Int)] 3)).heap.size ((w.alloc (.cells #[.pointer (some ⟨A.be, 0, none⟩)] 27)).alloc (.cells #[.int .i64 (σ.count : Int)] 3)) w3 →
      w3.cell? ⟨w.heap.size, 0, none⟩ = some (.pointer (some ⟨A.be, 0, none⟩)) ∧ w3.cell? ⟨A.be, 25, none⟩ = some .nilFunc ∧ w3.frozen? ⟨A.be, 25, none⟩ = false ∧ (w3.setCell ⟨A.be, 25, none⟩ (.func (.func 106) #[.pointer (some ⟨A.be, 0, none⟩)] #[])).cell? ⟨w.heap.size, 0, none⟩ = some (.pointer (some ⟨A.be, 0, none⟩)) ∧ (w3.setCell ⟨A.be, 25, none⟩ (.func (.func 106) #[.pointer (some ⟨A.be, 0, none⟩)] #[])).cell? ⟨A.be, 25, none⟩ = some (.func (.func 106) #[.pointer (some ⟨A.be, 0, none⟩)] #[]) ∧ Calls Tryz.prog 106 #[.pointer (some ⟨A.be, 0, none⟩)] (w3.setCell ⟨A.be, 25, none⟩ (.func (.func 106) #[.pointer (some ⟨A.be, 0, none⟩)] #[])) (fun e w4 => e = .returned (.bool (σ.sweepRun .now).2) ∧ ∃ A', SOnly A A' ∧ Rep A' (σ.sweepRun .now).1 w4 ∧ Grow A.L w A'.L w4 ∧ SRep A'.be A'.L w4 (A'.sv (σ.sweepRun .now).1.sw) (σ.sweepRun .now).1.sw ∧ CRow A' (σ.sweepRun .now).1 w4 ∧ Box A'.L w4 w.heap.size (.pointer (some ⟨A'.be, 0, none⟩)) ∧ Box A'.L w4 (w.heap.size + 1) (.int .i64 (σ.count : Int)))) := by
    intro w3 hb
    have gb := Grow.below (L := A.L) hb
    have r3 := r2.below hb
    have c25 := r3.eng 25 (v := A.sv σ.sw) rfl
    rw [hsw] at c25
    have hv : A.sv (none : Option S) = .nilFunc := rfl
    rw [hv] at c25
    have z25 := r3.engF 25
    obtain ⟨r4, g4⟩ := r3.sweepSet (.func (.func 106) #[.pointer (some ⟨A.be, 0, none⟩)] #[]) .now
    refine ⟨(f0.grow gb).cell 0 rfl, c25, z25, ((f0.grow gb).grow g4).cell 0 rfl, World.cell?_setCell_same _ _ _ c25, ?_⟩
    refine (sw_now r4 (by show σ.count < _; omega) (of_decide_eq_true hok)).mono ?_
    rintro e w4 ⟨rfl, A', s1, s2, s3, s4, s5⟩
    have hs0 : SOnly A { A with vsweep := .func (.func 106) #[.pointer (some ⟨A.be, 0, none⟩)] #[] } := ⟨⟨_, _, _, _, _, rfl⟩, rfl⟩
    have hbe : A'.be = A.be := by obtain ⟨⟨L, v, c, f, m, rfl⟩, _⟩ := s1; rfl
    have hC3 : CRow { A with vsweep := .func (.func 106) #[.pointer (some ⟨A.be, 0, none⟩)] #[] } ({ σ with sw := some .now } : St) (w3.setCell ⟨A.be, 25, none⟩ (.func (.func 106) #[.pointer (some ⟨A.be, 0, none⟩)] #[])) := hC.keep rfl rfl ((g2.trans gb).trans g4)
    exact ⟨rfl, A', hs0.trans s1, s2, ((g2.trans gb).trans g4).trans s3, s4, s5 hC3, by rw [hbe]; exact (((f0.grow gb).grow g4).grow s3).box, (((f1.grow gb).grow g4).grow s3).box⟩
  have HLH := Lib.hid (And.intro hL (And.intro hcnt (And.intro hlk (And.intro hk1 (And.intro hk2 hk3)))))
  clear r2 g2 f0 f1 hL hC hcut hcnt hlk hok hsw hk1 hk2 hk3
  generalize σ.sweepRun .now = rr at *
  have heq := fnEq
  go_enter_defers Tryz.func81, Tryz.ntmps81
  go_wp2_with (first | (go_at_call 52; refine hcn.out.mono ?_; rintro e w1 ⟨rfl, rfl⟩) | (go_at_call 105; refine HG.out.mono ?_; rintro e w3 ⟨rfl, hb⟩; obtain ⟨x0, x25, z25, q0, q25, hc⟩ := H3.out w3 hb; have HC := Lib.hid hc; clear hc hb))
  refine HC.out.mono ?_
  rintro e w4 ⟨rfl, A', s1, s2, s3, s4, s5, B0, B1⟩
  have HD := Lib.hid (sweep_countD s2 σ.count 1 HLH.out.2.2.2.2.1 (by rw [HLH.out.2.2.2.2.1]; have := HLH.out.2.1; omega) (by rw [HLH.out.2.2.2.2.2]; exact HLH.out.2.2.1) (by omega) _ _ B0 B1)
  have HS := Lib.hid (And.intro s1 (And.intro s2 (And.intro s3 (And.intro s4 s5))))
  clear s1 s2 s3 s4 s5 B0 B1 HC
  go_wp2
  refine leaves_cons (f := 104) (args := #[.pointer (some ⟨w.heap.size, 0, none⟩), .pointer (some ⟨w.heap.size + 1, 0, none⟩)]) (by simp) (by simp [go_sem]) ?_
  refine HD.out.mono ?_
  rintro e u w5 ⟨rfl, rfl, r5, g5⟩
  simp [Leaves, settle, results, Tryz.results81]
  obtain ⟨s1, s2, s3, s4, s5⟩ := HS.out
  obtain ⟨hL, _, _, hk1, hk2, hk3⟩ := HLH.out
  rw [hk3] at r5
  exact ⟨rfl, A', s1, hL.sonly r5 (s3.trans g5) s1 hk1, s3.trans g5, s4.grow g5, s5.keep rfl rfl g5⟩
theorem give_tags (σ : St) (link : Nat) : (σ.give link).calls = σ.calls ∧ (σ.give link).count = σ.count ∧ (σ.give link).looks = σ.looks ∧ (σ.give link).sw = σ.sw := by
  unfold St.give
  dsimp only
  split
  · split <;> exact ⟨rfl, rfl, rfl, rfl⟩
  · exact ⟨rfl, rfl, rfl, rfl⟩
theorem sweep_give {A : Book} {σ : St} {w : World} (hL : Live A σ w) (hS : SRep A.be A.L w (A.sv σ.sw) σ.sw) (hC : CRow A σ w) (link seq n : Nat) (hv : VL σ link) (hp : PoolOk σ) (hcut : σ.cut = [(link, seq)]) (hcuts : σ.cuts = n + 1) (hid : ∀ s, s < 8 → σ.calls.getD s none = none) (hcnt : σ.count < 3000000000000000000) (hlk : σ.looks < 1000000000000000000) :
    Calls Tryz.prog 81 #[.pointer (some ⟨A.be, 0, none⟩)] w (Swept A w ({ σ.give link with cut := [], cuts := n + 1 }) true) := by
  obtain ⟨r2, g2, f0, f1⟩ := allocs2 hL.rep #[.pointer (some ⟨A.be, 0, none⟩)] 27 #[.int .i64 (σ.count : Int)] 3
  have hcn := Lib.hid ((count_any (hL.rep.alloc (.cells #[.pointer (some ⟨A.be, 0, none⟩)] 27)) (by omega)).mono (fun e w9 h => (⟨h.1, h.2.symm⟩ : e = _ ∧ w9 = w.alloc (.cells #[.pointer (some ⟨A.be, 0, none⟩)] 27))))
  have e2 : (w.alloc (.cells #[.pointer (some ⟨A.be, 0, none⟩)] 27)).cell? ⟨A.be, 2, none⟩ = some (.pointer (some ⟨A.ba, 0, none⟩)) := (hL.rep.alloc _).eng 2 rfl
  have y0 := f0.cell 0 (v := .pointer (some ⟨A.be, 0, none⟩)) rfl
  obtain ⟨a, c, hrow, hf⟩ : ∃ a c, A.vcut.2 = .slice a 1 c ∧ FRow A.L w 2 (.slice a 1 c) (cutPs [(link, seq)]) := by
    rcases hC with h | ⟨a, c, h1, h2⟩
    · rw [hcut] at h; cases h
    · rw [hcut] at h1 h2
      rw [h1] at h2
      exact ⟨a, c, h1, h2⟩
  obtain ⟨k1, k2, k3, k4⟩ := give_tags σ link
  have HG := Lib.hid ((give_one r2 (fun s hs => hL.idle s hs (hid s hs)) link seq n hv hp hcut hcuts a c hrow (hf.grow g2)).mono (fun e w3 h => (by
    obtain ⟨h1, A', s1, s0, s2, s3⟩ := h
    have hbe : A'.be = A.be := by obtain ⟨⟨L, v, c, f, m, rfl⟩, _⟩ := s1; rfl
    refine ⟨h1, A', s1, s2, g2.trans s3, ?_, by rw [hbe]; exact (f0.grow s3).box, (f1.grow s3).box⟩
    have h9 := hS.grow (g2.trans s3)
    have e9 : A'.sv σ.sw = A.sv σ.sw := by unfold Book.sv; rw [s0]
    rw [hbe, e9]
    exact h9 : e = .returned (.bool true) ∧ ∃ A', SOnly A A' ∧ Rep A' { σ.give link with cut := [], cuts := n + 1 } w3 ∧ Grow A.L w A'.L w3 ∧ SRep A'.be A'.L w3 (A'.sv σ.sw) σ.sw ∧ Box A'.L w3 w.heap.size (.pointer (some ⟨A'.be, 0, none⟩)) ∧ Box A'.L w3 (w.heap.size + 1) (.int .i64 (σ.count : Int)))))
  have HLH := Lib.hid (And.intro hL (And.intro hcnt (And.intro hlk (And.intro k1 (And.intro k2 (And.intro k3 k4))))))
  clear r2 g2 f0 f1 hL hS hC hcut hcnt hlk hcuts hid hv hp hrow hf k1 k2 k3 k4
  go_enter_defers Tryz.func81, Tryz.ntmps81
  go_wp2_with (first | (go_at_call 52; refine hcn.out.mono ?_; rintro e w1 ⟨rfl, rfl⟩) | (go_at_call 105; refine HG.out.mono ?_; rintro e w4 ⟨rfl, A', s1, s2, s3, s4, B0, B1⟩; have HS := Lib.hid (And.intro s1 (And.intro s2 (And.intro s3 s4))); have HD := Lib.hid (sweep_countD s2 σ.count 0 HLH.out.2.2.2.2.1 (by show (σ.give link).count < _; rw [HLH.out.2.2.2.2.1]; have := HLH.out.2.1; omega) (by show (σ.give link).looks < _; rw [HLH.out.2.2.2.2.2.1]; exact HLH.out.2.2.1) (by omega) _ _ B0 B1); clear s1 s2 s3 s4 B0 B1))
  refine leaves_cons (f := 104) (args := #[.pointer (some ⟨w.heap.size, 0, none⟩), .pointer (some ⟨w.heap.size + 1, 0, none⟩)]) (by simp) (by simp [go_sem]) ?_
  refine HD.out.mono ?_
  rintro e u w5 ⟨rfl, rfl, r5, g5⟩
  simp [Leaves, settle, results, Tryz.results81]
  obtain ⟨s1, s2, s3, s4⟩ := HS.out
  obtain ⟨hL, _, _, k1, k2, k3, k4⟩ := HLH.out
  refine ⟨rfl, A', s1, hL.sonly r5 (s3.trans g5) s1 k1, s3.trans g5, ?_, .inl rfl⟩
  show SRep A'.be A'.L w5 (A'.sv (σ.give link).sw) (σ.give link).sw
  rw [k4]
  exact s4.grow g5
end Go.Proofs.YtbefcdjcefmicaaGreat.Em

namespace Go.Proofs.YtbefcdjcefmicaaGreat.Em
open Go.ChangeShapes Go.WideShapes Go.ChangeAt Go.RowKit En
set_option linter.unusedVariables false
set_option linter.unusedSimpArgs false
set_option maxRecDepth 100000
set_option maxHeartbeats 1600000

/-- A Sweep, checked. -/
def sweepOk (σ : St) : Option (St × Bool) :=
  if σ.count < 3000000000000000000 ∧ σ.looks < 1000000000000000000 then
    match σ.cut with
    | [] => match σ.sw with
      | none => if okS σ .now = true then some ({ (σ.sweepRun .now).1 with looks := σ.looks + 1 }, (σ.sweepRun .now).2) else none
      | some k => if okS σ k = true then some ({ (σ.sweepRun k).1 with looks := σ.looks + 1 }, (σ.sweepRun k).2) else none
    | [(link, _)] => if vl σ link = true ∧ okPool σ = true ∧ σ.cuts ≠ 0 ∧ (List.range 8).all (fun s => (σ.calls.getD s none).isNone) = true then some ({ σ.give link with cut := [] }, true) else none
    | _ => none
  else none
structure EKs (b : Nat) (w0 : World) (ks : List Kept) (σ : St) (w : World) : Prop where
  ex : ∃ A : Book, A.be = b ∧ Live A σ w ∧ Grow (fun _ => none) w0 A.L w ∧ SRep A.be A.L w (A.sv σ.sw) σ.sw ∧ CRow A σ w ∧ Kepts A.L w ks
theorem EKs.kt {b : Nat} {w0 w : World} {ks : List Kept} {σ : St} (h : EKs b w0 ks σ w) : EKt b w0 ks σ w := let ⟨A, e, l, g, _, _, t⟩ := h.ex; ⟨A, e, l, g, t⟩
theorem Swept.be {A A' : Book} (s : SOnly A A') : A'.be = A.be := by obtain ⟨⟨L, v, c, f, m, rfl⟩, _⟩ := s; rfl
theorem sweep_ks {b : Nat} {w0 w : World} {ks : List Kept} {σ σ' : St} {x : Bool} (h : EKs b w0 ks σ w) (hr : sweepOk σ = some (σ', x)) : Calls Tryz.prog 81 #[.pointer (some ⟨b, 0, none⟩)] w fun e w' => e = .returned (.bool x) ∧ EKs b w0 ks σ' w' := by
  obtain ⟨A, rfl, hL, g, hS, hC, ht⟩ := h.ex
  have fin : ∀ {τ : St} {y : Bool}, some (τ, y) = some (σ', x) → ∀ e w', Swept A w τ y e w' → e = .returned (.bool x) ∧ EKs A.be w0 ks σ' w' := by
    intro τ y he e w' ⟨h1, A', s1, s2, s3, s4, s5⟩
    simp only [Option.some.injEq, Prod.mk.injEq] at he
    obtain ⟨rfl, rfl⟩ := he
    exact ⟨h1, A', Swept.be s1, s2, g.trans s3, s4, s5, Kepts.grow s3 ht⟩
  unfold sweepOk at hr
  split at hr
  · rename_i hb
    obtain ⟨hb1, hb2⟩ := hb
    split at hr
    · rename_i hcut
      split at hr
      · rename_i hsw
        split at hr
        · rename_i hok
          exact (sweep_none hL hsw hC hcut hb1 hb2 hok).mono (fin hr)
        · cases hr
      · rename_i k hsw
        split at hr
        · rename_i hok
          exact (sweep_some hL k hsw hS hC hcut hb1 hb2 hok).mono (fin hr)
        · cases hr
    · rename_i link seq hcut
      split at hr
      · rename_i hh
        obtain ⟨h1, h2, h3, h4⟩ := hh
        obtain ⟨n, hn⟩ : ∃ n, σ.cuts = n + 1 := ⟨σ.cuts - 1, by omega⟩
        have hg := sweep_give hL hS hC link seq n (vl_iff h1) (okPool_iff hL.rep.nt h2) hcut hn (fun s hs => by
          rw [List.all_eq_true] at h4
          simpa using h4 s (List.mem_range.2 hs)) hb1 hb2
        have e9 : (σ.give link).cuts = n + 1 := by
          rw [← hn]
          unfold St.give
          dsimp only
          split
          · split <;> rfl
          · rfl
        rw [show ({ σ.give link with cut := [], cuts := n + 1 } : St) = { σ.give link with cut := [] } by rw [← e9]] at hg
        exact hg.mono (fin hr)
      · cases hr
    · cases hr
  · cases hr
/-- f: how many sweeps at most; still: how many turned nothing. -/
def collN : Nat → Nat → St → Option St
  | 0, _, σ => some σ
  | f + 1, still, σ => if still < 6400 then match sweepOk σ with | some (σ', x) => collN f (if x then 0 else still + 1) σ' | none => none else some σ
theorem used_sw {b : Nat} {w0 w : World} {ks : List Kept} {σ : St} (h : EKt b w0 ks σ w) (hsw : σ.sw = none) (hcut : σ.cut = []) : EKs b w0 ks σ w := by
  obtain ⟨A, rfl, hL, g, t⟩ := h.ex
  exact ⟨A, rfl, hL, g, by rw [hsw]; rfl, .inl hcut, t⟩
def usedOk (σ : St) : Bool := decide (σ.free.length < 100000) && decide (σ.list.free.length + σ.worn ≤ σ.slots)
theorem collect_kt {b : Nat} {w0 w : World} {ks : List Kept} {σ σ' : St} (h : EKt b w0 ks σ w) (hsw : σ.list.sw = none) (hcut : σ.list.cut = []) (hu : usedOk σ = true) (hr : collN 100000 0 σ.list = some σ') (hu' : usedOk σ' = true) (hle : σ'.used ≤ σ.used) (hbd : σ.used < 100000) :
    Calls Tryz.prog 47 #[.pointer (some ⟨b, 0, none⟩)] w fun e w' => e = .returned (.int .i64 ((σ.used - σ'.used : Nat) : Int)) ∧ EKt b w0 ks σ'.list w' := by
  obtain ⟨u1, u2⟩ := and_ok hu
  obtain ⟨v1, v2⟩ := and_ok hu'
  have N1 := Lib.hid (used_kt h (of_decide_eq_true u1) (of_decide_eq_true u2))
  have N2 : Hid (∀ w1, EKt b w0 ks σ' w1 → Calls Tryz.prog 28 #[.pointer (some ⟨b, 0, none⟩)] w1 (EV b w0 ks σ'.list (.int .i64 (σ'.used : Int)))) := fun w1 q => used_kt q (of_decide_eq_true v1) (of_decide_eq_true v2)
  have HR := Lib.hid hr
  have HSC := Lib.hid (And.intro hsw hcut)
  have n1 : IntKind.i64.wrap ((σ.used : Int) - (σ'.used : Int)) = ((σ.used - σ'.used : Nat) : Int) := by rw [IntKind.wrap_i64]; omega
  have n0 : wrap64 ((σ.used : Int) - (σ'.used : Int)) = ((σ.used - σ'.used : Nat) : Int) := by unfold wrap64; omega
  clear hsw hcut hu hu' hle hbd u1 u2 v1 v2 hr h
  generalize ((σ.used - σ'.used : Nat) : Int) = dz at *
  generalize (σ.used : Int) = z1 at *
  generalize (σ'.used : Int) = z2 at *
  go_enter Tryz.func47, Tryz.ntmps47
  go_upto_region 4 with (go_at_call 28; refine N1.out.mono ?_; rintro e w1 ⟨rfl, q⟩; have T1 := Lib.hid (used_sw q HSC.out.1 HSC.out.2); clear q)
  go_loopw [4, 5] (fun st i wr => ∃ (k still f : Nat) (σk : St), st = .int .i64 (still : Int) ∧ i = .int .i64 (k : Int) ∧ k + f = 100000 ∧ still ≤ 6400 ∧ collN f still σk = some σ' ∧ EKs b w0 ks σk wr) (fun _ i _ => 100000 - (intOf i).toNat)
  case atStart => exact ⟨0, 0, 100000, σ.list, rfl, rfl, rfl, Nat.zero_le _, HR.out, T1.out⟩
  case round =>
    clear HR HSC T1 N1
    obtain ⟨k, still, f, σk, rfl, rfl, hkf, hst, hrun, hks⟩ := hrel
    by_cases hend : k < 100000 ∧ still < 6400
    · obtain ⟨hk, hs⟩ := hend
      obtain ⟨f, rfl⟩ : ∃ g, f = g + 1 := ⟨f - 1, by omega⟩
      unfold collN at hrun
      rw [if_pos hs] at hrun
      split at hrun
      · rename_i σ2 x hsw
        have HW : Hid (Calls Tryz.prog 81 #[.pointer (some ⟨b, 0, none⟩)] wr fun e w' => e = .returned (.bool x) ∧ EKs b w0 ks σ2 w') := sweep_ks hks hsw
        have b1 : (k : Int) < 100000 := by omega
        have b2 : (still : Int) < 6400 := by omega
        have m1 : IntKind.i64.wrap ((still : Int) + 1) = (still : Int) + 1 := by rw [IntKind.wrap_i64]; omega
        have m2 : IntKind.i64.wrap ((k : Int) + 1) = (k : Int) + 1 := by rw [IntKind.wrap_i64]; omega
        have HX := Lib.hid (And.intro hkf (And.intro hk (And.intro hs hrun)))
        clear hkf hk hs hrun hsw hks hst
        cases x with
        | true =>
          go_wp2_with (go_at_call 81; refine HW.out.mono ?_; rintro e w2 ⟨rfl, q⟩; have T2 := Lib.hid q; clear q)
          go_roundw
          case rel => exact ⟨k + 1, 0, f, σ2, rfl, rfl, by have := HX.out.1; omega, by omega, HX.out.2.2.2, T2.out⟩
          case measure => have := HX.out.2.1; simp [intOf]; omega
        | false =>
          go_wp2_with (go_at_call 81; refine HW.out.mono ?_; rintro e w2 ⟨rfl, q⟩; have T2 := Lib.hid q; clear q)
          go_roundw
          case rel => exact ⟨k + 1, still + 1, f, σ2, rfl, rfl, by have := HX.out.1; omega, by have := HX.out.2.2.1; omega, HX.out.2.2.2, T2.out⟩
          case measure => have := HX.out.2.1; simp [intOf]; omega
      · cases hrun
    · have he : collN f still σk = some σk := by
        cases f with
        | zero => rfl
        | succ f => unfold collN; rw [if_neg (by omega)]
      rw [he] at hrun
      obtain rfl := Option.some.inj hrun
      have T1 := Lib.hid hks.kt
      have hd : (((k : Int) < 100000) = False ∧ decide ((k : Int) < 100000) = false) ∨ (((k : Int) < 100000) = True ∧ decide ((k : Int) < 100000) = true ∧ ((still : Int) < 6400) = False ∧ decide ((still : Int) < 6400) = false) := by
        by_cases hk : k < 100000
        · exact .inr ⟨by simp; omega, by simp; omega, by simp; omega, by simp; omega⟩
        · exact .inl ⟨by simp; omega, by simp; omega⟩
      clear he hend hkf hst hrun hks
      rcases hd with ⟨d1, d2⟩ | ⟨d1, d2, d3, d4⟩
      all_goals (
        go_wp2_with (go_at_call 28; refine (N2.out _ T1.out).mono ?_; rintro e w1 ⟨rfl, q⟩; have T2 := Lib.hid q; clear q T1)
        go_ret
        exact ⟨rfl, T2.out⟩
      )
/-- Sweeps that turn nothing. -/
def quietN : Nat → St → Option St
  | 0, σ => some σ
  | n + 1, σ => match sweepOk σ with | some (σ', x) => if x then none else quietN n σ' | none => none
def shift (n : Nat) (σ : St) : St := { σ with count := σ.count + n, looks := σ.looks + n }
theorem shift_add (m n : Nat) (σ : St) : shift m (shift n σ) = shift (n + m) σ := by unfold shift; simp [Nat.add_assoc]
theorem shift_ok (n : Nat) (σ : St) (k : S) : okS (shift n σ) k = okS σ k := by cases k <;> rfl
theorem shift_run (n : Nat) (σ : St) (k : S) : (shift n σ).sweepRun k = (shift n (σ.sweepRun k).1 |> fun τ => { τ with looks := (σ.sweepRun k).1.looks + n }, (σ.sweepRun k).2) := by
  have e : σ.count + n + 1 = σ.count + 1 + n := by omega
  cases k <;> simp only [St.sweepRun, shift, St.tick, St.put, St.word, St.place, e] <;> (repeat' split) <;> first | rfl | simp_all
theorem shift_sweep (n : Nat) (σ σ' : St) (x : Bool) (hx : x = false) (h : sweepOk σ = some (σ', x)) (hb : (shift n σ).count < 3000000000000000000 ∧ (shift n σ).looks < 1000000000000000000) : sweepOk (shift n σ) = some (shift n σ', x) := by
  unfold sweepOk at h ⊢
  rw [if_pos hb]
  split at h
  · show (match σ.cut with
      | [] => match σ.sw with
        | none => if okS (shift n σ) .now = true then some ({ ((shift n σ).sweepRun .now).1 with looks := (shift n σ).looks + 1 }, ((shift n σ).sweepRun .now).2) else none
        | some k => if okS (shift n σ) k = true then some ({ ((shift n σ).sweepRun k).1 with looks := (shift n σ).looks + 1 }, ((shift n σ).sweepRun k).2) else none
      | [(link, _)] => if vl (shift n σ) link = true ∧ okPool (shift n σ) = true ∧ (shift n σ).cuts ≠ 0 ∧ (List.range 8).all (fun s => ((shift n σ).calls.getD s none).isNone) = true then some ({ (shift n σ).give link with cut := [] }, true) else none
      | _ => none) = _
    have key : ∀ k, (if okS σ k = true then some ({ (σ.sweepRun k).1 with looks := σ.looks + 1 }, (σ.sweepRun k).2) else none) = some (σ', x) → (if okS (shift n σ) k = true then some ({ ((shift n σ).sweepRun k).1 with looks := (shift n σ).looks + 1 }, ((shift n σ).sweepRun k).2) else none) = some (shift n σ', x) := by
      intro k hk
      rw [shift_ok]
      split at hk
      · rename_i hok
        rw [if_pos hok, shift_run]
        simp only [Option.some.injEq, Prod.mk.injEq] at hk ⊢
        obtain ⟨rfl, rfl⟩ := hk
        refine ⟨?_, rfl⟩
        unfold shift
        simp
        omega
      · cases hk
    cases hc : σ.cut with
    | nil =>
      rw [hc] at h
      cases hs : σ.sw with
      | none => rw [hs] at h; exact key _ h
      | some k => rw [hs] at h; exact key _ h
    | cons a l =>
      rw [hc] at h
      cases l with
      | nil =>
        obtain ⟨link, seq⟩ := a
        simp only at h
        split at h
        · simp only [Option.some.injEq, Prod.mk.injEq] at h
          rw [hx] at h
          cases h.2
        · cases h
      | cons b l => cases h
  · cases h
end Go.Proofs.YtbefcdjcefmicaaGreat.Em

namespace Go.Proofs.YtbefcdjcefmicaaGreat.Em
open Go.ChangeShapes Go.WideShapes Go.ChangeAt Go.RowKit En
set_option linter.unusedVariables false
set_option linter.unusedSimpArgs false
set_option maxRecDepth 100000
set_option maxHeartbeats 1600000

theorem collN_succ (f still : Nat) (σ : St) : collN (f + 1) still σ = if still < 6400 then (match sweepOk σ with | some (σ', x) => collN f (if x then 0 else still + 1) σ' | none => none) else some σ := rfl
theorem quietN_succ (n : Nat) (σ : St) : quietN (n + 1) σ = (match sweepOk σ with | some (σ', x) => if x then none else quietN n σ' | none => none) := rfl
theorem sweepOk_count {σ σ' : St} (h : sweepOk σ = some (σ', false)) : σ'.count = σ.count + 1 ∧ σ'.looks = σ.looks + 1 := by
  unfold sweepOk at h
  split at h
  · have key : ∀ k, (if okS σ k = true then some (({ (σ.sweepRun k).1 with looks := σ.looks + 1 } : St), (σ.sweepRun k).2) else none) = some (σ', false) → σ'.count = σ.count + 1 ∧ σ'.looks = σ.looks + 1 := by
      intro k hk
      split at hk
      · simp only [Option.some.injEq, Prod.mk.injEq] at hk
        obtain ⟨rfl, _⟩ := hk
        exact ⟨(sweepRun_keeps σ k).2.1, rfl⟩
      · cases hk
    split at h
    · split at h
      · exact key _ h
      · exact key _ h
    · split at h
      · simp only [Option.some.injEq, Prod.mk.injEq] at h
        cases h.2
      · cases h
    · cases h
  · cases h
theorem collN_quiet : ∀ (n f still : Nat) (σ σ' : St), quietN n σ = some σ' → still + n ≤ 6400 → collN (n + f) still σ = collN f (still + n) σ'
  | 0, f, still, σ, σ', h, _ => by
    obtain rfl := Option.some.inj h
    simp
  | n + 1, f, still, σ, σ', h, hs => by
    unfold quietN at h
    split at h
    · rename_i σ2 x hsw
      cases x with
      | true => cases h
      | false =>
        rw [if_neg (by decide)] at h
        rw [show n + 1 + f = (n + f) + 1 by omega, collN_succ, if_pos (by omega), hsw]
        show collN (n + f) (still + 1) σ2 = _
        rw [collN_quiet n f (still + 1) σ2 σ' h (by omega), show still + 1 + n = still + (n + 1) by omega]
    · cases h
theorem quiet_shift (m : Nat) : ∀ (n : Nat) (σ σ' : St), quietN n σ = some σ' → σ.count + m + n < 3000000000000000000 → σ.looks + m + n < 1000000000000000000 → quietN n (shift m σ) = some (shift m σ')
  | 0, σ, σ', h, _, _ => by
    obtain rfl := Option.some.inj h
    rfl
  | n + 1, σ, σ', h, hc, hl => by
    unfold quietN at h ⊢
    split at h
    · rename_i σ2 x hsw
      cases x with
      | true => cases h
      | false =>
        rw [if_neg (by decide)] at h
        obtain ⟨e1, e2⟩ := sweepOk_count hsw
        rw [shift_sweep m σ σ2 false rfl hsw ⟨by show σ.count + m < _; omega, by show σ.looks + m < _; omega⟩]
        exact quiet_shift m n σ2 σ' h (by omega) (by omega)
    · cases h
theorem quiet_add : ∀ (m n : Nat) (σ σ1 : St), quietN m σ = some σ1 → quietN (m + n) σ = quietN n σ1
  | 0, n, σ, σ1, h => by
    obtain rfl := Option.some.inj h
    rw [Nat.zero_add]
  | m + 1, n, σ, σ1, h => by
    rw [show m + 1 + n = (m + n) + 1 by omega, quietN_succ]
    rw [quietN_succ] at h
    split at h
    · rename_i σ2 x hsw
      try rw [hsw]
      cases x with
      | true => cases h
      | false =>
        rw [if_neg (by decide)] at h
        exact quiet_add m n σ2 σ1 h
    · cases h
theorem quiet_round {p : Nat} {σ : St} (h : quietN p σ = some (shift p σ)) : ∀ q : Nat, σ.count + q * p < 3000000000000000000 → σ.looks + q * p < 1000000000000000000 → quietN (q * p) σ = some (shift (q * p) σ)
  | 0, _, _ => by rw [Nat.zero_mul]; rfl
  | q + 1, hc, hl => by
    have e : (q + 1) * p = q * p + p := by rw [Nat.add_mul, Nat.one_mul]
    rw [e] at hc hl ⊢
    rw [quiet_add _ _ _ _ (quiet_round h q (by omega) (by omega)), quiet_shift (q * p) p σ _ h (by omega) (by omega), shift_add, Nat.add_comm p]
/-- The first sweeps, with how many turned nothing since. -/
def preN : Nat → Nat → St → Option (St × Nat)
  | 0, still, σ => some (σ, still)
  | n + 1, still, σ => if still < 6400 then match sweepOk σ with | some (σ', x) => preN n (if x then 0 else still + 1) σ' | none => none else none
theorem collN_pre : ∀ (n f still : Nat) (σ : St) (σ0 : St) (s0 : Nat), preN n still σ = some (σ0, s0) → collN (n + f) still σ = collN f s0 σ0
  | 0, f, still, σ, σ0, s0, h => by
    simp only [preN, Option.some.injEq, Prod.mk.injEq] at h
    obtain ⟨rfl, rfl⟩ := h
    rw [Nat.zero_add]
  | n + 1, f, still, σ, σ0, s0, h => by
    unfold preN at h
    split at h
    · rename_i hs
      split at h
      · rename_i σ2 x hsw
        rw [show n + 1 + f = (n + f) + 1 by omega, collN_succ, if_pos hs, hsw]
        exact collN_pre n f _ σ2 σ0 s0 h
      · cases h
    · cases h
/-- Collect, reckoned: n sweeps, q rounds of p each, r more. -/
def collRun (n p q r : Nat) (σ : St) : Option St :=
  match preN n 0 σ with
  | some (σ0, s0) =>
    if s0 + q * p + r = 6400 ∧ n + q * p + r ≤ 100000 ∧ σ0.count < 1000000000000 ∧ σ0.looks < 1000000000000 then
      match quietN p σ0 with
      | some σp => if σp = shift p σ0 then match quietN r σ0 with | some σr => some (shift (q * p) σr) | none => none else none
      | none => none
    else none
  | none => none
theorem collN_still (f : Nat) (σ : St) : collN f 6400 σ = some σ := by
  cases f with
  | zero => rfl
  | succ f => unfold collN; rw [if_neg (by omega)]
theorem collRun_ok {n p q r : Nat} {σ σ' : St} (h : collRun n p q r σ = some σ') : collN 100000 0 σ = some σ' := by
  unfold collRun at h
  split at h
  · rename_i σ0 s0 hp
    split at h
    · rename_i hh
      obtain ⟨h1, h2, h3, h4⟩ := hh
      split at h
      · rename_i σp hq
        split at h
        · rename_i he
          split at h
          · rename_i σr hr
            obtain rfl := Option.some.inj h
            rw [he] at hq
            have e1 := quiet_round hq q (by omega) (by omega)
            have e2 : quietN (q * p + r) σ0 = some (shift (q * p) σr) := by
              rw [quiet_add _ _ _ _ e1]
              exact quiet_shift (q * p) r σ0 σr hr (by omega) (by omega)
            obtain ⟨g, hg⟩ : ∃ g, 100000 = n + ((q * p + r) + g) := ⟨100000 - (n + (q * p + r)), by omega⟩
            rw [hg, collN_pre n _ 0 σ σ0 s0 hp, collN_quiet _ g s0 σ0 _ e2 (by omega), show s0 + (q * p + r) = 6400 by omega]
            exact collN_still _ _
          · cases h
        · cases h
      · cases h
    · cases h
  · cases h
end Go.Proofs.YtbefcdjcefmicaaGreat.Em

namespace Go.Proofs.YtbefcdjcefmicaaGreat.Em
open Go.ChangeShapes Go.WideShapes Go.ChangeAt Go.RowKit En
set_option linter.unusedVariables false
set_option linter.unusedSimpArgs false
set_option maxRecDepth 100000
set_option maxHeartbeats 1600000

/-- Words are reckoned before one goes on: what has been laid over them is gone. -/
def force {α : Type} : List Nat → (List Nat → α) → α
  | [], k => k []
  | a :: l, k => match a with
    | 0 => force l (fun r => k (0 :: r))
    | n + 1 => force l (fun r => k ((n + 1) :: r))
theorem force_eq {α : Type} : ∀ (l : List Nat) (k : List Nat → α), force l k = k l
  | [], k => rfl
  | a :: l, k => by
    unfold force
    cases a with
    | zero => exact force_eq l _
    | succ n => exact force_eq l _
def forceW (σ : St) (k : St → Bool) : Bool := force σ.words fun ws => k { σ with words := ws }
theorem forceW_eq (σ : St) (k : St → Bool) : forceW σ k = k σ := by unfold forceW; rw [force_eq]
def resAt (rs : List Res) (i : Nat) : Res := rs.getD i {}
def fullCol (n L : Nat) (σ : St) : Bool :=
  usedOk σ && (decide (σ.list.sw = none ∧ σ.list.cut = [] ∧ σ.used = n) && thn (collRun 20 (70 + 3 * n) (6395 / (70 + 3 * n)) (6395 % (70 + 3 * n)) σ.list) fun τ => usedOk τ && (decide (τ.used + 1 = n) && thn (runWhole 1000 τ.list 0 L [⟨2, 60, 0, 1⟩]) fun u => decide (u.2.2 = 0 ∧ u.2.1.length = 2 ∧ (resAt u.2.1 1).over = 3 ∧ u.1.used = n) && usedOk u.1))
def fullEnd (n L : Nat) (σ : St) : Bool :=
  okPairs σ && thn (runWhole 1000 σ 0 L [⟨2, 60, 0, 1⟩]) fun x => decide (x.2.2 = 0 ∧ x.2.1.length = 1 ∧ (resAt x.2.1 0).over = 4 ∧ (resAt x.2.1 0).reason = 5 ∧ (resAt x.2.1 0).e = 14) && (okPairs x.1 && (decide (x.1.pairs = σ.pairs ∧ x.1.used = n ∧ (x.1.list.status 5).live = true) && (usedOk x.1 &&
    thn (issueOk x.1.list 5 ⟨6, 0, 0, 0⟩) fun σ1 => thn (runDo 1000 σ1 5) fun y => decide (y.2.2 = 0 ∧ y.2.1.over = 3) && thn (runWhole 1000 y.1 0 L [⟨4, 0, 0, 0⟩]) fun z => decide (z.2.2 = 0 ∧ z.2.1.length = 2 ∧ (resAt z.2.1 1).over = 3) && forceW z.1 (fullCol n L))))
def fullTrail (n L : Nat) : Nat → Nat → St → Bool
  | 0, _, σ => fullEnd n L σ
  | m + 1, i, σ => thn (runWhole 1000 σ 0 L [⟨2, i, 0, i⟩]) fun x => decide (x.2.2 = 0 ∧ x.2.1.length = 2 ∧ (resAt x.2.1 1).over = 3) && forceW x.1 (fullTrail n L m (i + 1))
def fullRun (n L : Nat) : Bool := thn (beginOk (new n 1000) 5 L) fun x => fullTrail n L n 0 x.1
end Go.Proofs.YtbefcdjcefmicaaGreat.Em

namespace Go.Proofs.YtbefcdjcefmicaaGreat.Em
open Go.ChangeShapes Go.WideShapes Go.ChangeAt Go.RowKit En
set_option linter.unusedVariables false
set_option linter.unusedSimpArgs false
set_option maxRecDepth 100000
set_option maxHeartbeats 1600000

theorem full_1_1 : fullRun 1 1 = true := by decide +kernel
theorem full_1_2 : fullRun 1 2 = true := by decide +kernel
theorem full_1_3 : fullRun 1 3 = true := by decide +kernel
theorem full_2_1 : fullRun 2 1 = true := by decide +kernel
theorem full_2_2 : fullRun 2 2 = true := by decide +kernel
theorem full_2_3 : fullRun 2 3 = true := by decide +kernel
theorem full_3_1 : fullRun 3 1 = true := by decide +kernel
theorem full_3_2 : fullRun 3 2 = true := by decide +kernel
theorem full_3_3 : fullRun 3 3 = true := by decide +kernel
theorem full_4_1 : fullRun 4 1 = true := by decide +kernel
theorem full_4_2 : fullRun 4 2 = true := by decide +kernel
theorem full_4_3 : fullRun 4 3 = true := by decide +kernel
theorem full_5_1 : fullRun 5 1 = true := by decide +kernel
theorem full_5_2 : fullRun 5 2 = true := by decide +kernel
theorem full_5_3 : fullRun 5 3 = true := by decide +kernel
theorem full_6_1 : fullRun 6 1 = true := by decide +kernel
theorem full_6_2 : fullRun 6 2 = true := by decide +kernel
theorem full_6_3 : fullRun 6 3 = true := by decide +kernel
theorem full_7_1 : fullRun 7 1 = true := by decide +kernel
theorem full_7_2 : fullRun 7 2 = true := by decide +kernel
theorem full_7_3 : fullRun 7 3 = true := by decide +kernel
theorem full_8_1 : fullRun 8 1 = true := by decide +kernel
theorem full_8_2 : fullRun 8 2 = true := by decide +kernel
theorem full_8_3 : fullRun 8 3 = true := by decide +kernel
theorem full_9_1 : fullRun 9 1 = true := by decide +kernel
theorem full_9_2 : fullRun 9 2 = true := by decide +kernel
theorem full_9_3 : fullRun 9 3 = true := by decide +kernel
end Go.Proofs.YtbefcdjcefmicaaGreat.Em

namespace Go.Proofs.YtbefcdjcefmicaaGreat.Em
open Go.ChangeShapes Go.WideShapes Go.ChangeAt Go.RowKit En
set_option linter.unusedVariables false
set_option linter.unusedSimpArgs false
set_option maxRecDepth 100000
set_option maxHeartbeats 1600000

theorem full_10_1 : fullRun 10 1 = true := by decide +kernel
theorem full_10_2 : fullRun 10 2 = true := by decide +kernel
theorem full_10_3 : fullRun 10 3 = true := by decide +kernel
theorem full_11_1 : fullRun 11 1 = true := by decide +kernel
theorem full_11_2 : fullRun 11 2 = true := by decide +kernel
theorem full_11_3 : fullRun 11 3 = true := by decide +kernel
theorem full_12_1 : fullRun 12 1 = true := by decide +kernel
theorem full_12_2 : fullRun 12 2 = true := by decide +kernel
theorem full_12_3 : fullRun 12 3 = true := by decide +kernel
theorem full_13_1 : fullRun 13 1 = true := by decide +kernel
theorem full_13_2 : fullRun 13 2 = true := by decide +kernel
theorem full_13_3 : fullRun 13 3 = true := by decide +kernel
end Go.Proofs.YtbefcdjcefmicaaGreat.Em

namespace Go.Proofs.YtbefcdjcefmicaaGreat.Em
open Go.ChangeShapes Go.WideShapes Go.ChangeAt Go.RowKit En
set_option linter.unusedVariables false
set_option linter.unusedSimpArgs false
set_option maxRecDepth 100000
set_option maxHeartbeats 1600000

theorem full_14_1 : fullRun 14 1 = true := by decide +kernel
theorem full_14_2 : fullRun 14 2 = true := by decide +kernel
theorem full_14_3 : fullRun 14 3 = true := by decide +kernel
theorem full_15_1 : fullRun 15 1 = true := by decide +kernel
theorem full_15_2 : fullRun 15 2 = true := by decide +kernel
theorem full_15_3 : fullRun 15 3 = true := by decide +kernel
theorem full_16_1 : fullRun 16 1 = true := by decide +kernel
theorem full_16_2 : fullRun 16 2 = true := by decide +kernel
theorem full_16_3 : fullRun 16 3 = true := by decide +kernel
end Go.Proofs.YtbefcdjcefmicaaGreat.Em

namespace Go.Proofs.YtbefcdjcefmicaaGreat.Em
open Go.ChangeShapes Go.WideShapes Go.ChangeAt Go.RowKit En
set_option linter.unusedVariables false
set_option linter.unusedSimpArgs false
set_option maxRecDepth 100000
set_option maxHeartbeats 1600000

theorem full_17_1 : fullRun 17 1 = true := by decide +kernel
theorem full_17_2 : fullRun 17 2 = true := by decide +kernel
theorem full_17_3 : fullRun 17 3 = true := by decide +kernel
theorem full_18_1 : fullRun 18 1 = true := by decide +kernel
theorem full_18_2 : fullRun 18 2 = true := by decide +kernel
theorem full_18_3 : fullRun 18 3 = true := by decide +kernel
end Go.Proofs.YtbefcdjcefmicaaGreat.Em

namespace Go.Proofs.YtbefcdjcefmicaaGreat.Em
open Go.ChangeShapes Go.WideShapes Go.ChangeAt Go.RowKit En
set_option linter.unusedVariables false
set_option linter.unusedSimpArgs false
set_option maxRecDepth 100000
set_option maxHeartbeats 1600000

theorem full_19_1 : fullRun 19 1 = true := by decide +kernel
theorem full_19_2 : fullRun 19 2 = true := by decide +kernel
theorem full_19_3 : fullRun 19 3 = true := by decide +kernel
theorem full_20_1 : fullRun 20 1 = true := by decide +kernel
theorem full_20_2 : fullRun 20 2 = true := by decide +kernel
theorem full_20_3 : fullRun 20 3 = true := by decide +kernel
end Go.Proofs.YtbefcdjcefmicaaGreat.Em

namespace Go.Proofs.YtbefcdjcefmicaaGreat.Em
open Go.ChangeShapes Go.WideShapes Go.ChangeAt Go.RowKit En
set_option linter.unusedVariables false
set_option linter.unusedSimpArgs false
set_option maxRecDepth 100000
set_option maxHeartbeats 1600000

theorem full_all (n L : Nat) (h1 : 1 ≤ n) (h2 : n ≤ 20) (h3 : 1 ≤ L) (h4 : L ≤ 3) : fullRun n L = true := by
  have hL : L = 1 ∨ L = 2 ∨ L = 3 := by omega
  have hn : n = 1 ∨ n = 2 ∨ n = 3 ∨ n = 4 ∨ n = 5 ∨ n = 6 ∨ n = 7 ∨ n = 8 ∨ n = 9 ∨ n = 10 ∨ n = 11 ∨ n = 12 ∨ n = 13 ∨ n = 14 ∨ n = 15 ∨ n = 16 ∨ n = 17 ∨ n = 18 ∨ n = 19 ∨ n = 20 := by omega
  rcases hn with rfl | rfl | rfl | rfl | rfl | rfl | rfl | rfl | rfl | rfl | rfl | rfl | rfl | rfl | rfl | rfl | rfl | rfl | rfl | rfl
  · rcases hL with rfl | rfl | rfl
    · exact full_1_1
    · exact full_1_2
    · exact full_1_3
  · rcases hL with rfl | rfl | rfl
    · exact full_2_1
    · exact full_2_2
    · exact full_2_3
  · rcases hL with rfl | rfl | rfl
    · exact full_3_1
    · exact full_3_2
    · exact full_3_3
  · rcases hL with rfl | rfl | rfl
    · exact full_4_1
    · exact full_4_2
    · exact full_4_3
  · rcases hL with rfl | rfl | rfl
    · exact full_5_1
    · exact full_5_2
    · exact full_5_3
  · rcases hL with rfl | rfl | rfl
    · exact full_6_1
    · exact full_6_2
    · exact full_6_3
  · rcases hL with rfl | rfl | rfl
    · exact full_7_1
    · exact full_7_2
    · exact full_7_3
  · rcases hL with rfl | rfl | rfl
    · exact full_8_1
    · exact full_8_2
    · exact full_8_3
  · rcases hL with rfl | rfl | rfl
    · exact full_9_1
    · exact full_9_2
    · exact full_9_3
  · rcases hL with rfl | rfl | rfl
    · exact full_10_1
    · exact full_10_2
    · exact full_10_3
  · rcases hL with rfl | rfl | rfl
    · exact full_11_1
    · exact full_11_2
    · exact full_11_3
  · rcases hL with rfl | rfl | rfl
    · exact full_12_1
    · exact full_12_2
    · exact full_12_3
  · rcases hL with rfl | rfl | rfl
    · exact full_13_1
    · exact full_13_2
    · exact full_13_3
  · rcases hL with rfl | rfl | rfl
    · exact full_14_1
    · exact full_14_2
    · exact full_14_3
  · rcases hL with rfl | rfl | rfl
    · exact full_15_1
    · exact full_15_2
    · exact full_15_3
  · rcases hL with rfl | rfl | rfl
    · exact full_16_1
    · exact full_16_2
    · exact full_16_3
  · rcases hL with rfl | rfl | rfl
    · exact full_17_1
    · exact full_17_2
    · exact full_17_3
  · rcases hL with rfl | rfl | rfl
    · exact full_18_1
    · exact full_18_2
    · exact full_18_3
  · rcases hL with rfl | rfl | rfl
    · exact full_19_1
    · exact full_19_2
    · exact full_19_3
  · rcases hL with rfl | rfl | rfl
    · exact full_20_1
    · exact full_20_2
    · exact full_20_3
end Go.Proofs.YtbefcdjcefmicaaGreat.Em

namespace Go.Proofs.YtbefcdjcefmicaaGreat.Em
open Go.ChangeShapes Go.WideShapes Go.ChangeAt Go.RowKit En
set_option linter.unusedVariables false
set_option linter.unusedSimpArgs false
set_option maxRecDepth 100000
set_option maxHeartbeats 1600000

theorem same_result (e v x y : Int) (a1 a2 : Option Addr) (n c1 c2 : Nat) (ps : List (Nat × Nat)) (w : World) (h1 : Ow.Row w 0 2 (.slice a1 n c1) (pairCs ps)) (h2 : Ow.Row w 0 2 (.slice a2 n c2) (pairCs ps)) :
    Calls Tryz.prog 24 #[.agg #[.int .i64 e, .int .i64 v, .slice a1 n c1, .int .i64 x, .int .i64 y], .agg #[.int .i64 e, .int .i64 v, .slice a2 n c2, .int .i64 x, .int .i64 y]] w fun e w' => e = .returned (.bool true) ∧ Below w.heap.size w w' := by
  have H1 := Lib.hid h1
  have H2 := Lib.hid h2
  clear h1 h2
  go_enter Tryz.func24, Tryz.ntmps24
  go_wp2_with (go_at_call 46; refine (same_pairs _ _ ps _ _ _ (Row.alloc' (Row.alloc' H1.out _) _) (Row.alloc' (Row.alloc' H2.out _) _)).mono ?_; rintro e w9 ⟨rfl, q⟩; have HB := Lib.hid q; clear q)
  go_ret
  refine ⟨rfl, ?_⟩
  have hb := HB.out
  have h2 : Below w.heap.size w ((w.alloc (.cells #[.int .i64 e, .int .i64 v, .slice a1 n c1, .int .i64 x, .int .i64 y] 42)).alloc (.cells #[.int .i64 e, .int .i64 v, .slice a2 n c2, .int .i64 x, .int .i64 y] 42)) := (((Below.refl _ _).alloc (Nat.le_refl _) _)).alloc (by simp) _
  exact h2.trans (hb.mono h2.size)
end Go.Proofs.YtbefcdjcefmicaaGreat.Em

namespace Go.Proofs.YtbefcdjcefmicaaGreat.Em
open Go.ChangeShapes Go.WideShapes Go.ChangeAt Go.RowKit En
set_option linter.unusedVariables false
set_option linter.unusedSimpArgs false
set_option maxRecDepth 100000
set_option maxHeartbeats 1600000

theorem EKt.drop {b : Nat} {w0 w : World} {σ : St} {ks : List Kept} (h : EKt b w0 ks σ w) : EKt b w0 [] σ w := let ⟨A, e, l, g, _⟩ := h.ex; ⟨A, e, l, g, trivial⟩
theorem EKt.allocg {b : Nat} {w0 w : World} {σ : St} {ks : List Kept} (h : EKt b w0 ks σ w) (g : Nat) (hg : g = w.heap.size) (o : Obj) : EKt b w0 (.obj g o :: ks) σ (w.alloc o) := by
  subst hg
  exact h.alloc o
theorem row_of_obj {w : World} {g : Nat} {T : TypeId} (xs : List Value) (n size : Nat) (h : w.heap[g]? = some (.cells xs.toArray T)) (hl : xs.length = n * size) (hn : n ≤ 1000000) : Ow.Row w 0 size (.slice (some ⟨g, 0, none⟩) n n) xs := by
  refine ⟨_, n, n, rfl, hl, Nat.le_refl _, by unfold maxLen; omega, .inr ⟨g, 0, rfl, Nat.zero_le _, lt_of h, fun j hj => ?_⟩⟩
  rw [Nat.zero_add]
  have hj' : j < xs.length := by omega
  rw [List.getElem?_eq_getElem hj']
  simp [World.cell?, h, hj']
theorem row_nil (w : World) (size : Nat) : Ow.Row w 0 size (.slice none 0 0) [] := ⟨none, 0, 0, rfl, by simp, Nat.le_refl _, by unfold maxLen; omega, .inl rfl⟩
/-- The engine lies at a block, and a variable of a law's own at another. -/
structure ETm (b : Nat) (w0 : World) (g : Nat) (o : Obj) (σ : St) (w : World) : Prop where
  ex : ∃ A : Book, A.be = b ∧ Live A σ w ∧ Grow (fun _ => none) w0 A.L w ∧ A.L g = some .tmp ∧ w.heap[g]? = some o ∧ w0.heap.size ≤ g
theorem EKt.tm {b : Nat} {w0 w : World} {σ : St} {ks : List Kept} (h : EKt b w0 ks σ w) (o : Obj) : ETm b w0 w.heap.size o σ (w.alloc o) := by
  obtain ⟨A, e, l, g, _⟩ := h.ex
  obtain ⟨_, g1, t1, t2⟩ := l.rep.newTmp o
  exact ⟨A.tmp w.heap.size, e, l.newTmp o, g.trans g1, t1, t2, g.size⟩
theorem ETm.below {b : Nat} {w0 w w' : World} {g : Nat} {o : Obj} {σ : St} (h : ETm b w0 g o σ w) (hb : Below w.heap.size w w') : ETm b w0 g o σ w' := by
  obtain ⟨A, e, l, gr, t1, t2, t3⟩ := h.ex
  exact ⟨A, e, l.below hb, gr.trans (Grow.below hb), t1, (hb.block g (lt_of t2)).trans t2, t3⟩
theorem ETm.alloc {b : Nat} {w0 w : World} {g : Nat} {o : Obj} {σ : St} (h : ETm b w0 g o σ w) (o' : Obj) : ETm b w0 g o σ (w.alloc o') := h.below ((Below.refl _ w).alloc (Nat.le_refl _) o')
theorem ETm.obj {b : Nat} {w0 w : World} {g : Nat} {o : Obj} {σ : St} (h : ETm b w0 g o σ w) : w.heap[g]? = some o := let ⟨_, _, _, _, _, t, _⟩ := h.ex; t
theorem ETm.at {b : Nat} {w0 w : World} {g : Nat} {o : Obj} {σ : St} (h : ETm b w0 g o σ w) : EAt b w0 σ w := let ⟨A, e, l, gr, _⟩ := h.ex; ⟨A, e, l, gr⟩
theorem ETm.put {b : Nat} {w0 w w' : World} {g : Nat} {o o' : Obj} {σ : St} (h : ETm b w0 g o σ w) (hb : But g w w') (ho : w'.heap[g]? = some o') : ETm b w0 g o' σ w' := by
  obtain ⟨A, e, l, gr, t1, t2, t3⟩ := h.ex
  exact ⟨A, e, l.but t1 hb, gr.but t3 hb, t1, ho, t3⟩
theorem stLive_tm {b : Nat} {w0 w : World} {g : Nat} {o : Obj} {σ : St} (h : ETm b w0 g o σ w) (s : Nat) (hs : s < 8) :
    Calls Tryz.prog 18 #[.pointer (some ⟨b, 0, none⟩), .int .i64 (s : Int)] w fun e w' => ∃ y1 y2 y3 y4 y5 y6 y7 y8, e = .returned (.agg #[.bool (σ.status s).live, y1, y2, y3, y4, y5, y6, y7, y8]) ∧ ETm b w0 g o σ w' := by
  obtain ⟨A, rfl, hL, gr, t1, t2, t3⟩ := h.ex
  refine (status_any hL s hs).mono ?_
  rintro e w' ⟨rfl, hb⟩
  exact ⟨_, _, _, _, _, _, _, _, rfl, ETm.below ⟨A, rfl, hL, gr, t1, t2, t3⟩ hb⟩
theorem step_tm {b : Nat} {w0 w : World} {g : Nat} {o : Obj} {σ σ1 : St} (h : ETm b w0 g o σ w) {s kd : Nat} {r : Res} (hs : s < 8) (hr : oneStep σ s = some (σ1, kd, r)) :
    Calls Tryz.prog 19 #[.pointer (some ⟨b, 0, none⟩), .int .i64 (s : Int)] w fun e w' => ∃ va vn vc, e = .returned (.tuple #[.agg #[.int .i64 (kd : Int), .int .i64 (r.e : Int), .int .i64 (r.value : Int), .slice va vn vc, .int .i64 (r.over : Int), .int .i64 (r.reason : Int)], .int .i64 0]) ∧ ETm b w0 g o σ1 w' := by
  obtain ⟨A, rfl, hL, gr, t1, t2, t3⟩ := h.ex
  refine (step_calls hL hs hr).mono ?_
  rintro e w' ⟨A', vp, rfl, hf, hL', g', e'⟩
  obtain ⟨va, vn, vc, rfl⟩ := frow_form hf
  obtain ⟨t4, t5⟩ := tmp_grow ⟨t1, t2⟩ g'
  exact ⟨va, vn, vc, rfl, A', e', hL', gr.trans g', t4, t5, t3⟩
theorem pairs_tm {b : Nat} {w0 w : World} {g : Nat} {o : Obj} {σ : St} (h : ETm b w0 g o σ w) (hok : okPairs σ = true) :
    Calls Tryz.prog 32 #[.pointer (some ⟨b, 0, none⟩)] w fun e w' => ∃ av cap, e = .returned (.slice av σ.pairs.length cap) ∧ Ow.Row w' 0 2 (.slice av σ.pairs.length cap) (pairCs σ.pairs) ∧ ETm b w0 g o σ w' := by
  obtain ⟨A, rfl, hL, gr, t1, t2, t3⟩ := h.ex
  refine (pairs_any hL.rep hok).mono ?_
  rintro e w' ⟨av, cap, rfl, ho, hb⟩
  obtain ⟨a, n, c, k1, k2, k3, k4, k5⟩ := own_row ho
  refine ⟨av, cap, rfl, ⟨a, n, c, k1, k2, k3, k4, ?_⟩, ETm.below ⟨A, rfl, hL, gr, t1, t2, t3⟩ hb⟩
  rcases k5 with k5 | ⟨g', off, e1, e2, e3⟩
  · exact .inl k5
  · exact .inr ⟨g', off, e1, Nat.zero_le _, e3⟩
end Go.Proofs.YtbefcdjcefmicaaGreat.Em
