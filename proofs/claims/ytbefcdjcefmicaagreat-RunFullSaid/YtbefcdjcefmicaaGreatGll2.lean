/- Texts of this claim, laid together: Swe, Swd, Swb, Swj, Swk, Swh, Swi. -/
import Derived.Test.YtbefcdjcefmicaaGreatGll1
import Derived.Test.YtbefcdjcefmicaaGreatBase11
import Derived.Test.YtbefcdjcefmicaaGreatBase5
import Derived.StillTailTactics
import Derived.Defers
import Derived.Test.YtbefcdjcefmicaaGreatBase8
import Derived.Test.YtbefcdjcefmicaaGreatBase19
import Derived.Deep.QuietTactic
import Derived.BigQuiet
import Derived.Deep.RegionHeld3
import Derived.Deep.Cut
namespace Go.Proofs.YtbefcdjcefmicaaGreat.Em
open Go.ChangeShapes Go.WideShapes Go.ChangeAt Go.RowKit En
set_option linter.unusedVariables false
set_option linter.unusedSimpArgs false
set_option maxRecDepth 100000
set_option maxHeartbeats 1600000

theorem k_garbage_y {A : Book} {σ : St} {w : World} (hR : Rep A σ w) (key ahead link b : Nat) (hv : VL σ link) (hw : σ.word (wslot link 1) < 18446744073709551616) (hg : garbage (σ.word (wslot link 1)) σ.low = true) (hcnt : σ.count < 4000000000000000000) (b0 : Nat) (b1 : Nat) (b2 : Nat) (b3 : Nat) (b4 : Nat) (B0 : Box A.L w b0 (.int .u64 (b : Int))) (B1 : Box A.L w b1 (.pointer (some ⟨A.be, 0, none⟩))) (B2 : Box A.L w b2 (.int .u64 (link : Int))) (B3 : Box A.L w b3 (.int .i64 (key : Int))) (B4 : Box A.L w b4 (.int .u64 (ahead : Int))) :
    Calls Tryz.prog 207 #[.pointer (some ⟨b0, 0, none⟩), .pointer (some ⟨b1, 0, none⟩), .pointer (some ⟨b2, 0, none⟩), .pointer (some ⟨b3, 0, none⟩), .pointer (some ⟨b4, 0, none⟩)] w (SRan A σ w (σ.sweepRun (.garbage key ahead link b))) := by
  have c0 := B0.cell
  have c1 := B1.cell
  have c2 := B2.cell
  have c3 := B3.cell
  have c4 := B4.cell
  have e2 : w.cell? ⟨A.be, 2, none⟩ = some (.pointer (some ⟨A.ba, 0, none⟩)) := hR.eng 2 rfl
  have e3 : w.cell? ⟨A.be, 26, none⟩ = some (.int .u64 (σ.low : Int)) := hR.eng 26 rfl
  have hsl := hR.sl
  have HS := Lib.hid (slot_at link 1 1 rfl hv.lo (by have := hv.hi; omega) hv.u (by omega))
  have HGA := Lib.hid (garb_any b (σ.word (wslot link 1)) σ.low hw)
  have HL : Hid (∀ w', Rep A σ w' → Calls Tryz.prog 73 #[.pointer (some ⟨A.ba, 0, none⟩), .int .i64 (((wslot link 1 : Nat) : Int))] w' (Did A w' σ.tick (.int .u64 (σ.word (wslot link 1) : Int)))) := fun w' r => load_i r (wslot link 1) (((wslot link 1 : Nat) : Int)) rfl (wslot_lt r hv.lo hv.hi (by omega)) hcnt
  have HRd : Hid (Rep A σ w.drew) := hR.drew
  have HKK : Hid (∀ w', Rep A σ.tick w' → Grow A.L w A.L w' → w'.cell? ⟨b0, 0, none⟩ = some (.int .u64 (b : Int)) ∧ w'.cell? ⟨b1, 0, none⟩ = some (.pointer (some ⟨A.be, 0, none⟩)) ∧ w'.cell? ⟨b2, 0, none⟩ = some (.int .u64 (link : Int)) ∧ w'.cell? ⟨b3, 0, none⟩ = some (.int .i64 (key : Int)) ∧ w'.cell? ⟨b4, 0, none⟩ = some (.int .u64 (ahead : Int)) ∧ w'.cell? ⟨A.be, 2, none⟩ = some (.pointer (some ⟨A.ba, 0, none⟩)) ∧ w'.cell? ⟨A.be, 26, none⟩ = some (.int .u64 (σ.low : Int))) := fun w' r g => ⟨(B0.grow g).cell, (B1.grow g).cell, (B2.grow g).cell, (B3.grow g).cell, (B4.grow g).cell, r.eng 2 rfl, r.eng 26 rfl⟩
  have HKS : Hid (∀ w' x, Rep A σ.tick w' → Grow A.L w A.L w' → (w'.setCell ⟨A.be, 25, none⟩ x).cell? ⟨b0, 0, none⟩ = some (.int .u64 (b : Int)) ∧ (w'.setCell ⟨A.be, 25, none⟩ x).cell? ⟨b1, 0, none⟩ = some (.pointer (some ⟨A.be, 0, none⟩)) ∧ (w'.setCell ⟨A.be, 25, none⟩ x).cell? ⟨b2, 0, none⟩ = some (.int .u64 (link : Int)) ∧ (w'.setCell ⟨A.be, 25, none⟩ x).cell? ⟨b3, 0, none⟩ = some (.int .i64 (key : Int)) ∧ (w'.setCell ⟨A.be, 25, none⟩ x).cell? ⟨b4, 0, none⟩ = some (.int .u64 (ahead : Int)) ∧ (w'.setCell ⟨A.be, 25, none⟩ x).cell? ⟨A.be, 2, none⟩ = some (.pointer (some ⟨A.ba, 0, none⟩)) ∧ (w'.setCell ⟨A.be, 25, none⟩ x).cell? ⟨A.be, 26, none⟩ = some (.int .u64 (σ.low : Int))) := fun w' x r g => let ⟨r', g'⟩ := r.sweepSet x .now; ⟨(B0.grow (g.trans g')).cell, (B1.grow (g.trans g')).cell, (B2.grow (g.trans g')).cell, (B3.grow (g.trans g')).cell, (B4.grow (g.trans g')).cell, r'.eng 2 rfl, r'.eng 26 rfl⟩
  have HM : Hid (∀ w', Rep A σ.tick w' → Calls Tryz.prog 205 #[.pointer (some ⟨A.be, 0, none⟩), .int .i64 (key : Int), .int .u64 (ahead : Int), .int .u64 (link : Int)] w' (STells A σ.tick w' (some (.unlink key ahead link)))) := fun w' r => sunlink_any r key ahead link
  have HG : Hid (Grow A.L w A.L w.drew) := Grow.drew _ _
  clear hR hcnt B0 B1 B2 B3 B4
  have HRES : σ.sweepRun (.garbage key ahead link b) = ({ σ.tick with sw := some (.unlink key ahead link) }, false) := by simp only [St.sweepRun, St.tick, hg]; rfl
  rw [HRES]
  rw [hg] at HGA
  clear hv hw hg hsl
  generalize (σ.word (wslot link 1) : Int) = hd at *
  generalize ((wslot link 1 : Nat) : Int) = ix at *
  have HLB : Hid (∀ w' w9, Rep A σ.tick w' → Below w'.heap.size w' w9 → Rep A σ.tick w9 ∧ Grow A.L w' A.L w9) := fun w' w9 r h => ⟨r.below h, Grow.below h⟩
  go_enter Tryz.func207, Tryz.ntmps207
  go_wp2_with fail
  go_region_held3 (fun w' => w'.cell? ⟨b0, 0, none⟩ = some (.int .u64 (b : Int)) ∧ w'.cell? ⟨b1, 0, none⟩ = some (.pointer (some ⟨A.be, 0, none⟩)) ∧ w'.cell? ⟨b2, 0, none⟩ = some (.int .u64 (link : Int)) ∧ w'.cell? ⟨b3, 0, none⟩ = some (.int .i64 (key : Int)) ∧ w'.cell? ⟨b4, 0, none⟩ = some (.int .u64 (ahead : Int)) ∧ w'.cell? ⟨A.be, 2, none⟩ = some (.pointer (some ⟨A.ba, 0, none⟩)) ∧ w'.cell? ⟨A.be, 26, none⟩ = some (.int .u64 (σ.low : Int)))
    (first | exact ⟨c0, c1, c2, c3, c4, e2, e3⟩ | assumption | go_keep | exact HKK.out _ (by assumption) (by assumption))
    (first | (go_at_call 62; refine (HS.out _).mono ?_; rintro e w9 ⟨rfl, rfl⟩) | (go_at_call 73; refine (HL.out _ HRd.out).mono ?_; rintro e w1 ⟨rfl, q1, q2⟩; have q4 := HG.out.trans q2; clear q2) | (go_at_call 208; refine (HGA.out _).mono ?_; rintro e w5 ⟨rfl, hb⟩; obtain ⟨q5, q6⟩ := HLB.out _ _ (by assumption) hb; have q7 := (‹Grow A.L w A.L _›).trans q6; clear q6 hb))
  obtain ⟨d0, d1, d2, d3, d4, d9, d10⟩ := HKK.out _ q5 q7
  have HQ1 := Lib.hid q5.drew
  have HG1 := Lib.hid (q7.trans (Grow.drew _ _))
  go_wp2_with fail
  go_region_held3 (fun w' => w'.cell? ⟨b0, 0, none⟩ = some (.int .u64 (b : Int)) ∧ w'.cell? ⟨b1, 0, none⟩ = some (.pointer (some ⟨A.be, 0, none⟩)) ∧ w'.cell? ⟨b2, 0, none⟩ = some (.int .u64 (link : Int)) ∧ w'.cell? ⟨b3, 0, none⟩ = some (.int .i64 (key : Int)) ∧ w'.cell? ⟨b4, 0, none⟩ = some (.int .u64 (ahead : Int)) ∧ w'.cell? ⟨A.be, 2, none⟩ = some (.pointer (some ⟨A.ba, 0, none⟩)) ∧ w'.cell? ⟨A.be, 26, none⟩ = some (.int .u64 (σ.low : Int)))
    (first | exact ⟨d0, d1, d2, d3, d4, d9, d10⟩ | assumption | go_keep | exact HKK.out _ (by assumption) (by assumption) | exact HKS.out _ _ (by assumption) (by assumption))
    (first | (go_at_call 205; refine (HM.out _ HQ1.out).mono ?_; rintro e w2 ⟨v, rfl, p1, p2, p3⟩; obtain ⟨fv, fb, fc, e3⟩ := SRep.form p3; subst e3; obtain ⟨vo, y25⟩ : ∃ vo, w2.cell? ⟨A.be, 25, none⟩ = some vo := ⟨_, p1.eng 25 (v := A.sv σ.tick.sw) rfl⟩; have z25 := p1.engF 25; have q5 := HG1.out.trans p2; have HP := Lib.hid p3; clear p2 p3))
  go_wp2_with fail
  go_ret
  obtain ⟨A', a1, a2, a3, a4, a5⟩ := p1.sweepPut _ _ HP.out
  exact ⟨rfl, A', a1, a3, q5.trans a4, a5, fun hc => hc.keep a2 rfl (q5.trans a4)⟩
theorem k_garbage_n {A : Book} {σ : St} {w : World} (hR : Rep A σ w) (key ahead link b : Nat) (hv : VL σ link) (hw : σ.word (wslot link 1) < 18446744073709551616) (hg : garbage (σ.word (wslot link 1)) σ.low = false) (hcnt : σ.count < 4000000000000000000) (b0 : Nat) (b1 : Nat) (b2 : Nat) (b3 : Nat) (b4 : Nat) (B0 : Box A.L w b0 (.int .u64 (b : Int))) (B1 : Box A.L w b1 (.pointer (some ⟨A.be, 0, none⟩))) (B2 : Box A.L w b2 (.int .u64 (link : Int))) (B3 : Box A.L w b3 (.int .i64 (key : Int))) (B4 : Box A.L w b4 (.int .u64 (ahead : Int))) :
    Calls Tryz.prog 207 #[.pointer (some ⟨b0, 0, none⟩), .pointer (some ⟨b1, 0, none⟩), .pointer (some ⟨b2, 0, none⟩), .pointer (some ⟨b3, 0, none⟩), .pointer (some ⟨b4, 0, none⟩)] w (SRan A σ w (σ.sweepRun (.garbage key ahead link b))) := by
  have c0 := B0.cell
  have c1 := B1.cell
  have c2 := B2.cell
  have c3 := B3.cell
  have c4 := B4.cell
  have e2 : w.cell? ⟨A.be, 2, none⟩ = some (.pointer (some ⟨A.ba, 0, none⟩)) := hR.eng 2 rfl
  have e3 : w.cell? ⟨A.be, 26, none⟩ = some (.int .u64 (σ.low : Int)) := hR.eng 26 rfl
  have hsl := hR.sl
  have HS := Lib.hid (slot_at link 1 1 rfl hv.lo (by have := hv.hi; omega) hv.u (by omega))
  have HGA := Lib.hid (garb_any b (σ.word (wslot link 1)) σ.low hw)
  have HL : Hid (∀ w', Rep A σ w' → Calls Tryz.prog 73 #[.pointer (some ⟨A.ba, 0, none⟩), .int .i64 (((wslot link 1 : Nat) : Int))] w' (Did A w' σ.tick (.int .u64 (σ.word (wslot link 1) : Int)))) := fun w' r => load_i r (wslot link 1) (((wslot link 1 : Nat) : Int)) rfl (wslot_lt r hv.lo hv.hi (by omega)) hcnt
  have HRd : Hid (Rep A σ w.drew) := hR.drew
  have HKK : Hid (∀ w', Rep A σ.tick w' → Grow A.L w A.L w' → w'.cell? ⟨b0, 0, none⟩ = some (.int .u64 (b : Int)) ∧ w'.cell? ⟨b1, 0, none⟩ = some (.pointer (some ⟨A.be, 0, none⟩)) ∧ w'.cell? ⟨b2, 0, none⟩ = some (.int .u64 (link : Int)) ∧ w'.cell? ⟨b3, 0, none⟩ = some (.int .i64 (key : Int)) ∧ w'.cell? ⟨b4, 0, none⟩ = some (.int .u64 (ahead : Int)) ∧ w'.cell? ⟨A.be, 2, none⟩ = some (.pointer (some ⟨A.ba, 0, none⟩)) ∧ w'.cell? ⟨A.be, 26, none⟩ = some (.int .u64 (σ.low : Int))) := fun w' r g => ⟨(B0.grow g).cell, (B1.grow g).cell, (B2.grow g).cell, (B3.grow g).cell, (B4.grow g).cell, r.eng 2 rfl, r.eng 26 rfl⟩
  have HKS : Hid (∀ w' x, Rep A σ.tick w' → Grow A.L w A.L w' → (w'.setCell ⟨A.be, 25, none⟩ x).cell? ⟨b0, 0, none⟩ = some (.int .u64 (b : Int)) ∧ (w'.setCell ⟨A.be, 25, none⟩ x).cell? ⟨b1, 0, none⟩ = some (.pointer (some ⟨A.be, 0, none⟩)) ∧ (w'.setCell ⟨A.be, 25, none⟩ x).cell? ⟨b2, 0, none⟩ = some (.int .u64 (link : Int)) ∧ (w'.setCell ⟨A.be, 25, none⟩ x).cell? ⟨b3, 0, none⟩ = some (.int .i64 (key : Int)) ∧ (w'.setCell ⟨A.be, 25, none⟩ x).cell? ⟨b4, 0, none⟩ = some (.int .u64 (ahead : Int)) ∧ (w'.setCell ⟨A.be, 25, none⟩ x).cell? ⟨A.be, 2, none⟩ = some (.pointer (some ⟨A.ba, 0, none⟩)) ∧ (w'.setCell ⟨A.be, 25, none⟩ x).cell? ⟨A.be, 26, none⟩ = some (.int .u64 (σ.low : Int))) := fun w' x r g => let ⟨r', g'⟩ := r.sweepSet x .now; ⟨(B0.grow (g.trans g')).cell, (B1.grow (g.trans g')).cell, (B2.grow (g.trans g')).cell, (B3.grow (g.trans g')).cell, (B4.grow (g.trans g')).cell, r'.eng 2 rfl, r'.eng 26 rfl⟩
  have HM : Hid (∀ w', Rep A σ.tick w' → Calls Tryz.prog 206 #[.pointer (some ⟨A.be, 0, none⟩), .int .i64 (key : Int), .int .u64 (link : Int)] w' (STells A σ.tick w' (some (.on key link)))) := fun w' r => son_any r key link
  have HG : Hid (Grow A.L w A.L w.drew) := Grow.drew _ _
  clear hR hcnt B0 B1 B2 B3 B4
  have HRES : σ.sweepRun (.garbage key ahead link b) = ({ σ.tick with sw := some (.on key link) }, false) := by simp only [St.sweepRun, St.tick, hg]; rfl
  rw [HRES]
  rw [hg] at HGA
  clear hv hw hg hsl
  generalize (σ.word (wslot link 1) : Int) = hd at *
  generalize ((wslot link 1 : Nat) : Int) = ix at *
  have HLB : Hid (∀ w' w9, Rep A σ.tick w' → Below w'.heap.size w' w9 → Rep A σ.tick w9 ∧ Grow A.L w' A.L w9) := fun w' w9 r h => ⟨r.below h, Grow.below h⟩
  go_enter Tryz.func207, Tryz.ntmps207
  go_wp2_with fail
  go_region_held3 (fun w' => w'.cell? ⟨b0, 0, none⟩ = some (.int .u64 (b : Int)) ∧ w'.cell? ⟨b1, 0, none⟩ = some (.pointer (some ⟨A.be, 0, none⟩)) ∧ w'.cell? ⟨b2, 0, none⟩ = some (.int .u64 (link : Int)) ∧ w'.cell? ⟨b3, 0, none⟩ = some (.int .i64 (key : Int)) ∧ w'.cell? ⟨b4, 0, none⟩ = some (.int .u64 (ahead : Int)) ∧ w'.cell? ⟨A.be, 2, none⟩ = some (.pointer (some ⟨A.ba, 0, none⟩)) ∧ w'.cell? ⟨A.be, 26, none⟩ = some (.int .u64 (σ.low : Int)))
    (first | exact ⟨c0, c1, c2, c3, c4, e2, e3⟩ | assumption | go_keep | exact HKK.out _ (by assumption) (by assumption))
    (first | (go_at_call 62; refine (HS.out _).mono ?_; rintro e w9 ⟨rfl, rfl⟩) | (go_at_call 73; refine (HL.out _ HRd.out).mono ?_; rintro e w1 ⟨rfl, q1, q2⟩; have q4 := HG.out.trans q2; clear q2) | (go_at_call 208; refine (HGA.out _).mono ?_; rintro e w5 ⟨rfl, hb⟩; obtain ⟨q5, q6⟩ := HLB.out _ _ (by assumption) hb; have q7 := (‹Grow A.L w A.L _›).trans q6; clear q6 hb))
  obtain ⟨d0, d1, d2, d3, d4, d9, d10⟩ := HKK.out _ q5 q7
  have HQ1 := Lib.hid q5.drew
  have HG1 := Lib.hid (q7.trans (Grow.drew _ _))
  go_wp2_with fail
  go_region_held3 (fun w' => w'.cell? ⟨b0, 0, none⟩ = some (.int .u64 (b : Int)) ∧ w'.cell? ⟨b1, 0, none⟩ = some (.pointer (some ⟨A.be, 0, none⟩)) ∧ w'.cell? ⟨b2, 0, none⟩ = some (.int .u64 (link : Int)) ∧ w'.cell? ⟨b3, 0, none⟩ = some (.int .i64 (key : Int)) ∧ w'.cell? ⟨b4, 0, none⟩ = some (.int .u64 (ahead : Int)) ∧ w'.cell? ⟨A.be, 2, none⟩ = some (.pointer (some ⟨A.ba, 0, none⟩)) ∧ w'.cell? ⟨A.be, 26, none⟩ = some (.int .u64 (σ.low : Int)))
    (first | exact ⟨d0, d1, d2, d3, d4, d9, d10⟩ | assumption | go_keep | exact HKK.out _ (by assumption) (by assumption) | exact HKS.out _ _ (by assumption) (by assumption))
    (first | (go_at_call 206; refine (HM.out _ HQ1.out).mono ?_; rintro e w2 ⟨v, rfl, p1, p2, p3⟩; obtain ⟨fv, fb, fc, e3⟩ := SRep.form p3; subst e3; obtain ⟨vo, y25⟩ : ∃ vo, w2.cell? ⟨A.be, 25, none⟩ = some vo := ⟨_, p1.eng 25 (v := A.sv σ.tick.sw) rfl⟩; have z25 := p1.engF 25; have q5 := HG1.out.trans p2; have HP := Lib.hid p3; clear p2 p3))
  go_wp2_with fail
  go_ret
  obtain ⟨A', a1, a2, a3, a4, a5⟩ := p1.sweepPut _ _ HP.out
  exact ⟨rfl, A', a1, a3, q5.trans a4, a5, fun hc => hc.keep a2 rfl (q5.trans a4)⟩
end Go.Proofs.YtbefcdjcefmicaaGreat.Em

namespace Go.Proofs.YtbefcdjcefmicaaGreat.Em
open Go.ChangeShapes Go.WideShapes Go.ChangeAt Go.RowKit En
set_option linter.unusedVariables false
set_option linter.unusedSimpArgs false
set_option maxRecDepth 100000
set_option maxHeartbeats 1600000

theorem rd_le (x : Nat) (hx : x < 18446744073709551616) : (rd x).2 < 9223372036854775808 ∧ IntKind.i64.wrap ((rd x).2 : Int) = ((rd x).2 : Int) := by
  have h : (rd x).2 < 9223372036854775808 := by
    unfold rd
    repeat' split
    all_goals (first | (simp [tm] at *; omega) | (simp; done) | (simp [txnBit] at *; omega))
  exact ⟨h, by rw [IntKind.wrap_i64]; omega⟩
theorem k_svisit_y {A : Book} {σ : St} {w : World} (hR : Rep A σ w) (key ahead link : Nat) (hv : VL σ link) (hw : σ.word (wslot link 0) < 18446744073709551616) (h2 : ((rd (σ.word (wslot link 0))).1 = 2) = True) (hcnt : σ.count < 4000000000000000000) (b0 : Nat) (b1 : Nat) (b2 : Nat) (b3 : Nat) (B0 : Box A.L w b0 (.pointer (some ⟨A.be, 0, none⟩))) (B1 : Box A.L w b1 (.int .u64 (link : Int))) (B2 : Box A.L w b2 (.int .i64 (key : Int))) (B3 : Box A.L w b3 (.int .u64 (ahead : Int))) :
    Calls Tryz.prog 194 #[.pointer (some ⟨b0, 0, none⟩), .pointer (some ⟨b1, 0, none⟩), .pointer (some ⟨b2, 0, none⟩), .pointer (some ⟨b3, 0, none⟩)] w (SRan A σ w (σ.sweepRun (.visit key ahead link))) := by
  have c0 := B0.cell
  have c1 := B1.cell
  have c2 := B2.cell
  have c3 := B3.cell
  have e2 : w.cell? ⟨A.be, 2, none⟩ = some (.pointer (some ⟨A.ba, 0, none⟩)) := hR.eng 2 rfl
  have hsl := hR.sl
  have HS := Lib.hid (slot_at link 0 0 rfl hv.lo (by have := hv.hi; omega) hv.u (by omega))
  have HRD := Lib.hid (rd_any (σ.word (wslot link 0)) hw)
  have hrn := rd_le (σ.word (wslot link 0)) hw
  have HL : Hid (∀ w', Rep A σ w' → Calls Tryz.prog 73 #[.pointer (some ⟨A.ba, 0, none⟩), .int .i64 (((wslot link 0 : Nat) : Int))] w' (Did A w' σ.tick (.int .u64 (σ.word (wslot link 0) : Int)))) := fun w' r => load_i r (wslot link 0) (((wslot link 0 : Nat) : Int)) rfl (wslot_lt r hv.lo hv.hi (by omega)) hcnt
  have HRd : Hid (Rep A σ w.drew) := hR.drew
  have HKK : Hid (∀ w', Rep A σ.tick w' → Grow A.L w A.L w' → w'.cell? ⟨b0, 0, none⟩ = some (.pointer (some ⟨A.be, 0, none⟩)) ∧ w'.cell? ⟨b1, 0, none⟩ = some (.int .u64 (link : Int)) ∧ w'.cell? ⟨b2, 0, none⟩ = some (.int .i64 (key : Int)) ∧ w'.cell? ⟨b3, 0, none⟩ = some (.int .u64 (ahead : Int)) ∧ w'.cell? ⟨A.be, 2, none⟩ = some (.pointer (some ⟨A.ba, 0, none⟩))) := fun w' r g => ⟨(B0.grow g).cell, (B1.grow g).cell, (B2.grow g).cell, (B3.grow g).cell, r.eng 2 rfl⟩
  have HKS : Hid (∀ w' x, Rep A σ.tick w' → Grow A.L w A.L w' → (w'.setCell ⟨A.be, 25, none⟩ x).cell? ⟨b0, 0, none⟩ = some (.pointer (some ⟨A.be, 0, none⟩)) ∧ (w'.setCell ⟨A.be, 25, none⟩ x).cell? ⟨b1, 0, none⟩ = some (.int .u64 (link : Int)) ∧ (w'.setCell ⟨A.be, 25, none⟩ x).cell? ⟨b2, 0, none⟩ = some (.int .i64 (key : Int)) ∧ (w'.setCell ⟨A.be, 25, none⟩ x).cell? ⟨b3, 0, none⟩ = some (.int .u64 (ahead : Int)) ∧ (w'.setCell ⟨A.be, 25, none⟩ x).cell? ⟨A.be, 2, none⟩ = some (.pointer (some ⟨A.ba, 0, none⟩))) := fun w' x r g => let ⟨r', g'⟩ := r.sweepSet x .now; ⟨(B0.grow (g.trans g')).cell, (B1.grow (g.trans g')).cell, (B2.grow (g.trans g')).cell, (B3.grow (g.trans g')).cell, r'.eng 2 rfl⟩
  have HM : Hid (∀ w', Rep A σ.tick w' → Calls Tryz.prog 195 #[.pointer (some ⟨A.be, 0, none⟩), .int .i64 (key : Int), .int .u64 (ahead : Int), .int .u64 (link : Int), .int .i64 ((rd (σ.word (wslot link 0))).2 : Int)] w' (STells A σ.tick w' (some (.maker key ahead link (rd (σ.word (wslot link 0))).2)))) := fun w' r => smaker_any r key ahead link (rd (σ.word (wslot link 0))).2
  have HG : Hid (Grow A.L w A.L w.drew) := Grow.drew _ _
  clear hR hcnt B0 B1 B2 B3
  have HRES : σ.sweepRun (.visit key ahead link) = ({ σ.tick with sw := some (.maker key ahead link (rd (σ.word (wslot link 0))).2) }, false) := by simp only [St.sweepRun, h2]; rfl
  rw [HRES]
  have f1 : (((rd (σ.word (wslot link 0))).1 : Int) = 2) = True := by have := h2; simp at this ⊢; omega
  have f2 : (((rd (σ.word (wslot link 0))).1 : Int) == 2) = true := by have := h2; simp at this ⊢; omega
  have n1 := hrn.2
  clear hv hsl hw h2 hrn
  generalize hkk : S.maker key ahead link (rd (σ.word (wslot link 0))).2 = kk at *
  clear hkk
  generalize ((rd (σ.word (wslot link 0))).1 : Int) = zk at *
  generalize ((rd (σ.word (wslot link 0))).2 : Int) = zn at *
  generalize (σ.word (wslot link 0) : Int) = hd at *
  generalize ((wslot link 0 : Nat) : Int) = ix at *
  go_enter Tryz.func194, Tryz.ntmps194
  go_wp2_with fail
  go_region_held3 (fun w' => w'.cell? ⟨b0, 0, none⟩ = some (.pointer (some ⟨A.be, 0, none⟩)) ∧ w'.cell? ⟨b1, 0, none⟩ = some (.int .u64 (link : Int)) ∧ w'.cell? ⟨b2, 0, none⟩ = some (.int .i64 (key : Int)) ∧ w'.cell? ⟨b3, 0, none⟩ = some (.int .u64 (ahead : Int)) ∧ w'.cell? ⟨A.be, 2, none⟩ = some (.pointer (some ⟨A.ba, 0, none⟩)))
    (first | exact ⟨c0, c1, c2, c3, e2⟩ | assumption | go_keep | exact HKK.out _ (by assumption) (by assumption))
    (first | (go_at_call 62; refine (HS.out _).mono ?_; rintro e w9 ⟨rfl, rfl⟩) | (go_at_call 73; refine (HL.out _ HRd.out).mono ?_; rintro e w1 ⟨rfl, q1, q2⟩; have q4 := HG.out.trans q2))
  have HQ := Lib.hid (And.intro q1 q4)
  clear q1 q2 q4
  go_wp2_with (go_at_call 93; refine (HRD.out _).mono ?_; rintro e w3 ⟨rfl, hb⟩; have q5 := (HQ.out.1.below hb).alloc (Obj.cells #[.int .i64 zk, .int .u64 zn] 190); have q6 := (HQ.out.2.trans (Grow.below hb)).trans (Grow.alloc _ _ (Obj.cells #[.int .i64 zk, .int .u64 zn] 190)); have fx := fix_next (HQ.out.1.below hb).mem.fresh (Obj.cells #[.int .i64 zk, .int .u64 zn] 190) rfl; have HFX := Lib.hid fx; clear fx hb)
  generalize hw4 : w3.alloc (Obj.cells #[.int .i64 zk, .int .u64 zn] 190) = w4 at *
  obtain ⟨d0, d1, d2, d3, d9⟩ := HKK.out _ q5 q6
  have d8 : w4.cell? ⟨w3.heap.size, 1, none⟩ = some (.int .u64 zn) := HFX.out.cell 1 rfl
  have HQ1 := Lib.hid q5.drew
  have HG1 := Lib.hid (q6.trans (Grow.drew _ _))
  have HK4 : Hid (∀ w', Rep A σ.tick w' → Grow A.L w A.L w' → Grow A.L w4 A.L w' → w'.cell? ⟨b0, 0, none⟩ = some (.pointer (some ⟨A.be, 0, none⟩)) ∧ w'.cell? ⟨b1, 0, none⟩ = some (.int .u64 (link : Int)) ∧ w'.cell? ⟨b2, 0, none⟩ = some (.int .i64 (key : Int)) ∧ w'.cell? ⟨b3, 0, none⟩ = some (.int .u64 (ahead : Int)) ∧ w'.cell? ⟨A.be, 2, none⟩ = some (.pointer (some ⟨A.ba, 0, none⟩)) ∧ w'.cell? ⟨w3.heap.size, 1, none⟩ = some (.int .u64 zn)) := fun w' r g g4 => by
    obtain ⟨x0, x1, x2, x3, x9⟩ := HKK.out _ r g
    exact ⟨x0, x1, x2, x3, x9, (HFX.out.grow g4).cell 1 rfl⟩
  have HS4 : Hid (∀ w' x, Rep A σ.tick w' → Grow A.L w A.L w' → Grow A.L w4 A.L w' → (w'.setCell ⟨A.be, 25, none⟩ x).cell? ⟨b0, 0, none⟩ = some (.pointer (some ⟨A.be, 0, none⟩)) ∧ (w'.setCell ⟨A.be, 25, none⟩ x).cell? ⟨b1, 0, none⟩ = some (.int .u64 (link : Int)) ∧ (w'.setCell ⟨A.be, 25, none⟩ x).cell? ⟨b2, 0, none⟩ = some (.int .i64 (key : Int)) ∧ (w'.setCell ⟨A.be, 25, none⟩ x).cell? ⟨b3, 0, none⟩ = some (.int .u64 (ahead : Int)) ∧ (w'.setCell ⟨A.be, 25, none⟩ x).cell? ⟨A.be, 2, none⟩ = some (.pointer (some ⟨A.ba, 0, none⟩)) ∧ (w'.setCell ⟨A.be, 25, none⟩ x).cell? ⟨w3.heap.size, 1, none⟩ = some (.int .u64 zn)) := fun w' x r g g4 => by
    obtain ⟨x0, x1, x2, x3, x9⟩ := HKS.out _ x r g
    exact ⟨x0, x1, x2, x3, x9, (HFX.out.grow (g4.trans (r.sweepSet x .now).2)).cell 1 rfl⟩
  go_region_held3 (fun w' => w'.cell? ⟨b0, 0, none⟩ = some (.pointer (some ⟨A.be, 0, none⟩)) ∧ w'.cell? ⟨b1, 0, none⟩ = some (.int .u64 (link : Int)) ∧ w'.cell? ⟨b2, 0, none⟩ = some (.int .i64 (key : Int)) ∧ w'.cell? ⟨b3, 0, none⟩ = some (.int .u64 (ahead : Int)) ∧ w'.cell? ⟨A.be, 2, none⟩ = some (.pointer (some ⟨A.ba, 0, none⟩)) ∧ w'.cell? ⟨w3.heap.size, 1, none⟩ = some (.int .u64 zn))
    (first | exact ⟨d0, d1, d2, d3, d9, d8⟩ | assumption | go_keep | exact HK4.out _ (by assumption) (by assumption) (by assumption) | exact HS4.out _ _ (by assumption) (by assumption) (by assumption))
    (first | (go_at_call 195; refine (HM.out _ HQ1.out).mono ?_; rintro e w2 ⟨v, rfl, p1, p2, p3⟩; obtain ⟨fv, fb, fc, e3⟩ := SRep.form p3; subst e3; obtain ⟨vo, y25⟩ : ∃ vo, w2.cell? ⟨A.be, 25, none⟩ = some vo := ⟨_, p1.eng 25 (v := A.sv σ.tick.sw) rfl⟩; have z25 := p1.engF 25; have q7 := HG1.out.trans p2; have q8 := (Grow.drew A.L w4).trans p2; have HP := Lib.hid p3; clear p2 p3))
  go_wp2_with fail
  go_ret
  obtain ⟨A', a1, a2, a3, a4, a5⟩ := p1.sweepPut _ _ HP.out
  exact ⟨rfl, A', a1, a3, q7.trans a4, a5, fun hc => hc.keep a2 rfl (q7.trans a4)⟩
theorem k_svisit_n {A : Book} {σ : St} {w : World} (hR : Rep A σ w) (key ahead link : Nat) (hv : VL σ link) (hw : σ.word (wslot link 0) < 18446744073709551616) (h2 : ((rd (σ.word (wslot link 0))).1 = 2) = False) (hcnt : σ.count < 4000000000000000000) (b0 : Nat) (b1 : Nat) (b2 : Nat) (b3 : Nat) (B0 : Box A.L w b0 (.pointer (some ⟨A.be, 0, none⟩))) (B1 : Box A.L w b1 (.int .u64 (link : Int))) (B2 : Box A.L w b2 (.int .i64 (key : Int))) (B3 : Box A.L w b3 (.int .u64 (ahead : Int))) :
    Calls Tryz.prog 194 #[.pointer (some ⟨b0, 0, none⟩), .pointer (some ⟨b1, 0, none⟩), .pointer (some ⟨b2, 0, none⟩), .pointer (some ⟨b3, 0, none⟩)] w (SRan A σ w (σ.sweepRun (.visit key ahead link))) := by
  have c0 := B0.cell
  have c1 := B1.cell
  have c2 := B2.cell
  have c3 := B3.cell
  have e2 : w.cell? ⟨A.be, 2, none⟩ = some (.pointer (some ⟨A.ba, 0, none⟩)) := hR.eng 2 rfl
  have hsl := hR.sl
  have HS := Lib.hid (slot_at link 0 0 rfl hv.lo (by have := hv.hi; omega) hv.u (by omega))
  have HRD := Lib.hid (rd_any (σ.word (wslot link 0)) hw)
  have hrn := rd_le (σ.word (wslot link 0)) hw
  have HL : Hid (∀ w', Rep A σ w' → Calls Tryz.prog 73 #[.pointer (some ⟨A.ba, 0, none⟩), .int .i64 (((wslot link 0 : Nat) : Int))] w' (Did A w' σ.tick (.int .u64 (σ.word (wslot link 0) : Int)))) := fun w' r => load_i r (wslot link 0) (((wslot link 0 : Nat) : Int)) rfl (wslot_lt r hv.lo hv.hi (by omega)) hcnt
  have HRd : Hid (Rep A σ w.drew) := hR.drew
  have HKK : Hid (∀ w', Rep A σ.tick w' → Grow A.L w A.L w' → w'.cell? ⟨b0, 0, none⟩ = some (.pointer (some ⟨A.be, 0, none⟩)) ∧ w'.cell? ⟨b1, 0, none⟩ = some (.int .u64 (link : Int)) ∧ w'.cell? ⟨b2, 0, none⟩ = some (.int .i64 (key : Int)) ∧ w'.cell? ⟨b3, 0, none⟩ = some (.int .u64 (ahead : Int)) ∧ w'.cell? ⟨A.be, 2, none⟩ = some (.pointer (some ⟨A.ba, 0, none⟩))) := fun w' r g => ⟨(B0.grow g).cell, (B1.grow g).cell, (B2.grow g).cell, (B3.grow g).cell, r.eng 2 rfl⟩
  have HKS : Hid (∀ w' x, Rep A σ.tick w' → Grow A.L w A.L w' → (w'.setCell ⟨A.be, 25, none⟩ x).cell? ⟨b0, 0, none⟩ = some (.pointer (some ⟨A.be, 0, none⟩)) ∧ (w'.setCell ⟨A.be, 25, none⟩ x).cell? ⟨b1, 0, none⟩ = some (.int .u64 (link : Int)) ∧ (w'.setCell ⟨A.be, 25, none⟩ x).cell? ⟨b2, 0, none⟩ = some (.int .i64 (key : Int)) ∧ (w'.setCell ⟨A.be, 25, none⟩ x).cell? ⟨b3, 0, none⟩ = some (.int .u64 (ahead : Int)) ∧ (w'.setCell ⟨A.be, 25, none⟩ x).cell? ⟨A.be, 2, none⟩ = some (.pointer (some ⟨A.ba, 0, none⟩))) := fun w' x r g => let ⟨r', g'⟩ := r.sweepSet x .now; ⟨(B0.grow (g.trans g')).cell, (B1.grow (g.trans g')).cell, (B2.grow (g.trans g')).cell, (B3.grow (g.trans g')).cell, r'.eng 2 rfl⟩
  have HM : Hid (∀ w', Rep A σ.tick w' → Calls Tryz.prog 196 #[.pointer (some ⟨A.be, 0, none⟩), .int .i64 (key : Int), .int .u64 (ahead : Int), .int .u64 (link : Int), .int .u64 (σ.word (wslot link 0) : Int)] w' (STells A σ.tick w' (some (.garbage key ahead link (σ.word (wslot link 0)))))) := fun w' r => sgarbage_any r key ahead link (σ.word (wslot link 0))
  have HG : Hid (Grow A.L w A.L w.drew) := Grow.drew _ _
  clear hR hcnt B0 B1 B2 B3
  have HRES : σ.sweepRun (.visit key ahead link) = ({ σ.tick with sw := some (.garbage key ahead link (σ.word (wslot link 0))) }, false) := by simp only [St.sweepRun, h2]; rfl
  rw [HRES]
  have f1 : (((rd (σ.word (wslot link 0))).1 : Int) = 2) = False := by have := h2; simp at this ⊢; omega
  have f2 : (((rd (σ.word (wslot link 0))).1 : Int) == 2) = false := by have := h2; simp at this ⊢; omega
  have n1 := hrn.2
  clear hv hsl hw h2 hrn
  generalize hkk : S.garbage key ahead link (σ.word (wslot link 0)) = kk at *
  clear hkk
  generalize ((rd (σ.word (wslot link 0))).1 : Int) = zk at *
  generalize ((rd (σ.word (wslot link 0))).2 : Int) = zn at *
  generalize (σ.word (wslot link 0) : Int) = hd at *
  generalize ((wslot link 0 : Nat) : Int) = ix at *
  go_enter Tryz.func194, Tryz.ntmps194
  go_wp2_with fail
  go_region_held3 (fun w' => w'.cell? ⟨b0, 0, none⟩ = some (.pointer (some ⟨A.be, 0, none⟩)) ∧ w'.cell? ⟨b1, 0, none⟩ = some (.int .u64 (link : Int)) ∧ w'.cell? ⟨b2, 0, none⟩ = some (.int .i64 (key : Int)) ∧ w'.cell? ⟨b3, 0, none⟩ = some (.int .u64 (ahead : Int)) ∧ w'.cell? ⟨A.be, 2, none⟩ = some (.pointer (some ⟨A.ba, 0, none⟩)))
    (first | exact ⟨c0, c1, c2, c3, e2⟩ | assumption | go_keep | exact HKK.out _ (by assumption) (by assumption))
    (first | (go_at_call 62; refine (HS.out _).mono ?_; rintro e w9 ⟨rfl, rfl⟩) | (go_at_call 73; refine (HL.out _ HRd.out).mono ?_; rintro e w1 ⟨rfl, q1, q2⟩; have q4 := HG.out.trans q2))
  have HQ := Lib.hid (And.intro q1 q4)
  clear q1 q2 q4
  go_wp2_with (go_at_call 93; refine (HRD.out _).mono ?_; rintro e w3 ⟨rfl, hb⟩; have q5 := (HQ.out.1.below hb).alloc (Obj.cells #[.int .i64 zk, .int .u64 zn] 190); have q6 := (HQ.out.2.trans (Grow.below hb)).trans (Grow.alloc _ _ (Obj.cells #[.int .i64 zk, .int .u64 zn] 190)); have fx := fix_next (HQ.out.1.below hb).mem.fresh (Obj.cells #[.int .i64 zk, .int .u64 zn] 190) rfl; have HFX := Lib.hid fx; clear fx hb)
  generalize hw4 : w3.alloc (Obj.cells #[.int .i64 zk, .int .u64 zn] 190) = w4 at *
  obtain ⟨d0, d1, d2, d3, d9⟩ := HKK.out _ q5 q6
  have d8 : w4.cell? ⟨w3.heap.size, 1, none⟩ = some (.int .u64 zn) := HFX.out.cell 1 rfl
  have HQ1 := Lib.hid q5.drew
  have HG1 := Lib.hid (q6.trans (Grow.drew _ _))
  have HK4 : Hid (∀ w', Rep A σ.tick w' → Grow A.L w A.L w' → Grow A.L w4 A.L w' → w'.cell? ⟨b0, 0, none⟩ = some (.pointer (some ⟨A.be, 0, none⟩)) ∧ w'.cell? ⟨b1, 0, none⟩ = some (.int .u64 (link : Int)) ∧ w'.cell? ⟨b2, 0, none⟩ = some (.int .i64 (key : Int)) ∧ w'.cell? ⟨b3, 0, none⟩ = some (.int .u64 (ahead : Int)) ∧ w'.cell? ⟨A.be, 2, none⟩ = some (.pointer (some ⟨A.ba, 0, none⟩)) ∧ w'.cell? ⟨w3.heap.size, 1, none⟩ = some (.int .u64 zn)) := fun w' r g g4 => by
    obtain ⟨x0, x1, x2, x3, x9⟩ := HKK.out _ r g
    exact ⟨x0, x1, x2, x3, x9, (HFX.out.grow g4).cell 1 rfl⟩
  have HS4 : Hid (∀ w' x, Rep A σ.tick w' → Grow A.L w A.L w' → Grow A.L w4 A.L w' → (w'.setCell ⟨A.be, 25, none⟩ x).cell? ⟨b0, 0, none⟩ = some (.pointer (some ⟨A.be, 0, none⟩)) ∧ (w'.setCell ⟨A.be, 25, none⟩ x).cell? ⟨b1, 0, none⟩ = some (.int .u64 (link : Int)) ∧ (w'.setCell ⟨A.be, 25, none⟩ x).cell? ⟨b2, 0, none⟩ = some (.int .i64 (key : Int)) ∧ (w'.setCell ⟨A.be, 25, none⟩ x).cell? ⟨b3, 0, none⟩ = some (.int .u64 (ahead : Int)) ∧ (w'.setCell ⟨A.be, 25, none⟩ x).cell? ⟨A.be, 2, none⟩ = some (.pointer (some ⟨A.ba, 0, none⟩)) ∧ (w'.setCell ⟨A.be, 25, none⟩ x).cell? ⟨w3.heap.size, 1, none⟩ = some (.int .u64 zn)) := fun w' x r g g4 => by
    obtain ⟨x0, x1, x2, x3, x9⟩ := HKS.out _ x r g
    exact ⟨x0, x1, x2, x3, x9, (HFX.out.grow (g4.trans (r.sweepSet x .now).2)).cell 1 rfl⟩
  go_region_held3 (fun w' => w'.cell? ⟨b0, 0, none⟩ = some (.pointer (some ⟨A.be, 0, none⟩)) ∧ w'.cell? ⟨b1, 0, none⟩ = some (.int .u64 (link : Int)) ∧ w'.cell? ⟨b2, 0, none⟩ = some (.int .i64 (key : Int)) ∧ w'.cell? ⟨b3, 0, none⟩ = some (.int .u64 (ahead : Int)) ∧ w'.cell? ⟨A.be, 2, none⟩ = some (.pointer (some ⟨A.ba, 0, none⟩)) ∧ w'.cell? ⟨w3.heap.size, 1, none⟩ = some (.int .u64 zn))
    (first | exact ⟨d0, d1, d2, d3, d9, d8⟩ | assumption | go_keep | exact HK4.out _ (by assumption) (by assumption) (by assumption) | exact HS4.out _ _ (by assumption) (by assumption) (by assumption))
    (first | (go_at_call 196; refine (HM.out _ HQ1.out).mono ?_; rintro e w2 ⟨v, rfl, p1, p2, p3⟩; obtain ⟨fv, fb, fc, e3⟩ := SRep.form p3; subst e3; obtain ⟨vo, y25⟩ : ∃ vo, w2.cell? ⟨A.be, 25, none⟩ = some vo := ⟨_, p1.eng 25 (v := A.sv σ.tick.sw) rfl⟩; have z25 := p1.engF 25; have q7 := HG1.out.trans p2; have q8 := (Grow.drew A.L w4).trans p2; have HP := Lib.hid p3; clear p2 p3))
  go_wp2_with fail
  go_ret
  obtain ⟨A', a1, a2, a3, a4, a5⟩ := p1.sweepPut _ _ HP.out
  exact ⟨rfl, A', a1, a3, q7.trans a4, a5, fun hc => hc.keep a2 rfl (q7.trans a4)⟩
end Go.Proofs.YtbefcdjcefmicaaGreat.Em

namespace Go.Proofs.YtbefcdjcefmicaaGreat.Em
open Go.ChangeShapes Go.WideShapes Go.ChangeAt Go.RowKit En
set_option linter.unusedVariables false
set_option linter.unusedSimpArgs false
set_option maxRecDepth 100000
set_option maxHeartbeats 1600000

theorem k_smaker_y {A : Book} {σ : St} {w : World} (hR : Rep A σ w) (key ahead link id : Nat) (hid : id ≤ 65535) (hpl : σ.place id < σ.words.length) (hw : σ.word (σ.place id) < 18446744073709551616) (h4 : (stateOf (σ.word (σ.place id)) = 4) = True) (hcnt : σ.count < 4000000000000000000) (b0 : Nat) (b1 : Nat) (b2 : Nat) (b3 : Nat) (b4 : Nat) (B0 : Box A.L w b0 (.pointer (some ⟨A.be, 0, none⟩))) (B1 : Box A.L w b1 (.int .i64 (id : Int))) (B2 : Box A.L w b2 (.int .i64 (key : Int))) (B3 : Box A.L w b3 (.int .u64 (ahead : Int))) (B4 : Box A.L w b4 (.int .u64 (link : Int))) :
    Calls Tryz.prog 204 #[.pointer (some ⟨b0, 0, none⟩), .pointer (some ⟨b1, 0, none⟩), .pointer (some ⟨b2, 0, none⟩), .pointer (some ⟨b3, 0, none⟩), .pointer (some ⟨b4, 0, none⟩)] w (SRan A σ w (σ.sweepRun (.maker key ahead link id))) := by
  have c0 := B0.cell
  have c1 := B1.cell
  have c2 := B2.cell
  have c3 := B3.cell
  have c4 := B4.cell
  have e2 : w.cell? ⟨A.be, 2, none⟩ = some (.pointer (some ⟨A.ba, 0, none⟩)) := hR.eng 2 rfl
  have HPL := Lib.hid (place_still hR.drew id hid)
  have HU := Lib.hid (fun w' => unpack_any (σ.word (σ.place id)) hw w')
  have HL : Hid (∀ w', Rep A σ w' → Calls Tryz.prog 73 #[.pointer (some ⟨A.ba, 0, none⟩), .int .i64 (((σ.place id : Nat) : Int))] w' (Did A w' σ.tick (.int .u64 (σ.word (σ.place id) : Int)))) := fun w' r => load_i r (σ.place id) (((σ.place id : Nat) : Int)) rfl hpl hcnt
  have HRd : Hid (Rep A σ w.drew) := hR.drew
  have HKK : Hid (∀ w', Rep A σ.tick w' → Grow A.L w A.L w' → w'.cell? ⟨b0, 0, none⟩ = some (.pointer (some ⟨A.be, 0, none⟩)) ∧ w'.cell? ⟨b1, 0, none⟩ = some (.int .i64 (id : Int)) ∧ w'.cell? ⟨b2, 0, none⟩ = some (.int .i64 (key : Int)) ∧ w'.cell? ⟨b3, 0, none⟩ = some (.int .u64 (ahead : Int)) ∧ w'.cell? ⟨b4, 0, none⟩ = some (.int .u64 (link : Int)) ∧ w'.cell? ⟨A.be, 2, none⟩ = some (.pointer (some ⟨A.ba, 0, none⟩))) := fun w' r g => ⟨(B0.grow g).cell, (B1.grow g).cell, (B2.grow g).cell, (B3.grow g).cell, (B4.grow g).cell, r.eng 2 rfl⟩
  have HKS : Hid (∀ w' x, Rep A σ.tick w' → Grow A.L w A.L w' → (w'.setCell ⟨A.be, 25, none⟩ x).cell? ⟨b0, 0, none⟩ = some (.pointer (some ⟨A.be, 0, none⟩)) ∧ (w'.setCell ⟨A.be, 25, none⟩ x).cell? ⟨b1, 0, none⟩ = some (.int .i64 (id : Int)) ∧ (w'.setCell ⟨A.be, 25, none⟩ x).cell? ⟨b2, 0, none⟩ = some (.int .i64 (key : Int)) ∧ (w'.setCell ⟨A.be, 25, none⟩ x).cell? ⟨b3, 0, none⟩ = some (.int .u64 (ahead : Int)) ∧ (w'.setCell ⟨A.be, 25, none⟩ x).cell? ⟨b4, 0, none⟩ = some (.int .u64 (link : Int)) ∧ (w'.setCell ⟨A.be, 25, none⟩ x).cell? ⟨A.be, 2, none⟩ = some (.pointer (some ⟨A.ba, 0, none⟩))) := fun w' x r g => let ⟨r', g'⟩ := r.sweepSet x .now; ⟨(B0.grow (g.trans g')).cell, (B1.grow (g.trans g')).cell, (B2.grow (g.trans g')).cell, (B3.grow (g.trans g')).cell, (B4.grow (g.trans g')).cell, r'.eng 2 rfl⟩
  have HM : Hid (∀ w', Rep A σ.tick w' → Calls Tryz.prog 205 #[.pointer (some ⟨A.be, 0, none⟩), .int .i64 (key : Int), .int .u64 (ahead : Int), .int .u64 (link : Int)] w' (STells A σ.tick w' (some (.unlink key ahead link)))) := fun w' r => sunlink_any r key ahead link
  have HG : Hid (Grow A.L w A.L w.drew) := Grow.drew _ _
  clear hR hcnt B0 B1 B2 B3 B4
  have HRES : σ.sweepRun (.maker key ahead link id) = ({ σ.tick with sw := some (.unlink key ahead link) }, false) := by simp only [St.sweepRun, h4]; rfl
  rw [HRES]
  have f1 : ((stateOf (σ.word (σ.place id)) : Int) = 4) = True := by have := h4; simp at this ⊢; omega
  have f2 : ((stateOf (σ.word (σ.place id)) : Int) == 4) = true := by have := h4; simp at this ⊢; omega
  clear hid hpl hw h4
  generalize (stateOf (σ.word (σ.place id)) : Int) = zs at *
  generalize (endOf (σ.word (σ.place id)) : Int) = ze at *
  generalize (σ.word (σ.place id) : Int) = hd at *
  generalize ((σ.place id : Nat) : Int) = ix at *
  go_enter Tryz.func204, Tryz.ntmps204
  go_wp2_with fail
  go_region_held3 (fun w' => w'.cell? ⟨b0, 0, none⟩ = some (.pointer (some ⟨A.be, 0, none⟩)) ∧ w'.cell? ⟨b1, 0, none⟩ = some (.int .i64 (id : Int)) ∧ w'.cell? ⟨b2, 0, none⟩ = some (.int .i64 (key : Int)) ∧ w'.cell? ⟨b3, 0, none⟩ = some (.int .u64 (ahead : Int)) ∧ w'.cell? ⟨b4, 0, none⟩ = some (.int .u64 (link : Int)) ∧ w'.cell? ⟨A.be, 2, none⟩ = some (.pointer (some ⟨A.ba, 0, none⟩)))
    (first | exact ⟨c0, c1, c2, c3, c4, e2⟩ | assumption | go_keep | exact HKK.out _ (by assumption) (by assumption))
    (first | (go_at_call 78; refine HPL.out.mono ?_; rintro e w9 ⟨rfl, rfl⟩) | (go_at_call 73; refine (HL.out _ HRd.out).mono ?_; rintro e w1 ⟨rfl, q1, q2⟩; have q4 := HG.out.trans q2) | (go_at_call 94; refine (HU.out _).mono ?_; rintro e w9 ⟨rfl, rfl⟩))
  obtain ⟨d0, d1, d2, d3, d4, d9⟩ := HKK.out _ q1 q4
  have HQ1 := Lib.hid q1.drew
  have HG1 := Lib.hid (q4.trans (Grow.drew _ _))
  go_wp2_with fail
  go_region_held3 (fun w' => w'.cell? ⟨b0, 0, none⟩ = some (.pointer (some ⟨A.be, 0, none⟩)) ∧ w'.cell? ⟨b1, 0, none⟩ = some (.int .i64 (id : Int)) ∧ w'.cell? ⟨b2, 0, none⟩ = some (.int .i64 (key : Int)) ∧ w'.cell? ⟨b3, 0, none⟩ = some (.int .u64 (ahead : Int)) ∧ w'.cell? ⟨b4, 0, none⟩ = some (.int .u64 (link : Int)) ∧ w'.cell? ⟨A.be, 2, none⟩ = some (.pointer (some ⟨A.ba, 0, none⟩)))
    (first | exact ⟨d0, d1, d2, d3, d4, d9⟩ | assumption | go_keep | exact HKK.out _ (by assumption) (by assumption) | exact HKS.out _ _ (by assumption) (by assumption))
    (first | (go_at_call 205; refine (HM.out _ HQ1.out).mono ?_; rintro e w2 ⟨v, rfl, p1, p2, p3⟩; obtain ⟨fv, fb, fc, e3⟩ := SRep.form p3; subst e3; obtain ⟨vo, y25⟩ : ∃ vo, w2.cell? ⟨A.be, 25, none⟩ = some vo := ⟨_, p1.eng 25 (v := A.sv σ.tick.sw) rfl⟩; have z25 := p1.engF 25; have q5 := HG1.out.trans p2; have HP := Lib.hid p3; clear p2 p3))
  go_wp2_with fail
  go_ret
  obtain ⟨A', a1, a2, a3, a4, a5⟩ := p1.sweepPut _ _ HP.out
  exact ⟨rfl, A', a1, a3, q5.trans a4, a5, fun hc => hc.keep a2 rfl (q5.trans a4)⟩
theorem k_smaker_n {A : Book} {σ : St} {w : World} (hR : Rep A σ w) (key ahead link id : Nat) (hid : id ≤ 65535) (hpl : σ.place id < σ.words.length) (hw : σ.word (σ.place id) < 18446744073709551616) (h4 : (stateOf (σ.word (σ.place id)) = 4) = False) (hcnt : σ.count < 4000000000000000000) (b0 : Nat) (b1 : Nat) (b2 : Nat) (b3 : Nat) (b4 : Nat) (B0 : Box A.L w b0 (.pointer (some ⟨A.be, 0, none⟩))) (B1 : Box A.L w b1 (.int .i64 (id : Int))) (B2 : Box A.L w b2 (.int .i64 (key : Int))) (B3 : Box A.L w b3 (.int .u64 (ahead : Int))) (B4 : Box A.L w b4 (.int .u64 (link : Int))) :
    Calls Tryz.prog 204 #[.pointer (some ⟨b0, 0, none⟩), .pointer (some ⟨b1, 0, none⟩), .pointer (some ⟨b2, 0, none⟩), .pointer (some ⟨b3, 0, none⟩), .pointer (some ⟨b4, 0, none⟩)] w (SRan A σ w (σ.sweepRun (.maker key ahead link id))) := by
  have c0 := B0.cell
  have c1 := B1.cell
  have c2 := B2.cell
  have c3 := B3.cell
  have c4 := B4.cell
  have e2 : w.cell? ⟨A.be, 2, none⟩ = some (.pointer (some ⟨A.ba, 0, none⟩)) := hR.eng 2 rfl
  have HPL := Lib.hid (place_still hR.drew id hid)
  have HU := Lib.hid (fun w' => unpack_any (σ.word (σ.place id)) hw w')
  have HL : Hid (∀ w', Rep A σ w' → Calls Tryz.prog 73 #[.pointer (some ⟨A.ba, 0, none⟩), .int .i64 (((σ.place id : Nat) : Int))] w' (Did A w' σ.tick (.int .u64 (σ.word (σ.place id) : Int)))) := fun w' r => load_i r (σ.place id) (((σ.place id : Nat) : Int)) rfl hpl hcnt
  have HRd : Hid (Rep A σ w.drew) := hR.drew
  have HKK : Hid (∀ w', Rep A σ.tick w' → Grow A.L w A.L w' → w'.cell? ⟨b0, 0, none⟩ = some (.pointer (some ⟨A.be, 0, none⟩)) ∧ w'.cell? ⟨b1, 0, none⟩ = some (.int .i64 (id : Int)) ∧ w'.cell? ⟨b2, 0, none⟩ = some (.int .i64 (key : Int)) ∧ w'.cell? ⟨b3, 0, none⟩ = some (.int .u64 (ahead : Int)) ∧ w'.cell? ⟨b4, 0, none⟩ = some (.int .u64 (link : Int)) ∧ w'.cell? ⟨A.be, 2, none⟩ = some (.pointer (some ⟨A.ba, 0, none⟩))) := fun w' r g => ⟨(B0.grow g).cell, (B1.grow g).cell, (B2.grow g).cell, (B3.grow g).cell, (B4.grow g).cell, r.eng 2 rfl⟩
  have HKS : Hid (∀ w' x, Rep A σ.tick w' → Grow A.L w A.L w' → (w'.setCell ⟨A.be, 25, none⟩ x).cell? ⟨b0, 0, none⟩ = some (.pointer (some ⟨A.be, 0, none⟩)) ∧ (w'.setCell ⟨A.be, 25, none⟩ x).cell? ⟨b1, 0, none⟩ = some (.int .i64 (id : Int)) ∧ (w'.setCell ⟨A.be, 25, none⟩ x).cell? ⟨b2, 0, none⟩ = some (.int .i64 (key : Int)) ∧ (w'.setCell ⟨A.be, 25, none⟩ x).cell? ⟨b3, 0, none⟩ = some (.int .u64 (ahead : Int)) ∧ (w'.setCell ⟨A.be, 25, none⟩ x).cell? ⟨b4, 0, none⟩ = some (.int .u64 (link : Int)) ∧ (w'.setCell ⟨A.be, 25, none⟩ x).cell? ⟨A.be, 2, none⟩ = some (.pointer (some ⟨A.ba, 0, none⟩))) := fun w' x r g => let ⟨r', g'⟩ := r.sweepSet x .now; ⟨(B0.grow (g.trans g')).cell, (B1.grow (g.trans g')).cell, (B2.grow (g.trans g')).cell, (B3.grow (g.trans g')).cell, (B4.grow (g.trans g')).cell, r'.eng 2 rfl⟩
  have HM : Hid (∀ w', Rep A σ.tick w' → Calls Tryz.prog 206 #[.pointer (some ⟨A.be, 0, none⟩), .int .i64 (key : Int), .int .u64 (link : Int)] w' (STells A σ.tick w' (some (.on key link)))) := fun w' r => son_any r key link
  have HG : Hid (Grow A.L w A.L w.drew) := Grow.drew _ _
  clear hR hcnt B0 B1 B2 B3 B4
  have HRES : σ.sweepRun (.maker key ahead link id) = ({ σ.tick with sw := some (.on key link) }, false) := by simp only [St.sweepRun, h4]; rfl
  rw [HRES]
  have f1 : ((stateOf (σ.word (σ.place id)) : Int) = 4) = False := by have := h4; simp at this ⊢; omega
  have f2 : ((stateOf (σ.word (σ.place id)) : Int) == 4) = false := by have := h4; simp at this ⊢; omega
  clear hid hpl hw h4
  generalize (stateOf (σ.word (σ.place id)) : Int) = zs at *
  generalize (endOf (σ.word (σ.place id)) : Int) = ze at *
  generalize (σ.word (σ.place id) : Int) = hd at *
  generalize ((σ.place id : Nat) : Int) = ix at *
  go_enter Tryz.func204, Tryz.ntmps204
  go_wp2_with fail
  go_region_held3 (fun w' => w'.cell? ⟨b0, 0, none⟩ = some (.pointer (some ⟨A.be, 0, none⟩)) ∧ w'.cell? ⟨b1, 0, none⟩ = some (.int .i64 (id : Int)) ∧ w'.cell? ⟨b2, 0, none⟩ = some (.int .i64 (key : Int)) ∧ w'.cell? ⟨b3, 0, none⟩ = some (.int .u64 (ahead : Int)) ∧ w'.cell? ⟨b4, 0, none⟩ = some (.int .u64 (link : Int)) ∧ w'.cell? ⟨A.be, 2, none⟩ = some (.pointer (some ⟨A.ba, 0, none⟩)))
    (first | exact ⟨c0, c1, c2, c3, c4, e2⟩ | assumption | go_keep | exact HKK.out _ (by assumption) (by assumption))
    (first | (go_at_call 78; refine HPL.out.mono ?_; rintro e w9 ⟨rfl, rfl⟩) | (go_at_call 73; refine (HL.out _ HRd.out).mono ?_; rintro e w1 ⟨rfl, q1, q2⟩; have q4 := HG.out.trans q2) | (go_at_call 94; refine (HU.out _).mono ?_; rintro e w9 ⟨rfl, rfl⟩))
  obtain ⟨d0, d1, d2, d3, d4, d9⟩ := HKK.out _ q1 q4
  have HQ1 := Lib.hid q1.drew
  have HG1 := Lib.hid (q4.trans (Grow.drew _ _))
  go_wp2_with fail
  go_region_held3 (fun w' => w'.cell? ⟨b0, 0, none⟩ = some (.pointer (some ⟨A.be, 0, none⟩)) ∧ w'.cell? ⟨b1, 0, none⟩ = some (.int .i64 (id : Int)) ∧ w'.cell? ⟨b2, 0, none⟩ = some (.int .i64 (key : Int)) ∧ w'.cell? ⟨b3, 0, none⟩ = some (.int .u64 (ahead : Int)) ∧ w'.cell? ⟨b4, 0, none⟩ = some (.int .u64 (link : Int)) ∧ w'.cell? ⟨A.be, 2, none⟩ = some (.pointer (some ⟨A.ba, 0, none⟩)))
    (first | exact ⟨d0, d1, d2, d3, d4, d9⟩ | assumption | go_keep | exact HKK.out _ (by assumption) (by assumption) | exact HKS.out _ _ (by assumption) (by assumption))
    (first | (go_at_call 206; refine (HM.out _ HQ1.out).mono ?_; rintro e w2 ⟨v, rfl, p1, p2, p3⟩; obtain ⟨fv, fb, fc, e3⟩ := SRep.form p3; subst e3; obtain ⟨vo, y25⟩ : ∃ vo, w2.cell? ⟨A.be, 25, none⟩ = some vo := ⟨_, p1.eng 25 (v := A.sv σ.tick.sw) rfl⟩; have z25 := p1.engF 25; have q5 := HG1.out.trans p2; have HP := Lib.hid p3; clear p2 p3))
  go_wp2_with fail
  go_ret
  obtain ⟨A', a1, a2, a3, a4, a5⟩ := p1.sweepPut _ _ HP.out
  exact ⟨rfl, A', a1, a3, q5.trans a4, a5, fun hc => hc.keep a2 rfl (q5.trans a4)⟩
end Go.Proofs.YtbefcdjcefmicaaGreat.Em

namespace Go.Proofs.YtbefcdjcefmicaaGreat.Em
open Go.ChangeShapes Go.WideShapes Go.ChangeAt Go.RowKit En
set_option linter.unusedVariables false
set_option linter.unusedSimpArgs false
set_option maxRecDepth 100000
set_option maxHeartbeats 1600000

theorem sweep_count {A : Book} {σ : St} {w : World} (hR : Rep A σ w) (cb dl : Nat) (hd : σ.count = cb + dl) (hc : σ.count < 4000000000000000000) (hlk : σ.looks < 1000000000000000000) (hdl : dl < 1000000) (b0 b1 : Nat) (B0 : Box A.L w b0 (.pointer (some ⟨A.be, 0, none⟩))) (B1 : Box A.L w b1 (.int .i64 (cb : Int))) :
    Calls Tryz.prog 104 #[.pointer (some ⟨b0, 0, none⟩), .pointer (some ⟨b1, 0, none⟩)] w (Did A w { σ with looks := σ.looks + dl } (.tuple #[])) := by
  have c0 := B0.cell
  have c1 := B1.cell
  have e2 : w.cell? ⟨A.be, 2, none⟩ = some (.pointer (some ⟨A.ba, 0, none⟩)) := hR.eng 2 rfl
  have e23 : w.cell? ⟨A.be, 23, none⟩ = some (.int .i64 (σ.looks : Int)) := hR.eng 23 rfl
  have n1 : IntKind.i64.wrap (((cb + dl : Nat) : Int) - (cb : Int)) = (dl : Int) := by rw [IntKind.wrap_i64]; omega
  have n2 : IntKind.i64.wrap ((σ.looks : Int) + (dl : Int)) = ((σ.looks + dl : Nat) : Int) := by rw [IntKind.wrap_i64]; omega
  have HC := Lib.hid ((count_any hR.drew hc).mono (fun e w9 h => (⟨h.1, h.2.symm⟩ : e = _ ∧ w9 = w.drew)))
  rw [hd] at HC
  have HL := Lib.hid (hR.drew.looksSet (σ.looks + dl))
  have HR := Lib.hid hR
  clear hR hd hc hlk hdl B0 B1
  generalize ((cb + dl : Nat) : Int) = c2 at *
  generalize hlz : ((σ.looks + dl : Nat) : Int) = lz at *
  go_enter Tryz.func104, Tryz.ntmps104
  go_wp2_with fail
  refine wp_region_still_tail 14 (by kernel_rfl) (by kernel_rfl) ?_
  simp only [List.take_succ_cons, List.take_zero, List.drop_succ_cons, List.drop_zero]
  repeat still_step
  still_call HC.out
  repeat still_step
  refine wpStill_nil ?_
  change wpList _ _ _ _ _ w.drew
  have y23 : w.drew.cell? ⟨A.be, 23, none⟩ = some (.int .i64 (σ.looks : Int)) := e23
  have z23 : w.drew.frozen? ⟨A.be, 23, none⟩ = false := HR.out.engF 23
  have HG := Lib.hid (Grow.drew A.L w)
  generalize w.drew = wd at *
  go_wp2_with fail
  first | go_end0 | (simp only [Exit.inBlock, Exit.then]; refine bodyPost_ret (results_none rfl _ _ _) rfl ?_) | refine bodyPost_ret (results_none rfl _ _ _) rfl ?_
  exact ⟨rfl, HL.out.1, HG.out.trans HL.out.2⟩
end Go.Proofs.YtbefcdjcefmicaaGreat.Em

namespace Go.Proofs.YtbefcdjcefmicaaGreat.Em
open Go.ChangeShapes Go.WideShapes Go.ChangeAt Go.RowKit En
set_option linter.unusedVariables false
set_option linter.unusedSimpArgs false
set_option maxRecDepth 100000
set_option maxHeartbeats 1600000

theorem sweep_countD {A : Book} {σ : St} {w : World} (hR : Rep A σ w) (cb dl : Nat) (hd : σ.count = cb + dl) (hc : σ.count < 4000000000000000000) (hlk : σ.looks < 1000000000000000000) (hdl : dl < 1000000) (b0 b1 : Nat) (B0 : Box A.L w b0 (.pointer (some ⟨A.be, 0, none⟩))) (B1 : Box A.L w b1 (.int .i64 (cb : Int))) :
    CallsD Tryz.prog 104 #[.pointer (some ⟨b0, 0, none⟩), .pointer (some ⟨b1, 0, none⟩)] .returning w fun e u w' => e = .returned (.tuple #[]) ∧ u = .returning ∧ Rep A { σ with looks := σ.looks + dl } w' ∧ Grow A.L w A.L w' := by
  have c0 := B0.cell
  have c1 := B1.cell
  have e2 : w.cell? ⟨A.be, 2, none⟩ = some (.pointer (some ⟨A.ba, 0, none⟩)) := hR.eng 2 rfl
  have e23 : w.cell? ⟨A.be, 23, none⟩ = some (.int .i64 (σ.looks : Int)) := hR.eng 23 rfl
  have n1 : IntKind.i64.wrap (((cb + dl : Nat) : Int) - (cb : Int)) = (dl : Int) := by rw [IntKind.wrap_i64]; omega
  have n2 : IntKind.i64.wrap ((σ.looks : Int) + (dl : Int)) = ((σ.looks + dl : Nat) : Int) := by rw [IntKind.wrap_i64]; omega
  have HC := Lib.hid ((count_any hR.drew hc).mono (fun e w9 h => (⟨h.1, h.2.symm⟩ : e = _ ∧ w9 = w.drew)))
  rw [hd] at HC
  have HL := Lib.hid (hR.drew.looksSet (σ.looks + dl))
  have HR := Lib.hid hR
  clear hR hd hc hlk hdl B0 B1
  generalize ((cb + dl : Nat) : Int) = c2 at *
  generalize hlz : ((σ.looks + dl : Nat) : Int) = lz at *
  refine callsD_of_wpS Tryz.func104 rfl fun c₀ cs hu => ?_
  refine wpS_of_wp ?_
  change Code.wp _ _ _ { tmps := #[.pointer (some ⟨b0, 0, none⟩), .pointer (some ⟨b1, 0, none⟩), undef, undef, undef, undef, undef, undef, undef, undef, undef, undef, undef, undef, undef, undef], defers := [] } w
  have HC0 := Lib.hid hu
  clear hu
  generalize hQ : (fun (e : Exit) (a' : Act) (w' : World) => bodyPostS _ _ _ _ _ e a' _ w') = Q
  have HQ := Lib.hid hQ
  clear hQ
  go_wp2_with fail
  refine wp_region_still_tail 14 (by kernel_rfl) (by kernel_rfl) ?_
  simp only [List.take_succ_cons, List.take_zero, List.drop_succ_cons, List.drop_zero]
  repeat still_step
  still_call HC.out
  repeat still_step
  refine wpStill_nil ?_
  change wpList _ _ _ _ _ w.drew
  have y23 : w.drew.cell? ⟨A.be, 23, none⟩ = some (.int .i64 (σ.looks : Int)) := e23
  have z23 : w.drew.frozen? ⟨A.be, 23, none⟩ = false := HR.out.engF 23
  have HG := Lib.hid (Grow.drew A.L w)
  generalize w.drew = wd at *
  go_wp2_with fail
  rw [← HQ.out]
  have hu := HC0.out
  have hr := And.intro HL.out.1 (HG.out.trans HL.out.2)
  cases c₀
  simp_all [bodyPostS, results, Tryz.results104]
end Go.Proofs.YtbefcdjcefmicaaGreat.Em

namespace Go.Proofs.YtbefcdjcefmicaaGreat.Em
open Go.ChangeShapes Go.WideShapes Go.ChangeAt Go.RowKit En
set_option linter.unusedVariables false
set_option linter.unusedSimpArgs false
set_option maxRecDepth 100000
set_option maxHeartbeats 1600000

theorem cv_nil (A : Book) (n : Nat) : ∃ a c, A.cv n [] = .slice a 0 c := by
  unfold Book.cv
  cases n with
  | zero => exact ⟨none, 0, rfl⟩
  | succ n => exact ⟨_, _, rfl⟩
theorem give_none {A : Book} {σ : St} {w : World} (hR : Rep A σ w) (hcut : σ.cut = []) :
    Calls Tryz.prog 105 #[.pointer (some ⟨A.be, 0, none⟩)] w fun e w' => e = .returned (.bool false) ∧ Below w.heap.size w w' := by
  have y := hR.eng 27 (v := A.cv σ.cuts σ.cut) rfl
  rw [hcut] at y
  obtain ⟨a, c, e⟩ := cv_nil A σ.cuts
  rw [e] at y
  clear hR hcut e
  go_enter Tryz.func105, Tryz.ntmps105
  go_wp2
  go_ret
  exact ⟨rfl, Below.refl _ _⟩
end Go.Proofs.YtbefcdjcefmicaaGreat.Em

namespace Go.Proofs.YtbefcdjcefmicaaGreat.Em
open Go.ChangeShapes Go.WideShapes Go.ChangeAt Go.RowKit En
set_option linter.unusedVariables false
set_option linter.unusedSimpArgs false
set_option maxRecDepth 100000
set_option maxHeartbeats 1600000

theorem calls_index (k : Nat) (hk : k < 8) (w : World) : (Instr.index 108 (.agg #[.pointer none, .pointer none, .pointer none, .pointer none, .pointer none, .pointer none, .pointer none, .pointer none]) (.int .i64 (k : Int))).run Tryz.prog w = .ok (.pointer none) w := by
  have h : k = 0 ∨ k = 1 ∨ k = 2 ∨ k = 3 ∨ k = 4 ∨ k = 5 ∨ k = 6 ∨ k = 7 := by omega
  rcases h with rfl | rfl | rfl | rfl | rfl | rfl | rfl | rfl <;> rfl
theorem give_one {A : Book} {σ : St} {w : World} (hR : Rep A σ w) (hid : ∀ s, s < 8 → A.vcall s = .pointer none) (link seq n : Nat) (hv : VL σ link) (hp : PoolOk σ) (hcut : σ.cut = [(link, seq)]) (hcuts : σ.cuts = n + 1) (a : Option Addr) (c : Nat) (hrow : A.vcut.2 = .slice a 1 c) (hf : FRow A.L w 2 (.slice a 1 c) (cutPs [(link, seq)])) :
    Calls Tryz.prog 105 #[.pointer (some ⟨A.be, 0, none⟩)] w fun e w' => e = .returned (.bool true) ∧ ∃ A', SOnly A A' ∧ A'.vsweep = A.vsweep ∧ Rep A' { σ.give link with cut := [], cuts := n + 1 } w' ∧ Grow A.L w A'.L w' := by
  obtain ⟨a', n', c', e0, h1, h2, h3, h4⟩ := hf
  simp only [Value.slice.injEq] at e0
  obtain ⟨rfl, rfl, rfl⟩ := e0
  rcases h4 with h4 | ⟨g, off, rfl, hgl, hgs, hcell⟩
  · cases h4
  have y27 : w.cell? ⟨A.be, 27, none⟩ = some (.slice (some ⟨g, off, none⟩) 1 c) := by
    have y := hR.eng 27 (v := A.cv σ.cuts σ.cut) rfl
    rw [hcut, hcuts, show A.cv (n + 1) [(link, seq)] = A.vcut.2 from rfl, hrow] at y
    exact y
  have y3 : w.cell? ⟨A.be, 3, none⟩ = some (.pointer (some ⟨A.bp, 0, none⟩)) := hR.eng 3 rfl
  have ylk : w.cell? ⟨g, off, none⟩ = some (.int .u64 (link : Int)) := hcell 0 (by decide)
  have z0 : w.cell? ⟨A.be, 13, none⟩ = some (.pointer none) := by have h := hR.eng 13 (v := A.vcall 0) rfl; rw [hid 0 (by decide)] at h; exact h
  have z1 : w.cell? ⟨A.be, 14, none⟩ = some (.pointer none) := by have h := hR.eng 14 (v := A.vcall 1) rfl; rw [hid 1 (by decide)] at h; exact h
  have z2 : w.cell? ⟨A.be, 15, none⟩ = some (.pointer none) := by have h := hR.eng 15 (v := A.vcall 2) rfl; rw [hid 2 (by decide)] at h; exact h
  have z3 : w.cell? ⟨A.be, 16, none⟩ = some (.pointer none) := by have h := hR.eng 16 (v := A.vcall 3) rfl; rw [hid 3 (by decide)] at h; exact h
  have z4 : w.cell? ⟨A.be, 17, none⟩ = some (.pointer none) := by have h := hR.eng 17 (v := A.vcall 4) rfl; rw [hid 4 (by decide)] at h; exact h
  have z5 : w.cell? ⟨A.be, 18, none⟩ = some (.pointer none) := by have h := hR.eng 18 (v := A.vcall 5) rfl; rw [hid 5 (by decide)] at h; exact h
  have z6 : w.cell? ⟨A.be, 19, none⟩ = some (.pointer none) := by have h := hR.eng 19 (v := A.vcall 6) rfl; rw [hid 6 (by decide)] at h; exact h
  have z7 : w.cell? ⟨A.be, 20, none⟩ = some (.pointer none) := by have h := hR.eng 20 (v := A.vcall 7) rfl; rw [hid 7 (by decide)] at h; exact h
  have HX := Lib.hid (And.intro hR (And.intro hv (And.intro hp (And.intro hcuts h2))))
  have HCE : Hid (∀ w1, Below w.heap.size w w1 → w1.cell? ⟨A.be, 3, none⟩ = some (.pointer (some ⟨A.bp, 0, none⟩)) ∧ w1.cell? ⟨A.be, 27, none⟩ = some (.slice (some ⟨g, off, none⟩) 1 c) ∧ w1.cell? ⟨g, off, none⟩ = some (.int .u64 (link : Int))) := fun w1 hb => by
    have hbe : A.be < w.heap.size := World.block_lt_of_cell? w _ y3
    exact ⟨(hb.cell (p := ⟨A.be, 3, none⟩) hbe).trans y3, (hb.cell (p := ⟨A.be, 27, none⟩) hbe).trans y27, (hb.cell (p := ⟨g, off, none⟩) hgs).trans ylk⟩
  have HSV : Hid (∀ A' wr w2, FreeOnly A A' → Below w.heap.size w wr → Rep A' (σ.give link) w2 → Grow A.L wr A'.L w2 → w2.cell? ⟨A.be, 3, none⟩ = some (.pointer (some ⟨A.bp, 0, none⟩)) ∧ w2.cell? ⟨A.be, 27, none⟩ = some (.slice (some ⟨g, off, none⟩) 1 c) ∧ w2.cell? ⟨g, off, none⟩ = some (.int .u64 (link : Int))) := fun A' wr w2 hfo hb r gr => by
    have gg := (Grow.below (L := A.L) hb).trans gr
    have b1 : A'.be = A.be := by obtain ⟨L, v, rfl⟩ := hfo; rfl
    have b2 : A'.bp = A.bp := by obtain ⟨L, v, rfl⟩ := hfo; rfl
    have b3 : A'.vcut = A.vcut := by obtain ⟨L, v, rfl⟩ := hfo; rfl
    have hcc : (σ.give link).cut = σ.cut ∧ (σ.give link).cuts = σ.cuts := by
      unfold St.give
      dsimp only
      repeat' split
      all_goals (first | exact ⟨rfl, rfl⟩ | (dsimp only; split <;> exact ⟨rfl, rfl⟩))
    have x3 := r.eng 3 (v := .pointer (some ⟨A'.bp, 0, none⟩)) rfl
    have x27 := r.eng 27 (v := A'.cv (σ.give link).cuts (σ.give link).cut) rfl
    rw [b1, b2] at x3
    rw [b1, hcc.1, hcc.2, hcut, hcuts, show A'.cv (n + 1) [(link, seq)] = A'.vcut.2 from rfl, b3, hrow] at x27
    exact ⟨x3, x27, (World.cell?_of_block (w := w) (a := ⟨g, off, none⟩) (gg.block g hgs hgl)).trans ylk⟩
  clear hR hv hp hid hcut hcuts hrow hcell h1 hgl
  go_enter Tryz.func105, Tryz.ntmps105
  go_wp2_with fail
  go_loopw [19] (fun i wr => ∃ k : Nat, k ≤ 8 ∧ i = .int .i64 (k : Int) ∧ Below w.heap.size w wr) (fun i _ => 8 - (intOf i).toNat)
  case atStart => exact ⟨0, by omega, rfl, Below.refl _ _⟩
  case round =>
    obtain ⟨k, hk, rfl, hb⟩ := hrel
    have HB := Lib.hid hb
    clear hb
    by_cases hlt : k < 8
    · have k1 : ((k : Int) < 8) = True := by simp; omega
      have k2 : decide ((k : Int) < 8) = true := by simp; omega
      have k3 : IntKind.i64.wrap ((k : Int) + 1) = (k : Int) + 1 := by rw [IntKind.wrap_i64]; omega
      have hix := calls_index k hlt
      have HK := Lib.hid hlt
      clear hlt hk
      go_wp2_with (refine wpList_index rfl (.tmp 18) (.tmp 19) 108 rfl (hix _) ?_)
      go_quiet (fail)
      go_wp2_with fail
      exact ⟨⟨k + 1, by have := HK.out; omega, rfl, HB.out.trans ⟨rfl, rfl, rfl, Nat.le_refl _, fun _ _ => rfl⟩⟩, by have := HK.out; simp [intOf]; omega⟩
    · obtain rfl : k = 8 := by omega
      have k1 : (((8 : Nat) : Int) < 8) = False := by simp
      have k2 : decide (((8 : Nat) : Int) < 8) = false := by simp
      obtain ⟨x3, x27, xlk⟩ := HCE.out _ HB.out
      have hRr := HX.out.1.below HB.out
      have HGV := Lib.hid (give_any hRr.drew link HX.out.2.1 HX.out.2.2.1)
      have HR0 := Lib.hid hRr
      have HBD := Lib.hid ((HB.out).drew)
      clear hRr hk
      go_wp2_with fail
      go_region_held3 (fun w' => w'.cell? ⟨A.be, 3, none⟩ = some (.pointer (some ⟨A.bp, 0, none⟩)) ∧ w'.cell? ⟨A.be, 27, none⟩ = some (.slice (some ⟨g, off, none⟩) 1 c) ∧ w'.cell? ⟨g, off, none⟩ = some (.int .u64 (link : Int)))
        (first | exact ⟨x3, x27, xlk⟩ | assumption | go_keep | exact HSV.out _ _ _ (by assumption) HBD.out (by assumption) (by assumption))
        (first | (go_at_call 135; refine HGV.out.mono ?_; rintro e w2 ⟨⟨zz, rfl⟩, A', p0, p1, p2⟩))
      obtain ⟨_, y27', _⟩ := HSV.out _ _ _ p0 HBD.out p1 p2
      have z27 := p1.engF 27
      have b1 : A'.be = A.be := by obtain ⟨L, v, rfl⟩ := p0; rfl
      have hvs : A'.vsweep = A.vsweep := by obtain ⟨L, v, rfl⟩ := p0; rfl
      have hso : SOnly A A' := by obtain ⟨L, v, rfl⟩ := p0; exact ⟨⟨_, _, _, _, _, rfl⟩, rfl⟩
      rw [b1] at z27
      have h1c : 1 ≤ c := HX.out.2.2.2.2
      have hc1 : ((1 : Int) ≤ (c : Int)) = True := by simp; omega
      have hc2 : ¬ ((c : Int) < 1) := by omega
      have HF := Lib.hid (And.intro p1 (And.intro ((Grow.below (L := A.L) HBD.out).trans p2) (And.intro b1 (And.intro hso hvs))))
      clear p0 p1 p2 b1 hso hvs
      go_wp2_with fail
      all_goals
        go_ret
        obtain ⟨p1, p2, b1, hso, hvs⟩ := HF.out
        rw [← b1]
        refine ⟨rfl, _, ?_, ?_, (p1.cutNil _ _ n).1, p2.trans (p1.cutNil _ _ n).2⟩
        rotate_left
        exact hvs
        exact hso.trans ⟨⟨_, _, _, _, _, rfl⟩, rfl⟩
end Go.Proofs.YtbefcdjcefmicaaGreat.Em
