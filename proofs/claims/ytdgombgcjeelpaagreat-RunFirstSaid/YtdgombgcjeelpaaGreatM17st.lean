/- Texts of this claim, laid together: Oa, Fz, Ks. -/
import Derived.Test.YtdgombgcjeelpaaGreatM16st
import Derived.Test.YtdgombgcjeelpaaGreatM13st
import Derived.Test.YtdgombgcjeelpaaGreatM9st
import Derived.Test.YtdgombgcjeelpaaGreatM8st
import Derived.Test.YtdgombgcjeelpaaGreatM10st
import Derived.Test.YtdgombgcjeelpaaGreatM12st
import Derived.Test.YtdgombgcjeelpaaGreatM7st
import Derived.Test.YtdgombgcjeelpaaGreatM11st
namespace Go.Proofs.YtdgombgcjeelpaaGreat.Em
open Go.ChangeShapes Go.WideShapes Go.ChangeAt Go.RowKit En
set_option linter.unusedVariables false
set_option linter.unusedSimpArgs false
set_option maxRecDepth 100000
set_option maxHeartbeats 1600000

theorem k_own {A : Book} {σ : St} {w : World} (hR : Rep A σ w) (s : Nat) (t : Txn) (ht : σ.txns.getD s none = some t) (link : Nat) (hv : VL σ link) (hx : σ.word (wslot link 1) < 18446744073709551616) (hcnt : σ.count < 4000000000000000000) (b0 b1 b2 b3 : Nat)
    (B0 : Box A.L w b0 (.pointer (some ⟨A.be, 0, none⟩))) (B1 : Box A.L w b1 (.int .u64 (link : Int))) (B2 : Box A.L w b2 (.pointer (some ⟨A.bt s, 0, none⟩))) (B3 : Box A.L w b3 (.pointer (some ⟨A.bc s, 0, none⟩))) :
    Calls Tryz.prog 148 #[.pointer (some ⟨b0, 0, none⟩), .pointer (some ⟨b1, 0, none⟩), .pointer (some ⟨b2, 0, none⟩), .pointer (some ⟨b3, 0, none⟩)] w (Ran A w s (σ.run s (.own link))) := by
  have hsl := hR.sl
  have c0 := B0.cell
  have c1 := B1.cell
  have e2 : w.cell? ⟨A.be, 2, none⟩ = some (.pointer (some ⟨A.ba, 0, none⟩)) := hR.eng 2 rfl
  have HSl := Lib.hid (slot_at link 1 1 rfl hv.lo (by have := hv.hi; omega) hv.u (by omega))
  have HL : Hid (∀ w', Rep A σ w' → Calls Tryz.prog 66 #[.pointer (some ⟨A.ba, 0, none⟩), .int .i64 ((wslot link 1 : Nat) : Int)] w' (Did A w' σ.tick (.int .u64 (σ.word (wslot link 1) : Int)))) := fun w' r => load_any r (wslot link 1) (wslot_lt hR hv.lo hv.hi (by omega)) hcnt
  have HKK : Hid (∀ w', Rep A σ.tick w' → Grow A.L w A.L w' → w'.cell? ⟨b0, 0, none⟩ = some (.pointer (some ⟨A.be, 0, none⟩)) ∧ w'.cell? ⟨b1, 0, none⟩ = some (.int .u64 (link : Int)) ∧ w'.cell? ⟨A.be, 2, none⟩ = some (.pointer (some ⟨A.ba, 0, none⟩))) := fun w' r g => ⟨(B0.grow g).cell, (B1.grow g).cell, r.eng 2 rfl⟩
  have hrd := rd_any (σ.word (wslot link 1)) hx
  have HRD := Lib.hid hrd
  have HRd : Hid (Rep A σ w.drew) := hR.drew
  have HG : Hid (Grow A.L w A.L w.drew) := Grow.drew _ _
  have HFX : Hid (Fix A.L (w.drew.alloc (.cells #[.int .u64 0] 24)) w.heap.size (.cells #[.int .u64 0] 24)) := fix_next hR.drew.mem.fresh _ rfl
  have x0 := World.new_ne w _ c0
  have x1 := World.new_ne w _ c1
  have x3 := World.new_ne w _ e2
  have hn2 : (rd (σ.word (wslot link 1))).1 = 2 → (rd (σ.word (wslot link 1))).2 ≤ 65535 := by
    intro h; have := (rd_small (σ.word (wslot link 1)) hx).2.1 h; omega
  have hrun : σ.run s (.own link) = if (rd (σ.word (wslot link 1))).1 = 3 then (σ.tick, some (.claim link (σ.word (wslot link 1)))) else if (rd (σ.word (wslot link 1))).1 = 2 then (σ.tick, some (.ownTxn link (σ.word (wslot link 1)) (rd (σ.word (wslot link 1))).2)) else (σ.tick, some (.abort 14 2)) := by
    simp only [St.run]
  have HRUN := Lib.hid hrun
  have HN2 := Lib.hid hn2
  generalize σ.run s (.own link) = rr at *
  have hl0 : A.L w.heap.size = none := hR.mem.fresh _ (Nat.le_refl _)
  have HSET : Hid (∀ w', Rep A σ.tick w' → Grow A.L w A.L w' → Rep A σ.tick (w'.setCell ⟨w.heap.size, 0, none⟩ (.int .u64 (σ.word (wslot link 1) : Int))) ∧ Grow A.L w A.L (w'.setCell ⟨w.heap.size, 0, none⟩ (.int .u64 (σ.word (wslot link 1) : Int)))) := fun w' r g => hR.setNew r g rfl rfl (a := ⟨w.heap.size, 0, none⟩) (Nat.le_refl _) hl0 (.int .u64 (σ.word (wslot link 1) : Int))
  have HB : Hid (∀ w1, Rep A σ.tick w1 → Grow A.L w A.L w1 → w1.cell? ⟨b0, 0, none⟩ = some (.pointer (some ⟨A.be, 0, none⟩)) ∧ w1.cell? ⟨b1, 0, none⟩ = some (.int .u64 (link : Int)) ∧ w1.cell? ⟨b2, 0, none⟩ = some (.pointer (some ⟨A.bt s, 0, none⟩)) ∧ w1.cell? ⟨b3, 0, none⟩ = some (.pointer (some ⟨A.bc s, 0, none⟩))) := fun w1 q g => ⟨(B0.grow g).cell, (B1.grow g).cell, (B2.grow g).cell, (B3.grow g).cell⟩
  have HX := Lib.hid (And.intro B0 (And.intro B1 (And.intro B2 B3)))
  have HAb : Hid (∀ w1, Rep A σ.tick w1 → Calls Tryz.prog 80 #[.pointer (some ⟨A.be, 0, none⟩), .pointer (some ⟨A.bt s, 0, none⟩), .pointer (some ⟨A.bc s, 0, none⟩), .int .i64 14, .int .i64 2] w1 (Tells A w1 s (σ.tick, .abort 14 2))) := fun w1 q => abort_any q s 14 2
  have HCl : Hid (∀ (x : Nat) w1, Rep A σ.tick w1 → Calls Tryz.prog 149 #[.pointer (some ⟨A.be, 0, none⟩), .pointer (some ⟨A.bt s, 0, none⟩), .pointer (some ⟨A.bc s, 0, none⟩), .int .u64 (link : Int), .int .u64 (x : Int)] w1 (Tells A w1 s (σ.tick, .claim link x))) := fun x w1 q => claim_any q s link x
  clear hR hcnt hv hx hrd hrun ht hsl B0 B1 B2 B3 hl0 hn2
  generalize (rd (σ.word (wslot link 1))).1 = kd at *
  generalize (rd (σ.word (wslot link 1))).2 = n at *
  generalize σ.word (wslot link 1) = x at *
  go_enter Tryz.func148, Tryz.ntmps148
  go_wp2_with fail
  go_region_held3 (fun w' => w'.cell? ⟨b0, 0, none⟩ = some (.pointer (some ⟨A.be, 0, none⟩)) ∧ w'.cell? ⟨b1, 0, none⟩ = some (.int .u64 (link : Int)) ∧ w'.cell? ⟨A.be, 2, none⟩ = some (.pointer (some ⟨A.ba, 0, none⟩)))
    (first | exact ⟨c0, c1, e2⟩ | assumption | exact HKK.out _ q1 q4 | exact HKK.out _ (q1.alloc _) (q4.trans (Grow.alloc _ _ _)) | exact HKK.out _ (HSET.out _ q1 q4).1 (HSET.out _ q1 q4).2 | go_keep)
    (first | (go_at_call 58; refine (HSl.out _).mono ?_; rintro e w' ⟨rfl, rfl⟩) | (go_at_call 66; refine (HL.out _ HRd.out).mono ?_; rintro e w1 ⟨rfl, q1, q2⟩; have q4 := HG.out.trans q2) | (go_at_call 66; refine (HL.out _ (HRd.out.alloc _)).mono ?_; rintro e w1 ⟨rfl, q1, q2⟩; have q4 := (HG.out.trans (Grow.alloc _ _ _)).trans q2; have FX := Lib.hid (HFX.out.grow q2); have nb := FX.out.cell 0 (v := .int .u64 0) rfl; have nz := FX.out.frozen 0))
  all_goals
    rename_i hHeld
    clear hHeld x0 x1 x3 c0 c1 e2
    first
    | (have HZ := Lib.hid (And.intro (HSET.out _ q1 q4).1 (And.intro (HSET.out _ q1 q4).2 (FX.out.setSame (.int .u64 (x : Int)))))
       clear FX nb nz q1 q4
       generalize hW : World.setCell _ _ _ = W at *)
    | (have HZ := Lib.hid (And.intro (q1.alloc (.cells #[.int .u64 (x : Int)] 24)) (And.intro (q4.trans (Grow.alloc _ _ (.cells #[.int .u64 (x : Int)] 24))) (fix_next q1.mem.fresh (.cells #[.int .u64 (x : Int)] 24) rfl)))
       clear q1 q4
       generalize hW : w1.alloc _ = W at *)
    have s5 := HZ.out.2.2.cell 0 (v := .int .u64 (x : Int)) rfl
    clear q2 hW
    have hn2 := HN2.out
    clear HN2
    by_cases k3 : kd = 3
    · have HE := Lib.hid (HRUN.out.trans (if_pos k3))
      have fa1 : ((kd : Int) == 3) = true := by first | (simp; done) | (simp; omega)
      have fa2 : ((kd : Int) = 3) = True := by first | (simp; done) | (simp; omega)
      have fa3 : (kd = 3) = True := by first | (simp; done) | (simp; omega)
      have fa4 : (kd == 3) = true := by first | (simp; done) | (simp; omega)
      have fa5 : ((kd : Int) != 3) = false := by first | (simp; done) | (simp; omega)
      subst k3
      clear hn2
      go_wp2_with (first | (go_at_call 88; refine (HRD.out _).mono ?_; rintro e w2 ⟨rfl, hq⟩; have gq := Grow.below (L := A.L) hq; obtain ⟨r3, g3, f3⟩ := allocs1 (HZ.out.1.below hq) #[.int .i64 (3 : Int), .int .u64 (n : Int)] 179; have s0 := f3.cell 0 (v := .int .i64 (3 : Int)) rfl; have s1 := f3.cell 1 (v := .int .u64 (n : Int)) rfl; have g4 := (HZ.out.2.1.trans gq).trans g3; have s5' := ((HZ.out.2.2.grow gq).grow g3).cell 0 (v := .int .u64 (x : Int)) rfl; obtain ⟨d0, d1, d2, d3⟩ := HB.out _ r3 g4; have HF := Lib.hid (And.intro r3 (And.intro g4 ((HZ.out.2.2.grow gq).grow g3))); clear r3 g3 f3 gq g4 hq) | (go_at_call 149; refine (HCl.out x _ HF.out.1).mono ?_; rintro e w4 ⟨A2, v, rfl, p1, p2, p3, p4⟩))
      go_ret
      rw [HE.out]
      exact ⟨A2, v, rfl, p1, HF.out.2.1.trans p2, p3, p4⟩
    · have HE0 := Lib.hid (HRUN.out.trans (if_neg k3))
      have fa1 : ((kd : Int) == 3) = false := by first | (simp; done) | (simp; omega)
      have fa2 : ((kd : Int) = 3) = False := by first | (simp; done) | (simp; omega)
      have fa3 : (kd = 3) = False := by first | (simp; done) | (simp; omega)
      have fa4 : (kd == 3) = false := by first | (simp; done) | (simp; omega)
      have fa5 : ((kd : Int) != 3) = true := by first | (simp; done) | (simp; omega)
      by_cases k2 : kd = 2
      · have HE := Lib.hid (HE0.out.trans (if_pos k2))
        have hn5 := hn2 k2
        have ew : IntKind.i64.wrap (n : Int) = (n : Int) := by rw [IntKind.wrap_i64]; omega
        have fb1 : ((kd : Int) == 2) = true := by first | (simp; done) | (simp; omega)
        have fb2 : ((kd : Int) = 2) = True := by first | (simp; done) | (simp; omega)
        have fb3 : (kd = 2) = True := by first | (simp; done) | (simp; omega)
        have fb4 : (kd == 2) = true := by first | (simp; done) | (simp; omega)
        have fb5 : ((kd : Int) != 2) = false := by first | (simp; done) | (simp; omega)
        subst k2
        clear hn2 hn5 k3
        go_wp2_with (go_at_call 88; refine (HRD.out _).mono ?_; rintro e w2 ⟨rfl, hq⟩; have gq := Grow.below (L := A.L) hq; obtain ⟨r3, g3, f3⟩ := allocs1 (HZ.out.1.below hq) #[.int .i64 (2 : Int), .int .u64 (n : Int)] 179; have s0 := f3.cell 0 (v := .int .i64 (2 : Int)) rfl; have s1 := f3.cell 1 (v := .int .u64 (n : Int)) rfl; have g4 := (HZ.out.2.1.trans gq).trans g3; have s5' := ((HZ.out.2.2.grow gq).grow g3).cell 0 (v := .int .u64 (x : Int)) rfl; obtain ⟨d0, d1, d2, d3⟩ := HB.out _ r3 g4; have HF := Lib.hid (And.intro r3 (And.intro g4 ((HZ.out.2.2.grow gq).grow g3))); clear r3 g3 f3 gq g4 hq)
        obtain ⟨r5, g5, f5⟩ := allocs1 HF.out.1 #[.int .i64 (n : Int)] 3
        rw [size_alloc1] at f5
        have gg := HF.out.2.1.trans g5
        have HY := Lib.hid (And.intro r5 (And.intro gg (And.intro f5 (HF.out.2.2.grow g5))))
        go_ret
        rw [HE.out]
        obtain ⟨X0, X1, X2, X3⟩ := HX.out
        obtain ⟨r5, gg, f5, f6⟩ := HY.out
        exact ⟨A, _, rfl, r5, gg, Stay.refl _ _, _, _, _, _, _, _, rfl, X0.grow gg, f5.box, X2.grow gg, X3.grow gg, X1.grow gg, f6.box⟩
      · have HE := Lib.hid (HE0.out.trans (if_neg k2))
        have fb1 : ((kd : Int) == 2) = false := by first | (simp; done) | (simp; omega)
        have fb2 : ((kd : Int) = 2) = False := by first | (simp; done) | (simp; omega)
        have fb3 : (kd = 2) = False := by first | (simp; done) | (simp; omega)
        have fb4 : (kd == 2) = false := by first | (simp; done) | (simp; omega)
        have fb5 : ((kd : Int) != 2) = true := by first | (simp; done) | (simp; omega)
        clear k3 k2 hn2
        go_wp2_with (first | (go_at_call 88; refine (HRD.out _).mono ?_; rintro e w2 ⟨rfl, hq⟩; have gq := Grow.below (L := A.L) hq; obtain ⟨r3, g3, f3⟩ := allocs1 (HZ.out.1.below hq) #[.int .i64 (kd : Int), .int .u64 (n : Int)] 179; have s0 := f3.cell 0 (v := .int .i64 (kd : Int)) rfl; have s1 := f3.cell 1 (v := .int .u64 (n : Int)) rfl; have g4 := (HZ.out.2.1.trans gq).trans g3; have s5' := ((HZ.out.2.2.grow gq).grow g3).cell 0 (v := .int .u64 (x : Int)) rfl; obtain ⟨d0, d1, d2, d3⟩ := HB.out _ r3 g4; have HF := Lib.hid (And.intro r3 (And.intro g4 ((HZ.out.2.2.grow gq).grow g3))); clear r3 g3 f3 gq g4 hq) | (go_at_call 80; refine (HAb.out _ HF.out.1).mono ?_; rintro e w4 ⟨A2, v, rfl, p1, p2, p3, p4⟩))
        go_ret
        rw [HE.out]
        exact ⟨A2, v, rfl, p1, HF.out.2.1.trans p2, p3, p4⟩
end Go.Proofs.YtdgombgcjeelpaaGreat.Em

namespace Go.Proofs.YtdgombgcjeelpaaGreat.Em
open Go.ChangeShapes Go.WideShapes Go.ChangeAt Go.RowKit En
set_option linter.unusedVariables false
set_option linter.unusedSimpArgs false
set_option maxRecDepth 100000
set_option maxHeartbeats 1600000

theorem k_free {A : Book} {σ : St} {w : World} (hR : Rep A σ w) (s : Nat) (t : Txn) (ht : σ.txns.getD s none = some t) (link head at_ : Nat) (hv0 : link = 0 ∨ VL σ link) (hva : VL σ at_) (hp : PoolOk σ) (hx : σ.word (wslot at_ 0) < 18446744073709551616) (hcnt : σ.count < 4000000000000000000) (b0 b1 b2 b3 b4 b5 : Nat)
    (B0 : Box A.L w b0 (.pointer (some ⟨A.be, 0, none⟩))) (B1 : Box A.L w b1 (.int .u64 (at_ : Int))) (B2 : Box A.L w b2 (.pointer (some ⟨A.bt s, 0, none⟩))) (B3 : NextBox (kp A σ s) A.L w b3 link head at_) (B4 : Box A.L w b4 (.pointer (some ⟨A.bc s, 0, none⟩))) (B5 : Box A.L w b5 (.int .u64 (link : Int))) :
    Calls Tryz.prog 168 #[.pointer (some ⟨b0, 0, none⟩), .pointer (some ⟨b1, 0, none⟩), .pointer (some ⟨b2, 0, none⟩), .pointer (some ⟨b3, 0, none⟩), .pointer (some ⟨b4, 0, none⟩), .pointer (some ⟨b5, 0, none⟩)] w (Ran A w s (σ.run s (.free link head at_))) := by
  have hsl := hR.sl
  obtain ⟨nv, X3, m0, m1, m2, m3, m4, m5, hnv, N0, N1, N2, N3, N4, N5⟩ := B3
  have c0 := B0.cell
  have c1 := B1.cell
  have e2 : w.cell? ⟨A.be, 2, none⟩ = some (.pointer (some ⟨A.ba, 0, none⟩)) := hR.eng 2 rfl
  have HSl := Lib.hid (slot_at at_ 0 0 rfl hva.lo (by have := hva.hi; omega) hva.u (by omega))
  have HL : Hid (∀ w', Rep A σ w' → Calls Tryz.prog 66 #[.pointer (some ⟨A.ba, 0, none⟩), .int .i64 ((wslot at_ 0 : Nat) : Int)] w' (Did A w' σ.tick (.int .u64 (σ.word (wslot at_ 0) : Int)))) := fun w' r => load_any r (wslot at_ 0) (wslot_lt hR hva.lo hva.hi (by omega)) hcnt
  have HKK : Hid (∀ w', Rep A σ.tick w' → Grow A.L w A.L w' → w'.cell? ⟨b0, 0, none⟩ = some (.pointer (some ⟨A.be, 0, none⟩)) ∧ w'.cell? ⟨b1, 0, none⟩ = some (.int .u64 (at_ : Int)) ∧ w'.cell? ⟨A.be, 2, none⟩ = some (.pointer (some ⟨A.ba, 0, none⟩))) := fun w' r g => ⟨(B0.grow g).cell, (B1.grow g).cell, r.eng 2 rfl⟩
  have hrd := rd_any (σ.word (wslot at_ 0)) hx
  have HRD := Lib.hid hrd
  have HRd : Hid (Rep A σ w.drew) := hR.drew
  have HG : Hid (Grow A.L w A.L w.drew) := Grow.drew _ _
  have HFX : Hid (Fix A.L (w.drew.alloc (.cells #[.int .i64 0, .int .u64 0] 179)) w.heap.size (.cells #[.int .i64 0, .int .u64 0] 179)) := fix_next hR.drew.mem.fresh _ rfl
  have x0 := World.new_ne w _ c0
  have x1 := World.new_ne w _ c1
  have x3 := World.new_ne w _ e2
  generalize hkd : (rd (σ.word (wslot at_ 0))).1 = kd at *
  generalize hn : (rd (σ.word (wslot at_ 0))).2 = n at *
  have HST : Hid (∀ w2 b, Rep A σ.tick w2 → Grow A.L w A.L w2 → w.heap.size ≤ b → Fix A.L w2 b (.cells #[.int .i64 0, .int .u64 0] 179) → Rep A σ.tick ((w2.setCell ⟨b, 0, none⟩ (.int .i64 (kd : Int))).setCell ⟨b, 1, none⟩ (.int .u64 (n : Int))) ∧ Grow A.L w A.L ((w2.setCell ⟨b, 0, none⟩ (.int .i64 (kd : Int))).setCell ⟨b, 1, none⟩ (.int .u64 (n : Int))) ∧ Fix A.L ((w2.setCell ⟨b, 0, none⟩ (.int .i64 (kd : Int))).setCell ⟨b, 1, none⟩ (.int .u64 (n : Int))) b (.cells #[.int .i64 (kd : Int), .int .u64 (n : Int)] 179)) := fun w2 b r g hb fx => hR.stamp r g rfl hb fx _ _
  have HSZ : Hid (∀ w1, Grow A.L w A.L w1 → w.heap.size ≤ w1.heap.size) := fun w1 g => g.size
  have HB : Hid (∀ w1, Rep A σ.tick w1 → Grow A.L w A.L w1 → w1.cell? ⟨b0, 0, none⟩ = some (.pointer (some ⟨A.be, 0, none⟩)) ∧ w1.cell? ⟨b2, 0, none⟩ = some (.pointer (some ⟨A.bt s, 0, none⟩)) ∧ w1.cell? ⟨b3, 0, none⟩ = some nv ∧ w1.cell? ⟨b4, 0, none⟩ = some (.pointer (some ⟨A.bc s, 0, none⟩)) ∧ w1.cell? ⟨b5, 0, none⟩ = some (.int .u64 (link : Int)) ∧ w1.cell? ⟨A.bt s, 3, none⟩ = some (.int .u64 (t.begin_ : Int))) :=
    fun w1 q g => ⟨(B0.grow g).cell, (B2.grow g).cell, (X3.grow g).cell, (B4.grow g).cell, (B5.grow g).cell, q.txn (s := s) (t := t) ht 3 rfl⟩
  have HLost : Hid (∀ w1, Rep A σ.tick w1 → Grow A.L w A.L w1 → Calls Tryz.prog 169 #[.pointer (some ⟨A.be, 0, none⟩), .pointer (some ⟨A.bt s, 0, none⟩), .pointer (some ⟨A.bc s, 0, none⟩), .int .u64 (link : Int)] w1 (Tells A w1 s (σ.tick.lost link))) := fun w1 q g => lost_any q s link (hv0.imp (fun h => h) fun h => ⟨h.lo, h.hi, h.u⟩) ⟨hp.n, hp.free, hp.tag, hp.worn⟩
  have hrun : σ.run s (.free link head at_) = if kd = 1 ∧ n ≤ t.begin_ then (σ.tick, some (.next link head at_)) else if kd ≠ 2 then ((σ.tick.lost link).1, some (σ.tick.lost link).2) else (σ.tick, some (.freeTxn link head at_ n)) := by
    have e : σ.tick.t s = t := txn_get ht
    simp only [St.run, hkd, hn, e]
  have HX : Hid (Box A.L w b0 (.pointer (some ⟨A.be, 0, none⟩)) ∧ Box A.L w b1 (.int .u64 (at_ : Int)) ∧ Box A.L w b2 (.pointer (some ⟨A.bt s, 0, none⟩)) ∧ Box A.L w b3 nv ∧ Box A.L w b4 (.pointer (some ⟨A.bc s, 0, none⟩)) ∧ Box A.L w b5 (.int .u64 (link : Int)) ∧ Box A.L w m0 (ptr (kp A σ s).e) ∧ Box A.L w m1 (ptr (kp A σ s).t) ∧ Box A.L w m2 (ptr (kp A σ s).c) ∧ Box A.L w m3 (u64 link) ∧ Box A.L w m4 (u64 head) ∧ Box A.L w m5 (u64 at_)) := ⟨B0, B1, B2, X3, B4, B5, N0, N1, N2, N3, N4, N5⟩
  subst hnv
  have HRUN := Lib.hid hrun
  generalize σ.run s (.free link head at_) = rr at *
  clear hR hcnt hva hv0 hp hx hrd hkd hn hrun ht hsl B0 B1 B2 X3 B4 B5 N0 N1 N2 N3 N4 N5
  generalize t.begin_ = bg at *
  generalize σ.word (wslot at_ 0) = x at *
  go_enter Tryz.func168, Tryz.ntmps168
  go_wp2_with fail
  go_region_held3 (fun w' => w'.cell? ⟨b0, 0, none⟩ = some (.pointer (some ⟨A.be, 0, none⟩)) ∧ w'.cell? ⟨b1, 0, none⟩ = some (.int .u64 (at_ : Int)) ∧ w'.cell? ⟨A.be, 2, none⟩ = some (.pointer (some ⟨A.ba, 0, none⟩)))
    (first | exact ⟨c0, c1, e2⟩ | assumption | exact HKK.out _ q1 q4 | exact HKK.out _ (q1.alloc _) (q4.trans (Grow.alloc _ _ _)) | exact HKK.out _ r2 g2 | exact HKK.out _ (r2.alloc _) (g2.trans (Grow.alloc _ _ _)) | exact HKK.out _ (HST.out _ _ r2 g2 hb FX.out).1 (HST.out _ _ r2 g2 hb FX.out).2.1 | go_keep)
    (first | (go_at_call 58; refine (HSl.out _).mono ?_; rintro e w' ⟨rfl, rfl⟩) | (go_at_call 66; refine (HL.out _ HRd.out).mono ?_; rintro e w1 ⟨rfl, q1, q2⟩; have q4 := HG.out.trans q2) | (go_at_call 66; refine (HL.out _ (HRd.out.alloc _)).mono ?_; rintro e w1 ⟨rfl, q1, q2⟩; have q4 := (HG.out.trans (Grow.alloc _ _ _)).trans q2; have FX1 := Lib.hid (HFX.out.grow q2)) | (go_at_call 88; refine (HRD.out _).mono ?_; rintro e w2 ⟨rfl, hq⟩; have r2 := q1.below hq; have g2 := q4.trans (Grow.below hq); have FX := Lib.hid (FX1.out.grow (Grow.below hq)); have hb := Nat.le_refl w.heap.size; have nb0 := FX.out.cell 0 (v := .int .i64 0) rfl; have nb1 := FX.out.cell 1 (v := .int .u64 0) rfl; have nz0 := FX.out.frozen 0; have nz1 := FX.out.frozen 1) | (go_at_call 88; refine (HRD.out _).mono ?_; rintro e w2 ⟨rfl, hq⟩; have r2 := (q1.alloc _).below hq; have g2 := (q4.trans (Grow.alloc A.L _ _)).trans (Grow.below hq); have FX := Lib.hid ((fix_next q1.mem.fresh (.cells #[.int .i64 0, .int .u64 0] 179) rfl).grow (Grow.below (L := A.L) hq)); have hb := HSZ.out _ q4; have nb0 := FX.out.cell 0 (v := .int .i64 0) rfl; have nb1 := FX.out.cell 1 (v := .int .u64 0) rfl; have nz0 := FX.out.frozen 0; have nz1 := FX.out.frozen 1) | (go_at_call 88; refine (HRD.out _).mono ?_; rintro e w2 ⟨rfl, hq⟩; have r2 := q1.below hq; have g2 := q4.trans (Grow.below hq)))
  all_goals
    rename_i hHeld
    clear hHeld x0 x1 x3 c0 c1 e2
    first
    | (have HZ := Lib.hid (HST.out _ _ r2 g2 hb FX.out)
       clear FX hb nb0 nb1 nz0 nz1 r2 g2 q1 q4
       generalize hW : (World.setCell _ _ _).setCell _ _ = W at *)
    | (have HZ := Lib.hid (And.intro (r2.alloc (.cells #[.int .i64 (kd : Int), .int .u64 (n : Int)] 179)) (And.intro (g2.trans (Grow.alloc _ _ (.cells #[.int .i64 (kd : Int), .int .u64 (n : Int)] 179))) (fix_next r2.mem.fresh (.cells #[.int .i64 (kd : Int), .int .u64 (n : Int)] 179) rfl)))
       clear r2 g2 q1 q4
       generalize hW : w2.alloc _ = W at *)
    obtain ⟨r3, g3, f3⟩ := HZ.out
    have s0 := f3.cell 0 (v := .int .i64 (kd : Int)) rfl
    have s1 := f3.cell 1 (v := .int .u64 (n : Int)) rfl
    obtain ⟨d0, d2, d3, d4, d5, t3⟩ := HB.out W r3 g3
    clear f3 r3 g3 hW hq q2
    by_cases k1 : kd = 1
    · have fa1 : ((kd : Int) == 1) = true := by first | (simp; done) | (simp; omega)
      have fa2 : ((kd : Int) = 1) = True := by first | (simp; done) | (simp; omega)
      have fa3 : (kd = 1) = True := by first | (simp; done) | (simp; omega)
      have fa4 : (kd == 1) = true := by first | (simp; done) | (simp; omega)
      have fa5 : ((kd : Int) != 1) = false := by first | (simp; done) | (simp; omega)
      have fe1 : ((kd : Int) == 2) = false := by first | (simp; done) | (simp; omega)
      have fe2 : ((kd : Int) = 2) = False := by first | (simp; done) | (simp; omega)
      have fe3 : (kd = 2) = False := by first | (simp; done) | (simp; omega)
      have fe4 : (kd == 2) = false := by first | (simp; done) | (simp; omega)
      have fe5 : ((kd : Int) != 2) = true := by first | (simp; done) | (simp; omega)
      by_cases hna : n ≤ bg
      · have HE := Lib.hid (HRUN.out.trans (if_pos ⟨k1, hna⟩))
        have fb1 : decide ((n : Int) ≤ (bg : Int)) = true := by first | (simp; done) | (simp; omega)
        have fb2 : ((n : Int) ≤ (bg : Int)) = True := by first | (simp; done) | (simp; omega)
        have fb3 : (n ≤ bg) = True := by first | (simp; done) | (simp; omega)
        have fb4 : decide (n ≤ bg) = true := by first | (simp; done) | (simp; omega)
        subst k1
        clear hna
        go_wp2_with fail
        go_quiet (fail)
        go_wp2_with fail
        go_ret
        rw [HE.out]
        obtain ⟨X0, X1, X2, X3, X4, X5, N0, N1, N2, N3, N4, N5⟩ := HX.out
        have gg := fun n => HZ.out.2.1.trans (Grow.drewN _ _ n)
        exact ⟨A, _, rfl, HZ.out.1.drewN _, gg _, Stay.refl _ _, _, _, _, _, _, _, rfl, N0.grow (gg _), N1.grow (gg _), N2.grow (gg _), N3.grow (gg _), N4.grow (gg _), N5.grow (gg _)⟩
      · have HE := Lib.hid ((HRUN.out.trans (if_neg (fun h => hna h.2))).trans (if_pos (by omega)))
        have fb1 : decide ((n : Int) ≤ (bg : Int)) = false := by first | (simp; done) | (simp; omega)
        have fb2 : ((n : Int) ≤ (bg : Int)) = False := by first | (simp; done) | (simp; omega)
        have fb3 : (n ≤ bg) = False := by first | (simp; done) | (simp; omega)
        have fb4 : decide (n ≤ bg) = false := by first | (simp; done) | (simp; omega)
        subst k1
        clear hna
        go_wp2_with fail
        go_quiet (fail)
        go_wp2_with (go_at_call 169; refine (HLost.out _ (HZ.out.1.drewN _) (HZ.out.2.1.trans (Grow.drewN _ _ _))).mono ?_; rintro e w4 ⟨A2, v, rfl, p1, p2, p3, p4⟩)
        go_ret
        rw [HE.out]
        exact ⟨A2, v, rfl, p1, (HZ.out.2.1.trans (Grow.drewN _ _ _)).trans p2, p3, p4⟩
    · have HE0 := Lib.hid (HRUN.out.trans (if_neg (fun h => k1 h.1)))
      have fa1 : ((kd : Int) == 1) = false := by first | (simp; done) | (simp; omega)
      have fa2 : ((kd : Int) = 1) = False := by first | (simp; done) | (simp; omega)
      have fa3 : (kd = 1) = False := by first | (simp; done) | (simp; omega)
      have fa4 : (kd == 1) = false := by first | (simp; done) | (simp; omega)
      have fa5 : ((kd : Int) != 1) = true := by first | (simp; done) | (simp; omega)
      by_cases k2 : kd = 2
      · have fe1 : ((kd : Int) == 2) = true := by first | (simp; done) | (simp; omega)
        have fe2 : ((kd : Int) = 2) = True := by first | (simp; done) | (simp; omega)
        have fe3 : (kd = 2) = True := by first | (simp; done) | (simp; omega)
        have fe4 : (kd == 2) = true := by first | (simp; done) | (simp; omega)
        have fe5 : ((kd : Int) != 2) = false := by first | (simp; done) | (simp; omega)
        have HE := Lib.hid (HE0.out.trans (if_neg (fun h => h k2)))
        subst k2
        clear k1
        go_wp2_with fail
        go_quiet (fail)
        go_wp2_with fail
        go_ret
        rw [HE.out]
        obtain ⟨X0, X1, X2, X3, X4, X5, N0, N1, N2, N3, N4, N5⟩ := HX.out
        have gd := fun n => Grow.drewN A.L W n
        have gg := fun n => HZ.out.2.1.trans (gd n)
        exact ⟨A, _, rfl, HZ.out.1.drewN _, gg _, Stay.refl _ _, _, _, _, _, _, _, rfl, X0.grow (gg _), ⟨_, HZ.out.2.2.grow (gd _)⟩, X2.grow (gg _), ⟨_, X3.grow (gg _), _, _, _, _, _, _, rfl, N0.grow (gg _), N1.grow (gg _), N2.grow (gg _), N3.grow (gg _), N4.grow (gg _), N5.grow (gg _)⟩, X4.grow (gg _), X5.grow (gg _)⟩
      · have HE := Lib.hid (HE0.out.trans (if_pos k2))
        have fe1 : ((kd : Int) == 2) = false := by first | (simp; done) | (simp; omega)
        have fe2 : ((kd : Int) = 2) = False := by first | (simp; done) | (simp; omega)
        have fe3 : (kd = 2) = False := by first | (simp; done) | (simp; omega)
        have fe4 : (kd == 2) = false := by first | (simp; done) | (simp; omega)
        have fe5 : ((kd : Int) != 2) = true := by first | (simp; done) | (simp; omega)
        clear k1 k2
        go_wp2_with fail
        go_quiet (fail)
        go_wp2_with (go_at_call 169; refine (HLost.out _ (HZ.out.1.drewN _) (HZ.out.2.1.trans (Grow.drewN _ _ _))).mono ?_; rintro e w4 ⟨A2, v, rfl, p1, p2, p3, p4⟩)
        go_ret
        rw [HE.out]
        exact ⟨A2, v, rfl, p1, (HZ.out.2.1.trans (Grow.drewN _ _ _)).trans p2, p3, p4⟩
end Go.Proofs.YtdgombgcjeelpaaGreat.Em

namespace Go.Proofs.YtdgombgcjeelpaaGreat.Em
open Go.ChangeShapes Go.WideShapes Go.ChangeAt Go.RowKit En
set_option linter.unusedVariables false
set_option linter.unusedSimpArgs false
set_option maxRecDepth 100000
set_option maxHeartbeats 1600000

def vl (σ : St) (l : Nat) : Bool := decide (1 ≤ l % 131072) && decide (l % 131072 ≤ σ.slots) && decide (l < 18446744073709551616)
def vl0 (σ : St) (l : Nat) : Bool := l == 0 || vl σ l
def okPool (σ : St) : Bool := decide (σ.free.length < 100000) && σ.free.all (fun i => decide (i < σ.slots)) && σ.tags.all (fun p => decide (p.1 ≤ 65535)) && decide (σ.worn < 1000000)
def okKeys (σ : St) (t : Txn) : Bool := t.keys.all fun key => match t.cell key with | some x => vl0 σ x.own && vl0 σ x.old | none => false
def okCels (σ : St) (t : Txn) : Bool := t.cells.all fun p => !p.2.there || vl σ p.2.own
def okThn (σ : St) (s : Nat) (h : Hunt) (link : Nat) : Bool := decide ((σ.t s).reads.length < 1000000) && match h.thn with
  | .get => vl0 σ link
  | .scan k => decide (k = h.key) && vl0 σ link && decide (k ≤ 63) && decide ((σ.c s).op.hi ≤ 63) && okCels σ (σ.t s) && decide ((σ.c s).r.pairs.length < 90000)
  | .change => decide ((σ.c s).op.key = h.key)
  | .judge i _ => decide (i + 1 ≤ (σ.t s).reads.length)
def small (σ : St) (i : Nat) : Bool := decide (σ.word i < 18446744073709551616)
def okBinds (σ : St) (s : Nat) : Bool := decide ((σ.t s).bonds.length < 1000000) && decide (σ.tale.length < 1000000)
/-- What a step asks. -/
def okK (σ : St) (s : Nat) (k : K) : Bool :=
  decide (σ.count < 3000000000000000000) && match k with
  | .fin _ => true
  | .start h => decide (h.key < 64) && (σ.word (9 + h.key) != 0 || okThn σ s h 0)
  | .visit h link => vl σ link && small σ (wslot link 0)
  | .older h link => vl σ link && (σ.word (wslot link 2) != 0 || okThn σ s h 0)
  | .maker h link id => decide (id ≤ 2000) && small σ (σ.place id)
  | .ended h link mb => vl σ link && small σ (wslot link 1) && (mb != 0 || okThn σ s h link)
  | .ender h link mb id => decide (id ≤ 2000) && small σ (σ.place id) && okBinds σ s && (mb != 0 || okThn σ s h link)
  | .seen h link mb => decide (mb ≤ 2000) && small σ (σ.place mb) && okBinds σ s && okThn (if stateOf (σ.word (σ.place mb)) = 2 then σ.tick.bind s mb else σ.tick) s h link
  | .again _ => match (σ.t s).cell (σ.c s).op.key with | some x => vl σ x.own | none => false
  | .own link => vl σ link && small σ (wslot link 1)
  | .ownTxn _ _ id => decide (id ≤ 2000) && small σ (σ.place id)
  | .claim link _ => vl σ link && decide (1 ≤ (σ.t s).id) && decide ((σ.t s).id ≤ 65535) && ((σ.t s).cell (σ.c s).op.key).isNone && decide ((σ.t s).keys.length < 1000000) && okPool σ
  | .fresh link => vl0 σ link && decide ((σ.c s).op.key < 64) && okPool σ
  | .next link _ at_ => vl0 σ link && vl σ at_ && okPool σ
  | .free link _ at_ => vl0 σ link && vl σ at_ && okPool σ && small σ (wslot at_ 0)
  | .freeTxn link _ _ id => vl0 σ link && decide (id ≤ 2000) && small σ (σ.place id) && okPool σ
  | .slotB x link head => vl σ link && decide (1 ≤ (σ.t s).id) && decide ((σ.t s).id ≤ 65535)
  | .slotE x link head => vl σ link
  | .push link head => vl σ link
  | .pushC link head => decide ((σ.c s).op.key < 64) && ((σ.t s).cell (σ.c s).op.key).isNone && decide ((σ.t s).keys.length < 1000000)
  | .over _ => decide ((σ.c s).op.key < 64)
  | .overN link _ => vl σ link
  | .overC _ _ => decide ((σ.c s).op.key < 64) && ((σ.t s).cell (σ.c s).op.key).isSome
  | .draw => decide (σ.word 0 < 18446744073709551616)
  | .drawH x now => decide (x < 18446744073709551616) && decide (lastOf x ≤ 2000)
  | .turn x now => decide (now < 281474976710655) && decide ((σ.t s).id < 65536) && decide (σ.tale.length < 1000000)
  | .helpJ => decide ((σ.t s).end_ < 281474976710656) && decide ((σ.t s).id ≤ 2000) && decide ((σ.t s).reads.length < 1000000)
  | .wait i => match (σ.t s).bonds[i]? with | some bd => decide (bd ≤ 2000) && small σ (σ.place bd) && decide ((σ.t s).bonds.length < 1000000) | none => false
  | .commit => decide ((σ.t s).end_ ≤ 1099511627776) && decide ((σ.t s).id ≤ 2000) && decide ((σ.t s).keys.length < 1000000) && okKeys σ (σ.t s) && decide (σ.tale.length < 1000000)
  | .abort _ _ => decide ((σ.t s).end_ ≤ 1099511627776) && decide (1 ≤ (σ.t s).id) && decide ((σ.t s).id ≤ 2000) && decide ((σ.t s).keys.length < 1000000) && okKeys σ (σ.t s) && decide (σ.tale.length < 1000000)
  | .turns [] r => true
  | .turns (x :: l) r => decide (x.at_ < σ.words.length)
theorem vl_iff {σ : St} {l : Nat} (h : vl σ l = true) : VL σ l := by
  unfold vl at h
  simp only [Bool.and_eq_true, decide_eq_true_eq] at h
  exact ⟨h.1.1, h.1.2, h.2⟩
theorem vl0_iff {σ : St} {l : Nat} (h : vl0 σ l = true) : l = 0 ∨ VL σ l := by
  unfold vl0 at h
  simp only [Bool.or_eq_true, beq_iff_eq] at h
  exact h.imp id vl_iff
theorem okPool_iff {σ : St} (hn : σ.tags.length = σ.slots) (h : okPool σ = true) : PoolOk σ := by
  unfold okPool at h
  simp only [Bool.and_eq_true, decide_eq_true_eq, List.all_eq_true] at h
  refine ⟨h.1.1.1, fun i hi => by simpa using h.1.1.2 i hi, fun i hi => ?_, h.2⟩
  have : (σ.tags.getD i (0, false)) ∈ σ.tags := by
    rw [List.getD_eq_getElem?_getD, List.getElem?_eq_getElem (by omega)]
    exact List.getElem_mem _
  simpa using h.1.2 _ this
theorem okKeys_iff {σ : St} {t : Txn} (h : okKeys σ t = true) : KeysOk σ t := by
  intro key hk
  unfold okKeys at h
  rw [List.all_eq_true] at h
  have := h key hk
  cases hc : t.cell key with
  | none => rw [hc] at this; cases this
  | some x =>
    rw [hc] at this
    simp only [Bool.and_eq_true] at this
    exact ⟨x, rfl, vl0_iff this.1, vl0_iff this.2⟩
theorem cel_mem {l : List (Nat × Cel)} {key : Nat} {x : Cel} (h : l.lookup key = some x) : (key, x) ∈ l := by
  induction l with
  | nil => cases h
  | cons a l ih =>
    obtain ⟨k, y⟩ := a
    rw [List.lookup_cons] at h
    by_cases hk : key = k
    · subst hk
      simp at h
      subst h
      exact List.mem_cons_self
    · rw [beq_false_of_ne hk] at h
      exact List.mem_cons_of_mem _ (ih h)
theorem okCels_iff {σ : St} {t : Txn} (h : okCels σ t = true) : CelsOk σ t := by
  intro key x hx hth
  unfold okCels at h
  rw [List.all_eq_true] at h
  have := h _ (cel_mem hx)
  simp only [hth, Bool.not_true, Bool.false_or] at this
  exact vl_iff this
theorem small_iff {σ : St} {i : Nat} (h : small σ i = true) : σ.word i < 18446744073709551616 := by unfold small at h; simpa using h
theorem place_lt {A : Book} {σ : St} {w : World} (hR : Rep A σ w) {id : Nat} (h : id ≤ 2000) : σ.place id < σ.words.length := by rw [hR.nw]; unfold St.place; omega
/-- A closure's form. -/
theorem func_inj {f f' : FuncId} {b b' c c' : Array Value} (h : Value.func (.func f) b c = .func (.func f') b' c') : f = f' ∧ b = b' ∧ c = c' := by
  simp only [Value.func.injEq, Fn.func.injEq] at h
  exact h
theorem thn_to {σ : St} {s : Nat} {t : Txn} (ht : σ.txns.getD s none = some t) {c : Cal} (hc : σ.calls.getD s none = some c) {hu : Hunt} {link : Nat} (h : okThn σ s hu link = true) : ThnTo σ s hu link := by
  intro A w hR hmp w1 f cc r g hth
  obtain ⟨key, at_, thn⟩ := hu
  unfold okThn at h
  rw [txn_get ht, call_get hc, Bool.and_eq_true, decide_eq_true_eq] at h
  obtain ⟨hrl, h⟩ := h
  cases thn <;> simp only [Bool.and_eq_true, decide_eq_true_eq] at h
  case get =>
    obtain ⟨b0, b1, b2, b3, e, k0, k1, k2, k3⟩ := hth
    obtain ⟨rfl, -, rfl⟩ := func_inj e
    exact k_get r s t ht key link b0 b1 b2 b3 k0 k1 k2 k3 at_ (vl0_iff h) hrl
  case scan k =>
    obtain ⟨⟨⟨⟨⟨rfl, h1⟩, h2⟩, h3⟩, h4⟩, h5⟩ := h
    obtain ⟨b0, b1, b2, b3, b4, e, k0, k1, k2, k3, k4⟩ := hth
    obtain ⟨rfl, -, rfl⟩ := func_inj e
    exact k_scan r s t ht c hc k link at_ b0 b1 b2 b3 b4 k0 k1 k2 k3 k4 (vl0_iff h1) h2 h3 (okCels_iff h4) (by omega) hrl
  case change =>
    obtain ⟨b0, b1, b2, b3, e, k0, k1, k2, k3⟩ := hth
    obtain ⟨rfl, -, rfl⟩ := func_inj e
    exact k_change r s t ht c hc key link b0 b1 b2 b3 h k0 k1 k2 k3 at_ hrl
  case judge i l =>
    obtain ⟨b0, b1, b2, b3, b4, e, k0, k1, k2, k3, k4⟩ := hth
    obtain ⟨rfl, -, rfl⟩ := func_inj e
    exact k_judge r s t ht i l at_ key link b0 b1 b2 b3 b4 k0 k1 k2 k3 k4 h hrl
theorem bind_has {σ : St} {s to : Nat} {t : Txn} (ht : σ.txns.getD s none = some t) : ∃ t', (σ.bind s to).txns.getD s none = some t' := by
  unfold St.bind
  rw [txn_get ht]
  split
  · exact ⟨t, ht⟩
  · exact ⟨{ t with bonds := t.bonds ++ [to] }, by show (σ.setT s _).txns.getD s none = _; rw [getT_set (lt_of_txn ht), if_pos rfl]⟩
theorem bind_calls (σ : St) (s to : Nat) : (σ.bind s to).calls = σ.calls := by unfold St.bind; split <;> rfl
set_option maxHeartbeats 4000000 in
theorem runsTo {σ : St} {s : Nat} (hs : s < 8) {t : Txn} (ht : σ.txns.getD s none = some t) {c : Cal} (hc : σ.calls.getD s none = some c) (k : K) (h : okK σ s k = true) : RunsTo σ s k := by
  intro A w1 f b cc hR hmp hmt hk
  unfold okK at h
  rw [Bool.and_eq_true, decide_eq_true_eq] at h
  obtain ⟨hcnt0, h⟩ := h
  have hcnt : σ.count < 4000000000000000000 := by omega
  have et := txn_get ht
  have ec := call_get hc
  cases k
  case fin r =>
    obtain ⟨b0, b1, b2, e, k0, k1, k2⟩ := hk
    obtain ⟨rfl, rfl, rfl⟩ := func_inj e
    exact k_fin hR s c hc r b0 b1 b2 k0 k1 k2
  case start hu =>
    obtain ⟨bh, e, k0⟩ := hk
    obtain ⟨rfl, rfl, rfl⟩ := func_inj e
    simp only [Bool.and_eq_true, decide_eq_true_eq, Bool.or_eq_true, bne_iff_ne] at h
    exact k_start hR s hu bh k0 h.1 hcnt fun hz w2 r2 g2 => thn_to (σ := σ.tick) ht hc (h.2.resolve_left (fun hne => hne hz)) A w2 r2 hmp
  case visit hu link =>
    obtain ⟨b0, b1, e, k0, k1⟩ := hk
    obtain ⟨rfl, rfl, rfl⟩ := func_inj e
    simp only [et, ec, Bool.and_eq_true, decide_eq_true_eq, Bool.or_eq_true, bne_iff_ne, Option.isNone_iff_eq_none, Option.isSome_iff_exists] at h
    obtain ⟨h1, h2⟩ := h
    exact k_visit hR s t ht hu link b0 b1 k0 k1 (vl_iff h1).lo (vl_iff h1).hi (vl_iff h1).u (small_iff h2) hcnt
  case older hu link =>
    obtain ⟨b0, b1, e, k0, k1⟩ := hk
    obtain ⟨rfl, rfl, rfl⟩ := func_inj e
    simp only [et, ec, Bool.and_eq_true, decide_eq_true_eq, Bool.or_eq_true, bne_iff_ne, Option.isNone_iff_eq_none, Option.isSome_iff_exists] at h
    obtain ⟨h1, h2⟩ := h
    exact k_older hR s hmp hu link b0 b1 k0 k1 (vl_iff h1) hcnt (fun hz => thn_to (σ := σ.tick) ht hc (h2.resolve_left (fun hne => hne hz)))
  case maker hu link id =>
    obtain ⟨b0, b1, b2, e, k0, k1, k2⟩ := hk
    obtain ⟨rfl, rfl, rfl⟩ := func_inj e
    simp only [et, ec, Bool.and_eq_true, decide_eq_true_eq, Bool.or_eq_true, bne_iff_ne, Option.isNone_iff_eq_none, Option.isSome_iff_exists] at h
    obtain ⟨h1, h2⟩ := h
    exact k_maker hR s hu link id b0 b1 b2 k0 k1 k2 (by omega) (place_lt hR h1) (small_iff h2) hcnt
  case ended hu link mb =>
    obtain ⟨b0, b1, b2, e, k0, k1, k2⟩ := hk
    obtain ⟨rfl, rfl, rfl⟩ := func_inj e
    simp only [et, ec, Bool.and_eq_true, decide_eq_true_eq, Bool.or_eq_true, bne_iff_ne, Option.isNone_iff_eq_none, Option.isSome_iff_exists] at h
    obtain ⟨⟨h1, h2⟩, h3⟩ := h
    exact k_ended hR s hmp t ht hu link mb b0 b1 b2 k0 k1 k2 (vl_iff h1) (small_iff h2) hcnt (fun hz => thn_to (σ := σ.tick) ht hc (h3.resolve_left (fun hne => hne hz)))
  case ender hu link mb id =>
    obtain ⟨b0, b1, b2, b3, e, k0, k1, k2, k3⟩ := hk
    obtain ⟨rfl, rfl, rfl⟩ := func_inj e
    simp only [et, ec, Bool.and_eq_true, decide_eq_true_eq, Bool.or_eq_true, bne_iff_ne, Option.isNone_iff_eq_none, Option.isSome_iff_exists] at h
    unfold okBinds at h
    simp only [et, Bool.and_eq_true, decide_eq_true_eq] at h
    obtain ⟨⟨⟨h1, h2⟩, h3, h4⟩, h5⟩ := h
    exact k_ender hR s hmp t ht hu link mb id b0 b1 b2 b3 k0 k1 k2 k3 (by omega) (place_lt hR h1) (small_iff h2) h3 h4 hcnt (fun hz => thn_to (σ := σ.tick) ht hc (h5.resolve_left (fun hne => hne hz)))
  case seen hu link mb =>
    obtain ⟨b0, b1, b2, e, k0, k1, k2⟩ := hk
    obtain ⟨rfl, rfl, rfl⟩ := func_inj e
    simp only [et, ec, Bool.and_eq_true, decide_eq_true_eq, Bool.or_eq_true, bne_iff_ne, Option.isNone_iff_eq_none, Option.isSome_iff_exists] at h
    unfold okBinds at h
    simp only [et, Bool.and_eq_true, decide_eq_true_eq] at h
    obtain ⟨⟨⟨h1, h2⟩, h3, h4⟩, h5⟩ := h
    have hthn : ThnTo (if stateOf (σ.word (σ.place mb)) = 2 then σ.tick.bind s mb else σ.tick) s hu link := by
      split at h5
      · rename_i hq
        rw [if_pos hq]
        obtain ⟨t', ht'⟩ := bind_has (σ := σ.tick) (to := mb) ht
        exact thn_to ht' (by rw [bind_calls]; exact hc) h5
      · rename_i hq
        rw [if_neg hq]
        exact thn_to (σ := σ.tick) ht hc h5
    exact k_seen hR s hmp t ht hu link mb b0 b1 b2 k0 k1 k2 (by omega) (place_lt hR h1) (small_iff h2) h3 h4 hcnt hthn (fun _ _ => trivial)
  case again en =>
    obtain ⟨b0, b1, b2, b3, e, k0, k1, k2, k3⟩ := hk
    obtain ⟨rfl, rfl, rfl⟩ := func_inj e
    simp only [et, ec, Bool.and_eq_true, decide_eq_true_eq, Bool.or_eq_true, bne_iff_ne, Option.isNone_iff_eq_none, Option.isSome_iff_exists] at h
    cases hx : t.cell c.op.key with
    | none => rw [hx] at h; cases h
    | some x =>
    rw [hx] at h
    by_cases hkd : c.op.kind = 4
    · exact k_again_del hR s t ht c hc en x hx (vl_iff h) hkd hcnt b0 b1 b2 b3 k0 k1 k2 k3
    exact k_again_put hR s t ht c hc en x hx (vl_iff h) hkd hcnt b0 b1 b2 b3 k0 k1 k2 k3
  case own link =>
    obtain ⟨b0, b1, b2, b3, e, k0, k1, k2, k3⟩ := hk
    obtain ⟨rfl, rfl, rfl⟩ := func_inj e
    simp only [et, ec, Bool.and_eq_true, decide_eq_true_eq, Bool.or_eq_true, bne_iff_ne, Option.isNone_iff_eq_none, Option.isSome_iff_exists] at h
    obtain ⟨h1, h2⟩ := h
    exact k_own hR s t ht link (vl_iff h1) (small_iff h2) hcnt b0 b1 b2 b3 k0 k1 k2 k3
  case ownTxn link x1 id =>
    obtain ⟨b0, b1, b2, b3, b4, b5, e, k0, k1, k2, k3, k4, k5⟩ := hk
    obtain ⟨rfl, rfl, rfl⟩ := func_inj e
    simp only [et, ec, Bool.and_eq_true, decide_eq_true_eq, Bool.or_eq_true, bne_iff_ne, Option.isNone_iff_eq_none, Option.isSome_iff_exists] at h
    obtain ⟨h1, h2⟩ := h
    exact k_ownTxn hR s link x1 id (by omega) (place_lt hR h1) (small_iff h2) hcnt b0 b1 b2 b3 b4 b5 k0 k1 k2 k3 k4 k5
  case claim link x1 =>
    obtain ⟨b0, b1, b2, b3, b4, e, k0, k1, k2, k3, k4⟩ := hk
    obtain ⟨rfl, rfl, rfl⟩ := func_inj e
    simp only [et, ec, Bool.and_eq_true, decide_eq_true_eq, Bool.or_eq_true, bne_iff_ne, Option.isNone_iff_eq_none, Option.isSome_iff_exists] at h
    obtain ⟨⟨⟨⟨⟨h1, h2⟩, h3⟩, h4⟩, h5⟩, h6⟩ := h
    exact k_claim hR s t ht c hc hmp link x1 (vl_iff h1) h2 h3 h4 h5 (okPool_iff hR.nt h6) hcnt b0 b1 b2 b3 b4 k0 k1 k2 k3 k4
  case fresh link =>
    obtain ⟨b0, b1, b2, b3, e, k0, k1, k2, k3⟩ := hk
    obtain ⟨rfl, rfl, rfl⟩ := func_inj e
    simp only [et, ec, Bool.and_eq_true, decide_eq_true_eq, Bool.or_eq_true, bne_iff_ne, Option.isNone_iff_eq_none, Option.isSome_iff_exists] at h
    obtain ⟨⟨h1, h2⟩, h3⟩ := h
    exact k_fresh hR s c hc link (vl0_iff h1) h2 hmp (okPool_iff hR.nt h3) hcnt b0 b1 b2 b3 k0 k1 k2 k3
  case next link hd at_ =>
    obtain ⟨b0, b1, b2, b3, b4, b5, e, k0, k1, k2, k3, k4, k5⟩ := hk
    obtain ⟨rfl, rfl, rfl⟩ := func_inj e
    simp only [et, ec, Bool.and_eq_true, decide_eq_true_eq, Bool.or_eq_true, bne_iff_ne, Option.isNone_iff_eq_none, Option.isSome_iff_exists] at h
    obtain ⟨⟨h1, h2⟩, h3⟩ := h
    exact k_next hR s c hc link hd at_ (vl0_iff h1) (vl_iff h2) hmp (okPool_iff hR.nt h3) hcnt b0 b1 b2 b3 b4 b5 k0 k1 k2 k3 k4 k5
  case free link hd at_ =>
    obtain ⟨b0, b1, b2, b3, b4, b5, e, k0, k1, k2, k3, k4, k5⟩ := hk
    obtain ⟨rfl, rfl, rfl⟩ := func_inj e
    simp only [et, ec, Bool.and_eq_true, decide_eq_true_eq, Bool.or_eq_true, bne_iff_ne, Option.isNone_iff_eq_none, Option.isSome_iff_exists] at h
    obtain ⟨⟨⟨h1, h2⟩, h3⟩, h4⟩ := h
    exact k_free hR s t ht link hd at_ (vl0_iff h1) (vl_iff h2) (okPool_iff hR.nt h3) (small_iff h4) hcnt b0 b1 b2 b3 b4 b5 k0 k1 k2 k3 k4 k5
  case freeTxn link hd at_ id =>
    obtain ⟨b0, b1, b2, b3, b4, b5, e, k0, k1, k2, k3, k4, k5⟩ := hk
    obtain ⟨rfl, rfl, rfl⟩ := func_inj e
    simp only [et, ec, Bool.and_eq_true, decide_eq_true_eq, Bool.or_eq_true, bne_iff_ne, Option.isNone_iff_eq_none, Option.isSome_iff_exists] at h
    obtain ⟨⟨⟨h1, h2⟩, h3⟩, h4⟩ := h
    exact k_freeTxn hR s t ht link hd at_ id (vl0_iff h1) (by omega) (place_lt hR h2) (small_iff h3) (okPool_iff hR.nt h4) hcnt b0 b1 b2 b3 b4 b5 k0 k1 k2 k3 k4 k5
  case slotB x link hd =>
    obtain ⟨b0, b1, b2, b3, b4, b5, e, k0, k1, k2, k3, k4, k5⟩ := hk
    obtain ⟨rfl, rfl, rfl⟩ := func_inj e
    simp only [et, ec, Bool.and_eq_true, decide_eq_true_eq, Bool.or_eq_true, bne_iff_ne, Option.isNone_iff_eq_none, Option.isSome_iff_exists] at h
    obtain ⟨⟨h1, h2⟩, h3⟩ := h
    exact k_slotB hR s t ht b0 b1 b2 b3 b4 b5 x link hd k0 k1 k2 k3 k4 k5 hcnt (vl_iff h1) h2 h3
  case slotE x link hd =>
    obtain ⟨b0, b1, b2, b3, b4, b5, e, k0, k1, k2, k3, k4, k5⟩ := hk
    obtain ⟨rfl, rfl, rfl⟩ := func_inj e
    exact k_slotE hR s t ht x link hd hcnt (vl_iff h) b0 b1 b2 b3 b4 b5 k0 k1 k2 k3 k4 k5
  case push link hd =>
    obtain ⟨b0, b1, b2, b3, b4, e, k0, k1, k2, k3, k4⟩ := hk
    obtain ⟨rfl, rfl, rfl⟩ := func_inj e
    exact k_push hR s t ht b0 b1 b2 b3 b4 link hd k0 k1 k2 k3 k4 hcnt (vl_iff h)
  case pushC link hd =>
    obtain ⟨b0, b1, b2, b3, b4, e, k0, k1, k2, k3, k4⟩ := hk
    obtain ⟨rfl, rfl, rfl⟩ := func_inj e
    simp only [et, ec, Bool.and_eq_true, decide_eq_true_eq, Bool.or_eq_true, bne_iff_ne, Option.isNone_iff_eq_none, Option.isSome_iff_exists] at h
    obtain ⟨⟨h1, h2⟩, h3⟩ := h
    exact k_pushC hR s t ht c hc link hd h1 h2 h3 hcnt b0 b1 b2 b3 b4 k0 k1 k2 k3 k4
  case over link =>
    obtain ⟨b0, b1, b2, b3, b4, e, k0, k1, k2, k3, k4⟩ := hk
    obtain ⟨rfl, rfl, rfl⟩ := func_inj e
    simp only [et, ec, Bool.and_eq_true, decide_eq_true_eq, Bool.or_eq_true, bne_iff_ne, Option.isNone_iff_eq_none, Option.isSome_iff_exists] at h
    exact k_over hR s c hc link h hcnt b0 b1 b2 b3 b4 k0 k1 k2 k3 k4
  case overN link hd =>
    obtain ⟨b0, b1, b2, b3, b4, b5, e, k0, k1, k2, k3, k4, k5⟩ := hk
    obtain ⟨rfl, rfl, rfl⟩ := func_inj e
    exact k_overN hR s t ht b0 b1 b2 b3 b4 b5 link hd k0 k1 k2 k3 k4 k5 hcnt (vl_iff h)
  case overC link hd =>
    obtain ⟨b0, b1, b2, b3, b4, b5, e, k0, k1, k2, k3, k4, k5⟩ := hk
    obtain ⟨rfl, rfl, rfl⟩ := func_inj e
    simp only [et, ec, Bool.and_eq_true, decide_eq_true_eq, Bool.or_eq_true, bne_iff_ne, Option.isNone_iff_eq_none, Option.isSome_iff_exists] at h
    obtain ⟨h1, x, hx⟩ := h
    exact k_overC hR s t ht c hc link hd h1 x hx hcnt b0 b1 b2 b3 b4 b5 k0 k1 k2 k3 k4 k5
  case draw =>
    obtain ⟨b0, b1, b2, e, k0, k1, k2⟩ := hk
    obtain ⟨rfl, rfl, rfl⟩ := func_inj e
    simp only [et, ec, Bool.and_eq_true, decide_eq_true_eq, Bool.or_eq_true, bne_iff_ne, Option.isNone_iff_eq_none, Option.isSome_iff_exists] at h
    exact k_draw hR s h hcnt b0 b1 b2 k0 k1 k2
  case drawH x now =>
    obtain ⟨b0, b1, b2, e, k0, k1, k2⟩ := hk
    obtain ⟨rfl, rfl, rfl⟩ := func_inj e
    simp only [et, ec, Bool.and_eq_true, decide_eq_true_eq, Bool.or_eq_true, bne_iff_ne, Option.isNone_iff_eq_none, Option.isSome_iff_exists] at h
    obtain ⟨h1, h2⟩ := h
    exact k_drawH hR s x now h1 h2 hcnt b0 b1 b2 k0 k1 k2
  case turn x now =>
    obtain ⟨b0, b1, b2, b3, b4, e, k0, k1, k2, k3, k4⟩ := hk
    obtain ⟨rfl, rfl, rfl⟩ := func_inj e
    simp only [et, ec, Bool.and_eq_true, decide_eq_true_eq, Bool.or_eq_true, bne_iff_ne, Option.isNone_iff_eq_none, Option.isSome_iff_exists] at h
    obtain ⟨⟨h1, h2⟩, h3⟩ := h
    exact k_turn hR s t ht x now h1 h2 h3 hcnt b0 b1 b2 b3 b4 k0 k1 k2 k3 k4
  case helpJ =>
    obtain ⟨b0, b1, b2, e, k0, k1, k2⟩ := hk
    obtain ⟨rfl, rfl, rfl⟩ := func_inj e
    simp only [et, ec, Bool.and_eq_true, decide_eq_true_eq, Bool.or_eq_true, bne_iff_ne, Option.isNone_iff_eq_none, Option.isSome_iff_exists] at h
    obtain ⟨⟨h1, h2⟩, h3⟩ := h
    exact k_helpJ hR s t ht h1 h2 h3 hcnt b0 b1 b2 k0 k1 k2
  case wait i =>
    obtain ⟨b0, b1, b2, b3, b4, e, k0, k1, k2, k3, k4⟩ := hk
    obtain ⟨rfl, rfl, rfl⟩ := func_inj e
    simp only [et, ec, Bool.and_eq_true, decide_eq_true_eq, Bool.or_eq_true, bne_iff_ne, Option.isNone_iff_eq_none, Option.isSome_iff_exists] at h
    cases hb : t.bonds[i]? with
    | none => rw [hb] at h; cases h
    | some bd =>
    rw [hb] at h
    simp only [Bool.and_eq_true, decide_eq_true_eq] at h
    obtain ⟨⟨h1, h2⟩, h3⟩ := h
    exact k_wait hR s t ht c hc i bd hb h3 (by omega) (place_lt hR h1) (small_iff h2) hcnt b0 b1 b2 b3 b4 k0 k1 k2 k3 k4
  case commit =>
    obtain ⟨b0, b1, b2, e, k0, k1, k2⟩ := hk
    obtain ⟨rfl, rfl, rfl⟩ := func_inj e
    simp only [et, ec, Bool.and_eq_true, decide_eq_true_eq, Bool.or_eq_true, bne_iff_ne, Option.isNone_iff_eq_none, Option.isSome_iff_exists] at h
    obtain ⟨⟨⟨⟨h1, h2⟩, h3⟩, h4⟩, h5⟩ := h
    exact k_commit hR s t ht hmt h1 h2 h3 (okKeys_iff h4) h5 hcnt b0 b1 b2 k0 k1 k2
  case abort er re =>
    obtain ⟨b0, b1, b2, b3, b4, e, k0, k1, k2, k3, k4⟩ := hk
    obtain ⟨rfl, rfl, rfl⟩ := func_inj e
    simp only [et, ec, Bool.and_eq_true, decide_eq_true_eq, Bool.or_eq_true, bne_iff_ne, Option.isNone_iff_eq_none, Option.isSome_iff_exists] at h
    obtain ⟨⟨⟨⟨⟨h1, h2⟩, h3⟩, h4⟩, h5⟩, h6⟩ := h
    exact k_abort hR s t ht hmt er re h1 h2 h3 h4 (okKeys_iff h5) h6 hcnt b0 b1 b2 b3 b4 k0 k1 k2 k3 k4
  case turns l r =>
    cases l with
    | nil =>
      obtain ⟨b0, b1, b2, b3, e, k0, k1, k2, k3⟩ := hk
      obtain ⟨rfl, rfl, rfl⟩ := func_inj e
      exact k_turnsE hR s t ht c hc r hs hcnt b0 b1 b2 b3 k0 k1 k2 k3
    | cons x l =>
      obtain ⟨b0, b1, b2, b3, b4, e, k0, k1, k2, k3, k4⟩ := hk
      obtain ⟨rfl, rfl, rfl⟩ := func_inj e
      simp only [decide_eq_true_eq] at h
      exact k_turnsC hR s c hc x l r h hcnt b0 b1 b2 b3 b4 k0 k1 k2 k3 k4
end Go.Proofs.YtdgombgcjeelpaaGreat.Em
