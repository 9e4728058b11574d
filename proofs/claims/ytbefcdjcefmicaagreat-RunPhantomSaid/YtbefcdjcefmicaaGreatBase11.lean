/- Texts of this claim, laid together: Ovk, Ol, Bi, Ow, Ab. -/
import Derived.Test.YtbefcdjcefmicaaGreatBase8
import Derived.Test.YtbefcdjcefmicaaGreatBase4
import Derived.Test.YtbefcdjcefmicaaGreatBase10
import Derived.Test.YtbefcdjcefmicaaGreatBase5
import Derived.Test.YtbefcdjcefmicaaGreatBase6
namespace Go.Proofs.YtbefcdjcefmicaaGreat.Em
open Go.ChangeShapes Go.WideShapes Go.ChangeAt Go.RowKit En
set_option linter.unusedVariables false
set_option linter.unusedSimpArgs false
set_option maxRecDepth 100000
set_option maxHeartbeats 1600000

theorem k_over {A : Book} {σ : St} {w : World} (hR : Rep A σ w) (s : Nat) (c : Cal) (hc : σ.calls.getD s none = some c) (link : Nat) (hk : c.op.key < 64) (hcnt : σ.count < 4000000000000000000)
    (b0 b1 b2 b3 b4 : Nat) (B0 : Box A.L w b0 (.pointer (some ⟨A.be, 0, none⟩))) (B1 : Box A.L w b1 (.pointer (some ⟨A.bc s, 0, none⟩))) (B2 : Box A.L w b2 (.int .u64 (link : Int))) (B3 : Box A.L w b3 (.pointer (some ⟨A.bt s, 0, none⟩))) (B4 : Box A.L w b4 (.pointer (some ⟨(kp A σ s).x, 0, none⟩))) :
    Calls Tryz.prog 190 #[.pointer (some ⟨b0, 0, none⟩), .pointer (some ⟨b1, 0, none⟩), .pointer (some ⟨b2, 0, none⟩), .pointer (some ⟨b3, 0, none⟩), .pointer (some ⟨b4, 0, none⟩)] w (Ran A w s (σ.run s (.over link))) := by
  have c0 := B0.cell
  have c1 := B1.cell
  have e2 : w.cell? ⟨A.be, 2, none⟩ = some (.pointer (some ⟨A.ba, 0, none⟩)) := hR.eng 2 rfl
  have k1 : w.cell? ⟨A.bc s, 1, none⟩ = some (.int .i64 (c.op.key : Int)) := hR.call hc 1 rfl
  have n1 : IntKind.i64.wrap (9 + (c.op.key : Int)) = 9 + (c.op.key : Int) := by rw [IntKind.wrap_i64]; omega
  have HL : Hid (∀ w', Rep A σ w' → Calls Tryz.prog 73 #[.pointer (some ⟨A.ba, 0, none⟩), .int .i64 (9 + (c.op.key : Int))] w' (Did A w' σ.tick (.int .u64 (σ.word (9 + c.op.key) : Int)))) := fun w' r => load_i r (9 + c.op.key) (9 + (c.op.key : Int)) (by omega) (by rw [r.nw]; omega) hcnt
  have HRd : Hid (Rep A σ w.drew) := hR.drew
  have x0 := World.new_ne w _ c0
  have x1 := World.new_ne w _ c1
  have x2 := World.new_ne w _ e2
  have x3 := World.new_ne w _ k1
  have HKK : Hid (∀ w', Rep A σ.tick w' → Grow A.L w A.L w' → w'.cell? ⟨b0, 0, none⟩ = some (.pointer (some ⟨A.be, 0, none⟩)) ∧ w'.cell? ⟨b1, 0, none⟩ = some (.pointer (some ⟨A.bc s, 0, none⟩)) ∧ w'.cell? ⟨A.be, 2, none⟩ = some (.pointer (some ⟨A.ba, 0, none⟩)) ∧ w'.cell? ⟨A.bc s, 1, none⟩ = some (.int .i64 (c.op.key : Int))) := fun w' r g => ⟨(B0.grow g).cell, (B1.grow g).cell, r.eng 2 rfl, r.call hc 1 rfl⟩
  have HFX : Hid (Fix A.L (w.drew.alloc (.cells #[.int .u64 0] 24)) w.heap.size (.cells #[.int .u64 0] 24)) := fix_next hR.drew.mem.fresh _ rfl
  have hl0 : A.L w.heap.size = none := hR.mem.fresh _ (Nat.le_refl _)
  have HKS : Hid (∀ w', Rep A σ.tick w' → Grow A.L w A.L w' → (w'.setCell ⟨w.heap.size, 0, none⟩ (.int .u64 (σ.word (9 + c.op.key) : Int))).cell? ⟨b0, 0, none⟩ = some (.pointer (some ⟨A.be, 0, none⟩)) ∧ (w'.setCell ⟨w.heap.size, 0, none⟩ (.int .u64 (σ.word (9 + c.op.key) : Int))).cell? ⟨b1, 0, none⟩ = some (.pointer (some ⟨A.bc s, 0, none⟩)) ∧ (w'.setCell ⟨w.heap.size, 0, none⟩ (.int .u64 (σ.word (9 + c.op.key) : Int))).cell? ⟨A.be, 2, none⟩ = some (.pointer (some ⟨A.ba, 0, none⟩)) ∧ (w'.setCell ⟨w.heap.size, 0, none⟩ (.int .u64 (σ.word (9 + c.op.key) : Int))).cell? ⟨A.bc s, 1, none⟩ = some (.int .i64 (c.op.key : Int))) := fun w' r g => by
    obtain ⟨r', g'⟩ := hR.setNew r g rfl rfl (a := ⟨w.heap.size, 0, none⟩) (Nat.le_refl _) hl0 (.int .u64 (σ.word (9 + c.op.key) : Int))
    exact HKK.out _ r' g'
  have hrun : σ.run s (.over link) = (σ.tick, some (.overN link (σ.word (9 + c.op.key)))) := by simp only [St.run, call_get hc]
  rw [hrun]
  have HG : Hid (Grow A.L w A.L w.drew) := Grow.drew _ _
  have HB := Lib.hid (And.intro B0 (And.intro B1 (And.intro B2 (And.intro B3 B4))))
  have HSET : Hid (∀ w', Rep A σ.tick w' → Grow A.L w A.L w' → Rep A σ.tick (w'.setCell ⟨w.heap.size, 0, none⟩ (.int .u64 (σ.word (9 + c.op.key) : Int))) ∧ Grow A.L w A.L (w'.setCell ⟨w.heap.size, 0, none⟩ (.int .u64 (σ.word (9 + c.op.key) : Int)))) := fun w' r g => hR.setNew r g rfl rfl (a := ⟨w.heap.size, 0, none⟩) (Nat.le_refl _) hl0 (.int .u64 (σ.word (9 + c.op.key) : Int))
  clear hl0
  clear hR hc hcnt B0 B1 B2 B3 B4 hrun hk
  generalize σ.word (9 + c.op.key) = hd at *
  generalize c.op.key = key at *
  go_enter Tryz.func190, Tryz.ntmps190
  go_wp2_with fail
  go_region_held3 (fun w' => w'.cell? ⟨b0, 0, none⟩ = some (.pointer (some ⟨A.be, 0, none⟩)) ∧ w'.cell? ⟨b1, 0, none⟩ = some (.pointer (some ⟨A.bc s, 0, none⟩)) ∧ w'.cell? ⟨A.be, 2, none⟩ = some (.pointer (some ⟨A.ba, 0, none⟩)) ∧ w'.cell? ⟨A.bc s, 1, none⟩ = some (.int .i64 (key : Int)))
    (first | exact ⟨c0, c1, e2, k1⟩ | assumption | go_keep | exact HKK.out _ (by assumption) (by assumption) | exact HKK.out _ (Rep.alloc (by assumption) _) (Grow.trans (by assumption) (Grow.alloc _ _ _)) | exact HKS.out _ (by assumption) (by assumption))
    (first | (go_at_call 73; refine (HL.out _ HRd.out).mono ?_; rintro e w1 ⟨rfl, q1, q2⟩; have q4 := HG.out.trans q2) | (go_at_call 73; refine (HL.out _ (HRd.out.alloc _)).mono ?_; rintro e w1 ⟨rfl, q1, q2⟩; have q4 := (HG.out.trans (Grow.alloc _ _ _)).trans q2; have fx := HFX.out.grow q2; have nb := fx.cell 0 (v := .int .u64 0) rfl; have nz := fx.frozen 0; have FX := Lib.hid fx; clear fx))
  · go_wp2_with fail
    go_ret
    obtain ⟨r3, g3, f0⟩ := allocs1 q1 #[.int .u64 (hd : Int)] 24
    have g := q4.trans g3
    obtain ⟨B0, B1, B2, B3, B4⟩ := HB.out
    exact ⟨A, _, rfl, r3, g, Stay.refl _ _, _, _, _, _, _, _, rfl, B0.grow g, B2.grow g, f0.box, B1.grow g, B3.grow g, B4.grow g⟩
  · go_wp2_with fail
    go_ret
    obtain ⟨r3, g⟩ := HSET.out _ q1 q4
    obtain ⟨B0, B1, B2, B3, B4⟩ := HB.out
    exact ⟨A, _, rfl, r3, g, Stay.refl _ _, _, _, _, _, _, _, rfl, B0.grow g, B2.grow g, (FX.out.setSame _).box, B1.grow g, B3.grow g, B4.grow g⟩
end Go.Proofs.YtbefcdjcefmicaaGreat.Em

namespace Go.Proofs.YtbefcdjcefmicaaGreat.Em
open Go.ChangeShapes Go.WideShapes Go.ChangeAt Go.RowKit En
set_option linter.unusedVariables false
set_option linter.unusedSimpArgs false
set_option maxRecDepth 100000
set_option maxHeartbeats 1600000

/-- What a hunt leads to is known, whatever the book. -/
def ThnTo (σ : St) (s : Nat) (hu : Hunt) (link : Nat) : Prop := ∀ A w, Rep A σ w → A.mp = 0 → ThnAt A w σ s hu link
theorem k_older {A : Book} {σ : St} {w : World} (hR : Rep A σ w) (s : Nat) (hmp : A.mp = 0) (hu : Hunt) (link b0 b1 : Nat) (B0 : HuntBox (kp A σ s) A.L w b0 hu) (B1 : Box A.L w b1 (.int .u64 (link : Int))) (hv : VL σ link) (hcnt : σ.count < 4000000000000000000) (HT : σ.word (wslot link 2) = 0 → ThnTo σ.tick s hu 0) :
    Calls Tryz.prog 212 #[.pointer (some ⟨b0, 0, none⟩), .pointer (some ⟨b1, 0, none⟩)] w (Ran A w s (σ.run s (.older hu link))) := by
  have hsl := hR.sl
  obtain ⟨bh, X0, hh0⟩ := B0
  obtain ⟨vt, TT, fh, hth⟩ := id hh0
  have c0 := X0.cell
  have c1 := B1.cell
  have h0 : w.cell? ⟨bh, 0, none⟩ = some (.pointer (some ⟨A.be, 0, none⟩)) := fh.cell 0 rfl
  have e2 : w.cell? ⟨A.be, 2, none⟩ = some (.pointer (some ⟨A.ba, 0, none⟩)) := hR.eng 2 rfl
  have HK : Hid (∀ w', Kp A w w' → w'.cell? ⟨b0, 0, none⟩ = some (.pointer (some ⟨bh, 0, none⟩)) ∧ w'.cell? ⟨b1, 0, none⟩ = some (.int .u64 (link : Int)) ∧ w'.cell? ⟨bh, 0, none⟩ = some (.pointer (some ⟨A.be, 0, none⟩)) ∧ w'.cell? ⟨A.be, 2, none⟩ = some (.pointer (some ⟨A.ba, 0, none⟩))) := by
    obtain ⟨_, x0⟩ := X0
    obtain ⟨_, x1⟩ := B1
    exact fun w' k => ⟨k.fix _ _ _ x0.1 c0, k.fix _ _ _ x1.1 c1, k.fix _ _ _ fh.1 h0, k.ea⟩
  have HS := Lib.hid (slot_at link 2 2 rfl hv.lo (by have := hv.hi; omega) hv.u (by omega))
  have HL := Lib.hid (load_any hR.drew (wslot link 2) (wslot_lt hR hv.lo hv.hi (by omega)) hcnt)
  have HG : Hid (Grow A.L w A.L w.drew) := Grow.drew _ _
  have HB : Hid (∀ w1, Rep A σ.tick w1 → Grow A.L w A.L w1 → Calls Tryz.prog 161 #[.pointer (some ⟨bh, 0, none⟩), .int .u64 (σ.word (wslot link 2) : Int)] w1 (Tells A w1 s (σ.tick.visit s hu (σ.word (wslot link 2))))) :=
    fun w1 r g => visit_any r s bh hu (hh0.grow g) _ fun hz => HT hz A w1 r hmp
  have hrun : σ.run s (.older hu link) = ((σ.tick.visit s hu (σ.word (wslot link 2))).1, some (σ.tick.visit s hu (σ.word (wslot link 2))).2) := rfl
  rw [hrun]
  clear hR hh0 fh hth hv hcnt HT hrun X0 B1 hsl hmp
  generalize σ.tick.visit s hu (σ.word (wslot link 2)) = res at *
  generalize σ.word (wslot link 2) = nx at *
  go_enter Tryz.func212, Tryz.ntmps212
  go_wp2_with fail
  go_region_held3 (fun w' => w'.cell? ⟨b0, 0, none⟩ = some (.pointer (some ⟨bh, 0, none⟩)) ∧ w'.cell? ⟨b1, 0, none⟩ = some (.int .u64 (link : Int)) ∧ w'.cell? ⟨bh, 0, none⟩ = some (.pointer (some ⟨A.be, 0, none⟩)) ∧ w'.cell? ⟨A.be, 2, none⟩ = some (.pointer (some ⟨A.ba, 0, none⟩)))
    (first | exact ⟨c0, c1, h0, e2⟩ | assumption | exact HK.out _ (Kp.of (by assumption) (by assumption) (by assumption)))
    (first | (go_at_call 62; refine (HS.out _).mono ?_; rintro e w' ⟨rfl, rfl⟩) | (go_at_call 73; refine HL.out.mono ?_; rintro e w1 ⟨rfl, q1, q2⟩; have q4 := HG.out.trans q2; have q3 := Stay.refl A s; clear q2) | (go_at_call 161; refine (HB.out _ (by assumption) (by assumption)).mono ?_; rintro e w2 ⟨A', v, rfl, p1, p2, p3, p4⟩; have p5 := (‹Grow A.L w A.L _›).trans p2))
  go_wp2_with fail
  go_ret
  exact ⟨A', _, rfl, p1, p5, p3, p4⟩
theorem k_maker {A : Book} {σ : St} {w : World} (hR : Rep A σ w) (s : Nat) (hu : Hunt) (link id b0 b1 b2 : Nat) (B0 : HuntBox (kp A σ s) A.L w b0 hu) (B1 : Box A.L w b1 (.int .i64 (id : Int))) (B2 : Box A.L w b2 (.int .u64 (link : Int))) (hid : id ≤ 65535) (hpl : σ.place id < σ.words.length) (hw : σ.word (σ.place id) < 18446744073709551616) (hcnt : σ.count < 4000000000000000000) :
    Calls Tryz.prog 199 #[.pointer (some ⟨b0, 0, none⟩), .pointer (some ⟨b1, 0, none⟩), .pointer (some ⟨b2, 0, none⟩)] w (Ran A w s (σ.run s (.maker hu link id))) := by
  obtain ⟨bh, X0, hh0⟩ := B0
  obtain ⟨vt, TT, fh, hth⟩ := _root_.id hh0
  have c0 := X0.cell
  have c1 := B1.cell
  have h0 : w.cell? ⟨bh, 0, none⟩ = some (.pointer (some ⟨A.be, 0, none⟩)) := fh.cell 0 rfl
  have e2 : w.cell? ⟨A.be, 2, none⟩ = some (.pointer (some ⟨A.ba, 0, none⟩)) := hR.eng 2 rfl
  have HK : Hid (∀ w', Kp A w w' → w'.cell? ⟨b0, 0, none⟩ = some (.pointer (some ⟨bh, 0, none⟩)) ∧ w'.cell? ⟨b1, 0, none⟩ = some (.int .i64 (id : Int)) ∧ w'.cell? ⟨bh, 0, none⟩ = some (.pointer (some ⟨A.be, 0, none⟩)) ∧ w'.cell? ⟨A.be, 2, none⟩ = some (.pointer (some ⟨A.ba, 0, none⟩))) := by
    obtain ⟨_, x0⟩ := X0
    obtain ⟨_, x1⟩ := B1
    exact fun w' k => ⟨k.fix _ _ _ x0.1 c0, k.fix _ _ _ x1.1 c1, k.fix _ _ _ fh.1 h0, k.ea⟩
  have HP := Lib.hid (place_still hR.drew id hid)
  have HL := Lib.hid (load_any hR.drew (σ.place id) hpl hcnt)
  have HU := Lib.hid (fun w' => unpack_any (σ.word (σ.place id)) hw w')
  have HG : Hid (Grow A.L w A.L w.drew) := Grow.drew _ _
  have HB : Hid (∀ w1, Rep A σ.tick w1 → Grow A.L w A.L w1 → w1.cell? ⟨b0, 0, none⟩ = some (.pointer (some ⟨bh, 0, none⟩)) ∧ w1.cell? ⟨b1, 0, none⟩ = some (.int .i64 (id : Int)) ∧ w1.cell? ⟨b2, 0, none⟩ = some (.int .u64 (link : Int)) ∧ w1.cell? ⟨bh, 3, none⟩ = some (.int .u64 (hu.at_ : Int)) ∧ HuntAt (kp A σ.tick s) A.L w1 bh hu) := by
    intro w1 q g
    have k : HuntAt (kp A σ.tick s) A.L w1 bh hu := hh0.grow g
    exact ⟨(X0.grow g).cell, (B1.grow g).cell, (B2.grow g).cell, (fh.grow g).cell 3 rfl, k⟩
  have hrun : σ.run s (.maker hu link id) = (σ.tick, some (if endOf (σ.word (σ.place id)) = 0 ∨ hu.at_ < endOf (σ.word (σ.place id)) ∨ stateOf (σ.word (σ.place id)) = 4 then .older hu link else if stateOf (σ.word (σ.place id)) = 2 then .ended hu link id else .ended hu link 0)) := by
    simp only [St.run]; split <;> (try split) <;> rfl
  rw [hrun]
  have HOld : Hid (∀ w1, Rep A σ.tick w1 → Grow A.L w A.L w1 → Calls Tryz.prog 198 #[.pointer (some ⟨bh, 0, none⟩), .int .u64 (link : Int)] w1 (Tells A w1 s (σ.tick, .older hu link))) := fun w1 q g => older_any q s bh hu (show HuntAt (kp A σ.tick s) A.L w1 bh hu from hh0.grow g) link
  have HEnd : Hid (∀ w1, Rep A σ.tick w1 → Grow A.L w A.L w1 → Calls Tryz.prog 197 #[.pointer (some ⟨bh, 0, none⟩), .int .u64 (link : Int), .int .i64 (id : Int)] w1 (Tells A w1 s (σ.tick, .ended hu link id))) := fun w1 q g => ended_any q s bh hu (show HuntAt (kp A σ.tick s) A.L w1 bh hu from hh0.grow g) link id
  have HEnd0 : Hid (∀ w1, Rep A σ.tick w1 → Grow A.L w A.L w1 → Calls Tryz.prog 197 #[.pointer (some ⟨bh, 0, none⟩), .int .u64 (link : Int), .int .i64 0] w1 (Tells A w1 s (σ.tick, .ended hu link 0))) := fun w1 q g => ended_any q s bh hu (show HuntAt (kp A σ.tick s) A.L w1 bh hu from hh0.grow g) link 0
  clear hR hid hpl hw hcnt X0 B1 B2 fh hth hh0 hrun
  generalize σ.word (σ.place id) = x at *
  generalize hst : stateOf x = st at *
  generalize hen : endOf x = en at *
  generalize hu.at_ = ha at *
  clear hst hen
  by_cases h0e : en = 0
  · rw [if_pos (Or.inl h0e)]
    have fa1 : ((en : Int) == 0) = true := by first | (simp; done) | (simp; omega)
    have fa2 : ((en : Int) = 0) = True := by first | (simp; done) | (simp; omega)
    have fa3 : (en = 0) = True := by first | (simp; done) | (simp; omega)
    have fa4 : (en == 0) = true := by first | (simp; done) | (simp; omega)
    have fa5 : ((en : Int) != 0) = false := by first | (simp; done) | (simp; omega)
    clear h0e
    go_enter Tryz.func199, Tryz.ntmps199
    go_wp2_with fail
    go_region_held3 (fun w' => w'.cell? ⟨b0, 0, none⟩ = some (.pointer (some ⟨bh, 0, none⟩)) ∧ w'.cell? ⟨b1, 0, none⟩ = some (.int .i64 (id : Int)) ∧ w'.cell? ⟨bh, 0, none⟩ = some (.pointer (some ⟨A.be, 0, none⟩)) ∧ w'.cell? ⟨A.be, 2, none⟩ = some (.pointer (some ⟨A.ba, 0, none⟩)))
      (first | exact ⟨c0, c1, h0, e2⟩ | assumption | exact HK.out _ (Kp.of (by assumption) (by assumption) (by assumption)))
      (first | (go_at_call 78; refine HP.out.mono ?_; rintro e w' ⟨rfl, rfl⟩) | (go_at_call 73; refine HL.out.mono ?_; rintro e w1 ⟨rfl, q1, q2⟩; have q4 := HG.out.trans q2; have q3 := Stay.refl A s; clear q2) | (go_at_call 94; refine (HU.out _).mono ?_; rintro e w' ⟨rfl, rfl⟩))
    obtain ⟨d0, d1, d2, d3, hk⟩ := HB.out _ (by assumption) (by assumption)
    have HQ := Lib.hid (And.intro (‹Rep A σ.tick _›) (And.intro (‹Grow A.L w A.L _›) hk))
    clear hk
    go_wp2_with (go_at_call 198; refine (HOld.out _ HQ.out.1 HQ.out.2.1).mono ?_; rintro e w2 ⟨A2, v, rfl, p1, p2, p3, p4⟩)
    go_ret
    exact ⟨A2, v, rfl, p1, HQ.out.2.1.trans p2, p3, p4⟩
  · have fa1 : ((en : Int) == 0) = false := by first | (simp; done) | (simp; omega)
    have fa2 : ((en : Int) = 0) = False := by first | (simp; done) | (simp; omega)
    have fa3 : (en = 0) = False := by first | (simp; done) | (simp; omega)
    have fa4 : (en == 0) = false := by first | (simp; done) | (simp; omega)
    have fa5 : ((en : Int) != 0) = true := by first | (simp; done) | (simp; omega)
    by_cases hlt : ha < en
    · rw [if_pos (Or.inr (Or.inl hlt))]
      have fb1 : decide ((ha : Int) < (en : Int)) = true := by first | (simp; done) | (simp; omega)
      have fb2 : ((ha : Int) < (en : Int)) = True := by first | (simp; done) | (simp; omega)
      have fb3 : (ha < en) = True := by first | (simp; done) | (simp; omega)
      have fb4 : decide (ha < en) = true := by first | (simp; done) | (simp; omega)
      clear h0e hlt
      go_enter Tryz.func199, Tryz.ntmps199
      go_wp2_with fail
      go_region_held3 (fun w' => w'.cell? ⟨b0, 0, none⟩ = some (.pointer (some ⟨bh, 0, none⟩)) ∧ w'.cell? ⟨b1, 0, none⟩ = some (.int .i64 (id : Int)) ∧ w'.cell? ⟨bh, 0, none⟩ = some (.pointer (some ⟨A.be, 0, none⟩)) ∧ w'.cell? ⟨A.be, 2, none⟩ = some (.pointer (some ⟨A.ba, 0, none⟩)))
        (first | exact ⟨c0, c1, h0, e2⟩ | assumption | exact HK.out _ (Kp.of (by assumption) (by assumption) (by assumption)))
        (first | (go_at_call 78; refine HP.out.mono ?_; rintro e w' ⟨rfl, rfl⟩) | (go_at_call 73; refine HL.out.mono ?_; rintro e w1 ⟨rfl, q1, q2⟩; have q4 := HG.out.trans q2; have q3 := Stay.refl A s; clear q2) | (go_at_call 94; refine (HU.out _).mono ?_; rintro e w' ⟨rfl, rfl⟩))
      obtain ⟨d0, d1, d2, d3, hk⟩ := HB.out _ (by assumption) (by assumption)
      have HQ := Lib.hid (And.intro (‹Rep A σ.tick _›) (And.intro (‹Grow A.L w A.L _›) hk))
      clear hk
      go_wp2_with (go_at_call 198; refine (HOld.out _ HQ.out.1 HQ.out.2.1).mono ?_; rintro e w2 ⟨A2, v, rfl, p1, p2, p3, p4⟩)
      go_ret
      exact ⟨A2, v, rfl, p1, HQ.out.2.1.trans p2, p3, p4⟩
    · have fb1 : decide ((ha : Int) < (en : Int)) = false := by first | (simp; done) | (simp; omega)
      have fb2 : ((ha : Int) < (en : Int)) = False := by first | (simp; done) | (simp; omega)
      have fb3 : (ha < en) = False := by first | (simp; done) | (simp; omega)
      have fb4 : decide (ha < en) = false := by first | (simp; done) | (simp; omega)
      by_cases h4 : st = 4
      · rw [if_pos (Or.inr (Or.inr h4))]
        have fc1 : ((st : Int) == 4) = true := by first | (simp; done) | (simp; omega)
        have fc2 : ((st : Int) = 4) = True := by first | (simp; done) | (simp; omega)
        have fc3 : (st = 4) = True := by first | (simp; done) | (simp; omega)
        have fc4 : (st == 4) = true := by first | (simp; done) | (simp; omega)
        have fc5 : ((st : Int) != 4) = false := by first | (simp; done) | (simp; omega)
        clear h0e hlt h4
        go_enter Tryz.func199, Tryz.ntmps199
        go_wp2_with fail
        go_region_held3 (fun w' => w'.cell? ⟨b0, 0, none⟩ = some (.pointer (some ⟨bh, 0, none⟩)) ∧ w'.cell? ⟨b1, 0, none⟩ = some (.int .i64 (id : Int)) ∧ w'.cell? ⟨bh, 0, none⟩ = some (.pointer (some ⟨A.be, 0, none⟩)) ∧ w'.cell? ⟨A.be, 2, none⟩ = some (.pointer (some ⟨A.ba, 0, none⟩)))
          (first | exact ⟨c0, c1, h0, e2⟩ | assumption | exact HK.out _ (Kp.of (by assumption) (by assumption) (by assumption)))
          (first | (go_at_call 78; refine HP.out.mono ?_; rintro e w' ⟨rfl, rfl⟩) | (go_at_call 73; refine HL.out.mono ?_; rintro e w1 ⟨rfl, q1, q2⟩; have q4 := HG.out.trans q2; have q3 := Stay.refl A s; clear q2) | (go_at_call 94; refine (HU.out _).mono ?_; rintro e w' ⟨rfl, rfl⟩))
        obtain ⟨d0, d1, d2, d3, hk⟩ := HB.out _ (by assumption) (by assumption)
        have HQ := Lib.hid (And.intro (‹Rep A σ.tick _›) (And.intro (‹Grow A.L w A.L _›) hk))
        clear hk
        go_wp2_with (go_at_call 198; refine (HOld.out _ HQ.out.1 HQ.out.2.1).mono ?_; rintro e w2 ⟨A2, v, rfl, p1, p2, p3, p4⟩)
        go_ret
        exact ⟨A2, v, rfl, p1, HQ.out.2.1.trans p2, p3, p4⟩
      · rw [if_neg (by omega)]
        have fc1 : ((st : Int) == 4) = false := by first | (simp; done) | (simp; omega)
        have fc2 : ((st : Int) = 4) = False := by first | (simp; done) | (simp; omega)
        have fc3 : (st = 4) = False := by first | (simp; done) | (simp; omega)
        have fc4 : (st == 4) = false := by first | (simp; done) | (simp; omega)
        have fc5 : ((st : Int) != 4) = true := by first | (simp; done) | (simp; omega)
        by_cases h2 : st = 2
        · rw [if_pos h2]
          have fd1 : ((st : Int) == 2) = true := by first | (simp; done) | (simp; omega)
          have fd2 : ((st : Int) = 2) = True := by first | (simp; done) | (simp; omega)
          have fd3 : (st = 2) = True := by first | (simp; done) | (simp; omega)
          have fd4 : (st == 2) = true := by first | (simp; done) | (simp; omega)
          have fd5 : ((st : Int) != 2) = false := by first | (simp; done) | (simp; omega)
          clear h0e hlt h4 h2
          go_enter Tryz.func199, Tryz.ntmps199
          go_wp2_with fail
          go_region_held3 (fun w' => w'.cell? ⟨b0, 0, none⟩ = some (.pointer (some ⟨bh, 0, none⟩)) ∧ w'.cell? ⟨b1, 0, none⟩ = some (.int .i64 (id : Int)) ∧ w'.cell? ⟨bh, 0, none⟩ = some (.pointer (some ⟨A.be, 0, none⟩)) ∧ w'.cell? ⟨A.be, 2, none⟩ = some (.pointer (some ⟨A.ba, 0, none⟩)))
            (first | exact ⟨c0, c1, h0, e2⟩ | assumption | exact HK.out _ (Kp.of (by assumption) (by assumption) (by assumption)))
            (first | (go_at_call 78; refine HP.out.mono ?_; rintro e w' ⟨rfl, rfl⟩) | (go_at_call 73; refine HL.out.mono ?_; rintro e w1 ⟨rfl, q1, q2⟩; have q4 := HG.out.trans q2; have q3 := Stay.refl A s; clear q2) | (go_at_call 94; refine (HU.out _).mono ?_; rintro e w' ⟨rfl, rfl⟩))
          obtain ⟨d0, d1, d2, d3, hk⟩ := HB.out _ (by assumption) (by assumption)
          have HQ := Lib.hid (And.intro (‹Rep A σ.tick _›) (And.intro (‹Grow A.L w A.L _›) hk))
          clear hk
          go_wp2_with (go_at_call 197; refine (HEnd.out _ HQ.out.1 HQ.out.2.1).mono ?_; rintro e w2 ⟨A2, v, rfl, p1, p2, p3, p4⟩)
          go_ret
          exact ⟨A2, v, rfl, p1, HQ.out.2.1.trans p2, p3, p4⟩
        · rw [if_neg h2]
          have fd1 : ((st : Int) == 2) = false := by first | (simp; done) | (simp; omega)
          have fd2 : ((st : Int) = 2) = False := by first | (simp; done) | (simp; omega)
          have fd3 : (st = 2) = False := by first | (simp; done) | (simp; omega)
          have fd4 : (st == 2) = false := by first | (simp; done) | (simp; omega)
          have fd5 : ((st : Int) != 2) = true := by first | (simp; done) | (simp; omega)
          clear h0e hlt h4 h2
          go_enter Tryz.func199, Tryz.ntmps199
          go_wp2_with fail
          go_region_held3 (fun w' => w'.cell? ⟨b0, 0, none⟩ = some (.pointer (some ⟨bh, 0, none⟩)) ∧ w'.cell? ⟨b1, 0, none⟩ = some (.int .i64 (id : Int)) ∧ w'.cell? ⟨bh, 0, none⟩ = some (.pointer (some ⟨A.be, 0, none⟩)) ∧ w'.cell? ⟨A.be, 2, none⟩ = some (.pointer (some ⟨A.ba, 0, none⟩)))
            (first | exact ⟨c0, c1, h0, e2⟩ | assumption | exact HK.out _ (Kp.of (by assumption) (by assumption) (by assumption)))
            (first | (go_at_call 78; refine HP.out.mono ?_; rintro e w' ⟨rfl, rfl⟩) | (go_at_call 73; refine HL.out.mono ?_; rintro e w1 ⟨rfl, q1, q2⟩; have q4 := HG.out.trans q2; have q3 := Stay.refl A s; clear q2) | (go_at_call 94; refine (HU.out _).mono ?_; rintro e w' ⟨rfl, rfl⟩))
          obtain ⟨d0, d1, d2, d3, hk⟩ := HB.out _ (by assumption) (by assumption)
          have HQ := Lib.hid (And.intro (‹Rep A σ.tick _›) (And.intro (‹Grow A.L w A.L _›) hk))
          clear hk
          go_wp2_with (go_at_call 197; refine (HEnd0.out _ HQ.out.1 HQ.out.2.1).mono ?_; rintro e w2 ⟨A2, v, rfl, p1, p2, p3, p4⟩)
          go_ret
          exact ⟨A2, v, rfl, p1, HQ.out.2.1.trans p2, p3, p4⟩
end Go.Proofs.YtbefcdjcefmicaaGreat.Em

namespace Go.Proofs.YtbefcdjcefmicaaGreat.Em
open Go.ChangeShapes Go.WideShapes Go.ChangeAt Go.RowKit En
set_option linter.unusedVariables false
set_option linter.unusedSimpArgs false
set_option maxRecDepth 100000
set_option maxHeartbeats 1600000

theorem index_any (w : World) (l : List Nat) (v : Value) (x : Nat) (ho : w.ownsRow 0 3 1 v l.length (l.map i64)) (hl : l.length < 1000000) :
    Calls Tryz.prog 236 #[v, .int .i64 (x : Int)] w fun e w' => (∃ r : Int, e = .returned (.int .i64 r) ∧ (0 ≤ r ↔ x ∈ l)) ∧ w = w' := by
  obtain ⟨av, capv, hv, _⟩ := Ow.own_form ho
  have hat : ∀ k (hk : k < l.length), ∃ g, av = some ⟨g, 0, none⟩ ∧ w.cell? ⟨g, k, none⟩ = some (.int .i64 (l[k] : Int)) := by
    intro k hk
    obtain ⟨g, cap, e, hc⟩ := own_at ho (j := k) (u := .int .i64 (l[k] : Int)) (by simp [hk])
    rw [hv] at e
    simp only [Value.slice.injEq] at e
    exact ⟨g, e.1, hc⟩
  subst hv
  have HAT := Lib.hid hat
  have HLL := Lib.hid hl
  clear hat ho hl
  go_enter Tryz.func236, Tryz.ntmps236
  go_wp2
  go_loop [8] (fun i => ∃ k : Nat, k ≤ l.length ∧ i = .int .i64 (k : Int) ∧ x ∉ l.take k) (fun i => l.length - (intOf i).toNat)
  case atStart => exact ⟨0, Nat.zero_le _, rfl, by simp⟩
  case round =>
    obtain ⟨k, hk, rfl, hnot⟩ := hrel
    by_cases hlt : k < l.length
    · obtain ⟨g, rfl, hc⟩ := HAT.out k hlt
      have ht : l.take (k + 1) = l.take k ++ [l[k]] := by rw [List.take_succ_eq_append_getElem hlt]
      have hmem : l[k] ∈ l := List.getElem_mem hlt
      have HT := Lib.hid (And.intro ht (And.intro hnot hmem))
      have b1 : (k : Int) < (l.length : Int) := by omega
      have b0 : (0 : Int) ≤ (k : Int) := by omega
      have n1 : IntKind.i64.wrap ((k : Int) + 1) = (k : Int) + 1 := by have := HLL.out; rw [IntKind.wrap_i64]; omega
      have HLT := Lib.hid hlt
      clear ht hnot hk hmem
      generalize l[k] = y at *
      by_cases hy : x = y
      · have HY := Lib.hid hy
        have fa1 : ((x : Int) == (y : Int)) = true := by first | (simp; done) | (simp; omega)
        have fa2 : ((x : Int) = (y : Int)) = True := by first | (simp; done) | (simp; omega)
        have fa3 : (x = y) = True := by first | (simp; done) | (simp; omega)
        have fa4 : (x == y) = true := by first | (simp; done) | (simp; omega)
        have fa5 : ((x : Int) != (y : Int)) = false := by first | (simp; done) | (simp; omega)
        clear hy
        go_wp2
        go_ret
        exact ⟨⟨_, rfl, by constructor <;> intro _ <;> first | (rw [HY.out]; exact HT.out.2.2) | omega⟩, rfl⟩
      · have HY := Lib.hid hy
        have fa1 : ((x : Int) == (y : Int)) = false := by first | (simp; done) | (simp; omega)
        have fa2 : ((x : Int) = (y : Int)) = False := by first | (simp; done) | (simp; omega)
        have fa3 : (x = y) = False := by first | (simp; done) | (simp; omega)
        have fa4 : (x == y) = false := by first | (simp; done) | (simp; omega)
        have fa5 : ((x : Int) != (y : Int)) = true := by first | (simp; done) | (simp; omega)
        clear hy
        go_wp2
        go_round
        case rel => exact ⟨k + 1, HLT.out, by first | rfl | go_num, by rw [HT.out.1]; intro h; rcases List.mem_append.1 h with h | h; exact HT.out.2.1 h; exact HY.out (List.mem_singleton.1 h)⟩
        case measure => have := HLT.out; simp [intOf]; omega
    · have hx : x ∉ l := by rw [List.take_of_length_le (by omega)] at hnot; exact hnot
      have HX := Lib.hid hx
      obtain rfl : k = l.length := by omega
      clear hlt hnot hk hx
      go_wp2
      go_ret
      exact ⟨⟨_, rfl, by constructor; intro h; exact absurd h (by decide); intro h; exact absurd h HX.out⟩, rfl⟩
theorem contains_any (w : World) (l : List Nat) (v : Value) (x : Nat) (ho : w.ownsRow 0 3 1 v l.length (l.map i64)) (hl : l.length < 1000000) :
    Calls Tryz.prog 235 #[v, .int .i64 (x : Int)] w fun e w' => e = .returned (.bool (decide (x ∈ l))) ∧ w = w' := by
  have HI := Lib.hid (index_any w l v x ho hl)
  clear ho hl
  go_enter Tryz.func235, Tryz.ntmps235
  go_wp2_with (go_at_call 236; refine HI.out.mono ?_; rintro e w' ⟨⟨r, rfl, hr⟩, rfl⟩)
  go_ret
  refine ⟨?_, rfl⟩
  have e : decide ((0 : Int) ≤ r) = decide (x ∈ l) := by rw [decide_eq_decide]; exact hr
  first | (rw [← e]; rfl) | (simp [hr]; done) | (rw [show decide (r ≥ 0) = decide (x ∈ l) from e])
theorem Does.trans2 {A : Book} {w w1 : World} {s : Nat} {σ1 σ2 : St} {v : Value} {e : Ending} {w' : World} {A1 : Book} (g1 : Grow A.L w A1.L w1) (s1 : Stay A A1 s) (b1 : A1.bx = A.bx) (p1 : A1.vpairs = A.vpairs) (h : Does A1 w1 s σ2 v e w') : Does A w s σ2 v e w' :=
  let ⟨e1, A2, r, g, st, bx, vp⟩ := h; ⟨e1, A2, r, g1.trans g, s1.trans st, bx.trans b1, vp.trans p1⟩
theorem bind_any {A : Book} {σ : St} {w : World} (hR : Rep A σ w) (s : Nat) (t : Txn) (ht : σ.txns.getD s none = some t) (to : Nat) (hto : to ≤ 65535) (hn : t.bonds.length < 1000000) (htl : σ.tale.length < 1000000) :
    Calls Tryz.prog 225 #[.pointer (some ⟨A.be, 0, none⟩), .pointer (some ⟨A.bt s, 0, none⟩), .int .i64 (to : Int)] w (Does A w s (σ.bind s to) (.tuple #[])) := by
  have c9 : w.cell? ⟨A.bt s, 9, none⟩ = some (A.vbonds s) := hR.txn ht 9 rfl
  have z9 := hR.txnF ht 9
  have hown0 := hR.mem.all (.bonds s)
  rw [mem_bonds ht] at hown0
  obtain ⟨av, capv, hv, _⟩ := Ow.own_form hown0.1
  have HC := Lib.hid (contains_any w t.bonds _ to hown0.1 hn)
  by_cases hm : to ∈ t.bonds
  · have hst : σ.bind s to = σ := by unfold St.bind; rw [txn_get ht, if_pos hm]
    rw [hst]
    have hd : decide (to ∈ t.bonds) = true := by simpa using hm
    rw [hd, hv] at HC
    rw [hv] at c9
    have HR := Lib.hid hR
    clear hR ht hn htl hm hst hd hown0 hto hv
    generalize t.bonds.length = n at *
    go_enter Tryz.func225, Tryz.ntmps225
    go_wp2_with (go_at_call 235; refine HC.out.mono ?_; rintro e w' ⟨rfl, rfl⟩)
    go_end0
    exact ⟨rfl, A, HR.out, Grow.refl _ _, Stay.refl _ _, rfl, rfl⟩
  · have hd : decide (to ∈ t.bonds) = false := by simpa using hm
    rw [hd, hv] at HC
    have hst : σ.bind s to = (σ.setT s { t with bonds := t.bonds ++ [to] }).event { kind := 4, t := t.id, n := to } := by unfold St.bind; rw [txn_get ht, if_neg hm]
    rw [hst]
    have hA := hR.alloc (.cells #[.int .i64 (to : Int)] 3)
    have hown := hA.mem.all (.bonds s)
    rw [mem_bonds ht] at hown
    have ho : (w.alloc (.cells #[.int .i64 (to : Int)] 3)).ownsRow 0 3 1 (A.vbonds s) t.bonds.length (t.bonds.map i64) := hown.1
    have n1 : IntKind.u64.wrap (to : Int) = (to : Int) := by rw [IntKind.wrap_u64]; omega
    have FN : Hid (∀ v' w2, w2.ownsRow 0 3 1 v' (t.bonds.length + 1) (t.bonds.map i64 ++ [.int .i64 (to : Int)]) → (w.alloc (.cells #[.int .i64 (to : Int)] 3)).grownBy w2 (A.vbonds s).ownBlock → (v'.ownBlock = (A.vbonds s).ownBlock ∨ ∀ g, v'.ownBlock = some g → (w.alloc (.cells #[.int .i64 (to : Int)] 3)).heap.size ≤ g) →
        (w2.setCell ⟨A.bt s, 9, none⟩ v').cell? ⟨A.bt s, 0, none⟩ = some (.int .i64 (t.id : Int)) ∧ Calls Tryz.prog 53 #[.pointer (some ⟨A.be, 0, none⟩), .agg #[.int .i64 4, .int .i64 (t.id : Int), .int .u64 (to : Int), .int .i64 0, .int .i64 0, .int .i64 0, .int .i64 0, .int .i64 0, .int .i64 0, .slice none 0 0, .int .i64 0, .int .i64 0]] (w2.setCell ⟨A.bt s, 9, none⟩ v') (Does A w s ((σ.setT s { t with bonds := t.bonds ++ [to] }).event { kind := 4, t := t.id, n := to }) (.tuple #[])) ∧ w2.cell? ⟨A.bt s, 9, none⟩ = some (A.vbonds s) ∧ w2.frozen? ⟨A.bt s, 9, none⟩ = false) := by
      intro v' w2 q1 q2 q3
      obtain ⟨k1, k2, k3, k4⟩ := hA.bondsOn ht (t.bonds ++ [to]) v' q2 (by simpa using q1) q3
      have ht2 : (σ.setT s { t with bonds := t.bonds ++ [to] }).txns.getD s none = some { t with bonds := t.bonds ++ [to] } := by rw [getT_set (lt_of_txn ht), if_pos rfl]
      refine ⟨k1.txn ht2 0 rfl, ?_, k3, k4⟩
      have he := event_any k1 s { kind := 4, t := t.id, n := to } 4 t.id to 0 0 0 0 0 0 0 0 none 0 0 rfl (PRow.nil _ _) htl
      refine he.mono fun e w' h => ?_
      exact Does.trans2 (σ1 := σ) ((Grow.alloc A.L w _).trans k2) ⟨rfl, rfl, rfl, rfl, rfl, rfl, rfl, rfl, rfl, rfl, rfl, fun _ _ => rfl, fun _ _ => rfl⟩ rfl rfl h
    rw [hv] at c9 ho FN
    have HO := Lib.hid ho
    clear hR ht htl hm hst hd hown0 hto hv hA hown ho
    generalize hn' : t.bonds.length = n at *
    have HN := Lib.hid hn
    clear hn hn'
    obtain ⟨ii, hii, hz0, hz1, hz2⟩ := info_parts infoI
    go_enter Tryz.func225, Tryz.ntmps225
    go_wp2_with (first | (go_at_call 235; refine HC.out.mono ?_; rintro e w' ⟨rfl, rfl⟩) | (refine Ow.wpList_append_to _ rfl (.tmp 17) (.tmp 19) 33 rfl 0 _ ii _ 1 8 Tryz.underlying33 hii hz0 hz1 hz2 rfl (by decide) (.slice av n capv) n (t.bonds.map i64) rfl HO.out ⟨w.heap.size, 0, none⟩ 1 1 (by omega) [.int .i64 (to : Int)] rfl rfl (by intro j' u hu; exact Ow.new_row _ [.int .i64 (to : Int)] _ _ rfl j' u hu) (by intro u hu; obtain rfl := List.mem_singleton.1 hu; rfl) (by have := HN.out; unfold maxLen; omega) (by have := HN.out; omega) (Nat.zero_le _) ?_; intro v' w4 q1 q2 q3; obtain ⟨k1, k2, k3, k4⟩ := FN.out v' w4 q1 q2 q3; obtain ⟨a4, cap4, rfl, _⟩ := Ow.own_form q1; have K1 := Lib.hid k2; clear k2 q1 q2 q3) | (go_at_call 53; refine K1.out.mono ?_; rintro e w2 hd2; obtain ⟨rfl, hd3⟩ := id hd2))
    go_end0
    exact ⟨rfl, hd3⟩
end Go.Proofs.YtbefcdjcefmicaaGreat.Em

namespace Go.Proofs.YtbefcdjcefmicaaGreat.Em
open Go.ChangeShapes Go.WideShapes Go.ChangeAt Go.RowKit En
set_option linter.unusedVariables false
set_option linter.unusedSimpArgs false
set_option maxRecDepth 100000
set_option maxHeartbeats 1600000

theorem k_ownTxn {A : Book} {σ : St} {w : World} (hR : Rep A σ w) (s : Nat) (link x1 id : Nat) (hid : id ≤ 65535) (hpl : σ.place id < σ.words.length) (hw : σ.word (σ.place id) < 18446744073709551616) (hcnt : σ.count < 4000000000000000000) (b0 b1 b2 b3 b4 b5 : Nat)
    (B0 : Box A.L w b0 (.pointer (some ⟨A.be, 0, none⟩))) (B1 : Box A.L w b1 (.int .i64 (id : Int))) (B2 : Box A.L w b2 (.pointer (some ⟨A.bt s, 0, none⟩))) (B3 : Box A.L w b3 (.pointer (some ⟨A.bc s, 0, none⟩))) (B4 : Box A.L w b4 (.int .u64 (link : Int))) (B5 : Box A.L w b5 (.int .u64 (x1 : Int))) :
    Calls Tryz.prog 154 #[.pointer (some ⟨b0, 0, none⟩), .pointer (some ⟨b1, 0, none⟩), .pointer (some ⟨b2, 0, none⟩), .pointer (some ⟨b3, 0, none⟩), .pointer (some ⟨b4, 0, none⟩), .pointer (some ⟨b5, 0, none⟩)] w (Ran A w s (σ.run s (.ownTxn link x1 id))) := by
  have c0 := B0.cell
  have c1 := B1.cell
  have e2 : w.cell? ⟨A.be, 2, none⟩ = some (.pointer (some ⟨A.ba, 0, none⟩)) := hR.eng 2 rfl
  have HK : Hid (∀ w', Kp A w w' → w'.cell? ⟨b0, 0, none⟩ = some (.pointer (some ⟨A.be, 0, none⟩)) ∧ w'.cell? ⟨b1, 0, none⟩ = some (.int .i64 (id : Int)) ∧ w'.cell? ⟨A.be, 2, none⟩ = some (.pointer (some ⟨A.ba, 0, none⟩))) := by
    obtain ⟨_, x0⟩ := B0
    obtain ⟨_, x1⟩ := B1
    exact fun w' k => ⟨k.fix _ _ _ x0.1 c0, k.fix _ _ _ x1.1 c1, k.ea⟩
  have HP := Lib.hid (place_still hR.drew id hid)
  have HL := Lib.hid (load_any hR.drew (σ.place id) hpl hcnt)
  have HU := Lib.hid (fun w' => unpack_any (σ.word (σ.place id)) hw w')
  have HG : Hid (Grow A.L w A.L w.drew) := Grow.drew _ _
  have HB : Hid (∀ w1, Rep A σ.tick w1 → Grow A.L w A.L w1 → w1.cell? ⟨b0, 0, none⟩ = some (.pointer (some ⟨A.be, 0, none⟩)) ∧ w1.cell? ⟨b2, 0, none⟩ = some (.pointer (some ⟨A.bt s, 0, none⟩)) ∧ w1.cell? ⟨b3, 0, none⟩ = some (.pointer (some ⟨A.bc s, 0, none⟩)) ∧ w1.cell? ⟨b4, 0, none⟩ = some (.int .u64 (link : Int)) ∧ w1.cell? ⟨b5, 0, none⟩ = some (.int .u64 (x1 : Int))) := fun w1 q g => ⟨(B0.grow g).cell, (B2.grow g).cell, (B3.grow g).cell, (B4.grow g).cell, (B5.grow g).cell⟩
  have hrun : σ.run s (.ownTxn link x1 id) = (σ.tick, some (if stateOf (σ.word (σ.place id)) ≠ 4 then .abort 14 2 else .claim link x1)) := by
    simp only [St.run]; split <;> rfl
  rw [hrun]
  have HAb : Hid (∀ w1, Rep A σ.tick w1 → Calls Tryz.prog 85 #[.pointer (some ⟨A.be, 0, none⟩), .pointer (some ⟨A.bt s, 0, none⟩), .pointer (some ⟨A.bc s, 0, none⟩), .int .i64 14, .int .i64 2] w1 (Tells A w1 s (σ.tick, .abort 14 2))) := fun w1 q => abort_any q s 14 2
  have HCl : Hid (∀ w1, Rep A σ.tick w1 → Calls Tryz.prog 153 #[.pointer (some ⟨A.be, 0, none⟩), .pointer (some ⟨A.bt s, 0, none⟩), .pointer (some ⟨A.bc s, 0, none⟩), .int .u64 (link : Int), .int .u64 (x1 : Int)] w1 (Tells A w1 s (σ.tick, .claim link x1))) := fun w1 q => claim_any q s link x1
  clear hR hid hpl hw hcnt B0 B1 B2 B3 B4 B5 hrun
  generalize σ.word (σ.place id) = x at *
  generalize hst : stateOf x = st at *
  generalize hen : endOf x = en at *
  clear hst hen
  by_cases h4 : st = 4
  · rw [if_neg (fun h => h h4)]
    have fc1 : ((st : Int) == 4) = true := by first | (simp; done) | (simp; omega)
    have fc2 : ((st : Int) = 4) = True := by first | (simp; done) | (simp; omega)
    have fc3 : (st = 4) = True := by first | (simp; done) | (simp; omega)
    have fc4 : (st == 4) = true := by first | (simp; done) | (simp; omega)
    have fc5 : ((st : Int) != 4) = false := by first | (simp; done) | (simp; omega)
    clear h4
    go_enter Tryz.func154, Tryz.ntmps154
    go_wp2_with fail
    go_region_held3 (fun w' => w'.cell? ⟨b0, 0, none⟩ = some (.pointer (some ⟨A.be, 0, none⟩)) ∧ w'.cell? ⟨b1, 0, none⟩ = some (.int .i64 (id : Int)) ∧ w'.cell? ⟨A.be, 2, none⟩ = some (.pointer (some ⟨A.ba, 0, none⟩)))
      (first | exact ⟨c0, c1, e2⟩ | assumption | exact HK.out _ (Kp.of (by assumption) (by assumption) (by assumption)))
      (first | (go_at_call 78; refine HP.out.mono ?_; rintro e w' ⟨rfl, rfl⟩) | (go_at_call 73; refine HL.out.mono ?_; rintro e w1 ⟨rfl, q1, q2⟩; have q4 := HG.out.trans q2; have q3 := Stay.refl A s; clear q2) | (go_at_call 94; refine (HU.out _).mono ?_; rintro e w' ⟨rfl, rfl⟩))
    have HQ := Lib.hid (And.intro (‹Rep A σ.tick _›) (‹Grow A.L w A.L _›))
    obtain ⟨d0, d2, d3, d4, d5⟩ := HB.out _ HQ.out.1 HQ.out.2
    go_wp2_with (go_at_call 153; refine (HCl.out _ HQ.out.1).mono ?_; rintro e w2 ⟨A2, v, rfl, p1, p2, p3, p4⟩)
    go_ret
    exact ⟨A2, v, rfl, p1, HQ.out.2.trans p2, p3, p4⟩
  · rw [if_pos h4]
    have fc1 : ((st : Int) == 4) = false := by first | (simp; done) | (simp; omega)
    have fc2 : ((st : Int) = 4) = False := by first | (simp; done) | (simp; omega)
    have fc3 : (st = 4) = False := by first | (simp; done) | (simp; omega)
    have fc4 : (st == 4) = false := by first | (simp; done) | (simp; omega)
    have fc5 : ((st : Int) != 4) = true := by first | (simp; done) | (simp; omega)
    clear h4
    go_enter Tryz.func154, Tryz.ntmps154
    go_wp2_with fail
    go_region_held3 (fun w' => w'.cell? ⟨b0, 0, none⟩ = some (.pointer (some ⟨A.be, 0, none⟩)) ∧ w'.cell? ⟨b1, 0, none⟩ = some (.int .i64 (id : Int)) ∧ w'.cell? ⟨A.be, 2, none⟩ = some (.pointer (some ⟨A.ba, 0, none⟩)))
      (first | exact ⟨c0, c1, e2⟩ | assumption | exact HK.out _ (Kp.of (by assumption) (by assumption) (by assumption)))
      (first | (go_at_call 78; refine HP.out.mono ?_; rintro e w' ⟨rfl, rfl⟩) | (go_at_call 73; refine HL.out.mono ?_; rintro e w1 ⟨rfl, q1, q2⟩; have q4 := HG.out.trans q2; have q3 := Stay.refl A s; clear q2) | (go_at_call 94; refine (HU.out _).mono ?_; rintro e w' ⟨rfl, rfl⟩))
    have HQ := Lib.hid (And.intro (‹Rep A σ.tick _›) (‹Grow A.L w A.L _›))
    obtain ⟨d0, d2, d3, d4, d5⟩ := HB.out _ HQ.out.1 HQ.out.2
    go_wp2_with (go_at_call 85; refine (HAb.out _ HQ.out.1).mono ?_; rintro e w2 ⟨A2, v, rfl, p1, p2, p3, p4⟩)
    go_ret
    exact ⟨A2, v, rfl, p1, HQ.out.2.trans p2, p3, p4⟩
theorem k_wait {A : Book} {σ : St} {w : World} (hR : Rep A σ w) (s : Nat) (t : Txn) (ht : σ.txns.getD s none = some t) (c : Cal) (hc : σ.calls.getD s none = some c) (i bd : Nat) (hi : t.bonds[i]? = some bd) (hil : t.bonds.length < 1000000) (hid : bd ≤ 65535) (hpl : σ.place bd < σ.words.length) (hw : σ.word (σ.place bd) < 18446744073709551616) (hcnt : σ.count < 4000000000000000000) (b0 b1 b2 b3 b4 : Nat)
    (B0 : Box A.L w b0 (.pointer (some ⟨A.be, 0, none⟩))) (B1 : Box A.L w b1 (.pointer (some ⟨A.bt s, 0, none⟩))) (B2 : Box A.L w b2 (.int .i64 (i : Int))) (B3 : Box A.L w b3 (.pointer (some ⟨A.bc s, 0, none⟩))) (B4 : Box A.L w b4 (.func (.func 163) #[] #[.pointer (some ⟨b0, 0, none⟩), .pointer (some ⟨b1, 0, none⟩), .pointer (some ⟨b2, 0, none⟩), .pointer (some ⟨b3, 0, none⟩), .pointer (some ⟨b4, 0, none⟩)])) :
    Calls Tryz.prog 163 #[.pointer (some ⟨b0, 0, none⟩), .pointer (some ⟨b1, 0, none⟩), .pointer (some ⟨b2, 0, none⟩), .pointer (some ⟨b3, 0, none⟩), .pointer (some ⟨b4, 0, none⟩)] w (Ran A w s (σ.run s (.wait i))) := by
  have hown0 := hR.mem.all (.bonds s)
  rw [mem_bonds ht] at hown0
  have hj : (t.bonds.map i64)[i]? = some (.int .i64 (bd : Int)) := by rw [List.getElem?_map, hi]; rfl
  obtain ⟨g0, capv, hv, _⟩ := own_at hown0.1 hj
  have HKK : Hid (∀ σ' w', Rep A σ' w' → σ'.txns = σ.txns → Grow A.L w A.L w' → w'.cell? ⟨b0, 0, none⟩ = some (.pointer (some ⟨A.be, 0, none⟩)) ∧ w'.cell? ⟨b1, 0, none⟩ = some (.pointer (some ⟨A.bt s, 0, none⟩)) ∧ w'.cell? ⟨b2, 0, none⟩ = some (.int .i64 (i : Int)) ∧ w'.cell? ⟨A.be, 2, none⟩ = some (.pointer (some ⟨A.ba, 0, none⟩)) ∧ w'.cell? ⟨A.bt s, 9, none⟩ = some (.slice (some ⟨g0, 0, none⟩) t.bonds.length capv) ∧ w'.cell? ⟨g0, i, none⟩ = some (.int .i64 (bd : Int))) := by
    intro σ' w' r he g
    have ht' : σ'.txns.getD s none = some t := by rw [he]; exact ht
    have h9 := r.txn ht' 9 (v := A.vbonds s) rfl
    have hown := r.mem.all (.bonds s)
    rw [mem_bonds ht'] at hown
    obtain ⟨g1, cap1, hv1, hc1⟩ := own_at hown.1 hj
    obtain rfl : g0 = g1 := by rw [hv] at hv1; simp at hv1; exact hv1.1
    rw [hv] at h9
    exact ⟨(B0.grow g).cell, (B1.grow g).cell, (B2.grow g).cell, r.eng 2 rfl, h9, hc1⟩
  have HKT : Hid (∀ w', Rep A σ.tick w' → Grow A.L w A.L w' → w'.cell? ⟨b0, 0, none⟩ = some (.pointer (some ⟨A.be, 0, none⟩)) ∧ w'.cell? ⟨b1, 0, none⟩ = some (.pointer (some ⟨A.bt s, 0, none⟩)) ∧ w'.cell? ⟨b2, 0, none⟩ = some (.int .i64 (i : Int)) ∧ w'.cell? ⟨A.be, 2, none⟩ = some (.pointer (some ⟨A.ba, 0, none⟩)) ∧ w'.cell? ⟨A.bt s, 9, none⟩ = some (.slice (some ⟨g0, 0, none⟩) t.bonds.length capv) ∧ w'.cell? ⟨g0, i, none⟩ = some (.int .i64 (bd : Int))) := fun w' r g => HKK.out σ.tick w' r rfl g
  obtain ⟨c0, c1, c2, e2, h9, hg⟩ := HKK.out σ w hR rfl (Grow.refl _ _)
  have b1' : (i : Int) < (t.bonds.length : Int) := by have := (List.getElem?_eq_some_iff.1 hi).1; omega
  have b0' : (0 : Int) ≤ (i : Int) := by omega
  have HP := Lib.hid (place_still hR.drew bd hid)
  have HL := Lib.hid (load_any hR.drew (σ.place bd) hpl hcnt)
  have HU := Lib.hid (fun w' => unpack_any (σ.word (σ.place bd)) hw w')
  have HG : Hid (Grow A.L w A.L w.drew) := Grow.drew _ _
  have HB : Hid (∀ w1, Rep A σ.tick w1 → Grow A.L w A.L w1 → w1.cell? ⟨b0, 0, none⟩ = some (.pointer (some ⟨A.be, 0, none⟩)) ∧ w1.cell? ⟨b1, 0, none⟩ = some (.pointer (some ⟨A.bt s, 0, none⟩)) ∧ w1.cell? ⟨b2, 0, none⟩ = some (.int .i64 (i : Int)) ∧ w1.cell? ⟨b3, 0, none⟩ = some (.pointer (some ⟨A.bc s, 0, none⟩)) ∧ w1.cell? ⟨b4, 0, none⟩ = some (.func (.func 163) #[] #[.pointer (some ⟨b0, 0, none⟩), .pointer (some ⟨b1, 0, none⟩), .pointer (some ⟨b2, 0, none⟩), .pointer (some ⟨b3, 0, none⟩), .pointer (some ⟨b4, 0, none⟩)]) ∧ w1.cell? ⟨A.bc s, 10, none⟩ = some (.bool c.waits) ∧ w1.frozen? ⟨A.bc s, 10, none⟩ = false) :=
    fun w1 q g => ⟨(B0.grow g).cell, (B1.grow g).cell, (B2.grow g).cell, (B3.grow g).cell, (B4.grow g).cell, q.call (s := s) (c := c) hc 10 rfl, q.callF (s := s) (c := c) hc 10⟩
  have hgd : t.bonds.getD i 0 = bd := by rw [List.getD_eq_getElem?_getD, hi]; rfl
  have hrun : σ.run s (.wait i) = if stateOf (σ.word (σ.place bd)) = 3 then (σ.tick, some (waitK t (i + 1))) else if stateOf (σ.word (σ.place bd)) = 4 then (σ.tick, some (.abort 14 4)) else (σ.tick.setC s { c with waits := true }, some (.wait i)) := by
    have e1 : σ.t s = t := txn_get ht
    have e2 : σ.tick.t s = t := txn_get ht
    have e3 : σ.tick.c s = c := call_get hc
    simp only [St.run, e1, e2, e3, hgd]
  rw [hrun]
  have n1 : IntKind.i64.wrap ((i : Int) + 1) = (i : Int) + 1 := by have := (List.getElem?_eq_some_iff.1 hi).1; rw [IntKind.wrap_i64]; omega
  have HAb : Hid (∀ w1, Rep A σ.tick w1 → Calls Tryz.prog 85 #[.pointer (some ⟨A.be, 0, none⟩), .pointer (some ⟨A.bt s, 0, none⟩), .pointer (some ⟨A.bc s, 0, none⟩), .int .i64 14, .int .i64 4] w1 (Tells A w1 s (σ.tick, .abort 14 4))) := fun w1 q => abort_any q s 14 4
  have HWa : Hid (∀ w1, Rep A σ.tick w1 → Calls Tryz.prog 141 #[.pointer (some ⟨A.be, 0, none⟩), .pointer (some ⟨A.bt s, 0, none⟩), .pointer (some ⟨A.bc s, 0, none⟩), .int .i64 ((i : Int) + 1)] w1 (Tells A w1 s (σ.tick, waitK t (i + 1)))) := fun w1 q => wait_any q s t ht (i + 1)
  have HST : Hid (∀ w1, Rep A σ.tick w1 → Grow A.L w A.L w1 → ∀ ws, w1.setCell ⟨A.bc s, 10, none⟩ (.bool true) = ws → Rep A (σ.tick.setC s { c with waits := true }) ws ∧ Grow A.L w A.L ws ∧ ws.cell? ⟨b4, 0, none⟩ = some (.func (.func 163) #[] #[.pointer (some ⟨b0, 0, none⟩), .pointer (some ⟨b1, 0, none⟩), .pointer (some ⟨b2, 0, none⟩), .pointer (some ⟨b3, 0, none⟩), .pointer (some ⟨b4, 0, none⟩)])) := by
    rintro w1 q g ws rfl
    obtain ⟨r2, g2⟩ := q.setCall (s := s) (c := c) hc { c with waits := true } 10 (.bool true) (by simp [callCs]) rfl
    exact ⟨r2, g.trans g2, (B4.grow (g.trans g2)).cell⟩
  have hkp : kp A (σ.tick.setC s { c with waits := true }) s = kp A σ s := by
    have e : (σ.tick.setC s { c with waits := true }).c s = { c with waits := true } := call_get (by rw [getC_set (σ := σ.tick) (lt_of_call hc), if_pos rfl])
    unfold kp
    rw [e, call_get hc]
  have HKP := Lib.hid hkp
  clear hkp
  have HX := Lib.hid (And.intro B0 (And.intro B1 (And.intro B2 (And.intro B3 B4))))
  clear hR ht hc hi hil hid hpl hw hcnt B0 B1 B2 B3 B4 hown0 hj hv hgd hrun
  generalize σ.word (σ.place bd) = x at *
  generalize hst : stateOf x = st at *
  generalize hen : endOf x = en at *
  clear hst hen
  generalize hbl : t.bonds.length = n at *
  by_cases h3 : st = 3
  · rw [if_pos h3]
    have fc1 : ((st : Int) == 3) = true := by first | (simp; done) | (simp; omega)
    have fc2 : ((st : Int) = 3) = True := by first | (simp; done) | (simp; omega)
    have fc3 : (st = 3) = True := by first | (simp; done) | (simp; omega)
    have fc4 : (st == 3) = true := by first | (simp; done) | (simp; omega)
    have fc5 : ((st : Int) != 3) = false := by first | (simp; done) | (simp; omega)
    clear h3
    go_enter Tryz.func163, Tryz.ntmps163
    go_wp2_with fail
    go_region_held3 (fun w' => w'.cell? ⟨b0, 0, none⟩ = some (.pointer (some ⟨A.be, 0, none⟩)) ∧ w'.cell? ⟨b1, 0, none⟩ = some (.pointer (some ⟨A.bt s, 0, none⟩)) ∧ w'.cell? ⟨b2, 0, none⟩ = some (.int .i64 (i : Int)) ∧ w'.cell? ⟨A.be, 2, none⟩ = some (.pointer (some ⟨A.ba, 0, none⟩)) ∧ w'.cell? ⟨A.bt s, 9, none⟩ = some (.slice (some ⟨g0, 0, none⟩) n capv) ∧ w'.cell? ⟨g0, i, none⟩ = some (.int .i64 (bd : Int)))
      (first | exact ⟨c0, c1, c2, e2, h9, hg⟩ | assumption | exact HKT.out _ (by assumption) (by assumption))
      (first | (go_at_call 78; refine HP.out.mono ?_; rintro e w' ⟨rfl, rfl⟩) | (go_at_call 73; refine HL.out.mono ?_; rintro e w1 ⟨rfl, q1, q2⟩; have q4 := HG.out.trans q2; have q3 := Stay.refl A s; clear q2) | (go_at_call 94; refine (HU.out _).mono ?_; rintro e w' ⟨rfl, rfl⟩))
    have HQ := Lib.hid (And.intro (‹Rep A σ.tick _›) (‹Grow A.L w A.L _›))
    obtain ⟨d0, d1, d2, d3, d4, d5, d6⟩ := HB.out _ HQ.out.1 HQ.out.2
    go_wp2_with (go_at_call 141; refine (HWa.out _ HQ.out.1).mono ?_; rintro e w2 ⟨A2, v, rfl, p1, p2, p3, p4⟩)
    go_ret
    exact ⟨A2, v, rfl, p1, HQ.out.2.trans p2, p3, p4⟩
  · rw [if_neg h3]
    have fc1 : ((st : Int) == 3) = false := by first | (simp; done) | (simp; omega)
    have fc2 : ((st : Int) = 3) = False := by first | (simp; done) | (simp; omega)
    have fc3 : (st = 3) = False := by first | (simp; done) | (simp; omega)
    have fc4 : (st == 3) = false := by first | (simp; done) | (simp; omega)
    have fc5 : ((st : Int) != 3) = true := by first | (simp; done) | (simp; omega)
    by_cases h4 : st = 4
    · rw [if_pos h4]
      have fd1 : ((st : Int) == 4) = true := by first | (simp; done) | (simp; omega)
      have fd2 : ((st : Int) = 4) = True := by first | (simp; done) | (simp; omega)
      have fd3 : (st = 4) = True := by first | (simp; done) | (simp; omega)
      have fd4 : (st == 4) = true := by first | (simp; done) | (simp; omega)
      have fd5 : ((st : Int) != 4) = false := by first | (simp; done) | (simp; omega)
      clear h3 h4
      go_enter Tryz.func163, Tryz.ntmps163
      go_wp2_with fail
      go_region_held3 (fun w' => w'.cell? ⟨b0, 0, none⟩ = some (.pointer (some ⟨A.be, 0, none⟩)) ∧ w'.cell? ⟨b1, 0, none⟩ = some (.pointer (some ⟨A.bt s, 0, none⟩)) ∧ w'.cell? ⟨b2, 0, none⟩ = some (.int .i64 (i : Int)) ∧ w'.cell? ⟨A.be, 2, none⟩ = some (.pointer (some ⟨A.ba, 0, none⟩)) ∧ w'.cell? ⟨A.bt s, 9, none⟩ = some (.slice (some ⟨g0, 0, none⟩) n capv) ∧ w'.cell? ⟨g0, i, none⟩ = some (.int .i64 (bd : Int)))
        (first | exact ⟨c0, c1, c2, e2, h9, hg⟩ | assumption | exact HKT.out _ (by assumption) (by assumption))
        (first | (go_at_call 78; refine HP.out.mono ?_; rintro e w' ⟨rfl, rfl⟩) | (go_at_call 73; refine HL.out.mono ?_; rintro e w1 ⟨rfl, q1, q2⟩; have q4 := HG.out.trans q2; have q3 := Stay.refl A s; clear q2) | (go_at_call 94; refine (HU.out _).mono ?_; rintro e w' ⟨rfl, rfl⟩))
      have HQ := Lib.hid (And.intro (‹Rep A σ.tick _›) (‹Grow A.L w A.L _›))
      obtain ⟨d0, d1, d2, d3, d4, d5, d6⟩ := HB.out _ HQ.out.1 HQ.out.2
      go_wp2_with (go_at_call 85; refine (HAb.out _ HQ.out.1).mono ?_; rintro e w2 ⟨A2, v, rfl, p1, p2, p3, p4⟩)
      go_ret
      exact ⟨A2, v, rfl, p1, HQ.out.2.trans p2, p3, p4⟩
    · rw [if_neg h4]
      have fd1 : ((st : Int) == 4) = false := by first | (simp; done) | (simp; omega)
      have fd2 : ((st : Int) = 4) = False := by first | (simp; done) | (simp; omega)
      have fd3 : (st = 4) = False := by first | (simp; done) | (simp; omega)
      have fd4 : (st == 4) = false := by first | (simp; done) | (simp; omega)
      have fd5 : ((st : Int) != 4) = true := by first | (simp; done) | (simp; omega)
      clear h3 h4
      go_enter Tryz.func163, Tryz.ntmps163
      go_wp2_with fail
      go_region_held3 (fun w' => w'.cell? ⟨b0, 0, none⟩ = some (.pointer (some ⟨A.be, 0, none⟩)) ∧ w'.cell? ⟨b1, 0, none⟩ = some (.pointer (some ⟨A.bt s, 0, none⟩)) ∧ w'.cell? ⟨b2, 0, none⟩ = some (.int .i64 (i : Int)) ∧ w'.cell? ⟨A.be, 2, none⟩ = some (.pointer (some ⟨A.ba, 0, none⟩)) ∧ w'.cell? ⟨A.bt s, 9, none⟩ = some (.slice (some ⟨g0, 0, none⟩) n capv) ∧ w'.cell? ⟨g0, i, none⟩ = some (.int .i64 (bd : Int)))
        (first | exact ⟨c0, c1, c2, e2, h9, hg⟩ | assumption | exact HKT.out _ (by assumption) (by assumption))
        (first | (go_at_call 78; refine HP.out.mono ?_; rintro e w' ⟨rfl, rfl⟩) | (go_at_call 73; refine HL.out.mono ?_; rintro e w1 ⟨rfl, q1, q2⟩; have q4 := HG.out.trans q2; have q3 := Stay.refl A s; clear q2) | (go_at_call 94; refine (HU.out _).mono ?_; rintro e w' ⟨rfl, rfl⟩))
      have HQ := Lib.hid (And.intro (‹Rep A σ.tick _›) (‹Grow A.L w A.L _›))
      obtain ⟨d0, d1, d2, d3, d4, d5, d6⟩ := HB.out _ HQ.out.1 HQ.out.2
      go_wp2_with fail
      generalize hws : World.setCell _ _ _ = ws
      obtain ⟨r2, g2, d7⟩ := HST.out _ HQ.out.1 HQ.out.2 ws hws
      have HZ := Lib.hid (And.intro r2 g2)
      clear d0 d1 d2 d3 d4 d5 d6 r2 g2 hws
      go_wp2_with fail
      go_ret
      obtain ⟨B0, B1, B2, B3, B4⟩ := HX.out
      obtain ⟨r2, g2⟩ := HZ.out
      refine ⟨A, _, rfl, r2, g2, Stay.refl _ _, ?_⟩
      show KRep (kp A _ s) _ _ _ _
      rw [HKP.out]
      exact ⟨_, _, _, _, _, rfl, B0.grow g2, B1.grow g2, B2.grow g2, B3.grow g2, B4.grow g2⟩
end Go.Proofs.YtbefcdjcefmicaaGreat.Em

namespace Go.Proofs.YtbefcdjcefmicaaGreat.Em
open Go.ChangeShapes Go.WideShapes Go.ChangeAt Go.RowKit En
set_option linter.unusedVariables false
set_option linter.unusedSimpArgs false
set_option maxRecDepth 100000
set_option maxHeartbeats 1600000

def aTurn (t : Txn) (key : Nat) : List Trn := if ((t.cell key).getD default).old ≠ 0 then [⟨wslot ((t.cell key).getD default).old 1, mine t, ever⟩] else []
theorem abortTurns_eq (σ : St) (t : Txn) : abortTurns σ t = t.keys.flatMap (aTurn t) := rfl
theorem aTurn_length (t : Txn) (key : Nat) : (aTurn t key).length ≤ 3 := by
  unfold aTurn
  split
  all_goals simp
/-- A turn is put behind a row of turns, in a region that draws. -/
theorem wp_turn2 {o : Oper} {a : Act} {K : Act → World → Prop} {Q : Exit → Act → World → Prop} (w W : World) (s x : Operand)
    (ho : o.op = .call { callee := .builtin .append, args := #[s, x], argTypes := #[211, 211] })
    (w0 : World) (hb : Below w0.heap.size w0 w) (av : Option Addr) (m cap : Nat) (xs : List Value) (hs : a.eval s = .slice av m cap) (hown : w.ownsRow w0.heap.size 213 3 (.slice av m cap) m xs) (hm : m < 4000000)
    (t0 t1 t2 : Int) (hW : W = (w.alloc (.cells #[.int .i64 t0, .int .u64 t1, .int .u64 t2] 213)).drew) (hx : a.eval x = .slice (some ⟨w.heap.size, 0, none⟩) 1 1)
    (h : ∀ av' cap' w', w'.ownsRow w0.heap.size 213 3 (.slice av' (m + 1) cap') (m + 1) (xs ++ [.int .i64 t0, .int .u64 t1, .int .u64 t2]) → Below w0.heap.size w0 w' → K (a.put o.dst (.slice av' (m + 1) cap')) w') :
    o.wp Tryz.prog a W K Q := by
  subst hW
  obtain ⟨ii, hii, hz0, hz1, hz2⟩ := info_parts infoT
  have hw := hb.size
  have hown' : (w.alloc (.cells #[.int .i64 t0, .int .u64 t1, .int .u64 t2] 213)).drew.ownsRow w0.heap.size 213 3 (.slice av m cap) m xs := own_same hown fun g hg => Below.heap_alloc _ _ _ (hown.lt g hg).2
  refine Ow.wp_append_to _ s x 211 ho w0.heap.size 213 ii _ 3 24 Tryz.underlying211 hii hz0 hz1 hz2 rfl (by decide) (.slice av m cap) m xs hs hown' ⟨w.heap.size, 0, none⟩ 1 1 (by omega) [.int .i64 t0, .int .u64 t1, .int .u64 t2] hx rfl (fun j u hu => Ow.new_row w [.int .i64 t0, .int .u64 t1, .int .u64 t2] _ _ rfl j u hu) (by intro u hu; simp at hu; rcases hu with rfl | rfl | rfl <;> rfl) (by unfold maxLen; omega) (by omega) (by simp [World.drew]; omega) ?_
  intro v' w' q1 q2 q3
  obtain ⟨av', cap', rfl, _⟩ := Ow.own_form q1
  exact h av' cap' w' q1 (((hb.alloc hw _).drew).grown q2 (by simp [World.drew]; omega) (fun g hg => (hown.lt g hg).1))
set_option maxHeartbeats 16000000 in
theorem k_abort {A : Book} {σ : St} {w : World} (hR : Rep A σ w) (s : Nat) (t : Txn) (ht : σ.txns.getD s none = some t) (hm : A.mt s = 0) (er reason : Nat) (hen : t.end_ ≤ 1099511627776) (hi1 : 1 ≤ t.id) (hid : t.id ≤ 2000) (hkl : t.keys.length < 1000000) (hK : KeysOk σ t) (htl : σ.tale.length < 1000000) (hcnt : σ.count < 4000000000000000000) (b0 b1 b2 b3 b4 : Nat)
    (B0 : Box A.L w b0 (.pointer (some ⟨A.be, 0, none⟩))) (B1 : Box A.L w b1 (.pointer (some ⟨A.bt s, 0, none⟩))) (B2 : Box A.L w b2 (.int .i64 (reason : Int))) (B3 : Box A.L w b3 (.pointer (some ⟨A.bc s, 0, none⟩))) (B4 : Box A.L w b4 (.int .i64 (er : Int))) :
    Calls Tryz.prog 118 #[.pointer (some ⟨b0, 0, none⟩), .pointer (some ⟨b1, 0, none⟩), .pointer (some ⟨b2, 0, none⟩), .pointer (some ⟨b3, 0, none⟩), .pointer (some ⟨b4, 0, none⟩)] w (Ran A w s (σ.run s (.abort er reason))) := by
  have c0 := B0.cell
  have c1 := B1.cell
  have e2 : w.cell? ⟨A.be, 2, none⟩ = some (.pointer (some ⟨A.ba, 0, none⟩)) := hR.eng 2 rfl
  have t4 : w.cell? ⟨A.bt s, 4, none⟩ = some (.int .u64 (t.end_ : Int)) := hR.txn ht 4 rfl
  have t0 : w.cell? ⟨A.bt s, 0, none⟩ = some (.int .i64 (t.id : Int)) := hR.txn ht 0 rfl
  have HP := Lib.hid (place_still hR.drew t.id (by omega))
  have HA := Lib.hid (pack_still 4 (t.end_ : Int) 4 t.end_ rfl rfl (by omega) (by omega) w.drew)
  have HL := Lib.hid (store_any hR.drew (σ.place t.id) (pack 4 t.end_) (by rw [hR.nw]; unfold St.place; omega) hcnt)
  have HG : Hid (Grow A.L w A.L w.drew) := Grow.drew _ _
  obtain ⟨σ2, hσ2⟩ : ∃ σ2, σ2 = (σ.put (σ.place t.id) (pack 4 t.end_)).tellEnd s { kind := 6, t := t.id, res := { reason := reason } } := ⟨_, rfl⟩
  have hrun : σ.run s (.abort er reason) = (σ2, some (.turns (t.keys.flatMap (aTurn t)) { e := er, over := 4, reason := reason })) := by
    rw [hσ2, ← abortTurns_eq (σ.put (σ.place t.id) (pack 4 t.end_)) t]
    simp only [St.run, txn_get ht]
    rfl
  rw [hrun]
  obtain ⟨t2, ht2, hk2, hc2, hen2⟩ : ∃ t2, σ2.txns.getD s none = some t2 ∧ t2.keys = t.keys ∧ t2.cells = t.cells ∧ t2.id = t.id := by
    have ht1 : (σ.put (σ.place t.id) (pack 4 t.end_)).txns.getD s none = some t := ht
    rw [hσ2]
    unfold St.tellEnd
    rw [txn_get ht1]
    by_cases ho : t.over = true
    · rw [if_pos ho]; exact ⟨t, ht1, rfl, rfl, rfl⟩
    · rw [if_neg ho]
      refine ⟨{ t with over := true }, ?_, rfl, rfl, rfl⟩
      show ((σ.put (σ.place t.id) (pack 4 t.end_)).setT s { t with over := true }).txns.getD s none = _
      rw [getT_set (lt_of_txn ht1), if_pos rfl]
  have HB1 : Hid (∀ w1, Rep A (σ.put (σ.place t.id) (pack 4 t.end_)) w1 → Grow A.L w A.L w1 → Calls Tryz.prog 119 #[.pointer (some ⟨A.be, 0, none⟩), .pointer (some ⟨A.bt s, 0, none⟩), .agg #[.int .i64 6, .int .i64 (t.id : Int), .int .u64 0, .int .i64 0, .int .i64 0, .int .i64 0, .int .i64 0, .int .i64 0, .int .i64 0, .slice none 0 0, .int .i64 0, .int .i64 (reason : Int)]] w1.drew (Told A w1.drew s σ2) ∧ w1.cell? ⟨b0, 0, none⟩ = some (.pointer (some ⟨A.be, 0, none⟩)) ∧ w1.cell? ⟨b1, 0, none⟩ = some (.pointer (some ⟨A.bt s, 0, none⟩)) ∧ w1.cell? ⟨b2, 0, none⟩ = some (.int .i64 (reason : Int)) ∧ w1.cell? ⟨A.bt s, 0, none⟩ = some (.int .i64 (t.id : Int))) := by
    intro w1 q g
    rw [hσ2]
    exact ⟨tell_any q.drew s t ht hm _ 6 t.id reason rfl rfl htl, (B0.grow g).cell, (B1.grow g).cell, (B2.grow g).cell, q.txn ht 0 rfl⟩
  have HB2 : Hid (∀ A2 w2, Rep A2 σ2 w2 → Grow A.L w A2.L w2 → Stay A A2 s → A2.bx = A.bx → ∀ w3, Below w2.heap.size w2 w3 → w3.cell? ⟨b0, 0, none⟩ = some (.pointer (some ⟨A.be, 0, none⟩)) ∧ w3.cell? ⟨b1, 0, none⟩ = some (.pointer (some ⟨A.bt s, 0, none⟩)) ∧ w3.cell? ⟨b2, 0, none⟩ = some (.int .i64 (reason : Int)) ∧ w3.cell? ⟨b3, 0, none⟩ = some (.pointer (some ⟨A.bc s, 0, none⟩)) ∧ w3.cell? ⟨b4, 0, none⟩ = some (.int .i64 (er : Int)) ∧ w3.cell? ⟨A.bt s, 7, none⟩ = some (.map (some (A.bm s))) ∧ w3.cell? ⟨A.bt s, 6, none⟩ = some (A2.vkeys s) ∧
      (∃ av cap, A2.vkeys s = .slice av t.keys.length cap) ∧ (∀ k, k < t.keys.length → ∀ g cap, A2.vkeys s = .slice (some ⟨g, 0, none⟩) t.keys.length cap → w3.cell? ⟨g, k, none⟩ = some (.int .i64 (t.keys.getD k 0 : Int))) ∧ (∀ k, k < t.keys.length → ∃ g cap, A2.vkeys s = .slice (some ⟨g, 0, none⟩) t.keys.length cap) ∧
      (∀ key x, t.cell key = some x → (Instr.lookup 114 (.map (some (A.bm s))) (.int .i64 (key : Int)) false).run Tryz.prog w3 = .ok (.pointer (some ⟨A.bx s key, 0, none⟩)) w3 ∧ w3.cell? ⟨A.bx s key, 1, none⟩ = some (.int .u64 (x.old : Int))) ∧
      Calls Tryz.prog 120 #[.pointer (some ⟨A.bt s, 0, none⟩)] w3.drew (fun e w' => e = .returned (.int .u64 ((mine t : Nat) : Int)) ∧ w' = w3.drew)) := by
    intro A2 w2 q g st hbx w3 hb
    have r3 := q.below hb
    have gg := g.trans (Grow.below (L := A2.L) hb)
    have a7 := r3.txn ht2 7 (v := .map (some (A2.bm s))) rfl
    have a6 := r3.txn ht2 6 (v := A2.vkeys s) rfl
    rw [st.bt] at a7 a6
    rw [st.bm] at a7
    have hown := r3.mem.all (.keys s)
    rw [mem_keys ht2, hk2] at hown
    obtain ⟨av, cap, hv, _⟩ := Ow.own_form hown.1
    have hget : ∀ k, k < t.keys.length → (t.keys.map i64)[k]? = some (i64 (t.keys.getD k 0)) := fun k hk => by simp [List.getD, hk]
    have hmi := flip (mine_any r3.drew s t2 ht2 (by omega) (by omega))
    rw [st.bt, show mine t2 = mine t by unfold mine; rw [hen2]] at hmi
    refine ⟨(B0.grow gg).cell, (B1.grow gg).cell, (B2.grow gg).cell, (B3.grow gg).cell, (B4.grow gg).cell, a7, a6, ⟨av, cap, hv⟩, fun k hk g' cap' hv' => ?_, fun k hk => ?_, fun key x hx => ?_, hmi⟩
    · obtain ⟨g1, cap1, hv1, hc1⟩ := own_at hown.1 (hget k hk)
      rw [hv'] at hv1
      obtain ⟨rfl, _⟩ : g' = g1 ∧ cap' = cap1 := by simpa using hv1
      exact hc1
    · obtain ⟨g1, cap1, hv1, hc1⟩ := own_at hown.1 (hget k hk)
      exact ⟨g1, cap1, hv1⟩
    · have hx2 : t2.cell key = some x := by unfold Txn.cell at hx ⊢; rw [hc2]; exact hx
      have hl := lookup_run r3 ht2 key
      have hpx : A2.px s t2 key = .pointer (some ⟨A2.bx s key, 0, none⟩) := by unfold Book.px; rw [hx2]; rfl
      rw [hpx, hbx, st.bm] at hl
      obtain ⟨x0, x1, x2⟩ := r3.cel ht2 hx2
      rw [hbx] at x1
      exact ⟨hl, x1⟩
  have HF : Hid (∀ w', Calls Tryz.prog 121 #[] w' fun e w1 => e = .returned (.int .u64 ((ever : Nat) : Int)) ∧ w1 = w') := fun w' => flip (Word.forever_any w')
  have HTU : Hid (∀ A2 w2, Rep A2 σ2 w2 → Stay A A2 s → ∀ w3 av m cap, Below w2.heap.size w2 w3 → w3.ownsRow w2.heap.size 213 3 (.slice av m cap) m (trnCs (t.keys.flatMap (aTurn t))) → Calls Tryz.prog 122 #[.pointer (some ⟨A.be, 0, none⟩), .pointer (some ⟨A.bt s, 0, none⟩), .pointer (some ⟨A.bc s, 0, none⟩), .slice av m cap, .agg #[.int .i64 (er : Int), .int .i64 0, .slice none 0 0, .int .i64 4, .int .i64 (reason : Int)]] w3 (Tells A2 w3 s (σ2, .turns (t.keys.flatMap (aTurn t)) { e := er, over := 4, reason := reason }))) := by
    intro A2 w2 q st w3 av m cap hb ho
    have h := turns_at (q.below hb) s (t.keys.flatMap (aTurn t)) (.slice av m cap) (frow_of_own ho q.mem.fresh) { e := er, over := 4, reason := reason } er 0 4 reason (.slice none 0 0) rfl (.inr ⟨rfl, rfl⟩)
    rw [st.be, st.bt, st.bc] at h
    exact h
  have HS : Hid (∀ (l : Nat), VL σ l → ∀ w, Calls Tryz.prog 62 #[.int .u64 (l : Int), .int .i64 1] w fun e w' => e = .returned (.int .i64 ((wslot l 1 : Nat) : Int)) ∧ w' = w) := fun l hv w' => flip (slot_at l 1 1 rfl hv.lo (by have := hv.hi; have := hR.sl; omega) hv.u (by omega) w')
  have HKK := Lib.hid (And.intro hK hkl)
  clear hR ht hm hen hid hi1 hkl hK htl hcnt B0 B1 B2 B3 B4 hrun hσ2 ht2 hk2 hc2 hen2
  go_enter Tryz.func118, Tryz.ntmps118
  go_wp2_with fail
  refine wp_region_still_tail 15 (by kernel_rfl) (by kernel_rfl) ?_
  simp only [List.take_succ_cons, List.take_zero, List.drop_succ_cons, List.drop_zero]
  repeat still_step
  still_call HP.out
  repeat still_step
  still_call HA.out
  refine wpStill_nil ?_
  change wpList _ _ _ _ _ w.drew
  generalize w.drew = wd at *
  go_wp2_with (go_at_call 77; refine HL.out.mono ?_; rintro e w1 ⟨rfl, q1, q2⟩; have g1 := HG.out.trans q2; obtain ⟨hf, d0, d1, d2, d3⟩ := HB1.out w1 q1 g1; have HQ := Lib.hid (And.intro hf (g1.trans (Grow.drew _ _))); clear q1 q2 g1 hf)
  refine wp_region_still_tail 9 (by kernel_rfl) (by kernel_rfl) ?_
  simp only [List.take_succ_cons, List.take_zero, List.drop_succ_cons, List.drop_zero]
  repeat still_step
  refine wpStill_nil ?_
  change wpList _ _ _ _ _ w1.drew
  generalize w1.drew = wd1 at *
  go_wp2_with (first | (go_at_call 119; refine HQ.out.1.mono ?_; rintro e w2 ⟨rfl, A2, q1, q2, q3, q4, q5⟩; obtain ⟨y0, y1, y2, y3, y4, y7, y6, ⟨kv, kc, hkv⟩, _, _, _, _⟩ := HB2.out A2 w2 q1 (HQ.out.2.trans q2) q3 q4 w2 (Below.refl _ _); rw [hkv] at y6; have H2 := Lib.hid (And.intro q1 (And.intro (HQ.out.2.trans q2) (And.intro q3 (And.intro q4 hkv)))); clear q1 q2 q3 q4 q5 hkv))
  go_loopw [6, 41] (fun l i wr => ∃ k : Nat, k ≤ t.keys.length ∧ i = .int .i64 (k : Int) ∧ Below w2.heap.size w2 wr ∧ ∃ av cap, l = .slice av ((t.keys.take k).flatMap (aTurn t)).length cap ∧ wr.ownsRow w2.heap.size 213 3 l ((t.keys.take k).flatMap (aTurn t)).length (trnCs ((t.keys.take k).flatMap (aTurn t)))) (fun _ i _ => t.keys.length - (intOf i).toNat)
  case atStart =>
    exact ⟨0, Nat.zero_le _, rfl, Below.refl _ _, none, 0, rfl, rfl, .inl ⟨rfl, rfl⟩⟩
  case round =>
    obtain ⟨k, hk, rfl, hb, av, cap, rfl, hown⟩ := hrel
    have hm0 := flat_length (aTurn t) (aTurn_length t) (t.keys.take k)
    by_cases hlt : k < t.keys.length
    · obtain ⟨x0, x1, x2, x3, x4, x7, x6, _, hget, hform, hcel, hmi⟩ := HB2.out A2 w2 H2.out.1 H2.out.2.1 H2.out.2.2.1 H2.out.2.2.2.1 wr hb
      obtain ⟨g, cap', hv⟩ := hform k hlt
      obtain ⟨rfl, rfl⟩ : kv = some ⟨g, 0, none⟩ ∧ kc = cap' := by have := H2.out.2.2.2.2.symm.trans hv; simpa using this
      have hke := hget k hlt g kc hv
      obtain ⟨x, hx, ho1, ho2⟩ := HKK.out.1 (t.keys.getD k 0) (by simp [List.getD, hlt])
      obtain ⟨hlk, ce1⟩ := hcel _ x hx
      have hfs := flat_snoc (aTurn t) t.keys k hlt
      have hcT : aTurn t (t.keys.getD k 0) = (if x.old ≠ 0 then [⟨wslot x.old 1, mine t, ever⟩] else []) := by unfold aTurn; rw [hx]; rfl
      rw [hcT] at hfs
      have hlen : (t.keys.take k).length ≤ 1000000 := by have := HKK.out.2; simp; omega
      have HM := Lib.hid hmi
      have HO := Lib.hid (And.intro ho2 (And.intro hlt hfs))
      have nb1 : (k : Int) < (t.keys.length : Int) := by omega
      have n1 : IntKind.i64.wrap ((k : Int) + 1) = (k : Int) + 1 := by rw [IntKind.wrap_i64]; have := HKK.out.2; omega
      clear x0 x2 x3 x4 y0 y1 y2 y3 y4 y7 y6 hget hform hcel hv ho1 ho2 hcT hx hmi
      generalize t.keys.getD k 0 = key at *
      generalize hxs : trnCs ((t.keys.take k).flatMap (aTurn t)) = xs at *
      have HXS := Lib.hid hxs
      clear hxs
      generalize hmm : ((t.keys.take k).flatMap (aTurn t)).length = m at *
      have HMM := Lib.hid hmm
      clear hmm hfs
      have hm1 : m < 3000001 := by omega
      clear hm0 hlen hk
      generalize A.bx s key = bx at *
      generalize mine t = mt at *
      by_cases hl : x.old ≠ 0
      · have hl' : x.old ≠ 0 := hl
        have e1 : ((x.old : Int) == 0) = false := by first | (simp; done) | (simp; omega)
        have e2 : ((x.old : Int) = 0) = False := by first | (simp; done) | (simp; omega)
        have e3 : (x.old = 0) = False := by first | (simp; done) | (simp; omega)
        have e4 : (x.old == 0) = false := by first | (simp; done) | (simp; omega)
        have e5 : ((x.old : Int) != 0) = true := by first | (simp; done) | (simp; omega)
        have HS1 := Lib.hid (fun w' => HS.out x.old (HO.out.1.resolve_left hl) w')
        have hfs := HO.out.2.2
        simp only [if_pos hl] at hfs
        have HFS := Lib.hid hfs
        have HOW := Lib.hid (And.intro hown hb)
        clear hfs hl hl' hown hb
        generalize wslot x.old 1 = ws1 at *
        go_wp2_with fail
        go_region_law (first | (refine wp_turn2 wr _ _ _ rfl w2 HOW.out.2 av m cap xs rfl HOW.out.1 (by omega) (ws1 : Int) (mt : Int) ((ever : Nat) : Int) rfl rfl ?_; intro avl capl wl ql pl; have HQL := Lib.hid (And.intro ql pl); clear ql pl) | (go_simp; go_at_call 62; refine (HS1.out _).mono ?_; rintro e w' ⟨rfl, rfl⟩) | (go_simp; go_at_call 120; refine HM.out.mono ?_; rintro e w' ⟨rfl, rfl⟩) | (go_simp; go_at_call 121; refine (HF.out _).mono ?_; rintro e w' ⟨rfl, rfl⟩))
        all_goals
          go_wp2_with fail
          go_roundw
          case rel =>
            refine ⟨k + 1, by have := HO.out.2.1; omega, rfl, HQL.out.2, avl, capl, ?_, ?_⟩
            · rw [HFS.out, List.length_append, HMM.out]; rfl
            · rw [HFS.out, List.length_append, HMM.out, trnCs_append, HXS.out]; exact HQL.out.1
          case measure => have := HO.out.2.1; simp [intOf]; omega
      · have ho0 : x.old = 0 := by omega
        have e1 : ((x.old : Int) == 0) = true := by first | (simp; done) | (simp; omega)
        have e2 : ((x.old : Int) = 0) = True := by first | (simp; done) | (simp; omega)
        have e3 : (x.old = 0) = True := by first | (simp; done) | (simp; omega)
        have e4 : (x.old == 0) = true := by first | (simp; done) | (simp; omega)
        have e5 : ((x.old : Int) != 0) = false := by first | (simp; done) | (simp; omega)
        have hfs := HO.out.2.2
        simp only [if_neg hl, List.append_nil] at hfs
        have HFS := Lib.hid hfs
        clear hfs hl ho0
        go_wp2_with fail
        go_roundw
        case rel => exact ⟨k + 1, by have := HO.out.2.1; omega, rfl, hb, av, cap, by rw [HFS.out, HMM.out], by rw [HFS.out, HMM.out, HXS.out]; exact hown⟩
        case measure => have := HO.out.2.1; simp [intOf]; omega
    · obtain rfl : k = t.keys.length := by omega
      rw [List.take_length] at hown ⊢
      obtain ⟨x0, x1, x2, x3, x4, x7, x6, _⟩ := HB2.out A2 w2 H2.out.1 H2.out.2.1 H2.out.2.2.1 H2.out.2.2.2.1 wr hb
      have HE := Lib.hid (And.intro (HTU.out A2 w2 H2.out.1 H2.out.2.2.1 wr av _ cap hb hown) (Grow.below (L := A2.L) hb))
      clear hown hb hlt hk hm0
      generalize (t.keys.flatMap (aTurn t)).length = m at *
      go_wp2_with (go_at_call 122; refine HE.out.1.mono ?_; rintro e w4 ⟨A3, v, rfl, p1, p2, p3, p4⟩)
      go_ret
      exact ⟨A3, v, rfl, p1, (H2.out.2.1.trans HE.out.2).trans p2, H2.out.2.2.1.trans p3, p4⟩
end Go.Proofs.YtbefcdjcefmicaaGreat.Em
