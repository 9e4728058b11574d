/- Texts of this claim, laid together: Se, Ge, Tl. -/
import Derived.Test.YtbefcdjcefmicaaGreatBase11
import Derived.Test.YtbefcdjcefmicaaGreatBase7
import Derived.Test.YtbefcdjcefmicaaGreatBase12
import Derived.Test.YtbefcdjcefmicaaGreatBase10
namespace Go.Proofs.YtbefcdjcefmicaaGreat.Em
open Go.ChangeShapes Go.WideShapes Go.ChangeAt Go.RowKit En
set_option linter.unusedVariables false
set_option linter.unusedSimpArgs false
set_option maxRecDepth 100000
set_option maxHeartbeats 1600000

theorem seen_any {A : Book} {σ : St} {w : World} (hR : Rep A σ w) (s : Nat) (hmp : A.mp = 0) (bh : Nat) (hu : Hunt) (hh : HuntAt (kp A σ s) A.L w bh hu) (link mb : Nat) (HT : mb = 0 → ThnTo σ s hu link) :
    Calls Tryz.prog 210 #[.pointer (some ⟨bh, 0, none⟩), .int .u64 (link : Int), .int .i64 (mb : Int)] w (Tells A w s (σ.seen s hu link mb)) := by
  obtain ⟨r1, g1, f0, f1, f2⟩ := allocs3 hR #[.pointer (some ⟨bh, 0, none⟩)] 233 #[.int .u64 (link : Int)] 24 #[.int .i64 (mb : Int)] 3
  have c0 := f0.cell 0 (v := .pointer (some ⟨bh, 0, none⟩)) rfl
  have c1 := f1.cell 0 (v := .int .u64 (link : Int)) rfl
  have c2 := f2.cell 0 (v := .int .i64 (mb : Int)) rfl
  have hh1 := hh.grow g1
  by_cases h0 : mb = 0
  · have e0 : σ.seen s hu link mb = σ.thn s hu link := by unfold St.seen; rw [if_pos h0]
    rw [e0]
    obtain ⟨vt, TT, fh, hth⟩ := hh1
    obtain ⟨fv, cv, rfl, hent⟩ := hth.enter
    have fa1 : ((mb : Int) == 0) = true := by first | (simp; done) | (simp; omega)
    have fa2 : ((mb : Int) = 0) = True := by first | (simp; done) | (simp; omega)
    have fa3 : (mb = 0) = True := by first | (simp; done) | (simp; omega)
    have fa4 : (mb == 0) = true := by first | (simp; done) | (simp; omega)
    have fa5 : ((mb : Int) != 0) = false := by first | (simp; done) | (simp; omega)
    have h4 := fh.cell 4 (v := .func (.func fv) #[] cv) rfl
    have gd := Grow.drew A.L (((w.alloc (.cells #[.pointer (some ⟨bh, 0, none⟩)] 233)).alloc (.cells #[.int .u64 (link : Int)] 24)).alloc (.cells #[.int .i64 (mb : Int)] 3))
    have hf := HT h0 A _ r1.drew hmp _ fv cv r1.drew (Grow.refl _ _) (hth.grow gd)
    have HF := Lib.hid (And.intro hf (g1.trans gd))
    clear hR hh r1 g1 f0 f1 f2 fh hth hf HT h0 e0 gd hmp
    go_enter Tryz.func210, Tryz.ntmps210
    go_wp2_with fail
    generalize (((w.alloc _).alloc _).alloc _) = w3 at *
    refine wp_region_still_tail 5 (by kernel_rfl) (by kernel_rfl) ?_
    simp only [List.take_succ_cons, List.take_zero, List.drop_succ_cons, List.drop_zero]
    repeat still_step
    refine wpStill_nil ?_
    change wpList _ _ _ _ _ w3.drew
    generalize w3.drew = wd at *
    go_wp2_with fail
    refine HF.out.1.mono ?_
    rintro e w4 ⟨A', v, rfl, q1, q2, q3, q4⟩
    go_wp2_with fail
    go_ret
    exact ⟨A', v, rfl, q1, HF.out.2.trans q2, q3, q4⟩
  · have e0 : σ.seen s hu link mb = (σ, .seen hu link mb) := by unfold St.seen; rw [if_neg h0]
    rw [e0]
    have fa1 : ((mb : Int) == 0) = false := by first | (simp; done) | (simp; omega)
    have fa2 : ((mb : Int) = 0) = False := by first | (simp; done) | (simp; omega)
    have fa3 : (mb = 0) = False := by first | (simp; done) | (simp; omega)
    have fa4 : (mb == 0) = false := by first | (simp; done) | (simp; omega)
    have fa5 : ((mb : Int) != 0) = true := by first | (simp; done) | (simp; omega)
    have HQ := Lib.hid (And.intro r1 (And.intro g1 (And.intro f0 (And.intro f1 (And.intro f2 hh1)))))
    clear hR hh r1 g1 f0 f1 f2 hh1 HT h0 e0 hmp
    go_enter Tryz.func210, Tryz.ntmps210
    go_wp2_with fail
    go_ret
    obtain ⟨r1, g1, f0, f1, f2, hh1⟩ := HQ.out
    exact ⟨A, _, rfl, r1, g1, Stay.refl _ _, _, _, _, rfl, ⟨_, f0.box, hh1⟩, f2.box, f1.box⟩
theorem k_ender {A : Book} {σ : St} {w : World} (hR : Rep A σ w) (s : Nat) (hmp : A.mp = 0) (t : Txn) (ht : σ.txns.getD s none = some t) (hu : Hunt) (link mb id b0 b1 b2 b3 : Nat) (B0 : HuntBox (kp A σ s) A.L w b0 hu) (B1 : Box A.L w b1 (.int .i64 (id : Int))) (B2 : Box A.L w b2 (.int .u64 (link : Int))) (B3 : Box A.L w b3 (.int .i64 (mb : Int))) (hid : id ≤ 65535) (hpl : σ.place id < σ.words.length) (hw : σ.word (σ.place id) < 18446744073709551616) (hbn : t.bonds.length < 1000000) (htl : σ.tale.length < 1000000) (hcnt : σ.count < 4000000000000000000) (HT : mb = 0 → ThnTo σ.tick s hu link) :
    Calls Tryz.prog 226 #[.pointer (some ⟨b0, 0, none⟩), .pointer (some ⟨b1, 0, none⟩), .pointer (some ⟨b2, 0, none⟩), .pointer (some ⟨b3, 0, none⟩)] w (Ran A w s (σ.run s (.ender hu link mb id))) := by
  obtain ⟨bh, X0, hh0⟩ := B0
  obtain ⟨vt, TT, fh, hth⟩ := _root_.id hh0
  have c0 := X0.cell
  have c1 := B1.cell
  have h0 : w.cell? ⟨bh, 0, none⟩ = some (.pointer (some ⟨A.be, 0, none⟩)) := fh.cell 0 rfl
  have e2 : w.cell? ⟨A.be, 2, none⟩ = some (.pointer (some ⟨A.ba, 0, none⟩)) := hR.eng 2 rfl
  have HK : Hid (∀ w', Kp A w w' → w'.cell? ⟨b0, 0, none⟩ = some (.pointer (some ⟨bh, 0, none⟩)) ∧ w'.cell? ⟨b1, 0, none⟩ = some (.int .i64 (id : Int)) ∧ w'.cell? ⟨bh, 0, none⟩ = some (.pointer (some ⟨A.be, 0, none⟩)) ∧ w'.cell? ⟨A.be, 2, none⟩ = some (.pointer (some ⟨A.ba, 0, none⟩))) := by
    obtain ⟨_, x0⟩ := X0
    obtain ⟨_, x1⟩ := B1
    exact fun w' k => ⟨k.fix _ _ _ x0.1 c0, k.fix _ _ _ x1.1 c1, k.fix _ _ _ fh.1 h0, k.ea⟩
  have HP := Lib.hid (place_still hR.drew id hid)
  have HL := Lib.hid (load_any hR.drew (σ.place id) hpl hcnt)
  have HU := Lib.hid (fun w' => unpack_any (σ.word (σ.place id)) hw w')
  have HG : Hid (Grow A.L w A.L w.drew) := Grow.drew _ _
  have HB : Hid (∀ w1, Rep A σ.tick w1 → Grow A.L w A.L w1 → w1.cell? ⟨b0, 0, none⟩ = some (.pointer (some ⟨bh, 0, none⟩)) ∧ w1.cell? ⟨b1, 0, none⟩ = some (.int .i64 (id : Int)) ∧ w1.cell? ⟨b2, 0, none⟩ = some (.int .u64 (link : Int)) ∧ w1.cell? ⟨b3, 0, none⟩ = some (.int .i64 (mb : Int)) ∧ w1.cell? ⟨bh, 0, none⟩ = some (.pointer (some ⟨A.be, 0, none⟩)) ∧ w1.cell? ⟨bh, 1, none⟩ = some (.pointer (some ⟨A.bt s, 0, none⟩)) ∧ w1.cell? ⟨bh, 3, none⟩ = some (.int .u64 (hu.at_ : Int))) := by
    intro w1 q g
    exact ⟨(X0.grow g).cell, (B1.grow g).cell, (B2.grow g).cell, (B3.grow g).cell, (fh.grow g).cell 0 rfl, (fh.grow g).cell 1 rfl, (fh.grow g).cell 3 rfl⟩
  have HHU : Hid (∀ A' σ' w1, Grow A.L w A'.L w1 → kp A' σ' s = kp A σ s → HuntAt (kp A' σ' s) A'.L w1 bh hu) := fun A' σ' w1 g e => by rw [e]; exact hh0.grow g
  have HBI : Hid (∀ w1, Rep A σ.tick w1 → Calls Tryz.prog 225 #[.pointer (some ⟨A.be, 0, none⟩), .pointer (some ⟨A.bt s, 0, none⟩), .int .i64 (id : Int)] w1.drew (Does A w1.drew s (σ.tick.bind s id) (.tuple #[]))) := fun w1 q => bind_any q.drew s t ht id hid hbn htl
  have hbc : (σ.tick.bind s id).calls = σ.calls := by unfold St.bind; split <;> rfl
  have hcc : ((σ.tick.bind s id).c s) = σ.c s := by unfold St.c; rw [hbc]
  have HCC := Lib.hid hcc
  have HCE : Hid (∀ (A' : Book) w1, Grow A.L w A'.L w1 → w1.cell? ⟨b0, 0, none⟩ = some (.pointer (some ⟨bh, 0, none⟩)) ∧ w1.cell? ⟨b2, 0, none⟩ = some (.int .u64 (link : Int)) ∧ w1.cell? ⟨bh, 4, none⟩ = some vt) := fun A' w1 g => ⟨(X0.grow g).cell, (B2.grow g).cell, (fh.grow g).cell 4 rfl⟩
  have hrun : σ.run s (.ender hu link mb id) = if endOf (σ.word (σ.place id)) = 0 ∨ hu.at_ < endOf (σ.word (σ.place id)) ∨ stateOf (σ.word (σ.place id)) = 4 then ((σ.tick.seen s hu link mb).1, some (σ.tick.seen s hu link mb).2) else if stateOf (σ.word (σ.place id)) = 2 then (σ.tick.bind s id, some (.older hu link)) else (σ.tick, some (.older hu link)) := by
    simp only [St.run]
  rw [hrun]
  have HSeen : Hid (∀ w1, Rep A σ.tick w1 → Grow A.L w A.L w1 → Calls Tryz.prog 210 #[.pointer (some ⟨bh, 0, none⟩), .int .u64 (link : Int), .int .i64 (mb : Int)] w1 (Tells A w1 s (σ.tick.seen s hu link mb))) := fun w1 q g => seen_any q s hmp bh hu (show HuntAt (kp A σ.tick s) A.L w1 bh hu from hh0.grow g) link mb HT
  have HOld : Hid (∀ A' σ' w1, Rep A' σ' w1 → HuntAt (kp A' σ' s) A'.L w1 bh hu → Calls Tryz.prog 198 #[.pointer (some ⟨bh, 0, none⟩), .int .u64 (link : Int)] w1 (Tells A' w1 s (σ', .older hu link))) := fun A' σ' w1 q hk => older_any q s bh hu hk link
  clear hR hid hpl hw hcnt X0 B1 B2 B3 fh hth hh0 hrun hmp HT hbn htl hbc hcc ht
  generalize σ.word (σ.place id) = x at *
  generalize hst : stateOf x = st at *
  generalize hen : endOf x = en at *
  generalize hu.at_ = ha at *
  clear hst hen
  by_cases h0e : en = 0
  · rw [if_pos (Or.inl h0e)]
    have fa1 : ((en : Int) == 0) = true := by first | (simp; done) | (simp; omega)
    have fa2 : ((en : Int) = 0) = True := by first | (simp; done) | (simp; omega)
    have fa3 : (en = 0) = True := by first | (simp; done) | (simp; omega)
    have fa4 : (en == 0) = true := by first | (simp; done) | (simp; omega)
    have fa5 : ((en : Int) != 0) = false := by first | (simp; done) | (simp; omega)
    clear h0e
    go_enter Tryz.func226, Tryz.ntmps226
    go_wp2_with fail
    go_region_held3 (fun w' => w'.cell? ⟨b0, 0, none⟩ = some (.pointer (some ⟨bh, 0, none⟩)) ∧ w'.cell? ⟨b1, 0, none⟩ = some (.int .i64 (id : Int)) ∧ w'.cell? ⟨bh, 0, none⟩ = some (.pointer (some ⟨A.be, 0, none⟩)) ∧ w'.cell? ⟨A.be, 2, none⟩ = some (.pointer (some ⟨A.ba, 0, none⟩)))
      (first | exact ⟨c0, c1, h0, e2⟩ | assumption | exact HK.out _ (Kp.of (by assumption) (by assumption) (by assumption)))
      (first | (go_at_call 78; refine HP.out.mono ?_; rintro e w' ⟨rfl, rfl⟩) | (go_at_call 73; refine HL.out.mono ?_; rintro e w1 ⟨rfl, q1, q2⟩; have q4 := HG.out.trans q2; have q3 := Stay.refl A s; clear q2) | (go_at_call 94; refine (HU.out _).mono ?_; rintro e w' ⟨rfl, rfl⟩))
    have HQ := Lib.hid (And.intro (‹Rep A σ.tick _›) (‹Grow A.L w A.L _›))
    obtain ⟨d0, d1, d2, d3, d4, d5, d6⟩ := HB.out _ HQ.out.1 HQ.out.2
    go_wp2_with (go_at_call 210; refine (HSeen.out _ HQ.out.1 HQ.out.2).mono ?_; rintro e w2 ⟨A2, v, rfl, p1, p2, p3, p4⟩)
    go_ret
    exact ⟨A2, v, rfl, p1, HQ.out.2.trans p2, p3, p4⟩
  · have fa1 : ((en : Int) == 0) = false := by first | (simp; done) | (simp; omega)
    have fa2 : ((en : Int) = 0) = False := by first | (simp; done) | (simp; omega)
    have fa3 : (en = 0) = False := by first | (simp; done) | (simp; omega)
    have fa4 : (en == 0) = false := by first | (simp; done) | (simp; omega)
    have fa5 : ((en : Int) != 0) = true := by first | (simp; done) | (simp; omega)
    by_cases hlt : ha < en
    · rw [if_pos (Or.inr (Or.inl hlt))]
      have fb1 : decide ((ha : Int) < (en : Int)) = true := by first | (simp; done) | (simp; omega)
      have fb2 : ((ha : Int) < (en : Int)) = True := by first | (simp; done) | (simp; omega)
      have fb3 : (ha < en) = True := by first | (simp; done) | (simp; omega)
      have fb4 : decide (ha < en) = true := by first | (simp; done) | (simp; omega)
      clear h0e hlt
      go_enter Tryz.func226, Tryz.ntmps226
      go_wp2_with fail
      go_region_held3 (fun w' => w'.cell? ⟨b0, 0, none⟩ = some (.pointer (some ⟨bh, 0, none⟩)) ∧ w'.cell? ⟨b1, 0, none⟩ = some (.int .i64 (id : Int)) ∧ w'.cell? ⟨bh, 0, none⟩ = some (.pointer (some ⟨A.be, 0, none⟩)) ∧ w'.cell? ⟨A.be, 2, none⟩ = some (.pointer (some ⟨A.ba, 0, none⟩)))
        (first | exact ⟨c0, c1, h0, e2⟩ | assumption | exact HK.out _ (Kp.of (by assumption) (by assumption) (by assumption)))
        (first | (go_at_call 78; refine HP.out.mono ?_; rintro e w' ⟨rfl, rfl⟩) | (go_at_call 73; refine HL.out.mono ?_; rintro e w1 ⟨rfl, q1, q2⟩; have q4 := HG.out.trans q2; have q3 := Stay.refl A s; clear q2) | (go_at_call 94; refine (HU.out _).mono ?_; rintro e w' ⟨rfl, rfl⟩))
      have HQ := Lib.hid (And.intro (‹Rep A σ.tick _›) (‹Grow A.L w A.L _›))
      obtain ⟨d0, d1, d2, d3, d4, d5, d6⟩ := HB.out _ HQ.out.1 HQ.out.2
      go_wp2_with (go_at_call 210; refine (HSeen.out _ HQ.out.1 HQ.out.2).mono ?_; rintro e w2 ⟨A2, v, rfl, p1, p2, p3, p4⟩)
      go_ret
      exact ⟨A2, v, rfl, p1, HQ.out.2.trans p2, p3, p4⟩
    · have fb1 : decide ((ha : Int) < (en : Int)) = false := by first | (simp; done) | (simp; omega)
      have fb2 : ((ha : Int) < (en : Int)) = False := by first | (simp; done) | (simp; omega)
      have fb3 : (ha < en) = False := by first | (simp; done) | (simp; omega)
      have fb4 : decide (ha < en) = false := by first | (simp; done) | (simp; omega)
      by_cases h4 : st = 4
      · rw [if_pos (Or.inr (Or.inr h4))]
        have fc1 : ((st : Int) == 4) = true := by first | (simp; done) | (simp; omega)
        have fc2 : ((st : Int) = 4) = True := by first | (simp; done) | (simp; omega)
        have fc3 : (st = 4) = True := by first | (simp; done) | (simp; omega)
        have fc4 : (st == 4) = true := by first | (simp; done) | (simp; omega)
        have fc5 : ((st : Int) != 4) = false := by first | (simp; done) | (simp; omega)
        clear h0e hlt h4
        go_enter Tryz.func226, Tryz.ntmps226
        go_wp2_with fail
        go_region_held3 (fun w' => w'.cell? ⟨b0, 0, none⟩ = some (.pointer (some ⟨bh, 0, none⟩)) ∧ w'.cell? ⟨b1, 0, none⟩ = some (.int .i64 (id : Int)) ∧ w'.cell? ⟨bh, 0, none⟩ = some (.pointer (some ⟨A.be, 0, none⟩)) ∧ w'.cell? ⟨A.be, 2, none⟩ = some (.pointer (some ⟨A.ba, 0, none⟩)))
          (first | exact ⟨c0, c1, h0, e2⟩ | assumption | exact HK.out _ (Kp.of (by assumption) (by assumption) (by assumption)))
          (first | (go_at_call 78; refine HP.out.mono ?_; rintro e w' ⟨rfl, rfl⟩) | (go_at_call 73; refine HL.out.mono ?_; rintro e w1 ⟨rfl, q1, q2⟩; have q4 := HG.out.trans q2; have q3 := Stay.refl A s; clear q2) | (go_at_call 94; refine (HU.out _).mono ?_; rintro e w' ⟨rfl, rfl⟩))
        have HQ := Lib.hid (And.intro (‹Rep A σ.tick _›) (‹Grow A.L w A.L _›))
        obtain ⟨d0, d1, d2, d3, d4, d5, d6⟩ := HB.out _ HQ.out.1 HQ.out.2
        go_wp2_with (go_at_call 210; refine (HSeen.out _ HQ.out.1 HQ.out.2).mono ?_; rintro e w2 ⟨A2, v, rfl, p1, p2, p3, p4⟩)
        go_ret
        exact ⟨A2, v, rfl, p1, HQ.out.2.trans p2, p3, p4⟩
      · rw [if_neg (by omega)]
        have fc1 : ((st : Int) == 4) = false := by first | (simp; done) | (simp; omega)
        have fc2 : ((st : Int) = 4) = False := by first | (simp; done) | (simp; omega)
        have fc3 : (st = 4) = False := by first | (simp; done) | (simp; omega)
        have fc4 : (st == 4) = false := by first | (simp; done) | (simp; omega)
        have fc5 : ((st : Int) != 4) = true := by first | (simp; done) | (simp; omega)
        by_cases h2 : st = 2
        · rw [if_pos h2]
          have fd1 : ((st : Int) == 2) = true := by first | (simp; done) | (simp; omega)
          have fd2 : ((st : Int) = 2) = True := by first | (simp; done) | (simp; omega)
          have fd3 : (st = 2) = True := by first | (simp; done) | (simp; omega)
          have fd4 : (st == 2) = true := by first | (simp; done) | (simp; omega)
          have fd5 : ((st : Int) != 2) = false := by first | (simp; done) | (simp; omega)
          clear h0e hlt h4 h2
          go_enter Tryz.func226, Tryz.ntmps226
          go_wp2_with fail
          go_region_held3 (fun w' => w'.cell? ⟨b0, 0, none⟩ = some (.pointer (some ⟨bh, 0, none⟩)) ∧ w'.cell? ⟨b1, 0, none⟩ = some (.int .i64 (id : Int)) ∧ w'.cell? ⟨bh, 0, none⟩ = some (.pointer (some ⟨A.be, 0, none⟩)) ∧ w'.cell? ⟨A.be, 2, none⟩ = some (.pointer (some ⟨A.ba, 0, none⟩)))
            (first | exact ⟨c0, c1, h0, e2⟩ | assumption | exact HK.out _ (Kp.of (by assumption) (by assumption) (by assumption)))
            (first | (go_at_call 78; refine HP.out.mono ?_; rintro e w' ⟨rfl, rfl⟩) | (go_at_call 73; refine HL.out.mono ?_; rintro e w1 ⟨rfl, q1, q2⟩; have q4 := HG.out.trans q2; have q3 := Stay.refl A s; clear q2) | (go_at_call 94; refine (HU.out _).mono ?_; rintro e w' ⟨rfl, rfl⟩))
          have HQ := Lib.hid (And.intro (‹Rep A σ.tick _›) (‹Grow A.L w A.L _›))
          obtain ⟨d0, d1, d2, d3, d4, d5, d6⟩ := HB.out _ HQ.out.1 HQ.out.2
          go_wp2_with fail
          refine wp_region_still_tail 9 (by kernel_rfl) (by kernel_rfl) ?_
          simp only [List.take_succ_cons, List.take_zero, List.drop_succ_cons, List.drop_zero]
          repeat still_step
          refine wpStill_nil ?_
          change wpList _ _ _ _ _ w1.drew
          have HGD := Lib.hid (HQ.out.2.trans (Grow.drew A.L w1))
          have HBI1 := Lib.hid (HBI.out w1 HQ.out.1)
          generalize w1.drew = wd at *
          go_wp2_with (first | (go_at_call 225; refine HBI1.out.mono ?_; rintro e w2 ⟨rfl, A2, p1, p2, p3, p4, p5⟩; have gg := HGD.out.trans p2; have ek : kp A2 (σ.tick.bind s id) s = kp A σ s := kp_same p3 p4 p5 (by rw [HCC.out]) (by rw [HCC.out]); have HO2 := Lib.hid (HOld.out A2 _ w2 p1 (HHU.out A2 _ w2 gg ek)); obtain ⟨d0, d2, d4⟩ := HCE.out A2 w2 gg; have HQ2 := Lib.hid (And.intro gg p3); clear p1 p2 p3 p4 p5 gg ek) | (go_at_call 198; refine HO2.out.mono ?_; rintro e w3 ⟨A3, v, rfl, p1, p2, p3, p4⟩))
          go_ret
          exact ⟨A3, v, rfl, p1, HQ2.out.1.trans p2, HQ2.out.2.trans p3, p4⟩
        · rw [if_neg h2]
          have fd1 : ((st : Int) == 2) = false := by first | (simp; done) | (simp; omega)
          have fd2 : ((st : Int) = 2) = False := by first | (simp; done) | (simp; omega)
          have fd3 : (st = 2) = False := by first | (simp; done) | (simp; omega)
          have fd4 : (st == 2) = false := by first | (simp; done) | (simp; omega)
          have fd5 : ((st : Int) != 2) = true := by first | (simp; done) | (simp; omega)
          clear h0e hlt h4 h2
          go_enter Tryz.func226, Tryz.ntmps226
          go_wp2_with fail
          go_region_held3 (fun w' => w'.cell? ⟨b0, 0, none⟩ = some (.pointer (some ⟨bh, 0, none⟩)) ∧ w'.cell? ⟨b1, 0, none⟩ = some (.int .i64 (id : Int)) ∧ w'.cell? ⟨bh, 0, none⟩ = some (.pointer (some ⟨A.be, 0, none⟩)) ∧ w'.cell? ⟨A.be, 2, none⟩ = some (.pointer (some ⟨A.ba, 0, none⟩)))
            (first | exact ⟨c0, c1, h0, e2⟩ | assumption | exact HK.out _ (Kp.of (by assumption) (by assumption) (by assumption)))
            (first | (go_at_call 78; refine HP.out.mono ?_; rintro e w' ⟨rfl, rfl⟩) | (go_at_call 73; refine HL.out.mono ?_; rintro e w1 ⟨rfl, q1, q2⟩; have q4 := HG.out.trans q2; have q3 := Stay.refl A s; clear q2) | (go_at_call 94; refine (HU.out _).mono ?_; rintro e w' ⟨rfl, rfl⟩))
          have HQ := Lib.hid (And.intro (‹Rep A σ.tick _›) (‹Grow A.L w A.L _›))
          obtain ⟨d0, d1, d2, d3, d4, d5, d6⟩ := HB.out _ HQ.out.1 HQ.out.2
          go_wp2_with (go_at_call 198; refine (HOld.out A σ.tick _ HQ.out.1 (HHU.out A σ.tick _ HQ.out.2 rfl)).mono ?_; rintro e w2 ⟨A2, v, rfl, p1, p2, p3, p4⟩)
          go_ret
          exact ⟨A2, v, rfl, p1, HQ.out.2.trans p2, p3, p4⟩
theorem k_seen {A : Book} {σ : St} {w : World} (hR : Rep A σ w) (s : Nat) (hmp : A.mp = 0) (t : Txn) (ht : σ.txns.getD s none = some t) (hu : Hunt) (link mb b0 b1 b2 : Nat) (B0 : HuntBox (kp A σ s) A.L w b0 hu) (B1 : Box A.L w b1 (.int .i64 (mb : Int))) (B2 : Box A.L w b2 (.int .u64 (link : Int))) (hid : mb ≤ 65535) (hpl : σ.place mb < σ.words.length) (hw : σ.word (σ.place mb) < 18446744073709551616) (hbn : t.bonds.length < 1000000) (htl : σ.tale.length < 1000000) (hcnt : σ.count < 4000000000000000000) (HT : ThnTo (if stateOf (σ.word (σ.place mb)) = 2 then σ.tick.bind s mb else σ.tick) s hu link) (hmpb : ∀ A', Rep A' (σ.tick.bind s mb) w → True) :
    Calls Tryz.prog 224 #[.pointer (some ⟨b0, 0, none⟩), .pointer (some ⟨b1, 0, none⟩), .pointer (some ⟨b2, 0, none⟩)] w (Ran A w s (σ.run s (.seen hu link mb))) := by
  obtain ⟨bh, X0, hh0⟩ := B0
  obtain ⟨vt, TT, fh, hth⟩ := _root_.id hh0
  have c0 := X0.cell
  have c1 := B1.cell
  have h0 : w.cell? ⟨bh, 0, none⟩ = some (.pointer (some ⟨A.be, 0, none⟩)) := fh.cell 0 rfl
  have e2 : w.cell? ⟨A.be, 2, none⟩ = some (.pointer (some ⟨A.ba, 0, none⟩)) := hR.eng 2 rfl
  have HK : Hid (∀ w', Kp A w w' → w'.cell? ⟨b0, 0, none⟩ = some (.pointer (some ⟨bh, 0, none⟩)) ∧ w'.cell? ⟨b1, 0, none⟩ = some (.int .i64 (mb : Int)) ∧ w'.cell? ⟨bh, 0, none⟩ = some (.pointer (some ⟨A.be, 0, none⟩)) ∧ w'.cell? ⟨A.be, 2, none⟩ = some (.pointer (some ⟨A.ba, 0, none⟩))) := by
    obtain ⟨_, x0⟩ := X0
    obtain ⟨_, x1⟩ := B1
    exact fun w' k => ⟨k.fix _ _ _ x0.1 c0, k.fix _ _ _ x1.1 c1, k.fix _ _ _ fh.1 h0, k.ea⟩
  have HP := Lib.hid (place_still hR.drew mb hid)
  have HL := Lib.hid (load_any hR.drew (σ.place mb) hpl hcnt)
  have HU := Lib.hid (fun w' => unpack_any (σ.word (σ.place mb)) hw w')
  have HG : Hid (Grow A.L w A.L w.drew) := Grow.drew _ _
  have HB : Hid (∀ w1, Rep A σ.tick w1 → Grow A.L w A.L w1 → w1.cell? ⟨b0, 0, none⟩ = some (.pointer (some ⟨bh, 0, none⟩)) ∧ w1.cell? ⟨b1, 0, none⟩ = some (.int .i64 (mb : Int)) ∧ w1.cell? ⟨b2, 0, none⟩ = some (.int .u64 (link : Int)) ∧ w1.cell? ⟨bh, 0, none⟩ = some (.pointer (some ⟨A.be, 0, none⟩)) ∧ w1.cell? ⟨bh, 1, none⟩ = some (.pointer (some ⟨A.bt s, 0, none⟩)) ∧ w1.cell? ⟨bh, 4, none⟩ = some (vt)) := by
    intro w1 q g
    exact ⟨(X0.grow g).cell, (B1.grow g).cell, (B2.grow g).cell, (fh.grow g).cell 0 rfl, (fh.grow g).cell 1 rfl, (fh.grow g).cell 4 rfl⟩
  have HHU : Hid (∀ A' σ' w1, Grow A.L w A'.L w1 → kp A' σ' s = kp A σ s → HuntAt (kp A' σ' s) A'.L w1 bh hu) := fun A' σ' w1 g e => by rw [e]; exact hh0.grow g
  have HBI : Hid (∀ w1, Rep A σ.tick w1 → Calls Tryz.prog 225 #[.pointer (some ⟨A.be, 0, none⟩), .pointer (some ⟨A.bt s, 0, none⟩), .int .i64 (mb : Int)] w1.drew (Does A w1.drew s (σ.tick.bind s mb) (.tuple #[]))) := fun w1 q => bind_any q.drew s t ht mb hid hbn htl
  have hbc : (σ.tick.bind s mb).calls = σ.calls := by unfold St.bind; split <;> rfl
  have hcc : ((σ.tick.bind s mb).c s) = σ.c s := by unfold St.c; rw [hbc]
  have HCC := Lib.hid hcc
  have HCE : Hid (∀ (A' : Book) w1, Grow A.L w A'.L w1 → w1.cell? ⟨b0, 0, none⟩ = some (.pointer (some ⟨bh, 0, none⟩)) ∧ w1.cell? ⟨b2, 0, none⟩ = some (.int .u64 (link : Int)) ∧ w1.cell? ⟨bh, 4, none⟩ = some vt) := fun A' w1 g => ⟨(X0.grow g).cell, (B2.grow g).cell, (fh.grow g).cell 4 rfl⟩
  have hrun : σ.run s (.seen hu link mb) = if stateOf (σ.word (σ.place mb)) = 4 then (σ.tick, some (.start hu)) else if stateOf (σ.word (σ.place mb)) = 2 then (((σ.tick.bind s mb).thn s hu link).1, some ((σ.tick.bind s mb).thn s hu link).2) else ((σ.tick.thn s hu link).1, some (σ.tick.thn s hu link).2) := by
    simp only [St.run]; split
    · rfl
    · split <;> rfl
  rw [hrun]
  obtain ⟨fv, cv, rfl, hent⟩ := hth.enter
  have HTH : Hid (∀ A' σ' w1, Grow A.L w A'.L w1 → kp A' σ' s = kp A σ s → ThnRep (kp A' σ' s) A'.L w1 (.func (.func fv) #[] cv) hu.key hu.thn) := fun A' σ' w1 g e => by rw [e]; exact hth.grow g
  have HTT := Lib.hid HT
  have HMP := Lib.hid hmp
  clear hR hid hpl hw hcnt X0 B1 B2 fh hth hh0 hrun hmp HT hbn htl hbc hcc ht hmpb
  generalize σ.word (σ.place mb) = x at *
  generalize hst : stateOf x = st at *
  generalize hen : endOf x = en at *
  clear hst hen
  by_cases h4 : st = 4
  · rw [if_pos h4]
    have fc1 : ((st : Int) == 4) = true := by first | (simp; done) | (simp; omega)
    have fc2 : ((st : Int) = 4) = True := by first | (simp; done) | (simp; omega)
    have fc3 : (st = 4) = True := by first | (simp; done) | (simp; omega)
    have fc4 : (st == 4) = true := by first | (simp; done) | (simp; omega)
    have fc5 : ((st : Int) != 4) = false := by first | (simp; done) | (simp; omega)
    clear h4 HTT
    go_enter Tryz.func224, Tryz.ntmps224
    go_wp2_with fail
    go_region_held3 (fun w' => w'.cell? ⟨b0, 0, none⟩ = some (.pointer (some ⟨bh, 0, none⟩)) ∧ w'.cell? ⟨b1, 0, none⟩ = some (.int .i64 (mb : Int)) ∧ w'.cell? ⟨bh, 0, none⟩ = some (.pointer (some ⟨A.be, 0, none⟩)) ∧ w'.cell? ⟨A.be, 2, none⟩ = some (.pointer (some ⟨A.ba, 0, none⟩)))
      (first | exact ⟨c0, c1, h0, e2⟩ | assumption | exact HK.out _ (Kp.of (by assumption) (by assumption) (by assumption)))
      (first | (go_at_call 78; refine HP.out.mono ?_; rintro e w' ⟨rfl, rfl⟩) | (go_at_call 73; refine HL.out.mono ?_; rintro e w1 ⟨rfl, q1, q2⟩; have q4 := HG.out.trans q2; have q3 := Stay.refl A s; clear q2) | (go_at_call 94; refine (HU.out _).mono ?_; rintro e w' ⟨rfl, rfl⟩))
    have HQ := Lib.hid (And.intro (‹Rep A σ.tick _›) (‹Grow A.L w A.L _›))
    obtain ⟨d0, d1, d2, d4, d5, d6⟩ := HB.out _ HQ.out.1 HQ.out.2
    go_wp2_with fail
    go_ret
    exact ⟨A, _, rfl, HQ.out.1, HQ.out.2, Stay.refl _ _, _, rfl, HHU.out A σ.tick _ HQ.out.2 rfl⟩
  · rw [if_neg h4]
    have fc1 : ((st : Int) == 4) = false := by first | (simp; done) | (simp; omega)
    have fc2 : ((st : Int) = 4) = False := by first | (simp; done) | (simp; omega)
    have fc3 : (st = 4) = False := by first | (simp; done) | (simp; omega)
    have fc4 : (st == 4) = false := by first | (simp; done) | (simp; omega)
    have fc5 : ((st : Int) != 4) = true := by first | (simp; done) | (simp; omega)
    by_cases h2 : st = 2
    · rw [if_pos h2]
      rw [if_pos h2] at HTT
      have fd1 : ((st : Int) == 2) = true := by first | (simp; done) | (simp; omega)
      have fd2 : ((st : Int) = 2) = True := by first | (simp; done) | (simp; omega)
      have fd3 : (st = 2) = True := by first | (simp; done) | (simp; omega)
      have fd4 : (st == 2) = true := by first | (simp; done) | (simp; omega)
      have fd5 : ((st : Int) != 2) = false := by first | (simp; done) | (simp; omega)
      clear h4 h2
      go_enter Tryz.func224, Tryz.ntmps224
      go_wp2_with fail
      go_region_held3 (fun w' => w'.cell? ⟨b0, 0, none⟩ = some (.pointer (some ⟨bh, 0, none⟩)) ∧ w'.cell? ⟨b1, 0, none⟩ = some (.int .i64 (mb : Int)) ∧ w'.cell? ⟨bh, 0, none⟩ = some (.pointer (some ⟨A.be, 0, none⟩)) ∧ w'.cell? ⟨A.be, 2, none⟩ = some (.pointer (some ⟨A.ba, 0, none⟩)))
        (first | exact ⟨c0, c1, h0, e2⟩ | assumption | exact HK.out _ (Kp.of (by assumption) (by assumption) (by assumption)))
        (first | (go_at_call 78; refine HP.out.mono ?_; rintro e w' ⟨rfl, rfl⟩) | (go_at_call 73; refine HL.out.mono ?_; rintro e w1 ⟨rfl, q1, q2⟩; have q4 := HG.out.trans q2; have q3 := Stay.refl A s; clear q2) | (go_at_call 94; refine (HU.out _).mono ?_; rintro e w' ⟨rfl, rfl⟩))
      have HQ := Lib.hid (And.intro (‹Rep A σ.tick _›) (‹Grow A.L w A.L _›))
      obtain ⟨d0, d1, d2, d4, d5, d6⟩ := HB.out _ HQ.out.1 HQ.out.2
      go_wp2_with fail
      refine wp_region_still_tail 9 (by kernel_rfl) (by kernel_rfl) ?_
      simp only [List.take_succ_cons, List.take_zero, List.drop_succ_cons, List.drop_zero]
      repeat still_step
      refine wpStill_nil ?_
      change wpList _ _ _ _ _ w1.drew
      have HGD := Lib.hid (HQ.out.2.trans (Grow.drew A.L w1))
      have HBI1 := Lib.hid (HBI.out w1 HQ.out.1)
      generalize w1.drew = wd at *
      go_wp2_with (go_at_call 225; refine HBI1.out.mono ?_; rintro e w2 ⟨rfl, A2, p1, p2, p3, p4, p5⟩; have gg := HGD.out.trans p2; have ek : kp A2 (σ.tick.bind s mb) s = kp A σ s := kp_same p3 p4 p5 (by rw [HCC.out]) (by rw [HCC.out]); obtain ⟨d0, d2, d4⟩ := HCE.out A2 w2 gg; have HQ2 := Lib.hid (And.intro gg (And.intro p3 (And.intro p1 (And.intro ek (p3.mp.trans HMP.out))))); clear p1 p2 p3 p4 p5 gg ek)
      refine wp_region_still_tail 5 (by kernel_rfl) (by kernel_rfl) ?_
      simp only [List.take_succ_cons, List.take_zero, List.drop_succ_cons, List.drop_zero]
      repeat still_step
      refine wpStill_nil ?_
      change wpList _ _ _ _ _ w2.drew
      have HGD2 := Lib.hid (HQ2.out.1.trans (Grow.drew A2.L w2))
      have HTA := HTT.out A2 w2.drew HQ2.out.2.2.1.drew HQ2.out.2.2.2.2 _ fv cv HQ2.out.2.2.1.drew (Grow.refl _ _) (HTH.out A2 _ _ HGD2.out HQ2.out.2.2.2.1)
      have HF := Lib.hid HTA
      clear HTA
      generalize w2.drew = wd2 at *
      go_wp2_with fail
      refine HF.out.mono ?_
      rintro e w4 ⟨A', v, rfl, q1, q2, q3, q4⟩
      go_wp2_with fail
      go_ret
      exact ⟨A', v, rfl, q1, HGD2.out.trans q2, HQ2.out.2.1.trans q3, q4⟩
    · rw [if_neg h2]
      rw [if_neg h2] at HTT
      have fd1 : ((st : Int) == 2) = false := by first | (simp; done) | (simp; omega)
      have fd2 : ((st : Int) = 2) = False := by first | (simp; done) | (simp; omega)
      have fd3 : (st = 2) = False := by first | (simp; done) | (simp; omega)
      have fd4 : (st == 2) = false := by first | (simp; done) | (simp; omega)
      have fd5 : ((st : Int) != 2) = true := by first | (simp; done) | (simp; omega)
      clear h4 h2
      go_enter Tryz.func224, Tryz.ntmps224
      go_wp2_with fail
      go_region_held3 (fun w' => w'.cell? ⟨b0, 0, none⟩ = some (.pointer (some ⟨bh, 0, none⟩)) ∧ w'.cell? ⟨b1, 0, none⟩ = some (.int .i64 (mb : Int)) ∧ w'.cell? ⟨bh, 0, none⟩ = some (.pointer (some ⟨A.be, 0, none⟩)) ∧ w'.cell? ⟨A.be, 2, none⟩ = some (.pointer (some ⟨A.ba, 0, none⟩)))
        (first | exact ⟨c0, c1, h0, e2⟩ | assumption | exact HK.out _ (Kp.of (by assumption) (by assumption) (by assumption)))
        (first | (go_at_call 78; refine HP.out.mono ?_; rintro e w' ⟨rfl, rfl⟩) | (go_at_call 73; refine HL.out.mono ?_; rintro e w1 ⟨rfl, q1, q2⟩; have q4 := HG.out.trans q2; have q3 := Stay.refl A s; clear q2) | (go_at_call 94; refine (HU.out _).mono ?_; rintro e w' ⟨rfl, rfl⟩))
      have HQ := Lib.hid (And.intro (‹Rep A σ.tick _›) (‹Grow A.L w A.L _›))
      obtain ⟨d0, d1, d2, d4, d5, d6⟩ := HB.out _ HQ.out.1 HQ.out.2
      go_wp2_with fail
      refine wp_region_still_tail 5 (by kernel_rfl) (by kernel_rfl) ?_
      simp only [List.take_succ_cons, List.take_zero, List.drop_succ_cons, List.drop_zero]
      repeat still_step
      refine wpStill_nil ?_
      change wpList _ _ _ _ _ w1.drew
      have HGD := Lib.hid (HQ.out.2.trans (Grow.drew A.L w1))
      have HTA := HTT.out A w1.drew HQ.out.1.drew HMP.out _ fv cv HQ.out.1.drew (Grow.refl _ _) (HTH.out A _ _ HGD.out rfl)
      have HF := Lib.hid HTA
      clear HTA
      generalize w1.drew = wd at *
      go_wp2_with fail
      refine HF.out.mono ?_
      rintro e w4 ⟨A', v, rfl, q1, q2, q3, q4⟩
      go_wp2_with fail
      go_ret
      exact ⟨A', v, rfl, q1, HGD.out.trans q2, q3, q4⟩
end Go.Proofs.YtbefcdjcefmicaaGreat.Em

namespace Go.Proofs.YtbefcdjcefmicaaGreat.Em
open Go.ChangeShapes Go.WideShapes Go.ChangeAt Go.RowKit En
set_option linter.unusedVariables false
set_option linter.unusedSimpArgs false
set_option maxRecDepth 100000
set_option maxHeartbeats 1600000

theorem get_none {A : Book} {σ : St} {w : World} (hR : Rep A σ w) (s : Nat) (t : Txn) (ht : σ.txns.getD s none = some t) (c : Cal) (hc : σ.calls.getD s none = some c) (hx : t.cell c.op.key = none) :
    Calls Tryz.prog 82 #[.pointer (some ⟨A.be, 0, none⟩), .pointer (some ⟨A.bt s, 0, none⟩), .pointer (some ⟨A.bc s, 0, none⟩)] w (Tells A w s (σ, .start ⟨c.op.key, t.begin_, .get⟩)) := by
  obtain ⟨r3, g3, _, _, _⟩ := allocs3 hR #[.pointer (some ⟨A.be, 0, none⟩)] 27 #[.pointer (some ⟨A.bt s, 0, none⟩)] 102 #[.pointer (some ⟨A.bc s, 0, none⟩)] 107
  have k1 := r3.call hc 1 (v := .int .i64 (c.op.key : Int)) rfl
  obtain ⟨r4, g4, f0, f1, f2, f3⟩ := allocs4 hR #[.pointer (some ⟨A.be, 0, none⟩)] 27 #[.pointer (some ⟨A.bt s, 0, none⟩)] 102 #[.pointer (some ⟨A.bc s, 0, none⟩)] 107 #[.int .i64 (c.op.key : Int)] 3
  have a0 := f0.cell 0 (v := .pointer (some ⟨A.be, 0, none⟩)) rfl
  have a1 := f1.cell 0 (v := .pointer (some ⟨A.bt s, 0, none⟩)) rfl
  have a2 := f2.cell 0 (v := .pointer (some ⟨A.bc s, 0, none⟩)) rfl
  have a3 := f3.cell 0 (v := .int .i64 (c.op.key : Int)) rfl
  have a7 := r4.txn ht 7 (v := .map (some (A.bm s))) rfl
  have hlk := fun n => lookup_run (r4.drewN n) ht c.op.key
  have hpx : A.px s t c.op.key = .pointer none := by unfold Book.px; rw [hx]; rfl
  rw [hpx] at hlk
  have ab := r4.txn ht 3 (v := .int .u64 (t.begin_ : Int)) rfl
  have gd := fun n => (Grow.drewN A.L ((((w.alloc (.cells #[.pointer (some ⟨A.be, 0, none⟩)] 27)).alloc (.cells #[.pointer (some ⟨A.bt s, 0, none⟩)] 102)).alloc (.cells #[.pointer (some ⟨A.bc s, 0, none⟩)] 107)).alloc (.cells #[.int .i64 (c.op.key : Int)] 3)) n).trans (Grow.drew A.L _)
  have HF := Lib.hid (fun n => And.intro (find_any (r4.drewN n).drew s c.op.key t.begin_ (.func (.func 109) #[] #[.pointer (some ⟨w.heap.size + 1, 0, none⟩), .pointer (some ⟨w.heap.size + 1 + 1 + 1, 0, none⟩), .pointer (some ⟨w.heap.size, 0, none⟩), .pointer (some ⟨w.heap.size + 1 + 1, 0, none⟩)]) .get ⟨_, _, _, _, rfl, f1.box.grow (gd n), f3.box.grow (gd n), f0.box.grow (gd n), f2.box.grow (gd n)⟩) (g4.trans (gd n)))
  clear hR ht hc hx r3 g3 r4 g4 f0 f1 f2 f3 gd hpx
  generalize c.op.key = key at *
  generalize t.begin_ = bg at *
  go_enter Tryz.func82, Tryz.ntmps82
  go_wp2_with fail
  generalize (((w.alloc _).alloc _).alloc _).alloc _ = w4 at *
  go_quiet (fail)
  go_wp2_with fail
  generalize hw5 : w4.drewN _ = w5
  have e0 : w5.cell? ⟨w.heap.size, 0, none⟩ = some (.pointer (some ⟨A.be, 0, none⟩)) := by rw [← hw5]; exact a0
  have e1 : w5.cell? ⟨w.heap.size + 1, 0, none⟩ = some (.pointer (some ⟨A.bt s, 0, none⟩)) := by rw [← hw5]; exact a1
  have e3 : w5.cell? ⟨w.heap.size + 1 + 1 + 1, 0, none⟩ = some (.int .i64 (key : Int)) := by rw [← hw5]; exact a3
  have eb : w5.cell? ⟨A.bt s, 3, none⟩ = some (.int .u64 (bg : Int)) := by rw [← hw5]; exact ab
  have HF0 : ∀ n, w4.drewN n = w5 → Calls Tryz.prog 108 #[.pointer (some ⟨A.be, 0, none⟩), .pointer (some ⟨A.bt s, 0, none⟩), .int .i64 (key : Int), .int .u64 (bg : Int), .func (.func 109) #[] #[.pointer (some ⟨w.heap.size + 1, 0, none⟩), .pointer (some ⟨w.heap.size + 1 + 1 + 1, 0, none⟩), .pointer (some ⟨w.heap.size, 0, none⟩), .pointer (some ⟨w.heap.size + 1 + 1, 0, none⟩)]] w5.drew (Tells A w5.drew s (σ, .start ⟨key, bg, .get⟩)) ∧ Grow A.L w A.L w5.drew := fun n h => by rw [← h]; exact HF.out n
  have HF1 := HF0 _ hw5
  have HF2 := Lib.hid HF1
  clear a0 a1 a2 a3 a7 ab hlk HF HF0 HF1 hw5
  refine wp_region_still_tail 8 (by kernel_rfl) (by kernel_rfl) ?_
  simp only [List.take_succ_cons, List.take_zero, List.drop_succ_cons, List.drop_zero]
  repeat still_step
  refine wpStill_nil ?_
  go_wp2_with (go_at_call 108; refine (HF2.out.1).mono ?_; rintro e w2 ⟨A2, v, rfl, p1, p2, p3, p4⟩)
  go_ret
  exact ⟨A2, v, rfl, p1, HF2.out.2.trans p2, p3, p4⟩
theorem change_some {A : Book} {σ : St} {w : World} (hR : Rep A σ w) (s : Nat) (t : Txn) (ht : σ.txns.getD s none = some t) (c : Cal) (hc : σ.calls.getD s none = some c) (hmp : A.mp = 0) (x : Cel) (hx : t.cell c.op.key = some x) (h1 : 1 ≤ t.id) (h2 : t.id ≤ 65535) (hp : PoolOk σ) :
    Calls Tryz.prog 86 #[.pointer (some ⟨A.be, 0, none⟩), .pointer (some ⟨A.bt s, 0, none⟩), .pointer (some ⟨A.bc s, 0, none⟩)] w (Tells A w s (againK σ s t x c.op.kind)) := by
  obtain ⟨r3, g3, _, _, _⟩ := allocs3 hR #[.pointer (some ⟨A.be, 0, none⟩)] 27 #[.pointer (some ⟨A.bt s, 0, none⟩)] 102 #[.pointer (some ⟨A.bc s, 0, none⟩)] 107
  have k1 := r3.call hc 1 (v := .int .i64 (c.op.key : Int)) rfl
  obtain ⟨r4, g4, f0, f1, f2, f3⟩ := allocs4 hR #[.pointer (some ⟨A.be, 0, none⟩)] 27 #[.pointer (some ⟨A.bt s, 0, none⟩)] 102 #[.pointer (some ⟨A.bc s, 0, none⟩)] 107 #[.int .i64 (c.op.key : Int)] 3
  have a0 := f0.cell 0 (v := .pointer (some ⟨A.be, 0, none⟩)) rfl
  have a1 := f1.cell 0 (v := .pointer (some ⟨A.bt s, 0, none⟩)) rfl
  have a2 := f2.cell 0 (v := .pointer (some ⟨A.bc s, 0, none⟩)) rfl
  have a3 := f3.cell 0 (v := .int .i64 (c.op.key : Int)) rfl
  have a7 := r4.txn ht 7 (v := .map (some (A.bm s))) rfl
  have hlk := fun n => lookup_run (r4.drewN n) ht c.op.key
  have hpx : A.px s t c.op.key = .pointer (some ⟨A.bx s c.op.key, 0, none⟩) := by unfold Book.px; rw [hx]; rfl
  rw [hpx] at hlk
  have HW : Hid (∀ n w5, ((((w.alloc (.cells #[.pointer (some ⟨A.be, 0, none⟩)] 27)).alloc (.cells #[.pointer (some ⟨A.bt s, 0, none⟩)] 102)).alloc (.cells #[.pointer (some ⟨A.bc s, 0, none⟩)] 107)).alloc (.cells #[.int .i64 (c.op.key : Int)] 3)).drewN n = w5 → Calls Tryz.prog 123 #[.pointer (some ⟨A.be, 0, none⟩), .pointer (some ⟨A.bt s, 0, none⟩), .pointer (some ⟨A.bc s, 0, none⟩), .pointer (some ⟨A.bx s c.op.key, 0, none⟩)] w5 (Tells A w5 s (againK σ s t x c.op.kind)) ∧ Grow A.L w A.L w5) := by
    rintro n w5 rfl
    exact ⟨again_tells (r4.drewN n) s t ht c hc hmp x hx h1 h2 hp, g4.trans (Grow.drewN _ _ n)⟩
  clear hR ht hc hx r3 g3 r4 g4 f0 f1 f2 f3 hpx hmp h1 h2 hp
  generalize againK σ s t x c.op.kind = res at *
  generalize A.bx s c.op.key = kx at *
  generalize c.op.key = key at *
  go_enter Tryz.func86, Tryz.ntmps86
  go_wp2_with fail
  generalize hw4 : (((w.alloc _).alloc _).alloc _).alloc _ = w4 at *
  go_quiet (fail)
  generalize hw5 : w4.drewN _ = w5
  have e0 : w5.cell? ⟨w.heap.size, 0, none⟩ = some (.pointer (some ⟨A.be, 0, none⟩)) := by rw [← hw5]; exact a0
  have e1 : w5.cell? ⟨w.heap.size + 1, 0, none⟩ = some (.pointer (some ⟨A.bt s, 0, none⟩)) := by rw [← hw5]; exact a1
  have e2 : w5.cell? ⟨w.heap.size + 1 + 1, 0, none⟩ = some (.pointer (some ⟨A.bc s, 0, none⟩)) := by rw [← hw5]; exact a2
  have H5 := Lib.hid (HW.out _ w5 hw5)
  clear a0 a1 a2 a3 a7 hlk hw5
  go_wp2_with (go_at_call 123; refine (H5.out.1).mono ?_; rintro e w2 ⟨A2, v, rfl, p1, p2, p3, p4⟩)
  go_ret
  exact ⟨A2, v, rfl, p1, H5.out.2.trans p2, p3, p4⟩
theorem get_gone {A : Book} {σ : St} {w : World} (hR : Rep A σ w) (s : Nat) (t : Txn) (ht : σ.txns.getD s none = some t) (c : Cal) (hc : σ.calls.getD s none = some c) (x : Cel) (hx : t.cell c.op.key = some x) (hth : x.there = false) :
    Calls Tryz.prog 82 #[.pointer (some ⟨A.be, 0, none⟩), .pointer (some ⟨A.bt s, 0, none⟩), .pointer (some ⟨A.bc s, 0, none⟩)] w (Tells A w s (σ, .fin { e := 11 })) := by
  obtain ⟨r3, g3, _, _, _⟩ := allocs3 hR #[.pointer (some ⟨A.be, 0, none⟩)] 27 #[.pointer (some ⟨A.bt s, 0, none⟩)] 102 #[.pointer (some ⟨A.bc s, 0, none⟩)] 107
  have k1 := r3.call hc 1 (v := .int .i64 (c.op.key : Int)) rfl
  obtain ⟨r4, g4, f0, f1, f2, f3⟩ := allocs4 hR #[.pointer (some ⟨A.be, 0, none⟩)] 27 #[.pointer (some ⟨A.bt s, 0, none⟩)] 102 #[.pointer (some ⟨A.bc s, 0, none⟩)] 107 #[.int .i64 (c.op.key : Int)] 3
  have a0 := f0.cell 0 (v := .pointer (some ⟨A.be, 0, none⟩)) rfl
  have a1 := f1.cell 0 (v := .pointer (some ⟨A.bt s, 0, none⟩)) rfl
  have a2 := f2.cell 0 (v := .pointer (some ⟨A.bc s, 0, none⟩)) rfl
  have a3 := f3.cell 0 (v := .int .i64 (c.op.key : Int)) rfl
  have a7 := r4.txn ht 7 (v := .map (some (A.bm s))) rfl
  have hlk := fun n => lookup_run (r4.drewN n) ht c.op.key
  have hpx : A.px s t c.op.key = .pointer (some ⟨A.bx s c.op.key, 0, none⟩) := by unfold Book.px; rw [hx]; rfl
  rw [hpx] at hlk
  have HW : Hid (∀ n w5, ((((w.alloc (.cells #[.pointer (some ⟨A.be, 0, none⟩)] 27)).alloc (.cells #[.pointer (some ⟨A.bt s, 0, none⟩)] 102)).alloc (.cells #[.pointer (some ⟨A.bc s, 0, none⟩)] 107)).alloc (.cells #[.int .i64 (c.op.key : Int)] 3)).drewN n = w5 → w5.cell? ⟨A.bx s c.op.key, 2, none⟩ = some (.bool false) ∧ Calls Tryz.prog 107 #[.pointer (some ⟨A.be, 0, none⟩), .pointer (some ⟨A.bc s, 0, none⟩), .agg #[.int .i64 11, .int .i64 0, .slice none 0 0, .int .i64 0, .int .i64 0]] w5 (Tells A w5 s (σ, .fin { e := 11 })) ∧ Grow A.L w A.L w5) := by
    rintro n w5 rfl
    obtain ⟨_, _, x2⟩ := (r4.drewN n).cel ht hx
    rw [hth] at x2
    exact ⟨x2, ends_at (r4.drewN n) s { e := 11 } 11 0 0 0 (.slice none 0 0) rfl (.inr ⟨rfl, rfl⟩), g4.trans (Grow.drewN _ _ n)⟩
  clear hR ht hc hx r3 g3 r4 g4 f0 f1 f2 f3 hpx hth
  generalize A.bx s c.op.key = kx at *
  generalize c.op.key = key at *
  go_enter Tryz.func82, Tryz.ntmps82
  go_wp2_with fail
  generalize hw4 : (((w.alloc _).alloc _).alloc _).alloc _ = w4 at *
  go_quiet (fail)
  generalize hw5 : w4.drewN _ = w5
  have e0 : w5.cell? ⟨w.heap.size, 0, none⟩ = some (.pointer (some ⟨A.be, 0, none⟩)) := by rw [← hw5]; exact a0
  have e1 : w5.cell? ⟨w.heap.size + 1, 0, none⟩ = some (.pointer (some ⟨A.bt s, 0, none⟩)) := by rw [← hw5]; exact a1
  have e2 : w5.cell? ⟨w.heap.size + 1 + 1, 0, none⟩ = some (.pointer (some ⟨A.bc s, 0, none⟩)) := by rw [← hw5]; exact a2
  obtain ⟨x2, he, gg⟩ := HW.out _ w5 hw5
  have H5 := Lib.hid (And.intro he gg)
  clear he gg
  clear a0 a1 a2 a3 a7 hlk hw5
  go_wp2_with (go_at_call 107; refine (H5.out.1).mono ?_; rintro e w2 ⟨A2, v, rfl, p1, p2, p3, p4⟩)
  go_ret
  exact ⟨A2, v, rfl, p1, H5.out.2.trans p2, p3, p4⟩
theorem get_there {A : Book} {σ : St} {w : World} (hR : Rep A σ w) (s : Nat) (t : Txn) (ht : σ.txns.getD s none = some t) (c : Cal) (hc : σ.calls.getD s none = some c) (x : Cel) (hx : t.cell c.op.key = some x) (hth : x.there = true) (hv : VL σ x.own) :
    Calls Tryz.prog 82 #[.pointer (some ⟨A.be, 0, none⟩), .pointer (some ⟨A.bt s, 0, none⟩), .pointer (some ⟨A.bc s, 0, none⟩)] w (Tells A w s (σ, .fin { value := σ.valueOf x.own })) := by
  obtain ⟨r3, g3, _, _, _⟩ := allocs3 hR #[.pointer (some ⟨A.be, 0, none⟩)] 27 #[.pointer (some ⟨A.bt s, 0, none⟩)] 102 #[.pointer (some ⟨A.bc s, 0, none⟩)] 107
  have k1 := r3.call hc 1 (v := .int .i64 (c.op.key : Int)) rfl
  obtain ⟨r4, g4, f0, f1, f2, f3⟩ := allocs4 hR #[.pointer (some ⟨A.be, 0, none⟩)] 27 #[.pointer (some ⟨A.bt s, 0, none⟩)] 102 #[.pointer (some ⟨A.bc s, 0, none⟩)] 107 #[.int .i64 (c.op.key : Int)] 3
  have a0 := f0.cell 0 (v := .pointer (some ⟨A.be, 0, none⟩)) rfl
  have a1 := f1.cell 0 (v := .pointer (some ⟨A.bt s, 0, none⟩)) rfl
  have a2 := f2.cell 0 (v := .pointer (some ⟨A.bc s, 0, none⟩)) rfl
  have a3 := f3.cell 0 (v := .int .i64 (c.op.key : Int)) rfl
  have a7 := r4.txn ht 7 (v := .map (some (A.bm s))) rfl
  have hlk := fun n => lookup_run (r4.drewN n) ht c.op.key
  have hpx : A.px s t c.op.key = .pointer (some ⟨A.bx s c.op.key, 0, none⟩) := by unfold Book.px; rw [hx]; rfl
  rw [hpx] at hlk
  have HW : Hid (∀ n w5, ((((w.alloc (.cells #[.pointer (some ⟨A.be, 0, none⟩)] 27)).alloc (.cells #[.pointer (some ⟨A.bt s, 0, none⟩)] 102)).alloc (.cells #[.pointer (some ⟨A.bc s, 0, none⟩)] 107)).alloc (.cells #[.int .i64 (c.op.key : Int)] 3)).drewN n = w5 → w5.cell? ⟨A.bx s c.op.key, 2, none⟩ = some (.bool true) ∧ w5.cell? ⟨A.bx s c.op.key, 0, none⟩ = some (.int .u64 (x.own : Int)) ∧ Calls Tryz.prog 64 #[.pointer (some ⟨A.be, 0, none⟩), .int .u64 (x.own : Int)] w5.drew (fun e w' => e = .returned (.pointer (some ⟨A.bv, 2 * slotOf x.own, none⟩)) ∧ w' = w5.drew) ∧ w5.drew.cell? ⟨A.bv, 2 * slotOf x.own + 1, none⟩ = some (.int .i64 (σ.valueOf x.own : Int)) ∧ Calls Tryz.prog 107 #[.pointer (some ⟨A.be, 0, none⟩), .pointer (some ⟨A.bc s, 0, none⟩), .agg #[.int .i64 0, .int .i64 (σ.valueOf x.own : Int), .slice none 0 0, .int .i64 0, .int .i64 0]] w5.drew (Tells A w5.drew s (σ, .fin { value := σ.valueOf x.own })) ∧ Grow A.L w A.L w5.drew) := by
    rintro n w5 rfl
    obtain ⟨x0, _, x2⟩ := (r4.drewN n).cel ht hx
    rw [hth] at x2
    have q := (r4.drewN n).drew
    exact ⟨x2, x0, flip (data_any q x.own hv.lo hv.hi hv.u), (q.val (slotOf_lt hv)).2, ends_at q s { value := σ.valueOf x.own } 0 (σ.valueOf x.own : Int) 0 0 (.slice none 0 0) rfl (.inr ⟨rfl, rfl⟩), g4.trans ((Grow.drewN _ _ n).trans (Grow.drew _ _))⟩
  clear hR ht hc hx r3 g3 r4 g4 f0 f1 f2 f3 hpx hth hv
  generalize σ.valueOf x.own = va at *
  generalize A.bx s c.op.key = kx at *
  generalize c.op.key = key at *
  generalize 2 * slotOf x.own = iv at *
  generalize x.own = ow at *
  go_enter Tryz.func82, Tryz.ntmps82
  go_wp2_with fail
  generalize hw4 : (((w.alloc _).alloc _).alloc _).alloc _ = w4 at *
  go_quiet (fail)
  generalize hw5 : w4.drewN _ = w5
  have e0 : w5.cell? ⟨w.heap.size, 0, none⟩ = some (.pointer (some ⟨A.be, 0, none⟩)) := by rw [← hw5]; exact a0
  have e1 : w5.cell? ⟨w.heap.size + 1, 0, none⟩ = some (.pointer (some ⟨A.bt s, 0, none⟩)) := by rw [← hw5]; exact a1
  have e2 : w5.cell? ⟨w.heap.size + 1 + 1, 0, none⟩ = some (.pointer (some ⟨A.bc s, 0, none⟩)) := by rw [← hw5]; exact a2
  obtain ⟨x2, x0, hd, hv, he, gg⟩ := HW.out _ w5 hw5
  have HD := Lib.hid hd
  have H5 := Lib.hid (And.intro he gg)
  clear hd he gg
  clear a0 a1 a2 a3 a7 hlk hw5
  go_wp2_with fail
  refine wp_region_still_tail 12 (by kernel_rfl) (by kernel_rfl) ?_
  simp only [List.take_succ_cons, List.take_zero, List.drop_succ_cons, List.drop_zero]
  repeat still_step
  still_call HD.out
  repeat still_step
  refine wpStill_nil ?_
  change wpList _ _ _ _ _ w5.drew
  generalize w5.drew = wd at *
  go_wp2_with (go_at_call 107; refine (H5.out.1).mono ?_; rintro e w2 ⟨A2, v, rfl, p1, p2, p3, p4⟩)
  go_ret
  exact ⟨A2, v, rfl, p1, H5.out.2.trans p2, p3, p4⟩
theorem k_judge {A : Book} {σ : St} {w : World} (hR : Rep A σ w) (s : Nat) (t : Txn) (ht : σ.txns.getD s none = some t) (i l at_ key link b0 b1 b2 b3 b4 : Nat) (B0 : SeenBox A.L w b0 l) (B1 : Box A.L w b1 (.pointer (some ⟨A.be, 0, none⟩))) (B2 : Box A.L w b2 (.pointer (some ⟨A.bt s, 0, none⟩))) (B3 : Box A.L w b3 (.pointer (some ⟨A.bc s, 0, none⟩))) (B4 : Box A.L w b4 (.int .i64 (i : Int))) (hi : i + 1 ≤ t.reads.length) (hrl : t.reads.length < 1000000) :
    Calls Tryz.prog 142 #[.int .u64 (link : Int), .pointer (some ⟨b0, 0, none⟩), .pointer (some ⟨b1, 0, none⟩), .pointer (some ⟨b2, 0, none⟩), .pointer (some ⟨b3, 0, none⟩), .pointer (some ⟨b4, 0, none⟩)] w (Tells A w s (σ.thn s ⟨key, at_, .judge i l⟩ link)) := by
  obtain ⟨T0, k0, g0, F0⟩ := B0
  have c0 := F0.cell 1 (v := .int .u64 (l : Int)) rfl
  have c1 := B1.cell
  have c2 := B2.cell
  have c3 := B3.cell
  have c4 := B4.cell
  have n1 : IntKind.i64.wrap ((i : Int) + 1) = (i : Int) + 1 := by rw [IntKind.wrap_i64]; omega
  have e1 : σ.thn s ⟨key, at_, .judge i l⟩ link = if link ≠ l then (σ, .abort 14 3) else (σ, judgeK t (i + 1)) := by simp only [St.thn, txn_get ht]
  rw [e1]
  have hj : Calls Tryz.prog 116 #[.pointer (some ⟨A.be, 0, none⟩), .pointer (some ⟨A.bt s, 0, none⟩), .pointer (some ⟨A.bc s, 0, none⟩), .int .i64 ((i : Int) + 1)] w (Tells A w s (σ, judgeK t (i + 1))) := judge_any hR s t ht (i + 1) hi hrl
  have ha : Calls Tryz.prog 85 #[.pointer (some ⟨A.be, 0, none⟩), .pointer (some ⟨A.bt s, 0, none⟩), .pointer (some ⟨A.bc s, 0, none⟩), .int .i64 14, .int .i64 3] w (Tells A w s (σ, .abort 14 3)) := abort_any hR s 14 3
  have HJ := Lib.hid hj
  have HA := Lib.hid ha
  clear hj ha hR ht F0 B1 B2 B3 B4 hi hrl e1
  by_cases hl : link = l
  · rw [if_neg (fun h => h hl)]
    have fl1 : ((link : Int) == (l : Int)) = true := by first | (simp; done) | (simp; omega)
    have fl2 : ((link : Int) = (l : Int)) = True := by first | (simp; done) | (simp; omega)
    have fl3 : (link = l) = True := by first | (simp; done) | (simp; omega)
    have fl4 : (link == l) = true := by first | (simp; done) | (simp; omega)
    have fl5 : ((link : Int) != (l : Int)) = false := by first | (simp; done) | (simp; omega)
    clear hl
    go_enter Tryz.func142, Tryz.ntmps142
    go_wp2_with (go_at_call 116; refine HJ.out.mono ?_; rintro e w2 ⟨A2, v, rfl, p1, p2, p3, p4⟩)
    go_ret
    exact ⟨A2, v, rfl, p1, p2, p3, p4⟩
  · rw [if_pos hl]
    have fl1 : ((link : Int) == (l : Int)) = false := by first | (simp; done) | (simp; omega)
    have fl2 : ((link : Int) = (l : Int)) = False := by first | (simp; done) | (simp; omega)
    have fl3 : (link = l) = False := by first | (simp; done) | (simp; omega)
    have fl4 : (link == l) = false := by first | (simp; done) | (simp; omega)
    have fl5 : ((link : Int) != (l : Int)) = true := by first | (simp; done) | (simp; omega)
    clear hl
    go_enter Tryz.func142, Tryz.ntmps142
    go_wp2_with (go_at_call 85; refine HA.out.mono ?_; rintro e w2 ⟨A2, v, rfl, p1, p2, p3, p4⟩)
    go_ret
    exact ⟨A2, v, rfl, p1, p2, p3, p4⟩
end Go.Proofs.YtbefcdjcefmicaaGreat.Em

namespace Go.Proofs.YtbefcdjcefmicaaGreat.Em
open Go.ChangeShapes Go.WideShapes Go.ChangeAt Go.RowKit En
set_option linter.unusedVariables false
set_option linter.unusedSimpArgs false
set_option maxRecDepth 100000
set_option maxHeartbeats 1600000

/-- A pair was told. -/
def TldP (A : Book) (w : World) (s : Nat) (σ' : St) : Ending → World → Prop := fun e w' => e = .returned (.tuple #[]) ∧ ∃ A', Rep A' σ' w' ∧ Grow A.L w A'.L w' ∧ Stay A A' s ∧ A'.bx = A.bx
theorem infoP : (Tryz.prog.info? 140).map (fun i => (i.zero, i.size, i.bytes)) = some (some (.agg #[.int .i64 0, .int .i64 0]), 2, 16) := by kernel_rfl
theorem pairCs_snoc (l : List (Nat × Nat)) (key n : Nat) : pairCs (l ++ [(key, n)]) = pairCs l ++ [.int .i64 (key : Int), .int .i64 (n : Int)] := by simp [pairCs, two]
theorem tellP_any {A : Book} {σ : St} {w : World} (hR : Rep A σ w) (s : Nat) (c : Cal) (hc : σ.calls.getD s none = some c) (key n b0 b1 : Nat) (B0 : Box A.L w b0 (.pointer (some ⟨A.bc s, 0, none⟩))) (B1 : Box A.L w b1 (.int .i64 (key : Int))) (hn : c.r.pairs.length < 1000000) :
    Calls Tryz.prog 111 #[.int .i64 (n : Int), .pointer (some ⟨b0, 0, none⟩), .pointer (some ⟨b1, 0, none⟩)] w (TldP A w s (σ.tell s key n)) := by
  have c0 := B0.cell
  have c1 := B1.cell
  have k7 : w.cell? ⟨A.bc s, 7, none⟩ = some (A.vpairs s) := hR.call hc 7 rfl
  obtain ⟨r1, g1, _⟩ := allocs1 hR #[.int .i64 (key : Int), .int .i64 (n : Int)] 140
  have hown := r1.mem.all (.pairs s)
  rw [mem_pairs hc] at hown
  have ho : (w.alloc (.cells #[.int .i64 (key : Int), .int .i64 (n : Int)] 140)).ownsRow 0 140 2 (A.vpairs s) c.r.pairs.length (pairCs c.r.pairs) := hown.1
  obtain ⟨av, capv, hv, _⟩ := Ow.own_form ho
  have d0 : (w.alloc (.cells #[.int .i64 (key : Int), .int .i64 (n : Int)] 140)).cell? ⟨b0, 0, none⟩ = some (.pointer (some ⟨A.bc s, 0, none⟩)) := (B0.grow g1).cell
  have d1 : (w.alloc (.cells #[.int .i64 (key : Int), .int .i64 (n : Int)] 140)).cell? ⟨b1, 0, none⟩ = some (.int .i64 (key : Int)) := (B1.grow g1).cell
  have d7 : (w.alloc (.cells #[.int .i64 (key : Int), .int .i64 (n : Int)] 140)).cell? ⟨A.bc s, 7, none⟩ = some (A.vpairs s) := r1.call hc 7 rfl
  have e : σ.tell s key n = σ.setC s { c with r := { c.r with pairs := c.r.pairs ++ [(key, n)] } } := by unfold St.tell; rw [call_get hc]
  rw [e]
  have FN : Hid (∀ v' w2, w2.ownsRow 0 140 2 v' (c.r.pairs.length + 1) (pairCs c.r.pairs ++ [.int .i64 (key : Int), .int .i64 (n : Int)]) → (w.alloc (.cells #[.int .i64 (key : Int), .int .i64 (n : Int)] 140)).grownBy w2 (A.vpairs s).ownBlock → (v'.ownBlock = (A.vpairs s).ownBlock ∨ ∀ g, v'.ownBlock = some g → (w.alloc (.cells #[.int .i64 (key : Int), .int .i64 (n : Int)] 140)).heap.size ≤ g) →
      (∃ A', Rep A' (σ.setC s { c with r := { c.r with pairs := c.r.pairs ++ [(key, n)] } }) (w2.setCell ⟨A.bc s, 7, none⟩ v') ∧ Grow A.L w A'.L (w2.setCell ⟨A.bc s, 7, none⟩ v') ∧ Stay A A' s ∧ A'.bx = A.bx) ∧ w2.cell? ⟨A.bc s, 7, none⟩ = some (A.vpairs s) ∧ w2.frozen? ⟨A.bc s, 7, none⟩ = false ∧ w2.cell? ⟨b0, 0, none⟩ = some (.pointer (some ⟨A.bc s, 0, none⟩)) ∧ w2.cell? ⟨b1, 0, none⟩ = some (.int .i64 (key : Int))) := by
    intro v' w2 q1 q2 q3
    obtain ⟨k1, k2, k3, k4⟩ := r1.pairsOn hc (c.r.pairs ++ [(key, n)]) v' q2 (by rw [pairCs_snoc, List.length_append]; exact q1) q3
    refine ⟨⟨_, k1, g1.trans k2, ⟨rfl, rfl, rfl, rfl, rfl, rfl, rfl, rfl, rfl, rfl, rfl, fun _ _ => rfl, fun k hk => upF_other _ _ hk⟩, rfl⟩, k3, k4, ?_⟩
    have hne : ∀ b v, Box A.L (w.alloc (.cells #[.int .i64 (key : Int), .int .i64 (n : Int)] 140)) b v → w2.cell? ⟨b, 0, none⟩ = some v := by
      intro b v hb
      refine q2.cell hb.cell fun e => ?_
      have := hown.2 b e.symm
      obtain ⟨_, hf⟩ := hb
      rw [hf.1] at this
      cases this
    exact ⟨hne _ _ (B0.grow g1), hne _ _ (B1.grow g1)⟩
  rw [hv] at k7 d7 ho FN
  have HO := Lib.hid ho
  have HK : Hid (∀ v' : Value, True) := fun _ => trivial
  clear hR hc B0 B1 r1 g1 hown ho e
  generalize hln : c.r.pairs.length = len at *
  have HN := Lib.hid hn
  clear hln hn
  generalize pairCs c.r.pairs = xs at *
  obtain ⟨ii, hii, hz0, hz1, hz2⟩ := info_parts infoP
  go_enter Tryz.func111, Tryz.ntmps111
  go_wp2_with fail
  go_region_law (first | (refine Ow.wp_append_to _ (.tmp 9) (.tmp 13) 40 rfl 0 _ ii _ 2 16 Tryz.underlying40 hii hz0 hz1 hz2 rfl (by decide) (.slice av len capv) len xs rfl HO.out ⟨w.heap.size, 0, none⟩ 1 1 (by omega) [.int .i64 (key : Int), .int .i64 (n : Int)] rfl rfl (by intro j u hu; exact Ow.new_row w [.int .i64 (key : Int), .int .i64 (n : Int)] _ _ rfl j u hu) (by intro u hu; simp at hu; rcases hu with rfl | rfl <;> rfl) (by have := HN.out; unfold maxLen; omega) (by have := HN.out; omega) (Nat.zero_le _) ?_; intro v' w2 q1 q2 q3; obtain ⟨x1, x2, x3, x4, x5⟩ := FN.out v' w2 q1 (grown_drew q2) q3; obtain ⟨a4, cap4, rfl, _⟩ := Ow.own_form q1; have R1 := Lib.hid x1; clear x1 q1 q2 q3))
  all_goals (go_end0; exact ⟨rfl, R1.out⟩)
end Go.Proofs.YtbefcdjcefmicaaGreat.Em
