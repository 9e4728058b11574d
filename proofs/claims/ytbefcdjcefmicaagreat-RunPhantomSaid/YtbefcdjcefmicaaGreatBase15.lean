/- Texts of this claim, laid together: Fz, Ks, Sp, Cq. -/
import Derived.Test.YtbefcdjcefmicaaGreatBase14
import Derived.Test.YtbefcdjcefmicaaGreatBase8
import Derived.Test.YtbefcdjcefmicaaGreatBase9
import Derived.Test.YtbefcdjcefmicaaGreatBase10
import Derived.Test.YtbefcdjcefmicaaGreatBase6
import Derived.Test.YtbefcdjcefmicaaGreatBase11
import Derived.Test.YtbefcdjcefmicaaGreatBase3
import Derived.Test.YtbefcdjcefmicaaGreatBase4
import Derived.Deep.QuietTactic
import Derived.BigQuiet
import Derived.Deep.MidRow
import Derived.Deep.Cut
namespace Go.Proofs.YtbefcdjcefmicaaGreat.Em
open Go.ChangeShapes Go.WideShapes Go.ChangeAt Go.RowKit En
set_option linter.unusedVariables false
set_option linter.unusedSimpArgs false
set_option maxRecDepth 100000
set_option maxHeartbeats 1600000

theorem k_free {A : Book} {σ : St} {w : World} (hR : Rep A σ w) (s : Nat) (t : Txn) (ht : σ.txns.getD s none = some t) (link head at_ : Nat) (hv0 : link = 0 ∨ VL σ link) (hva : VL σ at_) (hp : PoolOk σ) (hx : σ.word (wslot at_ 0) < 18446744073709551616) (hcnt : σ.count < 4000000000000000000) (b0 b1 b2 b3 b4 b5 : Nat)
    (B0 : Box A.L w b0 (.pointer (some ⟨A.be, 0, none⟩))) (B1 : Box A.L w b1 (.int .u64 (at_ : Int))) (B2 : Box A.L w b2 (.pointer (some ⟨A.bt s, 0, none⟩))) (B3 : NextBox (kp A σ s) A.L w b3 link head at_) (B4 : Box A.L w b4 (.pointer (some ⟨A.bc s, 0, none⟩))) (B5 : Box A.L w b5 (.int .u64 (link : Int))) :
    Calls Tryz.prog 172 #[.pointer (some ⟨b0, 0, none⟩), .pointer (some ⟨b1, 0, none⟩), .pointer (some ⟨b2, 0, none⟩), .pointer (some ⟨b3, 0, none⟩), .pointer (some ⟨b4, 0, none⟩), .pointer (some ⟨b5, 0, none⟩)] w (Ran A w s (σ.run s (.free link head at_))) := by
  have hsl := hR.sl
  obtain ⟨nv, X3, m0, m1, m2, m3, m4, m5, hnv, N0, N1, N2, N3, N4, N5⟩ := B3
  have c0 := B0.cell
  have c1 := B1.cell
  have e2 : w.cell? ⟨A.be, 2, none⟩ = some (.pointer (some ⟨A.ba, 0, none⟩)) := hR.eng 2 rfl
  have HSl := Lib.hid (slot_at at_ 0 0 rfl hva.lo (by have := hva.hi; omega) hva.u (by omega))
  have HL : Hid (∀ w', Rep A σ w' → Calls Tryz.prog 73 #[.pointer (some ⟨A.ba, 0, none⟩), .int .i64 ((wslot at_ 0 : Nat) : Int)] w' (Did A w' σ.tick (.int .u64 (σ.word (wslot at_ 0) : Int)))) := fun w' r => load_any r (wslot at_ 0) (wslot_lt hR hva.lo hva.hi (by omega)) hcnt
  have HKK : Hid (∀ w', Rep A σ.tick w' → Grow A.L w A.L w' → w'.cell? ⟨b0, 0, none⟩ = some (.pointer (some ⟨A.be, 0, none⟩)) ∧ w'.cell? ⟨b1, 0, none⟩ = some (.int .u64 (at_ : Int)) ∧ w'.cell? ⟨A.be, 2, none⟩ = some (.pointer (some ⟨A.ba, 0, none⟩))) := fun w' r g => ⟨(B0.grow g).cell, (B1.grow g).cell, r.eng 2 rfl⟩
  have hrd := rd_any (σ.word (wslot at_ 0)) hx
  have HRD := Lib.hid hrd
  have HRd : Hid (Rep A σ w.drew) := hR.drew
  have HG : Hid (Grow A.L w A.L w.drew) := Grow.drew _ _
  have HFX : Hid (Fix A.L (w.drew.alloc (.cells #[.int .i64 0, .int .u64 0] 190)) w.heap.size (.cells #[.int .i64 0, .int .u64 0] 190)) := fix_next hR.drew.mem.fresh _ rfl
  have x0 := World.new_ne w _ c0
  have x1 := World.new_ne w _ c1
  have x3 := World.new_ne w _ e2
  generalize hkd : (rd (σ.word (wslot at_ 0))).1 = kd at *
  generalize hn : (rd (σ.word (wslot at_ 0))).2 = n at *
  have HST : Hid (∀ w2 b, Rep A σ.tick w2 → Grow A.L w A.L w2 → w.heap.size ≤ b → Fix A.L w2 b (.cells #[.int .i64 0, .int .u64 0] 190) → Rep A σ.tick ((w2.setCell ⟨b, 0, none⟩ (.int .i64 (kd : Int))).setCell ⟨b, 1, none⟩ (.int .u64 (n : Int))) ∧ Grow A.L w A.L ((w2.setCell ⟨b, 0, none⟩ (.int .i64 (kd : Int))).setCell ⟨b, 1, none⟩ (.int .u64 (n : Int))) ∧ Fix A.L ((w2.setCell ⟨b, 0, none⟩ (.int .i64 (kd : Int))).setCell ⟨b, 1, none⟩ (.int .u64 (n : Int))) b (.cells #[.int .i64 (kd : Int), .int .u64 (n : Int)] 190)) := fun w2 b r g hb fx => hR.stamp r g rfl hb fx _ _
  have HSZ : Hid (∀ w1, Grow A.L w A.L w1 → w.heap.size ≤ w1.heap.size) := fun w1 g => g.size
  have HB : Hid (∀ w1, Rep A σ.tick w1 → Grow A.L w A.L w1 → w1.cell? ⟨b0, 0, none⟩ = some (.pointer (some ⟨A.be, 0, none⟩)) ∧ w1.cell? ⟨b2, 0, none⟩ = some (.pointer (some ⟨A.bt s, 0, none⟩)) ∧ w1.cell? ⟨b3, 0, none⟩ = some nv ∧ w1.cell? ⟨b4, 0, none⟩ = some (.pointer (some ⟨A.bc s, 0, none⟩)) ∧ w1.cell? ⟨b5, 0, none⟩ = some (.int .u64 (link : Int)) ∧ w1.cell? ⟨A.bt s, 3, none⟩ = some (.int .u64 (t.begin_ : Int))) :=
    fun w1 q g => ⟨(B0.grow g).cell, (B2.grow g).cell, (X3.grow g).cell, (B4.grow g).cell, (B5.grow g).cell, q.txn (s := s) (t := t) ht 3 rfl⟩
  have HLost : Hid (∀ w1, Rep A σ.tick w1 → Grow A.L w A.L w1 → Calls Tryz.prog 173 #[.pointer (some ⟨A.be, 0, none⟩), .pointer (some ⟨A.bt s, 0, none⟩), .pointer (some ⟨A.bc s, 0, none⟩), .int .u64 (link : Int)] w1 (Tells A w1 s (σ.tick.lost link))) := fun w1 q g => lost_any q s link (hv0.imp (fun h => h) fun h => ⟨h.lo, h.hi, h.u⟩) ⟨hp.n, hp.free, hp.tag, hp.worn⟩
  have hrun : σ.run s (.free link head at_) = if kd = 1 ∧ n ≤ t.begin_ then (σ.tick, some (.next link head at_)) else if kd ≠ 2 then ((σ.tick.lost link).1, some (σ.tick.lost link).2) else (σ.tick, some (.freeTxn link head at_ n)) := by
    have e : σ.tick.t s = t := txn_get ht
    simp only [St.run, hkd, hn, e]
  have HX : Hid (Box A.L w b0 (.pointer (some ⟨A.be, 0, none⟩)) ∧ Box A.L w b1 (.int .u64 (at_ : Int)) ∧ Box A.L w b2 (.pointer (some ⟨A.bt s, 0, none⟩)) ∧ Box A.L w b3 nv ∧ Box A.L w b4 (.pointer (some ⟨A.bc s, 0, none⟩)) ∧ Box A.L w b5 (.int .u64 (link : Int)) ∧ Box A.L w m0 (ptr (kp A σ s).e) ∧ Box A.L w m1 (ptr (kp A σ s).t) ∧ Box A.L w m2 (ptr (kp A σ s).c) ∧ Box A.L w m3 (u64 link) ∧ Box A.L w m4 (u64 head) ∧ Box A.L w m5 (u64 at_)) := ⟨B0, B1, B2, X3, B4, B5, N0, N1, N2, N3, N4, N5⟩
  subst hnv
  have HRUN := Lib.hid hrun
  generalize σ.run s (.free link head at_) = rr at *
  clear hR hcnt hva hv0 hp hx hrd hkd hn hrun ht hsl B0 B1 B2 X3 B4 B5 N0 N1 N2 N3 N4 N5
  generalize t.begin_ = bg at *
  generalize σ.word (wslot at_ 0) = x at *
  go_enter Tryz.func172, Tryz.ntmps172
  go_wp2_with fail
  go_region_held3 (fun w' => w'.cell? ⟨b0, 0, none⟩ = some (.pointer (some ⟨A.be, 0, none⟩)) ∧ w'.cell? ⟨b1, 0, none⟩ = some (.int .u64 (at_ : Int)) ∧ w'.cell? ⟨A.be, 2, none⟩ = some (.pointer (some ⟨A.ba, 0, none⟩)))
    (first | exact ⟨c0, c1, e2⟩ | assumption | exact HKK.out _ q1 q4 | exact HKK.out _ (q1.alloc _) (q4.trans (Grow.alloc _ _ _)) | exact HKK.out _ r2 g2 | exact HKK.out _ (r2.alloc _) (g2.trans (Grow.alloc _ _ _)) | exact HKK.out _ (HST.out _ _ r2 g2 hb FX.out).1 (HST.out _ _ r2 g2 hb FX.out).2.1 | go_keep)
    (first | (go_at_call 62; refine (HSl.out _).mono ?_; rintro e w' ⟨rfl, rfl⟩) | (go_at_call 73; refine (HL.out _ HRd.out).mono ?_; rintro e w1 ⟨rfl, q1, q2⟩; have q4 := HG.out.trans q2) | (go_at_call 73; refine (HL.out _ (HRd.out.alloc _)).mono ?_; rintro e w1 ⟨rfl, q1, q2⟩; have q4 := (HG.out.trans (Grow.alloc _ _ _)).trans q2; have FX1 := Lib.hid (HFX.out.grow q2)) | (go_at_call 93; refine (HRD.out _).mono ?_; rintro e w2 ⟨rfl, hq⟩; have r2 := q1.below hq; have g2 := q4.trans (Grow.below hq); have FX := Lib.hid (FX1.out.grow (Grow.below hq)); have hb := Nat.le_refl w.heap.size; have nb0 := FX.out.cell 0 (v := .int .i64 0) rfl; have nb1 := FX.out.cell 1 (v := .int .u64 0) rfl; have nz0 := FX.out.frozen 0; have nz1 := FX.out.frozen 1) | (go_at_call 93; refine (HRD.out _).mono ?_; rintro e w2 ⟨rfl, hq⟩; have r2 := (q1.alloc _).below hq; have g2 := (q4.trans (Grow.alloc A.L _ _)).trans (Grow.below hq); have FX := Lib.hid ((fix_next q1.mem.fresh (.cells #[.int .i64 0, .int .u64 0] 190) rfl).grow (Grow.below (L := A.L) hq)); have hb := HSZ.out _ q4; have nb0 := FX.out.cell 0 (v := .int .i64 0) rfl; have nb1 := FX.out.cell 1 (v := .int .u64 0) rfl; have nz0 := FX.out.frozen 0; have nz1 := FX.out.frozen 1) | (go_at_call 93; refine (HRD.out _).mono ?_; rintro e w2 ⟨rfl, hq⟩; have r2 := q1.below hq; have g2 := q4.trans (Grow.below hq)))
  all_goals
    rename_i hHeld
    clear hHeld x0 x1 x3 c0 c1 e2
    first
    | (have HZ := Lib.hid (HST.out _ _ r2 g2 hb FX.out)
       clear FX hb nb0 nb1 nz0 nz1 r2 g2 q1 q4
       generalize hW : (World.setCell _ _ _).setCell _ _ = W at *)
    | (have HZ := Lib.hid (And.intro (r2.alloc (.cells #[.int .i64 (kd : Int), .int .u64 (n : Int)] 190)) (And.intro (g2.trans (Grow.alloc _ _ (.cells #[.int .i64 (kd : Int), .int .u64 (n : Int)] 190))) (fix_next r2.mem.fresh (.cells #[.int .i64 (kd : Int), .int .u64 (n : Int)] 190) rfl)))
       clear r2 g2 q1 q4
       generalize hW : w2.alloc _ = W at *)
    obtain ⟨r3, g3, f3⟩ := HZ.out
    have s0 := f3.cell 0 (v := .int .i64 (kd : Int)) rfl
    have s1 := f3.cell 1 (v := .int .u64 (n : Int)) rfl
    obtain ⟨d0, d2, d3, d4, d5, t3⟩ := HB.out W r3 g3
    clear f3 r3 g3 hW hq q2
    by_cases k1 : kd = 1
    · have fa1 : ((kd : Int) == 1) = true := by first | (simp; done) | (simp; omega)
      have fa2 : ((kd : Int) = 1) = True := by first | (simp; done) | (simp; omega)
      have fa3 : (kd = 1) = True := by first | (simp; done) | (simp; omega)
      have fa4 : (kd == 1) = true := by first | (simp; done) | (simp; omega)
      have fa5 : ((kd : Int) != 1) = false := by first | (simp; done) | (simp; omega)
      have fe1 : ((kd : Int) == 2) = false := by first | (simp; done) | (simp; omega)
      have fe2 : ((kd : Int) = 2) = False := by first | (simp; done) | (simp; omega)
      have fe3 : (kd = 2) = False := by first | (simp; done) | (simp; omega)
      have fe4 : (kd == 2) = false := by first | (simp; done) | (simp; omega)
      have fe5 : ((kd : Int) != 2) = true := by first | (simp; done) | (simp; omega)
      by_cases hna : n ≤ bg
      · have HE := Lib.hid (HRUN.out.trans (if_pos ⟨k1, hna⟩))
        have fb1 : decide ((n : Int) ≤ (bg : Int)) = true := by first | (simp; done) | (simp; omega)
        have fb2 : ((n : Int) ≤ (bg : Int)) = True := by first | (simp; done) | (simp; omega)
        have fb3 : (n ≤ bg) = True := by first | (simp; done) | (simp; omega)
        have fb4 : decide (n ≤ bg) = true := by first | (simp; done) | (simp; omega)
        subst k1
        clear hna
        go_wp2_with fail
        go_quiet (fail)
        go_wp2_with fail
        go_ret
        rw [HE.out]
        obtain ⟨X0, X1, X2, X3, X4, X5, N0, N1, N2, N3, N4, N5⟩ := HX.out
        have gg := fun n => HZ.out.2.1.trans (Grow.drewN _ _ n)
        exact ⟨A, _, rfl, HZ.out.1.drewN _, gg _, Stay.refl _ _, _, _, _, _, _, _, rfl, N0.grow (gg _), N1.grow (gg _), N2.grow (gg _), N3.grow (gg _), N4.grow (gg _), N5.grow (gg _)⟩
      · have HE := Lib.hid ((HRUN.out.trans (if_neg (fun h => hna h.2))).trans (if_pos (by omega)))
        have fb1 : decide ((n : Int) ≤ (bg : Int)) = false := by first | (simp; done) | (simp; omega)
        have fb2 : ((n : Int) ≤ (bg : Int)) = False := by first | (simp; done) | (simp; omega)
        have fb3 : (n ≤ bg) = False := by first | (simp; done) | (simp; omega)
        have fb4 : decide (n ≤ bg) = false := by first | (simp; done) | (simp; omega)
        subst k1
        clear hna
        go_wp2_with fail
        go_quiet (fail)
        go_wp2_with (go_at_call 173; refine (HLost.out _ (HZ.out.1.drewN _) (HZ.out.2.1.trans (Grow.drewN _ _ _))).mono ?_; rintro e w4 ⟨A2, v, rfl, p1, p2, p3, p4⟩)
        go_ret
        rw [HE.out]
        exact ⟨A2, v, rfl, p1, (HZ.out.2.1.trans (Grow.drewN _ _ _)).trans p2, p3, p4⟩
    · have HE0 := Lib.hid (HRUN.out.trans (if_neg (fun h => k1 h.1)))
      have fa1 : ((kd : Int) == 1) = false := by first | (simp; done) | (simp; omega)
      have fa2 : ((kd : Int) = 1) = False := by first | (simp; done) | (simp; omega)
      have fa3 : (kd = 1) = False := by first | (simp; done) | (simp; omega)
      have fa4 : (kd == 1) = false := by first | (simp; done) | (simp; omega)
      have fa5 : ((kd : Int) != 1) = true := by first | (simp; done) | (simp; omega)
      by_cases k2 : kd = 2
      · have fe1 : ((kd : Int) == 2) = true := by first | (simp; done) | (simp; omega)
        have fe2 : ((kd : Int) = 2) = True := by first | (simp; done) | (simp; omega)
        have fe3 : (kd = 2) = True := by first | (simp; done) | (simp; omega)
        have fe4 : (kd == 2) = true := by first | (simp; done) | (simp; omega)
        have fe5 : ((kd : Int) != 2) = false := by first | (simp; done) | (simp; omega)
        have HE := Lib.hid (HE0.out.trans (if_neg (fun h => h k2)))
        subst k2
        clear k1
        go_wp2_with fail
        go_quiet (fail)
        go_wp2_with fail
        go_ret
        rw [HE.out]
        obtain ⟨X0, X1, X2, X3, X4, X5, N0, N1, N2, N3, N4, N5⟩ := HX.out
        have gd := fun n => Grow.drewN A.L W n
        have gg := fun n => HZ.out.2.1.trans (gd n)
        exact ⟨A, _, rfl, HZ.out.1.drewN _, gg _, Stay.refl _ _, _, _, _, _, _, _, rfl, X0.grow (gg _), ⟨_, HZ.out.2.2.grow (gd _)⟩, X2.grow (gg _), ⟨_, X3.grow (gg _), _, _, _, _, _, _, rfl, N0.grow (gg _), N1.grow (gg _), N2.grow (gg _), N3.grow (gg _), N4.grow (gg _), N5.grow (gg _)⟩, X4.grow (gg _), X5.grow (gg _)⟩
      · have HE := Lib.hid (HE0.out.trans (if_pos k2))
        have fe1 : ((kd : Int) == 2) = false := by first | (simp; done) | (simp; omega)
        have fe2 : ((kd : Int) = 2) = False := by first | (simp; done) | (simp; omega)
        have fe3 : (kd = 2) = False := by first | (simp; done) | (simp; omega)
        have fe4 : (kd == 2) = false := by first | (simp; done) | (simp; omega)
        have fe5 : ((kd : Int) != 2) = true := by first | (simp; done) | (simp; omega)
        clear k1 k2
        go_wp2_with fail
        go_quiet (fail)
        go_wp2_with (go_at_call 173; refine (HLost.out _ (HZ.out.1.drewN _) (HZ.out.2.1.trans (Grow.drewN _ _ _))).mono ?_; rintro e w4 ⟨A2, v, rfl, p1, p2, p3, p4⟩)
        go_ret
        rw [HE.out]
        exact ⟨A2, v, rfl, p1, (HZ.out.2.1.trans (Grow.drewN _ _ _)).trans p2, p3, p4⟩
end Go.Proofs.YtbefcdjcefmicaaGreat.Em

namespace Go.Proofs.YtbefcdjcefmicaaGreat.Em
open Go.ChangeShapes Go.WideShapes Go.ChangeAt Go.RowKit En
set_option linter.unusedVariables false
set_option linter.unusedSimpArgs false
set_option maxRecDepth 100000
set_option maxHeartbeats 1600000

def vl (σ : St) (l : Nat) : Bool := decide (1 ≤ l % 131072) && decide (l % 131072 ≤ σ.slots) && decide (l < 18446744073709551616)
def vl0 (σ : St) (l : Nat) : Bool := l == 0 || vl σ l
def okPool (σ : St) : Bool := decide (σ.free.length < 100000) && σ.free.all (fun i => decide (i < σ.slots)) && σ.tags.all (fun p => decide (p.1 ≤ 65535)) && decide (σ.worn < 1000000)
def okKeys (σ : St) (t : Txn) : Bool := t.keys.all fun key => match t.cell key with | some x => vl0 σ x.own && vl0 σ x.old | none => false
def okCels (σ : St) (t : Txn) : Bool := t.cells.all fun p => !p.2.there || vl σ p.2.own
def okThn (σ : St) (s : Nat) (h : Hunt) (link : Nat) : Bool := decide ((σ.t s).reads.length < 1000000) && match h.thn with
  | .get => vl0 σ link
  | .scan k => decide (k = h.key) && vl0 σ link && decide (k ≤ 63) && decide ((σ.c s).op.hi ≤ 63) && okCels σ (σ.t s) && decide ((σ.c s).r.pairs.length < 90000)
  | .change => decide ((σ.c s).op.key = h.key)
  | .judge i _ => decide (i + 1 ≤ (σ.t s).reads.length)
def small (σ : St) (i : Nat) : Bool := decide (σ.word i < 18446744073709551616)
def okBinds (σ : St) (s : Nat) : Bool := decide ((σ.t s).bonds.length < 1000000) && decide (σ.tale.length < 1000000)
/-- What a step asks. -/
def okK (σ : St) (s : Nat) (k : K) : Bool :=
  decide (σ.count < 3000000000000000000) && match k with
  | .fin _ => true
  | .start h => decide (h.key < 64) && (σ.word (9 + h.key) != 0 || okThn σ s h 0)
  | .visit h link => vl σ link && small σ (wslot link 0)
  | .older h link => vl σ link && (σ.word (wslot link 2) != 0 || okThn σ s h 0)
  | .maker h link id => decide (id ≤ 2000) && small σ (σ.place id)
  | .ended h link mb => vl σ link && small σ (wslot link 1) && (mb != 0 || okThn σ s h link)
  | .ender h link mb id => decide (id ≤ 2000) && small σ (σ.place id) && okBinds σ s && (mb != 0 || okThn σ s h link)
  | .seen h link mb => decide (mb ≤ 2000) && small σ (σ.place mb) && okBinds σ s && okThn (if stateOf (σ.word (σ.place mb)) = 2 then σ.tick.bind s mb else σ.tick) s h link
  | .again _ => match (σ.t s).cell (σ.c s).op.key with | some x => vl σ x.own | none => false
  | .own link => vl σ link && small σ (wslot link 1)
  | .ownTxn _ _ id => decide (id ≤ 2000) && small σ (σ.place id)
  | .claim link _ => vl σ link && decide (1 ≤ (σ.t s).id) && decide ((σ.t s).id ≤ 65535) && ((σ.t s).cell (σ.c s).op.key).isNone && decide ((σ.t s).keys.length < 1000000) && okPool σ
  | .fresh link => vl0 σ link && decide ((σ.c s).op.key < 64) && okPool σ
  | .next link _ at_ => vl0 σ link && vl σ at_ && okPool σ
  | .free link _ at_ => vl0 σ link && vl σ at_ && okPool σ && small σ (wslot at_ 0)
  | .freeTxn link _ _ id => vl0 σ link && decide (id ≤ 2000) && small σ (σ.place id) && okPool σ
  | .slotB x link head => vl σ link && decide (1 ≤ (σ.t s).id) && decide ((σ.t s).id ≤ 65535)
  | .slotE x link head => vl σ link
  | .push link head => vl σ link
  | .pushC link head => decide ((σ.c s).op.key < 64) && ((σ.t s).cell (σ.c s).op.key).isNone && decide ((σ.t s).keys.length < 1000000)
  | .over _ => decide ((σ.c s).op.key < 64)
  | .overN link _ => vl σ link
  | .overC _ _ => decide ((σ.c s).op.key < 64) && ((σ.t s).cell (σ.c s).op.key).isSome
  | .draw => decide (σ.word 0 < 18446744073709551616)
  | .drawH x now => decide (x < 18446744073709551616) && decide (lastOf x ≤ 2000)
  | .turn x now => decide (now < 281474976710655) && decide ((σ.t s).id < 65536) && decide (σ.tale.length < 1000000)
  | .helpJ => decide ((σ.t s).end_ < 281474976710656) && decide ((σ.t s).id ≤ 2000) && decide ((σ.t s).reads.length < 1000000)
  | .wait i => match (σ.t s).bonds[i]? with | some bd => decide (bd ≤ 2000) && small σ (σ.place bd) && decide ((σ.t s).bonds.length < 1000000) | none => false
  | .commit => decide ((σ.t s).end_ ≤ 1099511627776) && decide ((σ.t s).id ≤ 2000) && decide ((σ.t s).keys.length < 1000000) && okKeys σ (σ.t s) && decide (σ.tale.length < 1000000)
  | .abort _ _ => decide ((σ.t s).end_ ≤ 1099511627776) && decide (1 ≤ (σ.t s).id) && decide ((σ.t s).id ≤ 2000) && decide ((σ.t s).keys.length < 1000000) && okKeys σ (σ.t s) && decide (σ.tale.length < 1000000)
  | .turns [] r => true
  | .turns (x :: l) r => decide (x.at_ < σ.words.length)
theorem vl_iff {σ : St} {l : Nat} (h : vl σ l = true) : VL σ l := by
  unfold vl at h
  simp only [Bool.and_eq_true, decide_eq_true_eq] at h
  exact ⟨h.1.1, h.1.2, h.2⟩
theorem vl0_iff {σ : St} {l : Nat} (h : vl0 σ l = true) : l = 0 ∨ VL σ l := by
  unfold vl0 at h
  simp only [Bool.or_eq_true, beq_iff_eq] at h
  exact h.imp id vl_iff
theorem okPool_iff {σ : St} (hn : σ.tags.length = σ.slots) (h : okPool σ = true) : PoolOk σ := by
  unfold okPool at h
  simp only [Bool.and_eq_true, decide_eq_true_eq, List.all_eq_true] at h
  refine ⟨h.1.1.1, fun i hi => by simpa using h.1.1.2 i hi, fun i hi => ?_, h.2⟩
  have : (σ.tags.getD i (0, false)) ∈ σ.tags := by
    rw [List.getD_eq_getElem?_getD, List.getElem?_eq_getElem (by omega)]
    exact List.getElem_mem _
  simpa using h.1.2 _ this
theorem okKeys_iff {σ : St} {t : Txn} (h : okKeys σ t = true) : KeysOk σ t := by
  intro key hk
  unfold okKeys at h
  rw [List.all_eq_true] at h
  have := h key hk
  cases hc : t.cell key with
  | none => rw [hc] at this; cases this
  | some x =>
    rw [hc] at this
    simp only [Bool.and_eq_true] at this
    exact ⟨x, rfl, vl0_iff this.1, vl0_iff this.2⟩
theorem cel_mem {l : List (Nat × Cel)} {key : Nat} {x : Cel} (h : l.lookup key = some x) : (key, x) ∈ l := by
  induction l with
  | nil => cases h
  | cons a l ih =>
    obtain ⟨k, y⟩ := a
    rw [List.lookup_cons] at h
    by_cases hk : key = k
    · subst hk
      simp at h
      subst h
      exact List.mem_cons_self
    · rw [beq_false_of_ne hk] at h
      exact List.mem_cons_of_mem _ (ih h)
theorem okCels_iff {σ : St} {t : Txn} (h : okCels σ t = true) : CelsOk σ t := by
  intro key x hx hth
  unfold okCels at h
  rw [List.all_eq_true] at h
  have := h _ (cel_mem hx)
  simp only [hth, Bool.not_true, Bool.false_or] at this
  exact vl_iff this
theorem small_iff {σ : St} {i : Nat} (h : small σ i = true) : σ.word i < 18446744073709551616 := by unfold small at h; simpa using h
theorem place_lt {A : Book} {σ : St} {w : World} (hR : Rep A σ w) {id : Nat} (h : id ≤ 2000) : σ.place id < σ.words.length := by rw [hR.nw]; unfold St.place; omega
/-- A closure's form. -/
theorem func_inj {f f' : FuncId} {b b' c c' : Array Value} (h : Value.func (.func f) b c = .func (.func f') b' c') : f = f' ∧ b = b' ∧ c = c' := by
  simp only [Value.func.injEq, Fn.func.injEq] at h
  exact h
theorem thn_to {σ : St} {s : Nat} {t : Txn} (ht : σ.txns.getD s none = some t) {c : Cal} (hc : σ.calls.getD s none = some c) {hu : Hunt} {link : Nat} (h : okThn σ s hu link = true) : ThnTo σ s hu link := by
  intro A w hR hmp w1 f cc r g hth
  obtain ⟨key, at_, thn⟩ := hu
  unfold okThn at h
  rw [txn_get ht, call_get hc, Bool.and_eq_true, decide_eq_true_eq] at h
  obtain ⟨hrl, h⟩ := h
  cases thn <;> simp only [Bool.and_eq_true, decide_eq_true_eq] at h
  case get =>
    obtain ⟨b0, b1, b2, b3, e, k0, k1, k2, k3⟩ := hth
    obtain ⟨rfl, -, rfl⟩ := func_inj e
    exact k_get r s t ht key link b0 b1 b2 b3 k0 k1 k2 k3 at_ (vl0_iff h) hrl
  case scan k =>
    obtain ⟨⟨⟨⟨⟨rfl, h1⟩, h2⟩, h3⟩, h4⟩, h5⟩ := h
    obtain ⟨b0, b1, b2, b3, b4, e, k0, k1, k2, k3, k4⟩ := hth
    obtain ⟨rfl, -, rfl⟩ := func_inj e
    exact k_scan r s t ht c hc k link at_ b0 b1 b2 b3 b4 k0 k1 k2 k3 k4 (vl0_iff h1) h2 h3 (okCels_iff h4) (by omega) hrl
  case change =>
    obtain ⟨b0, b1, b2, b3, e, k0, k1, k2, k3⟩ := hth
    obtain ⟨rfl, -, rfl⟩ := func_inj e
    exact k_change r s t ht c hc key link b0 b1 b2 b3 h k0 k1 k2 k3 at_ hrl
  case judge i l =>
    obtain ⟨b0, b1, b2, b3, b4, e, k0, k1, k2, k3, k4⟩ := hth
    obtain ⟨rfl, -, rfl⟩ := func_inj e
    exact k_judge r s t ht i l at_ key link b0 b1 b2 b3 b4 k0 k1 k2 k3 k4 h hrl
theorem bind_has {σ : St} {s to : Nat} {t : Txn} (ht : σ.txns.getD s none = some t) : ∃ t', (σ.bind s to).txns.getD s none = some t' := by
  unfold St.bind
  rw [txn_get ht]
  split
  · exact ⟨t, ht⟩
  · exact ⟨{ t with bonds := t.bonds ++ [to] }, by show (σ.setT s _).txns.getD s none = _; rw [getT_set (lt_of_txn ht), if_pos rfl]⟩
theorem bind_calls (σ : St) (s to : Nat) : (σ.bind s to).calls = σ.calls := by unfold St.bind; split <;> rfl
set_option maxHeartbeats 4000000 in
theorem runsTo {σ : St} {s : Nat} (hs : s < 8) {t : Txn} (ht : σ.txns.getD s none = some t) {c : Cal} (hc : σ.calls.getD s none = some c) (k : K) (h : okK σ s k = true) : RunsTo σ s k := by
  intro A w1 f b cc hR hmp hmt hk
  unfold okK at h
  rw [Bool.and_eq_true, decide_eq_true_eq] at h
  obtain ⟨hcnt0, h⟩ := h
  have hcnt : σ.count < 4000000000000000000 := by omega
  have et := txn_get ht
  have ec := call_get hc
  cases k
  case fin r =>
    obtain ⟨b0, b1, b2, e, k0, k1, k2⟩ := hk
    obtain ⟨rfl, rfl, rfl⟩ := func_inj e
    exact k_fin hR s c hc r b0 b1 b2 k0 k1 k2
  case start hu =>
    obtain ⟨bh, e, k0⟩ := hk
    obtain ⟨rfl, rfl, rfl⟩ := func_inj e
    simp only [Bool.and_eq_true, decide_eq_true_eq, Bool.or_eq_true, bne_iff_ne] at h
    exact k_start hR s hu bh k0 h.1 hcnt fun hz w2 r2 g2 => thn_to (σ := σ.tick) ht hc (h.2.resolve_left (fun hne => hne hz)) A w2 r2 hmp
  case visit hu link =>
    obtain ⟨b0, b1, e, k0, k1⟩ := hk
    obtain ⟨rfl, rfl, rfl⟩ := func_inj e
    simp only [et, ec, Bool.and_eq_true, decide_eq_true_eq, Bool.or_eq_true, bne_iff_ne, Option.isNone_iff_eq_none, Option.isSome_iff_exists] at h
    obtain ⟨h1, h2⟩ := h
    exact k_visit hR s t ht hu link b0 b1 k0 k1 (vl_iff h1).lo (vl_iff h1).hi (vl_iff h1).u (small_iff h2) hcnt
  case older hu link =>
    obtain ⟨b0, b1, e, k0, k1⟩ := hk
    obtain ⟨rfl, rfl, rfl⟩ := func_inj e
    simp only [et, ec, Bool.and_eq_true, decide_eq_true_eq, Bool.or_eq_true, bne_iff_ne, Option.isNone_iff_eq_none, Option.isSome_iff_exists] at h
    obtain ⟨h1, h2⟩ := h
    exact k_older hR s hmp hu link b0 b1 k0 k1 (vl_iff h1) hcnt (fun hz => thn_to (σ := σ.tick) ht hc (h2.resolve_left (fun hne => hne hz)))
  case maker hu link id =>
    obtain ⟨b0, b1, b2, e, k0, k1, k2⟩ := hk
    obtain ⟨rfl, rfl, rfl⟩ := func_inj e
    simp only [et, ec, Bool.and_eq_true, decide_eq_true_eq, Bool.or_eq_true, bne_iff_ne, Option.isNone_iff_eq_none, Option.isSome_iff_exists] at h
    obtain ⟨h1, h2⟩ := h
    exact k_maker hR s hu link id b0 b1 b2 k0 k1 k2 (by omega) (place_lt hR h1) (small_iff h2) hcnt
  case ended hu link mb =>
    obtain ⟨b0, b1, b2, e, k0, k1, k2⟩ := hk
    obtain ⟨rfl, rfl, rfl⟩ := func_inj e
    simp only [et, ec, Bool.and_eq_true, decide_eq_true_eq, Bool.or_eq_true, bne_iff_ne, Option.isNone_iff_eq_none, Option.isSome_iff_exists] at h
    obtain ⟨⟨h1, h2⟩, h3⟩ := h
    exact k_ended hR s hmp t ht hu link mb b0 b1 b2 k0 k1 k2 (vl_iff h1) (small_iff h2) hcnt (fun hz => thn_to (σ := σ.tick) ht hc (h3.resolve_left (fun hne => hne hz)))
  case ender hu link mb id =>
    obtain ⟨b0, b1, b2, b3, e, k0, k1, k2, k3⟩ := hk
    obtain ⟨rfl, rfl, rfl⟩ := func_inj e
    simp only [et, ec, Bool.and_eq_true, decide_eq_true_eq, Bool.or_eq_true, bne_iff_ne, Option.isNone_iff_eq_none, Option.isSome_iff_exists] at h
    unfold okBinds at h
    simp only [et, Bool.and_eq_true, decide_eq_true_eq] at h
    obtain ⟨⟨⟨h1, h2⟩, h3, h4⟩, h5⟩ := h
    exact k_ender hR s hmp t ht hu link mb id b0 b1 b2 b3 k0 k1 k2 k3 (by omega) (place_lt hR h1) (small_iff h2) h3 h4 hcnt (fun hz => thn_to (σ := σ.tick) ht hc (h5.resolve_left (fun hne => hne hz)))
  case seen hu link mb =>
    obtain ⟨b0, b1, b2, e, k0, k1, k2⟩ := hk
    obtain ⟨rfl, rfl, rfl⟩ := func_inj e
    simp only [et, ec, Bool.and_eq_true, decide_eq_true_eq, Bool.or_eq_true, bne_iff_ne, Option.isNone_iff_eq_none, Option.isSome_iff_exists] at h
    unfold okBinds at h
    simp only [et, Bool.and_eq_true, decide_eq_true_eq] at h
    obtain ⟨⟨⟨h1, h2⟩, h3, h4⟩, h5⟩ := h
    have hthn : ThnTo (if stateOf (σ.word (σ.place mb)) = 2 then σ.tick.bind s mb else σ.tick) s hu link := by
      split at h5
      · rename_i hq
        rw [if_pos hq]
        obtain ⟨t', ht'⟩ := bind_has (σ := σ.tick) (to := mb) ht
        exact thn_to ht' (by rw [bind_calls]; exact hc) h5
      · rename_i hq
        rw [if_neg hq]
        exact thn_to (σ := σ.tick) ht hc h5
    exact k_seen hR s hmp t ht hu link mb b0 b1 b2 k0 k1 k2 (by omega) (place_lt hR h1) (small_iff h2) h3 h4 hcnt hthn (fun _ _ => trivial)
  case again en =>
    obtain ⟨b0, b1, b2, b3, e, k0, k1, k2, k3⟩ := hk
    obtain ⟨rfl, rfl, rfl⟩ := func_inj e
    simp only [et, ec, Bool.and_eq_true, decide_eq_true_eq, Bool.or_eq_true, bne_iff_ne, Option.isNone_iff_eq_none, Option.isSome_iff_exists] at h
    cases hx : t.cell c.op.key with
    | none => rw [hx] at h; cases h
    | some x =>
    rw [hx] at h
    by_cases hkd : c.op.kind = 4
    · exact k_again_del hR s t ht c hc en x hx (vl_iff h) hkd hcnt b0 b1 b2 b3 k0 k1 k2 k3
    exact k_again_put hR s t ht c hc en x hx (vl_iff h) hkd hcnt b0 b1 b2 b3 k0 k1 k2 k3
  case own link =>
    obtain ⟨b0, b1, b2, b3, e, k0, k1, k2, k3⟩ := hk
    obtain ⟨rfl, rfl, rfl⟩ := func_inj e
    simp only [et, ec, Bool.and_eq_true, decide_eq_true_eq, Bool.or_eq_true, bne_iff_ne, Option.isNone_iff_eq_none, Option.isSome_iff_exists] at h
    obtain ⟨h1, h2⟩ := h
    exact k_own hR s t ht link (vl_iff h1) (small_iff h2) hcnt b0 b1 b2 b3 k0 k1 k2 k3
  case ownTxn link x1 id =>
    obtain ⟨b0, b1, b2, b3, b4, b5, e, k0, k1, k2, k3, k4, k5⟩ := hk
    obtain ⟨rfl, rfl, rfl⟩ := func_inj e
    simp only [et, ec, Bool.and_eq_true, decide_eq_true_eq, Bool.or_eq_true, bne_iff_ne, Option.isNone_iff_eq_none, Option.isSome_iff_exists] at h
    obtain ⟨h1, h2⟩ := h
    exact k_ownTxn hR s link x1 id (by omega) (place_lt hR h1) (small_iff h2) hcnt b0 b1 b2 b3 b4 b5 k0 k1 k2 k3 k4 k5
  case claim link x1 =>
    obtain ⟨b0, b1, b2, b3, b4, e, k0, k1, k2, k3, k4⟩ := hk
    obtain ⟨rfl, rfl, rfl⟩ := func_inj e
    simp only [et, ec, Bool.and_eq_true, decide_eq_true_eq, Bool.or_eq_true, bne_iff_ne, Option.isNone_iff_eq_none, Option.isSome_iff_exists] at h
    obtain ⟨⟨⟨⟨⟨h1, h2⟩, h3⟩, h4⟩, h5⟩, h6⟩ := h
    exact k_claim hR s t ht c hc hmp link x1 (vl_iff h1) h2 h3 h4 h5 (okPool_iff hR.nt h6) hcnt b0 b1 b2 b3 b4 k0 k1 k2 k3 k4
  case fresh link =>
    obtain ⟨b0, b1, b2, b3, e, k0, k1, k2, k3⟩ := hk
    obtain ⟨rfl, rfl, rfl⟩ := func_inj e
    simp only [et, ec, Bool.and_eq_true, decide_eq_true_eq, Bool.or_eq_true, bne_iff_ne, Option.isNone_iff_eq_none, Option.isSome_iff_exists] at h
    obtain ⟨⟨h1, h2⟩, h3⟩ := h
    exact k_fresh hR s c hc link (vl0_iff h1) h2 hmp (okPool_iff hR.nt h3) hcnt b0 b1 b2 b3 k0 k1 k2 k3
  case next link hd at_ =>
    obtain ⟨b0, b1, b2, b3, b4, b5, e, k0, k1, k2, k3, k4, k5⟩ := hk
    obtain ⟨rfl, rfl, rfl⟩ := func_inj e
    simp only [et, ec, Bool.and_eq_true, decide_eq_true_eq, Bool.or_eq_true, bne_iff_ne, Option.isNone_iff_eq_none, Option.isSome_iff_exists] at h
    obtain ⟨⟨h1, h2⟩, h3⟩ := h
    exact k_next hR s c hc link hd at_ (vl0_iff h1) (vl_iff h2) hmp (okPool_iff hR.nt h3) hcnt b0 b1 b2 b3 b4 b5 k0 k1 k2 k3 k4 k5
  case free link hd at_ =>
    obtain ⟨b0, b1, b2, b3, b4, b5, e, k0, k1, k2, k3, k4, k5⟩ := hk
    obtain ⟨rfl, rfl, rfl⟩ := func_inj e
    simp only [et, ec, Bool.and_eq_true, decide_eq_true_eq, Bool.or_eq_true, bne_iff_ne, Option.isNone_iff_eq_none, Option.isSome_iff_exists] at h
    obtain ⟨⟨⟨h1, h2⟩, h3⟩, h4⟩ := h
    exact k_free hR s t ht link hd at_ (vl0_iff h1) (vl_iff h2) (okPool_iff hR.nt h3) (small_iff h4) hcnt b0 b1 b2 b3 b4 b5 k0 k1 k2 k3 k4 k5
  case freeTxn link hd at_ id =>
    obtain ⟨b0, b1, b2, b3, b4, b5, e, k0, k1, k2, k3, k4, k5⟩ := hk
    obtain ⟨rfl, rfl, rfl⟩ := func_inj e
    simp only [et, ec, Bool.and_eq_true, decide_eq_true_eq, Bool.or_eq_true, bne_iff_ne, Option.isNone_iff_eq_none, Option.isSome_iff_exists] at h
    obtain ⟨⟨⟨h1, h2⟩, h3⟩, h4⟩ := h
    exact k_freeTxn hR s t ht link hd at_ id (vl0_iff h1) (by omega) (place_lt hR h2) (small_iff h3) (okPool_iff hR.nt h4) hcnt b0 b1 b2 b3 b4 b5 k0 k1 k2 k3 k4 k5
  case slotB x link hd =>
    obtain ⟨b0, b1, b2, b3, b4, b5, e, k0, k1, k2, k3, k4, k5⟩ := hk
    obtain ⟨rfl, rfl, rfl⟩ := func_inj e
    simp only [et, ec, Bool.and_eq_true, decide_eq_true_eq, Bool.or_eq_true, bne_iff_ne, Option.isNone_iff_eq_none, Option.isSome_iff_exists] at h
    obtain ⟨⟨h1, h2⟩, h3⟩ := h
    exact k_slotB hR s t ht b0 b1 b2 b3 b4 b5 x link hd k0 k1 k2 k3 k4 k5 hcnt (vl_iff h1) h2 h3
  case slotE x link hd =>
    obtain ⟨b0, b1, b2, b3, b4, b5, e, k0, k1, k2, k3, k4, k5⟩ := hk
    obtain ⟨rfl, rfl, rfl⟩ := func_inj e
    exact k_slotE hR s t ht x link hd hcnt (vl_iff h) b0 b1 b2 b3 b4 b5 k0 k1 k2 k3 k4 k5
  case push link hd =>
    obtain ⟨b0, b1, b2, b3, b4, e, k0, k1, k2, k3, k4⟩ := hk
    obtain ⟨rfl, rfl, rfl⟩ := func_inj e
    exact k_push hR s t ht b0 b1 b2 b3 b4 link hd k0 k1 k2 k3 k4 hcnt (vl_iff h)
  case pushC link hd =>
    obtain ⟨b0, b1, b2, b3, b4, e, k0, k1, k2, k3, k4⟩ := hk
    obtain ⟨rfl, rfl, rfl⟩ := func_inj e
    simp only [et, ec, Bool.and_eq_true, decide_eq_true_eq, Bool.or_eq_true, bne_iff_ne, Option.isNone_iff_eq_none, Option.isSome_iff_exists] at h
    obtain ⟨⟨h1, h2⟩, h3⟩ := h
    exact k_pushC hR s t ht c hc link hd h1 h2 h3 hcnt b0 b1 b2 b3 b4 k0 k1 k2 k3 k4
  case over link =>
    obtain ⟨b0, b1, b2, b3, b4, e, k0, k1, k2, k3, k4⟩ := hk
    obtain ⟨rfl, rfl, rfl⟩ := func_inj e
    simp only [et, ec, Bool.and_eq_true, decide_eq_true_eq, Bool.or_eq_true, bne_iff_ne, Option.isNone_iff_eq_none, Option.isSome_iff_exists] at h
    exact k_over hR s c hc link h hcnt b0 b1 b2 b3 b4 k0 k1 k2 k3 k4
  case overN link hd =>
    obtain ⟨b0, b1, b2, b3, b4, b5, e, k0, k1, k2, k3, k4, k5⟩ := hk
    obtain ⟨rfl, rfl, rfl⟩ := func_inj e
    exact k_overN hR s t ht b0 b1 b2 b3 b4 b5 link hd k0 k1 k2 k3 k4 k5 hcnt (vl_iff h)
  case overC link hd =>
    obtain ⟨b0, b1, b2, b3, b4, b5, e, k0, k1, k2, k3, k4, k5⟩ := hk
    obtain ⟨rfl, rfl, rfl⟩ := func_inj e
    simp only [et, ec, Bool.and_eq_true, decide_eq_true_eq, Bool.or_eq_true, bne_iff_ne, Option.isNone_iff_eq_none, Option.isSome_iff_exists] at h
    obtain ⟨h1, x, hx⟩ := h
    exact k_overC hR s t ht c hc link hd h1 x hx hcnt b0 b1 b2 b3 b4 b5 k0 k1 k2 k3 k4 k5
  case draw =>
    obtain ⟨b0, b1, b2, e, k0, k1, k2⟩ := hk
    obtain ⟨rfl, rfl, rfl⟩ := func_inj e
    simp only [et, ec, Bool.and_eq_true, decide_eq_true_eq, Bool.or_eq_true, bne_iff_ne, Option.isNone_iff_eq_none, Option.isSome_iff_exists] at h
    exact k_draw hR s h hcnt b0 b1 b2 k0 k1 k2
  case drawH x now =>
    obtain ⟨b0, b1, b2, e, k0, k1, k2⟩ := hk
    obtain ⟨rfl, rfl, rfl⟩ := func_inj e
    simp only [et, ec, Bool.and_eq_true, decide_eq_true_eq, Bool.or_eq_true, bne_iff_ne, Option.isNone_iff_eq_none, Option.isSome_iff_exists] at h
    obtain ⟨h1, h2⟩ := h
    exact k_drawH hR s x now h1 h2 hcnt b0 b1 b2 k0 k1 k2
  case turn x now =>
    obtain ⟨b0, b1, b2, b3, b4, e, k0, k1, k2, k3, k4⟩ := hk
    obtain ⟨rfl, rfl, rfl⟩ := func_inj e
    simp only [et, ec, Bool.and_eq_true, decide_eq_true_eq, Bool.or_eq_true, bne_iff_ne, Option.isNone_iff_eq_none, Option.isSome_iff_exists] at h
    obtain ⟨⟨h1, h2⟩, h3⟩ := h
    exact k_turn hR s t ht x now h1 h2 h3 hcnt b0 b1 b2 b3 b4 k0 k1 k2 k3 k4
  case helpJ =>
    obtain ⟨b0, b1, b2, e, k0, k1, k2⟩ := hk
    obtain ⟨rfl, rfl, rfl⟩ := func_inj e
    simp only [et, ec, Bool.and_eq_true, decide_eq_true_eq, Bool.or_eq_true, bne_iff_ne, Option.isNone_iff_eq_none, Option.isSome_iff_exists] at h
    obtain ⟨⟨h1, h2⟩, h3⟩ := h
    exact k_helpJ hR s t ht h1 h2 h3 hcnt b0 b1 b2 k0 k1 k2
  case wait i =>
    obtain ⟨b0, b1, b2, b3, b4, e, k0, k1, k2, k3, k4⟩ := hk
    obtain ⟨rfl, rfl, rfl⟩ := func_inj e
    simp only [et, ec, Bool.and_eq_true, decide_eq_true_eq, Bool.or_eq_true, bne_iff_ne, Option.isNone_iff_eq_none, Option.isSome_iff_exists] at h
    cases hb : t.bonds[i]? with
    | none => rw [hb] at h; cases h
    | some bd =>
    rw [hb] at h
    simp only [Bool.and_eq_true, decide_eq_true_eq] at h
    obtain ⟨⟨h1, h2⟩, h3⟩ := h
    exact k_wait hR s t ht c hc i bd hb h3 (by omega) (place_lt hR h1) (small_iff h2) hcnt b0 b1 b2 b3 b4 k0 k1 k2 k3 k4
  case commit =>
    obtain ⟨b0, b1, b2, e, k0, k1, k2⟩ := hk
    obtain ⟨rfl, rfl, rfl⟩ := func_inj e
    simp only [et, ec, Bool.and_eq_true, decide_eq_true_eq, Bool.or_eq_true, bne_iff_ne, Option.isNone_iff_eq_none, Option.isSome_iff_exists] at h
    obtain ⟨⟨⟨⟨h1, h2⟩, h3⟩, h4⟩, h5⟩ := h
    exact k_commit hR s t ht hmt h1 h2 h3 (okKeys_iff h4) h5 hcnt b0 b1 b2 k0 k1 k2
  case abort er re =>
    obtain ⟨b0, b1, b2, b3, b4, e, k0, k1, k2, k3, k4⟩ := hk
    obtain ⟨rfl, rfl, rfl⟩ := func_inj e
    simp only [et, ec, Bool.and_eq_true, decide_eq_true_eq, Bool.or_eq_true, bne_iff_ne, Option.isNone_iff_eq_none, Option.isSome_iff_exists] at h
    obtain ⟨⟨⟨⟨⟨h1, h2⟩, h3⟩, h4⟩, h5⟩, h6⟩ := h
    exact k_abort hR s t ht hmt er re h1 h2 h3 h4 (okKeys_iff h5) h6 hcnt b0 b1 b2 b3 b4 k0 k1 k2 k3 k4
  case turns l r =>
    cases l with
    | nil =>
      obtain ⟨b0, b1, b2, b3, e, k0, k1, k2, k3⟩ := hk
      obtain ⟨rfl, rfl, rfl⟩ := func_inj e
      exact k_turnsE hR s t ht c hc r hs hcnt b0 b1 b2 b3 k0 k1 k2 k3
    | cons x l =>
      obtain ⟨b0, b1, b2, b3, b4, e, k0, k1, k2, k3, k4⟩ := hk
      obtain ⟨rfl, rfl, rfl⟩ := func_inj e
      simp only [decide_eq_true_eq] at h
      exact k_turnsC hR s c hc x l r h hcnt b0 b1 b2 b3 b4 k0 k1 k2 k3 k4
end Go.Proofs.YtbefcdjcefmicaaGreat.Em

namespace Go.Proofs.YtbefcdjcefmicaaGreat.Em
open Go.ChangeShapes Go.WideShapes Go.ChangeAt Go.RowKit En
set_option linter.unusedVariables false
set_option linter.unusedSimpArgs false
set_option maxRecDepth 100000
set_option maxHeartbeats 1600000

theorem pairCs_len : ∀ l : List (Nat × Nat), (pairCs l).length = l.length * 2
  | [] => rfl
  | p :: l => by have := pairCs_len l; simp [pairCs, two] at this ⊢; omega
theorem pairCs_get : ∀ (l : List (Nat × Nat)) (k : Nat) (p : Nat × Nat), l[k]? = some p → (pairCs l)[k * 2]? = some (.int .i64 (p.1 : Int)) ∧ (pairCs l)[k * 2 + 1]? = some (.int .i64 (p.2 : Int))
  | [], _, _, h => by cases h
  | q :: l, 0, p, h => by obtain rfl : q = p := by simpa using h
                          exact ⟨rfl, rfl⟩
  | q :: l, k + 1, p, h => by
    have := pairCs_get l k p (by simpa using h)
    rw [show (k + 1) * 2 = k * 2 + 1 + 1 by omega]
    exact this
theorem run_eqP (a b c d : Int) (w : World) : (binOp .neq 140 (.agg #[.int .i64 a, .int .i64 b]) (.agg #[.int .i64 c, .int .i64 d])).run Tryz.prog w = .ok (.bool (!(decide (a = c) && decide (b = d)))) w := by
  go_simp
  repeat' split
  all_goals simp [*]
set_option maxHeartbeats 1000000 in
theorem same_pairs (va vb : Value) (ps : List (Nat × Nat)) (ba bb : Nat) (w : World) (hA : Ow.Row w ba 2 va (pairCs ps)) (hB : Ow.Row w bb 2 vb (pairCs ps)) :
    Calls Tryz.prog 46 #[va, vb] w fun e w' => e = .returned (.bool true) ∧ Below w.heap.size w w' := by
  obtain ⟨a, n, cap, rfl, hn, hc, hm, ha⟩ := hA
  obtain ⟨b, n', cap', rfl, hn', hc', hm', hb⟩ := hB
  rw [pairCs_len] at hn hn'
  obtain rfl : n = n' := by omega
  have HX : Hid (ps.length = n) := by exact (by omega : ps.length = n)
  unfold maxLen at hm
  have hmax : n ≤ 9223372036854775807 := by omega
  clear hn hn' hm hm' hc hc'
  go_enter Tryz.func46, Tryz.ntmps46
  go_wp2
  go_loopw [5] (fun i wr => (∃ k : Nat, k ≤ n ∧ i = .int .i64 k) ∧ Below w.heap.size w wr) (fun i _ => n - (intOf i).toNat)
  case atStart => exact ⟨⟨0, by omega, rfl⟩, Below.refl _ _⟩
  case round =>
    obtain ⟨⟨k, hk, rfl⟩, hbel⟩ := hrel
    by_cases hlt : k < n
    · rcases ha with ha | ⟨g, off, rfl, _, hg, hcell⟩
      · omega
      rcases hb with hb | ⟨g', off', rfl, _, hg', hcell'⟩
      · omega
      obtain ⟨p, hp⟩ : ∃ p, ps[k]? = some p := ⟨_, List.getElem?_eq_getElem (by rw [HX.out]; exact hlt)⟩
      obtain ⟨e1, e2⟩ := pairCs_get ps k p hp
      have i1 : (0 : Int) ≤ (k : Int) := by omega
      have i2 : (k : Int) < (n : Int) := by omega
      have c1 := hcell (k * 2) (by omega)
      have c2 := hcell (k * 2 + 1) (by omega)
      have d1 := hcell' (k * 2) (by omega)
      have d2 := hcell' (k * 2 + 1) (by omega)
      rw [e1] at c1 d1
      rw [e2] at c2 d2
      replace c1 := (hbel.cell (p := ⟨g, off + k * 2, none⟩) hg).trans c1
      replace c2 := (hbel.cell (p := ⟨g, off + (k * 2 + 1), none⟩) hg).trans c2
      replace d1 := (hbel.cell (p := ⟨g', off' + k * 2, none⟩) hg').trans d1
      replace d2 := (hbel.cell (p := ⟨g', off' + (k * 2 + 1), none⟩) hg').trans d2
      have c3 : wr.cell? ⟨g, off + k * 2 + 1, none⟩ = some (.int .i64 (p.2 : Int)) := c2
      have d3 : wr.cell? ⟨g', off' + k * 2 + 1, none⟩ = some (.int .i64 (p.2 : Int)) := d2
      have hcmp := run_eqP p.1 p.2 p.1 p.2
      rw [show (!(decide ((p.1 : Int) = (p.1 : Int)) && decide ((p.2 : Int) = (p.2 : Int)))) = false by simp] at hcmp
      generalize (p.1 : Int) = x at *
      generalize (p.2 : Int) = y at *
      clear hp e1 e2 hcell hcell'
      go_wp2_with fail
      go_quiet (fail)
      go_wp2_with fail
      exact ⟨⟨⟨k + 1, by omega, by go_num⟩, ⟨hbel.os, hbel.tape, hbel.output, hbel.size, hbel.block⟩⟩, by simp [intOf]; omega⟩
    · obtain rfl : k = n := by omega
      go_wp2_with fail
      go_ret
      exact ⟨rfl, hbel⟩
theorem own_row {w : World} {base : Nat} {e : TypeId} {size : Nat} {v : Value} {n : Nat} {xs : List Value} (h : w.ownsRow base e size v n xs) : Ow.Row w base size v xs := by
  obtain ⟨a, cap, rfl, h1, h2, a', m, c, e0, h3, h4, h5, h6⟩ := Ow.own_form h
  simp only [Value.slice.injEq] at e0
  obtain ⟨rfl, rfl, rfl⟩ := e0
  exact ⟨a, n, cap, rfl, h3, h1, by unfold maxLen; omega, h6⟩
theorem row_new (w : World) (xs : List Value) (T : TypeId) (n size : Nat) (hl : xs.length = n * size) (hn : n ≤ 1000000) : Ow.Row (w.alloc (.cells xs.toArray T)) 0 size (.slice (some ⟨w.heap.size, 0, none⟩) n n) xs := by
  refine ⟨_, n, n, rfl, hl, Nat.le_refl _, by unfold maxLen; omega, .inr ⟨w.heap.size, 0, rfl, Nat.zero_le _, by simp, fun j hj => ?_⟩⟩
  have hj' : j < xs.length := by omega
  rw [List.getElem?_eq_getElem hj']
  have h := Ow.new_row w xs T w.heap.size rfl j xs[j] (List.getElem?_eq_getElem hj')
  have e1 : (⟨w.heap.size, 0, none⟩ : Addr).add j = ⟨w.heap.size, 0 + j, none⟩ := by
    unfold Addr.add; split
    · rename_i h; subst h; rfl
    · rfl
  rw [e1] at h
  exact h
theorem Row.alloc' {w : World} {base size : Nat} {v : Value} {xs : List Value} (h : Ow.Row w base size v xs) (o : Obj) : Ow.Row (w.alloc o) base size v xs := h.below ((Below.refl _ w).alloc (Nat.le_refl _) o)
theorem fld_live (l y1 y2 y3 y4 y5 y6 y7 y8 : Value) (w : World) : (Instr.field 38 (.agg #[l, y1, y2, y3, y4, y5, y6, y7, y8]) 0).run Tryz.prog w = .ok l w := by rfl
theorem fld_busy (l y1 y2 y3 y4 y5 y6 y7 y8 : Value) (w : World) : (Instr.field 38 (.agg #[y1, l, y2, y3, y4, y5, y6, y7, y8]) 1).run Tryz.prog w = .ok l w := by rfl
theorem fld_ops (l y1 y2 y3 y4 y5 y6 y7 y8 : Value) (w : World) : (Instr.field 38 (.agg #[y1, y2, y3, y4, y5, y6, y7, y8, l]) 8).run Tryz.prog w = .ok l w := by rfl
end Go.Proofs.YtbefcdjcefmicaaGreat.Em

namespace Go.Proofs.YtbefcdjcefmicaaGreat.Em
open Go.ChangeShapes Go.WideShapes Go.ChangeAt Go.RowKit En
set_option linter.unusedVariables false
set_option linter.unusedSimpArgs false
set_option maxRecDepth 100000
set_option maxHeartbeats 1600000

theorem infoPr : (Tryz.prog.info? 140).map (fun i => (i.zero, i.size, i.bytes)) = some (some (.agg #[.int .i64 0, .int .i64 0]), 2, 16) := by kernel_rfl
theorem pairCs_one : ∀ (l : List (Nat × Nat)), ∀ u ∈ pairCs l, u.oneCell' = true
  | [], u, h => by cases h
  | p :: l, u, h => by
    have e : pairCs (p :: l) = .int .i64 (p.1 : Int) :: .int .i64 (p.2 : Int) :: pairCs l := rfl
    rw [e] at h
    rcases List.mem_cons.1 h with rfl | h
    · rfl
    · rcases List.mem_cons.1 h with rfl | h
      · rfl
      · exact pairCs_one l u h
theorem own_but {w w' : World} {base : Nat} {v : Value} {n b : Nat} {xs : List Value} {cs : Array Value} {T : TypeId} (h : w.ownsRow base 140 2 v n xs) (hb : But b w w') (hc : w.heap[b]? = some (.cells cs T)) (hT : T ≠ 140) : w'.ownsRow base 140 2 v n xs := by
  rcases h.2 with ⟨e1, e2⟩ | ⟨g, cap', cur, hv, hb', hg, hx1, hx2, hx3, hx4⟩
  · exact ⟨h.1, .inl ⟨e1, e2⟩⟩
  · have hgne : g ≠ b := by
      rintro rfl
      rw [hc] at hg
      simp only [Option.some.injEq, Obj.cells.injEq] at hg
      exact hT hg.2.1
    exact ⟨h.1, .inr ⟨g, cap', cur, hv, hb', (hb.block g hgne).trans hg, hx1, hx2, hx3, hx4⟩⟩
theorem copied_any (w : World) (re rv ro rr : Int) (a : Option Addr) (n cap : Nat) (ps : List (Nat × Nat)) (hr : Ow.Row w 0 2 (.slice a n cap) (pairCs ps)) (hn : ps.length = n) (hl : n ≤ 1000000) :
    Calls Tryz.prog 54 #[.agg #[.int .i64 re, .int .i64 rv, .slice a n cap, .int .i64 ro, .int .i64 rr]] w fun e w' => ∃ a' c', e = .returned (.agg #[.int .i64 re, .int .i64 rv, .slice a' n c', .int .i64 ro, .int .i64 rr]) ∧ w'.ownsRow w.heap.size 140 2 (.slice a' n c') n (pairCs ps) ∧ Below w.heap.size w w' := by
  obtain ⟨i0, hi, hz0, hz1, hz2⟩ := info_parts infoPr
  have HR := Lib.hid hr
  have HM := Lib.hid (And.intro hn hl)
  obtain ⟨W, hW⟩ : ∃ W, W = (w.alloc (.cells #[.int .i64 re, .int .i64 rv, .slice a n cap, .int .i64 ro, .int .i64 rr] 42)).alloc (.cells #[.int .i64 0, .int .i64 0, .slice none 0 0, .int .i64 0, .int .i64 0] 42) := ⟨_, rfl⟩
  have hWs : W.heap.size = w.heap.size + 1 + 1 := by rw [hW]; simp
  have hWb : Below w.heap.size w W := by rw [hW]; exact (((Below.refl _ _).alloc (Nat.le_refl _) _)).alloc (by simp) _
  have hW0 : W.heap[w.heap.size]? = some (.cells #[.int .i64 re, .int .i64 rv, .slice a n cap, .int .i64 ro, .int .i64 rr] 42) := by rw [hW, heap_alloc_old _ _ (by simp), heap_alloc_new]
  have hW1 : W.heap[w.heap.size + 1]? = some (.cells #[.int .i64 0, .int .i64 0, .slice none 0 0, .int .i64 0, .int .i64 0] 42) := by
    have := heap_alloc_new (w.alloc (.cells #[.int .i64 re, .int .i64 rv, .slice a n cap, .int .i64 ro, .int .i64 rr] 42)) (.cells #[.int .i64 0, .int .i64 0, .slice none 0 0, .int .i64 0, .int .i64 0] 42)
    rw [hW]; simpa using this
  have HW := Lib.hid (And.intro hWs (And.intro hWb (And.intro hW0 (And.intro hW1 (hr.below hWb)))))
  -- behind the append
  have HF : Hid (∀ v' w2, w2.ownsRow w.heap.size 140 2 v' n (pairCs ps) → W.grownBy w2 none → ∃ a' c', v' = .slice a' n c' ∧ w2.heap[w.heap.size]? = some (.cells #[.int .i64 re, .int .i64 rv, .slice a n cap, .int .i64 ro, .int .i64 rr] 42) ∧ w2.heap[w.heap.size + 1]? = some (.cells #[.int .i64 0, .int .i64 0, .slice none 0 0, .int .i64 0, .int .i64 0] 42) ∧ w2.cell? ⟨w.heap.size, 2, none⟩ = some (.slice a n cap) ∧ w2.frozen? ⟨w.heap.size, 2, none⟩ = false ∧ Below w.heap.size w w2) := by
    intro v' w2 q1 q2
    obtain ⟨a', c', rfl, _⟩ := Ow.own_form q1
    have h0 : w2.heap[w.heap.size]? = _ := (q2.block _ (by rw [hWs]; omega) (by simp)).trans hW0
    have h1 : w2.heap[w.heap.size + 1]? = _ := (q2.block _ (by rw [hWs]; omega) (by simp)).trans hW1
    refine ⟨a', c', rfl, h0, h1, by simp [World.cell?, h0], by simp [World.frozen?, h0], ⟨q2.os.trans hWb.os, q2.tape.trans hWb.tape, q2.output.trans hWb.output, Nat.le_trans hWb.size q2.size, fun b hb => (q2.block b (by rw [hWs]; omega) (by simp)).trans (hWb.block b hb)⟩⟩
  have w1c : W.cell? ⟨w.heap.size, 2, none⟩ = some (.slice a n cap) := by simp [World.cell?, hW0]
  clear hW0 hW1 hWb hr hn hl
  go_enter Tryz.func54, Tryz.ntmps54
  go_upto_region 1 with fail
  rw [← hW]
  clear hW
  go_upto_region 2 with (refine Ow.wpList_append_row W rfl (.const (.slice none 0 0)) (.tmp 4) 40 rfl w.heap.size 140 i0 _ 2 16 Tryz.underlying40 hi hz0 hz1 hz2 rfl (by decide) (.slice none 0 0) 0 [] rfl (World.ownsRow_nil _ _ _ _) 0 (.slice a n cap) (pairCs ps) rfl HW.out.2.2.2.2 n (by rw [pairCs_len, HM.out.1]) (pairCs_one ps) (by have := HM.out.2; unfold maxLen; omega) (by have := HM.out.2; omega) (by rw [HW.out.1]; omega) ?_; intro v' w2 q1 q2; rw [List.nil_append, Nat.zero_add] at q1; obtain ⟨a', c', rfl, f0, f1, f2, f3, f4⟩ := HF.out _ _ q1 q2; have HQ := Lib.hid (And.intro q1 (And.intro f0 (And.intro f1 f4))); clear q1 q2 f0 f1 f4)
  generalize hw3 : w2.setCell ⟨w.heap.size, 2, none⟩ (.slice a' n c') = w3 at *
  obtain ⟨q1, f0, f1, f4⟩ := HQ.out
  have g0 : w3.heap[w.heap.size]? = some (.cells #[.int .i64 re, .int .i64 rv, .slice a' n c', .int .i64 ro, .int .i64 rr] 42) := by rw [← hw3]; exact heap_setCell_same f0 2 _
  have g1 : w3.heap[w.heap.size + 1]? = some (.cells #[.int .i64 0, .int .i64 0, .slice none 0 0, .int .i64 0, .int .i64 0] 42) := by rw [← hw3, Below.heap_setCell _ _ _ _ (by simp)]; exact f1
  have gb : Below w.heap.size w w3 := by rw [← hw3]; exact ⟨f4.os, f4.tape, f4.output, by simpa [World.setCell] using f4.size, fun b hb => (Below.heap_setCell _ _ _ _ (by rintro rfl; simp at hb)).trans (f4.block b hb)⟩
  have go : w3.ownsRow w.heap.size 140 2 (.slice a' n c') n (pairCs ps) := by
    rw [← hw3]
    exact own_but q1 (But.setCell w2 ⟨w.heap.size, 2, none⟩ _) f0 (by decide)
  have HG := Lib.hid (And.intro g0 (And.intro (there_of g1) (And.intro gb (And.intro go g1))))
  have y0 : w3.cell? ⟨w.heap.size, 0, none⟩ = some (.int .i64 re) := by simp [World.cell?, g0]
  have y1 : w3.cell? ⟨w.heap.size, 1, none⟩ = some (.int .i64 rv) := by simp [World.cell?, g0]
  have y2 : w3.cell? ⟨w.heap.size, 2, none⟩ = some (.slice a' n c') := by simp [World.cell?, g0]
  have y3 : w3.cell? ⟨w.heap.size, 3, none⟩ = some (.int .i64 ro) := by simp [World.cell?, g0]
  have y4 : w3.cell? ⟨w.heap.size, 4, none⟩ = some (.int .i64 rr) := by simp [World.cell?, g0]
  clear q1 f0 f1 f4 g0 g1 gb go HQ HF f2 f3 w1c
  go_wp2_with (refine wpList_store_mid rfl 42 (.tmp 2) (.tmp 7) rfl (w.heap.size + 1) 0 #[.int .i64 re, .int .i64 rv, .slice a' n c', .int .i64 ro, .int .i64 rr] rfl rfl HG.out.2.1 (by kernel_rfl) (by simp [Value.oneCell']) ?_; generalize hws : World.setCells _ _ _ _ = ws)
  have hfin := heap_setCells5 HG.out.2.2.2.2 (.int .i64 re) (.int .i64 rv) (.slice a' n c') (.int .i64 ro) (.int .i64 rr)
  have hbut := But.setCells (w.heap.size + 1) [.int .i64 re, .int .i64 rv, .slice a' n c', .int .i64 ro, .int .i64 rr] 0 w3
  rw [show w3.setCells (w.heap.size + 1) 0 [.int .i64 re, .int .i64 rv, .slice a' n c', .int .i64 ro, .int .i64 rr] = ws from hws] at hbut hfin
  refine bodyPost_ret (results_cell_row rfl _ _ (w.heap.size + 1) 42 #[.int .i64 re, .int .i64 rv, .slice a' n c', .int .i64 ro, .int .i64 rr] _ _ rfl hfin Tryz.underlying42 rfl (by kernel_rfl)) rfl ?_
  exact ⟨a', c', rfl, own_but HG.out.2.2.2.1 hbut HG.out.2.2.2.2 (by decide), ⟨hbut.os.trans HG.out.2.2.1.os, hbut.tape.trans HG.out.2.2.1.tape, hbut.output.trans HG.out.2.2.1.output, by rw [hbut.size]; exact HG.out.2.2.1.size, fun b hb => (hbut.block b (by omega)).trans (HG.out.2.2.1.block b hb)⟩⟩
/-- A row of one's own as a row of pairs that stays. -/
theorem prow_of_own {L : Lab} {w : World} {base : Nat} {a : Option Addr} {n c : Nat} {xs : List Value} (h : w.ownsRow base 140 2 (.slice a n c) n xs) (hL : ∀ b, base ≤ b → b < w.heap.size → L b = none) : PRow L w (.slice a n c) xs := by
  obtain ⟨a', c', e, h1, h2, h3⟩ := Ow.own_form h
  obtain ⟨rfl, rfl⟩ : a = a' ∧ c = c' := by simpa using e
  refine ⟨⟨a, n, c, rfl, h.1, h1, by unfold maxLen; omega, ?_⟩, ?_⟩
  · rcases h.2 with ⟨h0, hn⟩ | ⟨g, cap', cur, hv, hb, hg, hnc, hcm, hcs, htake⟩
    · exact .inl (by first | exact h0 | omega)
    · obtain ⟨rfl, rfl⟩ : a = some ⟨g, 0, none⟩ ∧ c = cap' := by simpa using hv
      refine .inr ⟨g, 0, rfl, hL g (h.lt g rfl).1 (h.lt g rfl).2, (h.lt g rfl).2, fun j hj => ?_⟩
      rw [Nat.zero_add]
      exact h.cellAt j hj
  · intro g off n' cap hv
    rcases h.2 with ⟨h0, hn⟩ | ⟨g', cap', cur, hv', hb, hg, hnc, hcm, hcs, htake⟩
    · obtain ⟨_, rfl, _⟩ : a = some ⟨g, off, none⟩ ∧ n = n' ∧ c = cap := by simpa using hv
      exact .inl (by first | exact h0 | omega)
    · rw [hv'] at hv
      simp only [Value.slice.injEq, Option.some.injEq, Addr.mk.injEq, and_true] at hv
      obtain ⟨⟨rfl, _⟩, _⟩ := hv
      exact .inr ⟨cur, hg⟩
end Go.Proofs.YtbefcdjcefmicaaGreat.Em
