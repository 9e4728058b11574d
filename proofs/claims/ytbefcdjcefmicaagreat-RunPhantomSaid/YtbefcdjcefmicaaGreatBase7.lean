/- Texts of this claim, laid together: St, Op, Su, Ch. -/
import Derived.Test.YtbefcdjcefmicaaGreatBase6
import Derived.Test.YtbefcdjcefmicaaGreatBase5
import Derived.Test.YtbefcdjcefmicaaGreatBase4
namespace Go.Proofs.YtbefcdjcefmicaaGreat.Em
open Go.ChangeShapes Go.WideShapes Go.ChangeAt Go.RowKit En
set_option linter.unusedVariables false
set_option linter.unusedSimpArgs false
set_option maxRecDepth 100000
set_option maxHeartbeats 1600000

theorem sessionOk (s : Nat) (hs : s < 8) (w : World) : Calls Tryz.prog 48 #[.int .i64 (s : Int)] w fun e w' => e = .returned (.bool true) ∧ w = w' := by
  have h1 : (0 : Int) ≤ (s : Int) := by omega
  have h2 : (s : Int) < 8 := by omega
  have h3 : decide ((0 : Int) ≤ (s : Int)) = true := by simp
  have h4 : decide ((s : Int) < 8) = true := by simp; omega
  have h5 : (s < 8) = True := by simpa using hs
  go_enter Tryz.func48, Tryz.ntmps48
  go_wp2
  go_ret
  exact ⟨rfl, rfl⟩
/-- An engine between its calls. -/
structure Live (A : Book) (σ : St) (w : World) : Prop where
  rep : Rep A σ w
  mp : A.mp = 0
  mt : ∀ s, A.mt s = 0
  call : ∀ s, s < 8 → ∀ c, σ.calls.getD s none = some c → A.vcall s = ptr (A.bc s) ∧ ∃ k, c.k = some k ∧ KRep (kp A σ s) A.L w (A.vnext s) k
  idle : ∀ s, s < 8 → σ.calls.getD s none = none → A.vcall s = .pointer none
/-- What of the book stays, but for a session. -/
structure StayQ (A A' : Book) (s : Nat) : Prop where
  be : A'.be = A.be
  mp : A'.mp = A.mp
  mt : A'.mt = A.mt
  bt : ∀ q, q ≠ s → A'.bt q = A.bt q
  bc : ∀ q, q ≠ s → A'.bc q = A.bc q
  bx : ∀ q, q ≠ s → A'.bx q = A.bx q
  vpairs : ∀ q, q ≠ s → A'.vpairs q = A.vpairs q
  vnext : ∀ q, q ≠ s → A'.vnext q = A.vnext q
  vcall : ∀ q, q ≠ s → A'.vcall q = A.vcall q
theorem Live.of {A A' : Book} {σ σ' : St} {w w' : World} {s : Nat} (hL : Live A σ w) (r : Rep A' σ' w') (g : Grow A.L w A'.L w') (st : StayQ A A' s) (hq : ∀ q, q ≠ s → σ'.calls.getD q none = σ.calls.getD q none)
    (h1 : ∀ c, σ'.calls.getD s none = some c → A'.vcall s = ptr (A'.bc s) ∧ ∃ k, c.k = some k ∧ KRep (kp A' σ' s) A'.L w' (A'.vnext s) k) (h2 : σ'.calls.getD s none = none → A'.vcall s = .pointer none) : Live A' σ' w' := by
  refine ⟨r, st.mp.trans hL.mp, fun q => by rw [st.mt]; exact hL.mt q, fun q hq8 c hc => ?_, fun q hq8 hc => ?_⟩
  · by_cases h : q = s
    · subst h; exact h1 c hc
    · have hc0 := (hq q h).symm.trans hc
      obtain ⟨e1, k, e2, e3⟩ := hL.call q hq8 c hc0
      have ek : kp A' σ' q = kp A σ q := by
        unfold kp
        rw [st.be, st.bt q h, st.bc q h, st.bx q h, st.vpairs q h, call_get hc, call_get hc0]
      refine ⟨by rw [st.vcall q h, st.bc q h]; exact e1, k, e2, ?_⟩
      rw [ek, st.vnext q h]
      exact e3.grow g
  · by_cases h : q = s
    · subst h; exact h2 hc
    · rw [st.vcall q h]
      exact hL.idle q hq8 ((hq q h).symm.trans hc)
/-- A step's closure can be called. -/
theorem KRep.enter {p : KP} {L : Lab} {w : World} {v : Value} {k : K} (h : KRep p L w v k) : ∃ f b c, v = .func (.func f) b c ∧ ∀ args w, (callFunc f args).run Tryz.prog w = .ok (.enter f args) w := by
  cases k <;> first
    | (obtain ⟨b0, e, _⟩ := h; exact ⟨_, _, _, e, fun args w => by kernel_rfl⟩)
    | (obtain ⟨b0, b1, e, _⟩ := h; exact ⟨_, _, _, e, fun args w => by kernel_rfl⟩)
    | (obtain ⟨b0, b1, b2, e, _⟩ := h; exact ⟨_, _, _, e, fun args w => by kernel_rfl⟩)
    | (obtain ⟨b0, b1, b2, b3, e, _⟩ := h; exact ⟨_, _, _, e, fun args w => by kernel_rfl⟩)
    | (obtain ⟨b0, b1, b2, b3, b4, e, _⟩ := h; exact ⟨_, _, _, e, fun args w => by kernel_rfl⟩)
    | (obtain ⟨b0, b1, b2, b3, b4, b5, e, _⟩ := h; exact ⟨_, _, _, e, fun args w => by kernel_rfl⟩)
    | (rename_i l r; cases l
       · obtain ⟨b0, b1, b2, b3, e, _⟩ := h; exact ⟨_, _, _, e, fun args w => by kernel_rfl⟩
       · obtain ⟨b0, b1, b2, b3, b4, e, _⟩ := h; exact ⟨_, _, _, e, fun args w => by kernel_rfl⟩)
/-- What a step answers. -/
def Stepped (A : Book) (w : World) (σ' : St) (kind : Int) (r : Res) : Ending → World → Prop := fun e w' => ∃ A' vp, e = .returned (.tuple #[.agg #[.int .i64 kind, .int .i64 (r.e : Int), .int .i64 (r.value : Int), vp, .int .i64 (r.over : Int), .int .i64 (r.reason : Int)], .int .i64 0]) ∧ FRow A'.L w' 2 vp (pairCs r.pairs) ∧ Live A' σ' w' ∧ Grow A.L w A'.L w' ∧ A'.be = A.be
/-- What a step's closure does. -/
def RunsTo (σ1 : St) (s : Nat) (k : K) : Prop := ∀ A w1 f b c, Rep A σ1 w1 → A.mp = 0 → A.mt s = 0 → KRep (kp A σ1 s) A.L w1 (.func (.func f) b c) k → Calls Tryz.prog f (b ++ c) w1 (Ran A w1 s (σ1.run s k))
theorem step_go {A : Book} {σ : St} {w : World} (hL : Live A σ w) (s : Nat) (hs : s < 8) (t : Txn) (ht : σ.txns.getD s none = some t) (c : Cal) (hc : σ.calls.getD s none = some c) (k : K) (hk : c.k = some k) (hcnt : σ.count < 3000000000000000000) (σ2 : St) (ok : Option K) (hrun : (σ.setC s { c with waits := false }).run s k = (σ2, ok)) (HS : RunsTo (σ.setC s { c with waits := false }) s k) (c2 : Cal) (hc2 : σ2.calls.getD s none = some c2) (dl : Nat) (hdl : σ2.count = σ.count + dl) (hd1 : dl < 1000000) (hlk : σ2.looks < 1000000000000000000) (hcq : ∀ q, q ≠ s → σ2.calls.getD q none = σ.calls.getD q none) (k' : K) (hok : ok = some k') (hov : c2.over = false) :
    Calls Tryz.prog 19 #[.pointer (some ⟨A.be, 0, none⟩), .int .i64 (s : Int)] w (Stepped A w ({ σ2.setC s { c2 with k := ok } with looks := σ2.looks + dl }) (if c2.waits then 2 else 1) {}) := by
  obtain ⟨Q, hQ⟩ : ∃ Q, Q = Stepped A w ({ σ2.setC s { c2 with k := ok } with looks := σ2.looks + dl }) (if c2.waits then 2 else 1) {} := ⟨_, rfl⟩
  rw [← hQ]
  have HQ := Lib.hid hQ
  clear hQ
  obtain ⟨r0, g0, fl, fh⟩ := hL.rep.newTmp (.cells #[.int .i64 0, .int .i64 0, .int .i64 0, .slice none 0 0, .int .i64 0, .int .i64 0] 44)
  obtain ⟨hvc, k0, hk0, hkr⟩ := hL.call s hs c hc
  obtain rfl : k = k0 := by rw [hk] at hk0; exact Option.some.inj hk0
  obtain ⟨fv, fb, fc, hvn, hent⟩ := hkr.enter
  have hsok := Lib.hid (sessionOk s hs)
  have b1 : (s : Int) < 8 := by omega
  have b0 : (0 : Int) ≤ (s : Int) := by omega
  have v0 : (w.alloc (.cells #[.int .i64 0, .int .i64 0, .int .i64 0, .slice none 0 0, .int .i64 0, .int .i64 0] 44)).cell? ⟨A.be, 13 + s, none⟩ = some (.pointer (some ⟨A.bc s, 0, none⟩)) := by rw [← show A.vcall s = .pointer (some ⟨A.bc s, 0, none⟩) from hvc]; exact r0.eng (13 + s) (engCs_call (A.tmp w.heap.size) σ hs)
  have v1 : (w.alloc (.cells #[.int .i64 0, .int .i64 0, .int .i64 0, .slice none 0 0, .int .i64 0, .int .i64 0] 44)).cell? ⟨A.be, 5 + s, none⟩ = some (.pointer (some ⟨A.bt s, 0, none⟩)) := by
    have h := r0.eng (5 + s) (engCs_txn (A.tmp w.heap.size) σ hs)
    have e : (A.tmp w.heap.size).tp σ s = .pointer (some ⟨A.bt s, 0, none⟩) := by unfold Book.tp; rw [ht]; rfl
    rw [e] at h; exact h
  obtain ⟨σ1, hσ1⟩ : ∃ σ1, σ1 = σ.setC s { c with waits := false } := ⟨_, rfl⟩
  rw [← hσ1] at hrun HS
  have hc1 : σ1.calls.getD s none = some { c with waits := false } := by rw [hσ1, getC_set (lt_of_call hc), if_pos rfl]
  have hkp : kp A σ1 s = kp A σ s := by unfold kp; rw [call_get hc1, call_get hc]
  -- behind the draws: the first store
  have H5 : Hid (∀ n w5, (w.alloc (.cells #[.int .i64 0, .int .i64 0, .int .i64 0, .slice none 0 0, .int .i64 0, .int .i64 0] 44)).drewN n = w5 → w5.cell? ⟨A.bc s, 10, none⟩ = some (.bool c.waits) ∧ w5.frozen? ⟨A.bc s, 10, none⟩ = false ∧ ∀ w6, w5.setCell ⟨A.bc s, 10, none⟩ (.bool false) = w6 → w6.cell? ⟨A.be, 2, none⟩ = some (.pointer (some ⟨A.ba, 0, none⟩)) ∧ w6.cell? ⟨A.bc s, 4, none⟩ = some (.func (.func fv) fb fc) ∧ Calls Tryz.prog 52 #[.pointer (some ⟨A.ba, 0, none⟩)] w6 (fun e w' => e = .returned (.int .i64 (σ.count : Int)) ∧ w6 = w') ∧ Calls Tryz.prog fv (fb ++ fc) w6 (Ran (A.tmp w.heap.size) w6 s (σ2, ok)) ∧ Grow A.L w (A.tmp w.heap.size).L w6 ∧ ((A.tmp w.heap.size).L w.heap.size = some .tmp ∧ w6.heap[w.heap.size]? = some (.cells #[.int .i64 0, .int .i64 0, .int .i64 0, .slice none 0 0, .int .i64 0, .int .i64 0] 44))) := by
    rintro n w5 rfl
    have r5 := r0.drewN n
    refine ⟨r5.call hc 10 rfl, r5.callF hc 10, ?_⟩
    rintro w6 rfl
    obtain ⟨r6, g6⟩ := r5.setCall hc { c with waits := false } 10 (.bool false) rfl rfl
    have g56 := (Grow.drewN (A.tmp w.heap.size).L (w.alloc (.cells #[.int .i64 0, .int .i64 0, .int .i64 0, .slice none 0 0, .int .i64 0, .int .i64 0] 44)) n).trans g6
    have gg := g0.trans g56
    rw [← hσ1] at r6
    have h4 : _ = some (A.vnext s) := r6.call hc1 4 rfl
    rw [hvn] at h4
    have h4' : (((w.alloc (.cells #[.int .i64 0, .int .i64 0, .int .i64 0, .slice none 0 0, .int .i64 0, .int .i64 0] 44)).drewN n).setCell ⟨A.bc s, 10, none⟩ (.bool false)).cell? ⟨A.bc s, 4, none⟩ = some (.func (.func fv) fb fc) := h4
    have hk6 := (hkr.grow gg)
    rw [hvn, ← hkp] at hk6
    have hS := HS (A.tmp w.heap.size) _ fv fb fc r6 hL.mp (hL.mt s) hk6
    rw [hrun] at hS
    have hcn := count_any r6 (by rw [hσ1]; exact Nat.lt_trans hcnt (by decide))
    have hcc : σ1.count = σ.count := by rw [hσ1]; rfl
    rw [hcc] at hcn
    exact ⟨r6.eng 2 rfl, h4', hcn, hS, gg, tmp_grow ⟨fl, fh⟩ g56⟩
  have HL0 := Lib.hid hL
  have HF := Lib.hid (And.intro hc2 (And.intro hdl (And.intro hcq (And.intro hs hlk))))
  have n1 : IntKind.i64.wrap (((σ.count + dl : Nat) : Int) - (σ.count : Int)) = (dl : Int) := by rw [IntKind.wrap_i64]; omega
  have n2 : IntKind.i64.wrap ((σ2.looks : Int) + (dl : Int)) = ((σ2.looks + dl : Nat) : Int) := by rw [IntKind.wrap_i64]; omega
  -- behind the closure: the next step is laid; the looks are counted
  have H7 : Hid (∀ A2 w2 v A3, A3 = { A2 with vnext := upF A2.vnext s v } → Rep A2 σ2 w2 → Stay (A.tmp w.heap.size) A2 s → w2.cell? ⟨A.bc s, 4, none⟩ = some (A2.vnext s) ∧ w2.frozen? ⟨A.bc s, 4, none⟩ = false ∧ ∀ w3, w2.setCell ⟨A.bc s, 4, none⟩ v = w3 → w3.cell? ⟨A.be, 23, none⟩ = some (.int .i64 (σ2.looks : Int)) ∧ w3.frozen? ⟨A.be, 23, none⟩ = false ∧ w3.cell? ⟨A.be, 2, none⟩ = some (.pointer (some ⟨A.ba, 0, none⟩)) ∧ Calls Tryz.prog 52 #[.pointer (some ⟨A.ba, 0, none⟩)] w3.drew (fun e w' => e = .returned (.int .i64 ((σ.count + dl : Nat) : Int)) ∧ w' = w3.drew) ∧
      ∀ w4, w3.drew.setCell ⟨A.be, 23, none⟩ (.int .i64 ((σ2.looks + dl : Nat) : Int)) = w4 → Rep A3 ({ σ2.setC s { c2 with k := ok } with looks := σ2.looks + dl }) w4 ∧ Grow A2.L w2 A2.L w4 ∧ w4.cell? ⟨A.bc s, 10, none⟩ = some (.bool c2.waits) ∧ w4.cell? ⟨A.bc s, 11, none⟩ = some (.bool c2.over)) := by
    intro A2 w2 v A3 hA3 q st
    have ebc : A2.bc = A.bc := st.bc
    have ebe : A2.be = A.be := st.be
    have eba : A2.ba = A.ba := st.ba
    have x4 := q.call hc2 4 (v := A2.vnext s) rfl
    have z4 := q.callF hc2 4
    rw [ebc] at x4 z4
    refine ⟨x4, z4, ?_⟩
    rintro w3 rfl
    obtain ⟨r3, g3⟩ := q.nextSet hc2 v ok
    rw [← hA3, ebc] at r3
    rw [ebc] at g3
    have e3 : A3.be = A.be := by rw [hA3]; exact ebe
    have e3a : A3.ba = A.ba := by rw [hA3]; exact eba
    have e3c : A3.bc = A.bc := by rw [hA3]; exact ebc
    have e3L : A3.L = A2.L := by rw [hA3]
    have y23 := r3.eng 23 (v := .int .i64 (σ2.looks : Int)) rfl
    have z23 := r3.engF 23
    have y2 := r3.eng 2 (v := .pointer (some ⟨A3.ba, 0, none⟩)) rfl
    have hcn := flip (count_any r3.drew (by show σ2.count < _; omega))
    rw [e3] at y23 z23 y2
    rw [e3a] at hcn y2
    rw [show (σ2.setC s { c2 with k := ok }).count = σ.count + dl from hdl] at hcn
    refine ⟨y23, z23, y2, hcn, ?_⟩
    intro w4 hw4
    obtain ⟨r4, g4⟩ := r3.drew.looksSet (σ2.looks + dl)
    rw [e3, hw4] at r4 g4
    rw [e3L] at g4
    have hc4 : ({ σ2.setC s { c2 with k := ok } with looks := σ2.looks + dl } : St).calls.getD s none = some { c2 with k := ok } := by show (σ2.setC s { c2 with k := ok }).calls.getD s none = _; rw [getC_set (lt_of_call hc2), if_pos rfl]
    have a10 := r4.call hc4 10 (v := .bool c2.waits) rfl
    have a11 := r4.call hc4 11 (v := .bool c2.over) rfl
    rw [e3c] at a10 a11
    exact ⟨r4, (g3.trans (Grow.drew _ _)).trans g4, a10, a11⟩
  have hwx : (w.alloc (.cells #[.int .i64 0, .int .i64 0, .int .i64 0, .slice none 0 0, .int .i64 0, .int .i64 0] 44)).cell? ⟨A.bc s, 10, none⟩ = some (.bool c.waits) := r0.call hc 10 rfl
  have HVC := Lib.hid hvc
  clear hL ht hc hk hcnt hrun HS hc2 hdl hd1 hlk hcq r0 g0 fl fh hvc hk0 hkr hvn hσ1 hc1 hkp hs
  generalize (σ.count : Int) = ca at *
  generalize ((σ.count + dl : Nat) : Int) = cb at *
  generalize ((σ2.looks + dl : Nat) : Int) = lb at *
  go_enter Tryz.func19, Tryz.ntmps19
  go_wp2_with (go_at_call 48; refine (hsok.out _).mono ?_; rintro e w' ⟨rfl, rfl⟩)
  generalize hw0 : w.alloc _ = w0 at *
  go_quiet (fail)
  generalize hw5 : w0.drewN _ = w5
  obtain ⟨x10, z10, h6⟩ := H5.out _ w5 hw5
  obtain ⟨y2, y4, hcn, hS, gg, fD⟩ := h6 _ rfl
  have HC := Lib.hid hcn
  have HX := Lib.hid (And.intro hS (And.intro gg fD))
  clear hcn hS gg fD h6 hw5 hw0 H5 v0 v1 hwx
  go_wp2_with (go_at_call 52; refine HC.out.mono ?_; rintro e w' ⟨rfl, rfl⟩)
  refine HX.out.1.mono ?_
  rintro e w2 ⟨A2, v, rfl, q1, q2, q3, q4⟩
  subst hok
  obtain ⟨f2, u2, u3, rfl, hent2⟩ := KRep.enter q4
  obtain ⟨x4, z4, h3⟩ := H7.out A2 w2 (.func (.func f2) u2 u3) _ rfl q1 q3
  obtain ⟨y23, z23, y2', hcn, h4⟩ := h3 _ rfl
  have HC2 := Lib.hid hcn
  have HX2 := Lib.hid (And.intro q1 (And.intro q2 (And.intro q3 (And.intro q4 h4))))
  clear hcn h3 h4 q1 q2 q3 q4 H7 x10 z10 y2 y4
  go_wp2_with fail
  generalize hw3 : w2.setCell ⟨A.bc s, 4, none⟩ (.func (.func f2) u2 u3) = w3 at *
  refine wp_region_still_tail 14 (by kernel_rfl) (by kernel_rfl) ?_
  simp only [List.take_succ_cons, List.take_zero, List.drop_succ_cons, List.drop_zero]
  repeat still_step
  still_call HC2.out
  repeat still_step
  refine wpStill_nil ?_
  change wpList _ _ _ _ _ w3.drew
  have y23d : w3.drew.cell? ⟨A.be, 23, none⟩ = some (.int .i64 (σ2.looks : Int)) := y23
  have z23d : w3.drew.frozen? ⟨A.be, 23, none⟩ = false := z23
  generalize w3.drew = wd at *
  obtain ⟨r4, g4, a10, a11⟩ := HX2.out.2.2.2.2 _ rfl
  have fD := tmp_grow (tmp_grow HX.out.2.2 HX2.out.2.1) g4
  have HTH := Lib.hid (there_of fD.2)
  have HY := Lib.hid (And.intro r4 (And.intro g4 fD))
  have HOV := Lib.hid hov
  rw [hov] at a11
  clear r4 g4 fD hov
  cases hwt : c2.waits
  · rw [hwt] at a10
    have HWT := Lib.hid hwt
    clear hwt
    go_wp2_with (refine wpList_store_mid rfl 44 (.tmp 4) (.tmp 77) rfl w.heap.size 0 #[.int .i64 1, .int .i64 0, .int .i64 0, .slice none 0 0, .int .i64 0, .int .i64 0] rfl rfl HTH.out (by kernel_rfl) (by simp [Value.oneCell']) ?_; generalize hws : World.setCells _ _ _ _ = ws)
    have hbut := But.setCells w.heap.size [.int .i64 1, .int .i64 0, .int .i64 0, .slice none 0 0, .int .i64 0, .int .i64 0] 0 (wd.setCell ⟨A.be, 23, none⟩ (.int .i64 lb))
    have hfin := heap_setCells6 HY.out.2.2.2 (.int .i64 1) (.int .i64 0) (.int .i64 0) (.slice none 0 0) (.int .i64 0) (.int .i64 0)
    rw [show (wd.setCell ⟨A.be, 23, none⟩ (.int .i64 lb)).setCells w.heap.size 0 [.int .i64 1, .int .i64 0, .int .i64 0, .slice none 0 0, .int .i64 0, .int .i64 0] = ws from hws] at hbut hfin
    (try simp only [Exit.inBlock, Exit.then])
    refine bodyPost_ret (results_cell_tmp_row rfl _ _ w.heap.size 44 #[.int .i64 1, .int .i64 0, .int .i64 0, .slice none 0 0, .int .i64 0, .int .i64 0] _ _ rfl hfin Tryz.underlying44 rfl (by kernel_rfl)) rfl ?_
    have hkd : (if c2.waits then (2 : Int) else 1) = 1 := by rw [HWT.out]; rfl
    rw [HQ.out, hkd]
    obtain ⟨hc2, hdl, hcq, hs, _⟩ := HF.out
    obtain ⟨q1, q2, q3, q4, _⟩ := HX2.out
    obtain ⟨r4, g4, fD⟩ := HY.out
    have r5 := r4.but fD.1 hbut
    have gg := (((HX.out.2.1.trans q2).trans g4).but (Nat.le_refl _) hbut)
    have hc' : ({ σ2.setC s { c2 with k := some k' } with looks := σ2.looks + dl } : St).calls.getD s none = some { c2 with k := some k' } := by show (σ2.setC s { c2 with k := some k' }).calls.getD s none = _; rw [getC_set (lt_of_call hc2), if_pos rfl]
    refine ⟨{ A2 with vnext := upF A2.vnext s (.func (.func f2) u2 u3) }, .slice none 0 0, rfl, FRow.nil _ _ _, Live.of (s := s) HL0.out r5 gg ⟨q3.be, q3.mp, q3.mt, fun q _ => by rw [show ({ A2 with vnext := _ } : Book).bt = A.bt from q3.bt], fun q _ => by rw [show ({ A2 with vnext := _ } : Book).bc = A.bc from q3.bc], q3.bx, q3.vpairs, fun q hq => (upF_other _ _ hq).trans (congrFun q3.vnext q), fun q _ => congrFun q3.vcall q⟩ (fun q hq => ?_) (fun c' hcc => ?_) (fun hnn => by have h0 := hc'.symm.trans hnn; cases h0), gg, q3.be⟩
    · show (σ2.setC s _).calls.getD q none = _
      rw [getC_set (lt_of_call hc2), if_neg hq]
      exact hcq q hq
    · obtain rfl : { c2 with k := some k' } = c' := Option.some.inj (hc'.symm.trans hcc)
      refine ⟨?_, k', rfl, ?_⟩
      · show A2.vcall s = ptr (A2.bc s)
        rw [q3.vcall, q3.bc]
        exact HVC.out
      · have ek : kp { A2 with vnext := upF A2.vnext s (.func (.func f2) u2 u3) } ({ σ2.setC s { c2 with k := some k' } with looks := σ2.looks + dl } : St) s = kp A2 σ2 s := by unfold kp; rw [call_get hc', call_get hc2]
        rw [ek, show ({ A2 with vnext := upF A2.vnext s (.func (.func f2) u2 u3) } : Book).vnext s = .func (.func f2) u2 u3 from upF_same _ _ _]
        exact (q4.grow g4).soft (hbut.soft fD.1)
  · rw [hwt] at a10
    have HWT := Lib.hid hwt
    clear hwt
    go_wp2_with (refine wpList_store_mid rfl 44 (.tmp 4) (.tmp 70) rfl w.heap.size 0 #[.int .i64 2, .int .i64 0, .int .i64 0, .slice none 0 0, .int .i64 0, .int .i64 0] rfl rfl HTH.out (by kernel_rfl) (by simp [Value.oneCell']) ?_; generalize hws : World.setCells _ _ _ _ = ws)
    have hbut := But.setCells w.heap.size [.int .i64 2, .int .i64 0, .int .i64 0, .slice none 0 0, .int .i64 0, .int .i64 0] 0 (wd.setCell ⟨A.be, 23, none⟩ (.int .i64 lb))
    have hfin := heap_setCells6 HY.out.2.2.2 (.int .i64 2) (.int .i64 0) (.int .i64 0) (.slice none 0 0) (.int .i64 0) (.int .i64 0)
    rw [show (wd.setCell ⟨A.be, 23, none⟩ (.int .i64 lb)).setCells w.heap.size 0 [.int .i64 2, .int .i64 0, .int .i64 0, .slice none 0 0, .int .i64 0, .int .i64 0] = ws from hws] at hbut hfin
    (try simp only [Exit.inBlock, Exit.then])
    refine bodyPost_ret (results_cell_tmp_row rfl _ _ w.heap.size 44 #[.int .i64 2, .int .i64 0, .int .i64 0, .slice none 0 0, .int .i64 0, .int .i64 0] _ _ rfl hfin Tryz.underlying44 rfl (by kernel_rfl)) rfl ?_
    have hkd : (if c2.waits then (2 : Int) else 1) = 2 := by rw [HWT.out]; rfl
    rw [HQ.out, hkd]
    obtain ⟨hc2, hdl, hcq, hs, _⟩ := HF.out
    obtain ⟨q1, q2, q3, q4, _⟩ := HX2.out
    obtain ⟨r4, g4, fD⟩ := HY.out
    have r5 := r4.but fD.1 hbut
    have gg := (((HX.out.2.1.trans q2).trans g4).but (Nat.le_refl _) hbut)
    have hc' : ({ σ2.setC s { c2 with k := some k' } with looks := σ2.looks + dl } : St).calls.getD s none = some { c2 with k := some k' } := by show (σ2.setC s { c2 with k := some k' }).calls.getD s none = _; rw [getC_set (lt_of_call hc2), if_pos rfl]
    refine ⟨{ A2 with vnext := upF A2.vnext s (.func (.func f2) u2 u3) }, .slice none 0 0, rfl, FRow.nil _ _ _, Live.of (s := s) HL0.out r5 gg ⟨q3.be, q3.mp, q3.mt, fun q _ => by rw [show ({ A2 with vnext := _ } : Book).bt = A.bt from q3.bt], fun q _ => by rw [show ({ A2 with vnext := _ } : Book).bc = A.bc from q3.bc], q3.bx, q3.vpairs, fun q hq => (upF_other _ _ hq).trans (congrFun q3.vnext q), fun q _ => congrFun q3.vcall q⟩ (fun q hq => ?_) (fun c' hcc => ?_) (fun hnn => by have h0 := hc'.symm.trans hnn; cases h0), gg, q3.be⟩
    · show (σ2.setC s _).calls.getD q none = _
      rw [getC_set (lt_of_call hc2), if_neg hq]
      exact hcq q hq
    · obtain rfl : { c2 with k := some k' } = c' := Option.some.inj (hc'.symm.trans hcc)
      refine ⟨?_, k', rfl, ?_⟩
      · show A2.vcall s = ptr (A2.bc s)
        rw [q3.vcall, q3.bc]
        exact HVC.out
      · have ek : kp { A2 with vnext := upF A2.vnext s (.func (.func f2) u2 u3) } ({ σ2.setC s { c2 with k := some k' } with looks := σ2.looks + dl } : St) s = kp A2 σ2 s := by unfold kp; rw [call_get hc', call_get hc2]
        rw [ek, show ({ A2 with vnext := upF A2.vnext s (.func (.func f2) u2 u3) } : Book).vnext s = .func (.func f2) u2 u3 from upF_same _ _ _]
        exact (q4.grow g4).soft (hbut.soft fD.1)
end Go.Proofs.YtbefcdjcefmicaaGreat.Em

namespace Go.Proofs.YtbefcdjcefmicaaGreat.Em
open Go.ChangeShapes Go.WideShapes Go.ChangeAt Go.RowKit En
set_option linter.unusedVariables false
set_option linter.unusedSimpArgs false
set_option maxRecDepth 100000
set_option maxHeartbeats 1600000

theorem opOk_true (o : En.Op) (h : opOk o = true) (w : World) : Calls Tryz.prog 49 #[.agg #[.int .i64 (o.kind : Int), .int .i64 (o.key : Int), .int .i64 (o.hi : Int), .int .i64 (o.value : Int)]] w fun e w' => e = .returned (.bool true) ∧ Below w.heap.size w w' := by
  have hb : Below w.heap.size w (w.alloc (.cells #[.int .i64 (o.kind : Int), .int .i64 (o.key : Int), .int .i64 (o.hi : Int), .int .i64 (o.value : Int)] 31)) := (Below.refl _ _).alloc (Nat.le_refl _) _
  have HB := Lib.hid hb
  clear hb
  obtain ⟨kind, key, hi, value⟩ := o
  unfold opOk at h
  simp only at h HB ⊢
  have hk : kind = 1 ∨ kind = 2 ∨ kind = 3 ∨ kind = 4 ∨ kind = 5 ∨ kind = 6 ∨ kind = 7 := by
    by_cases h1 : kind = 1; exact .inl h1
    by_cases h2 : kind = 2; exact .inr (.inl h2)
    by_cases h3 : kind = 3; exact .inr (.inr (.inl h3))
    by_cases h4 : kind = 4; exact .inr (.inr (.inr (.inl h4)))
    by_cases h5 : kind = 5; exact .inr (.inr (.inr (.inr (.inl h5))))
    by_cases h6 : kind = 6; exact .inr (.inr (.inr (.inr (.inr (.inl h6)))))
    by_cases h7 : kind = 7; exact .inr (.inr (.inr (.inr (.inr (.inr h7)))))
    simp [h1, h2, h3, h4, h5, h6, h7] at h
  rcases hk with rfl | rfl | rfl | rfl | rfl | rfl | rfl
  · simp only [Bool.and_eq_true, decide_eq_true_eq, beq_iff_eq] at h
    have hx := h
    have a1 : decide ((key : Int) ≤ (63 : Int)) = true := by simp; omega
    have a2 : ((key : Int) ≤ (63 : Int)) = True := by simp; omega
    have b1 : ((hi : Int) == 0) = true := by simp; omega
    have b2 : ((hi : Int) = 0) = True := by simp; omega
    have c1 : ((value : Int) == 0) = true := by simp; omega
    have c2 : ((value : Int) = 0) = True := by simp; omega
    clear h hx
    go_enter Tryz.func49, Tryz.ntmps49
    go_wp2
    go_ret
    exact ⟨rfl, HB.out⟩
  · simp only [Bool.and_eq_true, decide_eq_true_eq, beq_iff_eq] at h
    have hx := h
    have a1 : decide ((key : Int) ≤ (63 : Int)) = true := by simp; omega
    have a2 : ((key : Int) ≤ (63 : Int)) = True := by simp; omega
    have b1 : ((hi : Int) == 0) = true := by simp; omega
    have b2 : ((hi : Int) = 0) = True := by simp; omega
    have c1 : decide ((value : Int) ≤ (65535 : Int)) = true := by simp; omega
    have c2 : ((value : Int) ≤ (65535 : Int)) = True := by simp; omega
    clear h hx
    go_enter Tryz.func49, Tryz.ntmps49
    go_wp2
    go_ret
    exact ⟨rfl, HB.out⟩
  · simp only [Bool.and_eq_true, decide_eq_true_eq, beq_iff_eq] at h
    have hx := h
    have a1 : decide ((key : Int) ≤ (63 : Int)) = true := by simp; omega
    have a2 : ((key : Int) ≤ (63 : Int)) = True := by simp; omega
    have b1 : ((hi : Int) == 0) = true := by simp; omega
    have b2 : ((hi : Int) = 0) = True := by simp; omega
    have c1 : decide ((value : Int) ≤ (65535 : Int)) = true := by simp; omega
    have c2 : ((value : Int) ≤ (65535 : Int)) = True := by simp; omega
    clear h hx
    go_enter Tryz.func49, Tryz.ntmps49
    go_wp2
    go_ret
    exact ⟨rfl, HB.out⟩
  · simp only [Bool.and_eq_true, decide_eq_true_eq, beq_iff_eq] at h
    have hx := h
    have a1 : decide ((key : Int) ≤ (63 : Int)) = true := by simp; omega
    have a2 : ((key : Int) ≤ (63 : Int)) = True := by simp; omega
    have b1 : ((hi : Int) == 0) = true := by simp; omega
    have b2 : ((hi : Int) = 0) = True := by simp; omega
    have c1 : ((value : Int) == 0) = true := by simp; omega
    have c2 : ((value : Int) = 0) = True := by simp; omega
    clear h hx
    go_enter Tryz.func49, Tryz.ntmps49
    go_wp2
    go_ret
    exact ⟨rfl, HB.out⟩
  · simp only [Bool.and_eq_true, decide_eq_true_eq, beq_iff_eq] at h
    have hx := h
    have a1 : decide ((key : Int) ≤ (63 : Int)) = true := by simp; omega
    have a2 : ((key : Int) ≤ (63 : Int)) = True := by simp; omega
    have b1 : decide ((key : Int) ≤ (hi : Int)) = true := by simp; omega
    have b2 : ((key : Int) ≤ (hi : Int)) = True := by simp; omega
    have e1 : decide ((hi : Int) ≤ (63 : Int)) = true := by simp; omega
    have e2 : ((hi : Int) ≤ (63 : Int)) = True := by simp; omega
    have c1 : ((value : Int) == 0) = true := by simp; omega
    have c2 : ((value : Int) = 0) = True := by simp; omega
    clear h hx
    go_enter Tryz.func49, Tryz.ntmps49
    go_wp2
    go_ret
    exact ⟨rfl, HB.out⟩
  · simp only [Bool.and_eq_true, decide_eq_true_eq, beq_iff_eq] at h
    have hx := h
    have a1 : ((key : Int) == 0) = true := by simp; omega
    have a2 : ((key : Int) = 0) = True := by simp; omega
    have b1 : ((hi : Int) == 0) = true := by simp; omega
    have b2 : ((hi : Int) = 0) = True := by simp; omega
    have c1 : ((value : Int) == 0) = true := by simp; omega
    have c2 : ((value : Int) = 0) = True := by simp; omega
    clear h hx
    go_enter Tryz.func49, Tryz.ntmps49
    go_wp2
    go_ret
    exact ⟨rfl, HB.out⟩
  · simp only [Bool.and_eq_true, decide_eq_true_eq, beq_iff_eq] at h
    have hx := h
    have a1 : ((key : Int) == 0) = true := by simp; omega
    have a2 : ((key : Int) = 0) = True := by simp; omega
    have b1 : ((hi : Int) == 0) = true := by simp; omega
    have b2 : ((hi : Int) = 0) = True := by simp; omega
    have c1 : ((value : Int) == 0) = true := by simp; omega
    have c2 : ((value : Int) = 0) = True := by simp; omega
    clear h hx
    go_enter Tryz.func49, Tryz.ntmps49
    go_wp2
    go_ret
    exact ⟨rfl, HB.out⟩
theorem ends_op (o : En.Op) (w : World) : Calls Tryz.prog 50 #[.agg #[.int .i64 (o.kind : Int), .int .i64 (o.key : Int), .int .i64 (o.hi : Int), .int .i64 (o.value : Int)]] w fun e w' => e = .returned (.bool (opEnds o)) ∧ Below w.heap.size w w' := by
  have hb : Below w.heap.size w (w.alloc (.cells #[.int .i64 (o.kind : Int), .int .i64 (o.key : Int), .int .i64 (o.hi : Int), .int .i64 (o.value : Int)] 31)) := (Below.refl _ _).alloc (Nat.le_refl _) _
  have HB := Lib.hid hb
  clear hb
  have he : opEnds o = (decide (o.kind = 6) || decide (o.kind = 7)) := by unfold opEnds; by_cases h1 : o.kind = 6 <;> by_cases h2 : o.kind = 7 <;> simp [h1, h2]
  rw [he]
  clear he
  generalize o.kind = kd at *
  by_cases h6 : kd = 6
  · subst h6
    go_enter Tryz.func50, Tryz.ntmps50
    go_wp2
    go_ret
    exact ⟨rfl, HB.out⟩
  · have a1 : ((kd : Int) == 6) = false := by simp; omega
    have a2 : ((kd : Int) = 6) = False := by simp; omega
    by_cases h7 : kd = 7
    · have b1 : ((kd : Int) == 7) = true := by simp; omega
      have b2 : ((kd : Int) = 7) = True := by simp; omega
      have HX := Lib.hid (And.intro h6 h7)
      clear h6 h7
      go_enter Tryz.func50, Tryz.ntmps50
      go_wp2
      go_ret
      exact ⟨by simp [HX.out.1, HX.out.2], HB.out⟩
    · have b1 : ((kd : Int) == 7) = false := by simp; omega
      have b2 : ((kd : Int) = 7) = False := by simp; omega
      have HX := Lib.hid (And.intro h6 h7)
      clear h6 h7
      go_enter Tryz.func50, Tryz.ntmps50
      go_wp2
      go_ret
      exact ⟨by simp [HX.out.1, HX.out.2], HB.out⟩
theorem levelOk (l : Nat) (h1 : 1 ≤ l) (h2 : l ≤ 3) (w : World) : Calls Tryz.prog 72 #[.int .i64 (l : Int)] w fun e w' => e = .returned (.bool true) ∧ w = w' := by
  have d1 : decide ((1 : Int) ≤ (l : Int)) = true := by simp; omega
  have d2 : decide ((l : Int) ≤ 3) = true := by simp; omega
  have e1 : ((1 : Int) ≤ (l : Int)) = True := by simp; omega
  have e2 : ((l : Int) ≤ 3) = True := by simp; omega
  have g1 : (1 ≤ l) = True := by simp; omega
  have g2 : (l ≤ 3) = True := by simp; omega
  have g3 : (0 < l) = True := by simp; omega
  clear h1 h2
  go_enter Tryz.func72, Tryz.ntmps72
  go_wp2
  go_ret
  exact ⟨rfl, rfl⟩
end Go.Proofs.YtbefcdjcefmicaaGreat.Em

namespace Go.Proofs.YtbefcdjcefmicaaGreat.Em
open Go.ChangeShapes Go.WideShapes Go.ChangeAt Go.RowKit En
set_option linter.unusedVariables false
set_option linter.unusedSimpArgs false
set_option maxRecDepth 100000
set_option maxHeartbeats 1600000

theorem step_over {A : Book} {σ : St} {w : World} (hL : Live A σ w) (s : Nat) (hs : s < 8) (t : Txn) (ht : σ.txns.getD s none = some t) (c : Cal) (hc : σ.calls.getD s none = some c) (k : K) (hk : c.k = some k) (hcnt : σ.count < 3000000000000000000) (σ2 : St) (ok : Option K) (hrun : (σ.setC s { c with waits := false }).run s k = (σ2, ok)) (HS : RunsTo (σ.setC s { c with waits := false }) s k) (c2 : Cal) (hc2 : σ2.calls.getD s none = some c2) (dl : Nat) (hdl : σ2.count = σ.count + dl) (hd1 : dl < 1000000) (hlk : σ2.looks < 1000000000000000000) (hcq : ∀ q, q ≠ s → σ2.calls.getD q none = σ.calls.getD q none) (hok : ok = none) (hw : c2.waits = false) (hov : c2.over = true) (hpr : c2.r.pairs = []) (hro : c2.r.over ≠ 0) :
    Calls Tryz.prog 19 #[.pointer (some ⟨A.be, 0, none⟩), .int .i64 (s : Int)] w (Stepped A w ({ σ2.setC s { c2 with k := ok } with looks := σ2.looks + dl, calls := (σ2.setC s { c2 with k := ok }).calls.set s none, txns := σ2.txns.set s none }) 3 c2.r) := by
  obtain ⟨Q, hQ⟩ : ∃ Q, Q = Stepped A w ({ σ2.setC s { c2 with k := ok } with looks := σ2.looks + dl, calls := (σ2.setC s { c2 with k := ok }).calls.set s none, txns := σ2.txns.set s none }) 3 c2.r := ⟨_, rfl⟩
  rw [← hQ]
  have HQ := Lib.hid hQ
  clear hQ
  obtain ⟨r0, g0, fl, fh⟩ := hL.rep.newTmp (.cells #[.int .i64 0, .int .i64 0, .int .i64 0, .slice none 0 0, .int .i64 0, .int .i64 0] 44)
  obtain ⟨hvc, k0, hk0, hkr⟩ := hL.call s hs c hc
  obtain rfl : k = k0 := by rw [hk] at hk0; exact Option.some.inj hk0
  obtain ⟨fv, fb, fc, hvn, hent⟩ := hkr.enter
  have hsok := Lib.hid (sessionOk s hs)
  have b1 : (s : Int) < 8 := by omega
  have b0 : (0 : Int) ≤ (s : Int) := by omega
  have v0 : (w.alloc (.cells #[.int .i64 0, .int .i64 0, .int .i64 0, .slice none 0 0, .int .i64 0, .int .i64 0] 44)).cell? ⟨A.be, 13 + s, none⟩ = some (.pointer (some ⟨A.bc s, 0, none⟩)) := by rw [← show A.vcall s = .pointer (some ⟨A.bc s, 0, none⟩) from hvc]; exact r0.eng (13 + s) (engCs_call (A.tmp w.heap.size) σ hs)
  have v1 : (w.alloc (.cells #[.int .i64 0, .int .i64 0, .int .i64 0, .slice none 0 0, .int .i64 0, .int .i64 0] 44)).cell? ⟨A.be, 5 + s, none⟩ = some (.pointer (some ⟨A.bt s, 0, none⟩)) := by
    have h := r0.eng (5 + s) (engCs_txn (A.tmp w.heap.size) σ hs)
    have e : (A.tmp w.heap.size).tp σ s = .pointer (some ⟨A.bt s, 0, none⟩) := by unfold Book.tp; rw [ht]; rfl
    rw [e] at h; exact h
  obtain ⟨σ1, hσ1⟩ : ∃ σ1, σ1 = σ.setC s { c with waits := false } := ⟨_, rfl⟩
  rw [← hσ1] at hrun HS
  have hc1 : σ1.calls.getD s none = some { c with waits := false } := by rw [hσ1, getC_set (lt_of_call hc), if_pos rfl]
  have hkp : kp A σ1 s = kp A σ s := by unfold kp; rw [call_get hc1, call_get hc]
  -- behind the draws: the first store
  have H5 : Hid (∀ n w5, (w.alloc (.cells #[.int .i64 0, .int .i64 0, .int .i64 0, .slice none 0 0, .int .i64 0, .int .i64 0] 44)).drewN n = w5 → w5.cell? ⟨A.bc s, 10, none⟩ = some (.bool c.waits) ∧ w5.frozen? ⟨A.bc s, 10, none⟩ = false ∧ ∀ w6, w5.setCell ⟨A.bc s, 10, none⟩ (.bool false) = w6 → w6.cell? ⟨A.be, 2, none⟩ = some (.pointer (some ⟨A.ba, 0, none⟩)) ∧ w6.cell? ⟨A.bc s, 4, none⟩ = some (.func (.func fv) fb fc) ∧ Calls Tryz.prog 52 #[.pointer (some ⟨A.ba, 0, none⟩)] w6 (fun e w' => e = .returned (.int .i64 (σ.count : Int)) ∧ w6 = w') ∧ Calls Tryz.prog fv (fb ++ fc) w6 (Ran (A.tmp w.heap.size) w6 s (σ2, ok)) ∧ Grow A.L w (A.tmp w.heap.size).L w6 ∧ ((A.tmp w.heap.size).L w.heap.size = some .tmp ∧ w6.heap[w.heap.size]? = some (.cells #[.int .i64 0, .int .i64 0, .int .i64 0, .slice none 0 0, .int .i64 0, .int .i64 0] 44))) := by
    rintro n w5 rfl
    have r5 := r0.drewN n
    refine ⟨r5.call hc 10 rfl, r5.callF hc 10, ?_⟩
    rintro w6 rfl
    obtain ⟨r6, g6⟩ := r5.setCall hc { c with waits := false } 10 (.bool false) rfl rfl
    have g56 := (Grow.drewN (A.tmp w.heap.size).L (w.alloc (.cells #[.int .i64 0, .int .i64 0, .int .i64 0, .slice none 0 0, .int .i64 0, .int .i64 0] 44)) n).trans g6
    have gg := g0.trans g56
    rw [← hσ1] at r6
    have h4 : _ = some (A.vnext s) := r6.call hc1 4 rfl
    rw [hvn] at h4
    have h4' : (((w.alloc (.cells #[.int .i64 0, .int .i64 0, .int .i64 0, .slice none 0 0, .int .i64 0, .int .i64 0] 44)).drewN n).setCell ⟨A.bc s, 10, none⟩ (.bool false)).cell? ⟨A.bc s, 4, none⟩ = some (.func (.func fv) fb fc) := h4
    have hk6 := (hkr.grow gg)
    rw [hvn, ← hkp] at hk6
    have hS := HS (A.tmp w.heap.size) _ fv fb fc r6 hL.mp (hL.mt s) hk6
    rw [hrun] at hS
    have hcn := count_any r6 (by rw [hσ1]; exact Nat.lt_trans hcnt (by decide))
    have hcc : σ1.count = σ.count := by rw [hσ1]; rfl
    rw [hcc] at hcn
    exact ⟨r6.eng 2 rfl, h4', hcn, hS, gg, tmp_grow ⟨fl, fh⟩ g56⟩
  have HL0 := Lib.hid hL
  have HF := Lib.hid (And.intro hc2 (And.intro hdl (And.intro hcq (And.intro hs hlk))))
  have n1 : IntKind.i64.wrap (((σ.count + dl : Nat) : Int) - (σ.count : Int)) = (dl : Int) := by rw [IntKind.wrap_i64]; omega
  have n2 : IntKind.i64.wrap ((σ2.looks : Int) + (dl : Int)) = ((σ2.looks + dl : Nat) : Int) := by rw [IntKind.wrap_i64]; omega
  -- behind the closure: the next step is laid; the looks are counted
  have H7 : Hid (∀ A2 w2 v A3, A3 = { A2 with vnext := upF A2.vnext s v } → Rep A2 σ2 w2 → Stay (A.tmp w.heap.size) A2 s → w2.cell? ⟨A.bc s, 4, none⟩ = some (A2.vnext s) ∧ w2.frozen? ⟨A.bc s, 4, none⟩ = false ∧ ∀ w3, w2.setCell ⟨A.bc s, 4, none⟩ v = w3 → w3.cell? ⟨A.be, 23, none⟩ = some (.int .i64 (σ2.looks : Int)) ∧ w3.frozen? ⟨A.be, 23, none⟩ = false ∧ w3.cell? ⟨A.be, 2, none⟩ = some (.pointer (some ⟨A.ba, 0, none⟩)) ∧ Calls Tryz.prog 52 #[.pointer (some ⟨A.ba, 0, none⟩)] w3.drew (fun e w' => e = .returned (.int .i64 ((σ.count + dl : Nat) : Int)) ∧ w' = w3.drew) ∧
      ∀ w4, w3.drew.setCell ⟨A.be, 23, none⟩ (.int .i64 ((σ2.looks + dl : Nat) : Int)) = w4 → Rep A3 ({ σ2.setC s { c2 with k := ok } with looks := σ2.looks + dl }) w4 ∧ Grow A2.L w2 A2.L w4 ∧ w4.cell? ⟨A.bc s, 10, none⟩ = some (.bool c2.waits) ∧ w4.cell? ⟨A.bc s, 11, none⟩ = some (.bool c2.over)) := by
    intro A2 w2 v A3 hA3 q st
    have ebc : A2.bc = A.bc := st.bc
    have ebe : A2.be = A.be := st.be
    have eba : A2.ba = A.ba := st.ba
    have x4 := q.call hc2 4 (v := A2.vnext s) rfl
    have z4 := q.callF hc2 4
    rw [ebc] at x4 z4
    refine ⟨x4, z4, ?_⟩
    rintro w3 rfl
    obtain ⟨r3, g3⟩ := q.nextSet hc2 v ok
    rw [← hA3, ebc] at r3
    rw [ebc] at g3
    have e3 : A3.be = A.be := by rw [hA3]; exact ebe
    have e3a : A3.ba = A.ba := by rw [hA3]; exact eba
    have e3c : A3.bc = A.bc := by rw [hA3]; exact ebc
    have e3L : A3.L = A2.L := by rw [hA3]
    have y23 := r3.eng 23 (v := .int .i64 (σ2.looks : Int)) rfl
    have z23 := r3.engF 23
    have y2 := r3.eng 2 (v := .pointer (some ⟨A3.ba, 0, none⟩)) rfl
    have hcn := flip (count_any r3.drew (by show σ2.count < _; omega))
    rw [e3] at y23 z23 y2
    rw [e3a] at hcn y2
    rw [show (σ2.setC s { c2 with k := ok }).count = σ.count + dl from hdl] at hcn
    refine ⟨y23, z23, y2, hcn, ?_⟩
    intro w4 hw4
    obtain ⟨r4, g4⟩ := r3.drew.looksSet (σ2.looks + dl)
    rw [e3, hw4] at r4 g4
    rw [e3L] at g4
    have hc4 : ({ σ2.setC s { c2 with k := ok } with looks := σ2.looks + dl } : St).calls.getD s none = some { c2 with k := ok } := by show (σ2.setC s { c2 with k := ok }).calls.getD s none = _; rw [getC_set (lt_of_call hc2), if_pos rfl]
    have a10 := r4.call hc4 10 (v := .bool c2.waits) rfl
    have a11 := r4.call hc4 11 (v := .bool c2.over) rfl
    rw [e3c] at a10 a11
    exact ⟨r4, (g3.trans (Grow.drew _ _)).trans g4, a10, a11⟩
  have hwx : (w.alloc (.cells #[.int .i64 0, .int .i64 0, .int .i64 0, .slice none 0 0, .int .i64 0, .int .i64 0] 44)).cell? ⟨A.bc s, 10, none⟩ = some (.bool c.waits) := r0.call hc 10 rfl
  have HVC := Lib.hid hvc
  clear hL ht hc hk hcnt hrun HS hc2 hdl hd1 hlk hcq r0 g0 fl fh hvc hk0 hkr hvn hσ1 hc1 hkp hs
  generalize (σ.count : Int) = ca at *
  generalize ((σ.count + dl : Nat) : Int) = cb at *
  generalize ((σ2.looks + dl : Nat) : Int) = lb at *
  go_enter Tryz.func19, Tryz.ntmps19
  go_wp2_with (go_at_call 48; refine (hsok.out _).mono ?_; rintro e w' ⟨rfl, rfl⟩)
  generalize hw0 : w.alloc _ = w0 at *
  go_quiet (fail)
  generalize hw5 : w0.drewN _ = w5
  obtain ⟨x10, z10, h6⟩ := H5.out _ w5 hw5
  obtain ⟨y2, y4, hcn, hS, gg, fD⟩ := h6 _ rfl
  have HC := Lib.hid hcn
  have HX := Lib.hid (And.intro hS (And.intro gg fD))
  clear hcn hS gg fD h6 hw5 hw0 H5 v0 v1 hwx
  go_wp2_with (go_at_call 52; refine HC.out.mono ?_; rintro e w' ⟨rfl, rfl⟩)
  refine HX.out.1.mono ?_
  rintro e w2 ⟨A2, v, rfl, q1, q2, q3, q4⟩
  subst hok
  have hv : v = .nilFunc := q4
  clear q4
  subst hv
  obtain ⟨x4, z4, h3⟩ := H7.out A2 w2 .nilFunc _ rfl q1 q3
  obtain ⟨y23, z23, y2', hcn, h4⟩ := h3 _ rfl
  have HC2 := Lib.hid hcn
  have HX2 := Lib.hid (And.intro q1 (And.intro q2 (And.intro q3 h4)))
  clear hcn h3 h4 q1 q2 q3 H7 x10 z10 y2 y4
  go_wp2_with fail
  generalize hw3 : w2.setCell ⟨A.bc s, 4, none⟩ .nilFunc = w3 at *
  refine wp_region_still_tail 14 (by kernel_rfl) (by kernel_rfl) ?_
  simp only [List.take_succ_cons, List.take_zero, List.drop_succ_cons, List.drop_zero]
  repeat still_step
  still_call HC2.out
  repeat still_step
  refine wpStill_nil ?_
  change wpList _ _ _ _ _ w3.drew
  have y23d : w3.drew.cell? ⟨A.be, 23, none⟩ = some (.int .i64 (σ2.looks : Int)) := y23
  have z23d : w3.drew.frozen? ⟨A.be, 23, none⟩ = false := z23
  generalize w3.drew = wd at *
  obtain ⟨r4, g4, a10, a11⟩ := HX2.out.2.2.2 _ rfl
  rw [hw] at a10
  rw [hov] at a11
  obtain ⟨hc2, hdl, hcq, hs, _⟩ := HF.out
  have q3 := HX2.out.2.2.1
  have ebe : A2.be = A.be := q3.be
  have ebc : A2.bc = A.bc := q3.bc
  have hc4 : ({ σ2.setC s { c2 with k := none } with looks := σ2.looks + dl } : St).calls.getD s none = some { c2 with k := none } := by show (σ2.setC s { c2 with k := none }).calls.getD s none = _; rw [getC_set (lt_of_call hc2), if_pos rfl]
  have m13 := r4.eng (13 + s) (engCs_call { A2 with vnext := upF A2.vnext s .nilFunc } _ hs)
  have z13 := r4.engF (13 + s)
  obtain ⟨r5, g5⟩ := r4.vcallSet hs (.pointer none)
  have m8 := r5.call hc4 8 (v := .int .i64 (c2.r.over : Int)) rfl
  have m5 := r5.eng (5 + s) (engCs_txn { A2 with vnext := upF A2.vnext s .nilFunc, vcall := upF A2.vcall s (.pointer none) } _ hs)
  have z5 := r5.engF (5 + s)
  obtain ⟨r6, g6⟩ := r5.dropTxn hs
  have hown := r6.mem.all (.pairs s)
  rw [mem_pairs (A := { A2 with vnext := upF A2.vnext s .nilFunc, vcall := upF A2.vcall s (.pointer none) }) (σ := { ({ σ2.setC s { c2 with k := none } with looks := σ2.looks + dl } : St) with txns := ({ σ2.setC s { c2 with k := none } with looks := σ2.looks + dl } : St).txns.set s none }) hc4] at hown
  obtain ⟨pa, pcap, hpv, _⟩ := Ow.own_form hown.1
  rw [show ({ c2 with k := none } : Cal).r.pairs.length = 0 by rw [show ({ c2 with k := none } : Cal).r.pairs = [] from hpr]; rfl] at hpv
  have p0 := r6.call hc4 5 (v := .int .i64 (c2.r.e : Int)) rfl
  have p1 := r6.call hc4 6 (v := .int .i64 (c2.r.value : Int)) rfl
  have p2 := r6.call hc4 7 (v := A2.vpairs s) rfl
  have p3 := r6.call hc4 8 (v := .int .i64 (c2.r.over : Int)) rfl
  have p4 := r6.call hc4 9 (v := .int .i64 (c2.r.reason : Int)) rfl
  rw [show A2.vpairs s = .slice pa 0 pcap from hpv] at p2
  simp only [ebe, ebc] at m13 z13 r5 g5 m8 m5 z5 r6 g6 p0 p1 p2 p3 p4
  have d1 : ((c2.r.over : Int) == 0) = false := by simp; omega
  have d2 : ((c2.r.over : Int) != 0) = true := by simp; omega
  have d3 : ((c2.r.over : Int) = 0) = False := by simp; omega
  have fD := tmp_grow (tmp_grow (tmp_grow (tmp_grow HX.out.2.2 HX2.out.2.1) g4) g5) g6
  have HY := Lib.hid (And.intro r6 (And.intro (((g4.trans g5).trans g6)) (And.intro fD (And.intro hpr hro))))
  have HCP := Lib.hid (copied_nil (((wd.setCell ⟨A.be, 23, none⟩ (.int .i64 lb)).setCell ⟨A.be, 13 + s, none⟩ (.pointer none)).setCell ⟨A.be, 5 + s, none⟩ (.pointer none)) c2.r.e c2.r.value c2.r.over c2.r.reason pa pcap)
  clear r4 g4 r5 g5 r6 g6 fD hown hpv q3 ebe ebc hc4 hc2 hdl hcq hw hov hpr hro
  go_wp2_with (first | (go_at_call 54; refine HCP.out.mono ?_; rintro e w7 ⟨rfl, hb⟩; have HB7 := Lib.hid hb; have HTH := Lib.hid (there_of (tmp_grow HY.out.2.2.1 (Grow.below (L := A2.L) hb)).2); clear hb) | (refine wpList_store_mid rfl 44 (.tmp 4) (.tmp 115) rfl w.heap.size 0 #[.int .i64 3, .int .i64 (c2.r.e : Int), .int .i64 (c2.r.value : Int), .slice none 0 0, .int .i64 (c2.r.over : Int), .int .i64 (c2.r.reason : Int)] rfl rfl HTH.out (by kernel_rfl) (by simp [Value.oneCell']) ?_; generalize hws : World.setCells _ _ _ _ = ws))
  have hbut := But.setCells w.heap.size [.int .i64 3, .int .i64 (c2.r.e : Int), .int .i64 (c2.r.value : Int), .slice none 0 0, .int .i64 (c2.r.over : Int), .int .i64 (c2.r.reason : Int)] 0 w7
  have fD := tmp_grow HY.out.2.2.1 (Grow.below (L := A2.L) HB7.out)
  have hfin := heap_setCells6 fD.2 (.int .i64 3) (.int .i64 (c2.r.e : Int)) (.int .i64 (c2.r.value : Int)) (.slice none 0 0) (.int .i64 (c2.r.over : Int)) (.int .i64 (c2.r.reason : Int))
  rw [show w7.setCells w.heap.size 0 [.int .i64 3, .int .i64 (c2.r.e : Int), .int .i64 (c2.r.value : Int), .slice none 0 0, .int .i64 (c2.r.over : Int), .int .i64 (c2.r.reason : Int)] = ws from hws] at hbut hfin
  (try simp only [Exit.inBlock, Exit.then])
  refine bodyPost_ret (results_cell_tmp_row rfl _ _ w.heap.size 44 #[.int .i64 3, .int .i64 (c2.r.e : Int), .int .i64 (c2.r.value : Int), .slice none 0 0, .int .i64 (c2.r.over : Int), .int .i64 (c2.r.reason : Int)] _ _ rfl hfin Tryz.underlying44 rfl (by kernel_rfl)) rfl ?_
  rw [HQ.out]
  obtain ⟨hc2, hdl, hcq, hs, _⟩ := HF.out
  obtain ⟨q1, q2, q3, _⟩ := HX2.out
  obtain ⟨r6, g6, _, hpr, hro⟩ := HY.out
  have r7 := ((r6.below HB7.out).dropCall s).but fD.1 hbut
  have gg := ((((HX.out.2.1.trans q2).trans g6).trans (Grow.below (L := A2.L) HB7.out)).but (Nat.le_refl _) hbut)
  have hlen : s < (σ2.setC s { c2 with k := none }).calls.length := by have := lt_of_call hc2; simpa [St.setC] using this
  have hns : ((σ2.setC s { c2 with k := none }).calls.set s none).getD s none = none := by rw [getD_set _ _ _ _ _ hlen, if_pos rfl]
  refine ⟨{ A2 with be := A.be, bc := A.bc, vnext := upF A2.vnext s .nilFunc, vcall := upF A2.vcall s (.pointer none) }, .slice none 0 0, rfl, by rw [hpr]; exact FRow.nil _ _ _, Live.of (s := s) HL0.out r7 gg ⟨rfl, q3.mp, q3.mt, fun q _ => congrFun q3.bt q, fun q _ => rfl, q3.bx, q3.vpairs, fun q hq => (upF_other _ _ hq).trans (congrFun q3.vnext q), fun q hq => (upF_other _ _ hq).trans (congrFun q3.vcall q)⟩ (fun q hq => ?_) (fun c' hcc => ?_) (fun hnn => upF_same _ _ _), gg, rfl⟩
  · show ((σ2.setC s { c2 with k := none }).calls.set s none).getD q none = _
    rw [getD_set _ _ _ _ _ hlen, if_neg hq, getC_set (lt_of_call hc2), if_neg hq]
    exact hcq q hq
  · have h0 := hns.symm.trans hcc
    cases h0
end Go.Proofs.YtbefcdjcefmicaaGreat.Em

namespace Go.Proofs.YtbefcdjcefmicaaGreat.Em
open Go.ChangeShapes Go.WideShapes Go.ChangeAt Go.RowKit En
set_option linter.unusedVariables false
set_option linter.unusedSimpArgs false
set_option maxRecDepth 100000
set_option maxHeartbeats 1600000

theorem change_none {A : Book} {σ : St} {w : World} (hR : Rep A σ w) (s : Nat) (t : Txn) (ht : σ.txns.getD s none = some t) (c : Cal) (hc : σ.calls.getD s none = some c) (hx : t.cell c.op.key = none) :
    Calls Tryz.prog 86 #[.pointer (some ⟨A.be, 0, none⟩), .pointer (some ⟨A.bt s, 0, none⟩), .pointer (some ⟨A.bc s, 0, none⟩)] w (Tells A w s (σ, .start ⟨c.op.key, t.begin_, .change⟩)) := by
  obtain ⟨r3, g3, _, _, _⟩ := allocs3 hR #[.pointer (some ⟨A.be, 0, none⟩)] 27 #[.pointer (some ⟨A.bt s, 0, none⟩)] 102 #[.pointer (some ⟨A.bc s, 0, none⟩)] 107
  have k1 := r3.call hc 1 (v := .int .i64 (c.op.key : Int)) rfl
  obtain ⟨r4, g4, f0, f1, f2, f3⟩ := allocs4 hR #[.pointer (some ⟨A.be, 0, none⟩)] 27 #[.pointer (some ⟨A.bt s, 0, none⟩)] 102 #[.pointer (some ⟨A.bc s, 0, none⟩)] 107 #[.int .i64 (c.op.key : Int)] 3
  have a0 := f0.cell 0 (v := .pointer (some ⟨A.be, 0, none⟩)) rfl
  have a1 := f1.cell 0 (v := .pointer (some ⟨A.bt s, 0, none⟩)) rfl
  have a2 := f2.cell 0 (v := .pointer (some ⟨A.bc s, 0, none⟩)) rfl
  have a3 := f3.cell 0 (v := .int .i64 (c.op.key : Int)) rfl
  have a7 := r4.txn ht 7 (v := .map (some (A.bm s))) rfl
  have ab := r4.txn ht 3 (v := .int .u64 (t.begin_ : Int)) rfl
  have hlk := fun n => lookup_run (r4.drewN n) ht c.op.key
  have hpx : A.px s t c.op.key = .pointer none := by unfold Book.px; rw [hx]; rfl
  rw [hpx] at hlk
  have gd := fun n => (Grow.drewN A.L ((((w.alloc (.cells #[.pointer (some ⟨A.be, 0, none⟩)] 27)).alloc (.cells #[.pointer (some ⟨A.bt s, 0, none⟩)] 102)).alloc (.cells #[.pointer (some ⟨A.bc s, 0, none⟩)] 107)).alloc (.cells #[.int .i64 (c.op.key : Int)] 3)) n).trans (Grow.drew A.L _)
  have HF := Lib.hid (fun n => And.intro (find_any (r4.drewN n).drew s c.op.key t.begin_ (.func (.func 124) #[] #[.pointer (some ⟨w.heap.size + 1 + 1, 0, none⟩), .pointer (some ⟨w.heap.size + 1, 0, none⟩), .pointer (some ⟨w.heap.size + 1 + 1 + 1, 0, none⟩), .pointer (some ⟨w.heap.size, 0, none⟩)]) .change ⟨_, _, _, _, rfl, f2.box.grow (gd n), f1.box.grow (gd n), f3.box.grow (gd n), f0.box.grow (gd n)⟩) (g4.trans (gd n)))
  clear hR ht hc hx r3 g3 r4 g4 f0 f1 f2 f3 gd hpx
  generalize c.op.key = key at *
  generalize t.begin_ = bg at *
  go_enter Tryz.func86, Tryz.ntmps86
  go_wp2_with fail
  generalize (((w.alloc _).alloc _).alloc _).alloc _ = w4 at *
  go_quiet (fail)
  go_wp2_with fail
  generalize hw5 : w4.drewN _ = w5
  have e0 : w5.cell? ⟨w.heap.size, 0, none⟩ = some (.pointer (some ⟨A.be, 0, none⟩)) := by rw [← hw5]; exact a0
  have e1 : w5.cell? ⟨w.heap.size + 1, 0, none⟩ = some (.pointer (some ⟨A.bt s, 0, none⟩)) := by rw [← hw5]; exact a1
  have e3 : w5.cell? ⟨w.heap.size + 1 + 1 + 1, 0, none⟩ = some (.int .i64 (key : Int)) := by rw [← hw5]; exact a3
  have eb : w5.cell? ⟨A.bt s, 3, none⟩ = some (.int .u64 (bg : Int)) := by rw [← hw5]; exact ab
  have HF0 : ∀ n, w4.drewN n = w5 → Calls Tryz.prog 108 #[.pointer (some ⟨A.be, 0, none⟩), .pointer (some ⟨A.bt s, 0, none⟩), .int .i64 (key : Int), .int .u64 (bg : Int), .func (.func 124) #[] #[.pointer (some ⟨w.heap.size + 1 + 1, 0, none⟩), .pointer (some ⟨w.heap.size + 1, 0, none⟩), .pointer (some ⟨w.heap.size + 1 + 1 + 1, 0, none⟩), .pointer (some ⟨w.heap.size, 0, none⟩)]] w5.drew (Tells A w5.drew s (σ, .start ⟨key, bg, .change⟩)) ∧ Grow A.L w A.L w5.drew := fun n h => by rw [← h]; exact HF.out n
  have HF1 := HF0 _ hw5
  have HF2 := Lib.hid HF1
  clear a0 a1 a2 a3 a7 ab hlk HF HF0 HF1 hw5
  refine wp_region_still_tail 8 (by kernel_rfl) (by kernel_rfl) ?_
  simp only [List.take_succ_cons, List.take_zero, List.drop_succ_cons, List.drop_zero]
  repeat still_step
  refine wpStill_nil ?_
  go_wp2_with (go_at_call 108; refine (HF2.out.1).mono ?_; rintro e w2 ⟨A2, v, rfl, p1, p2, p3, p4⟩)
  go_ret
  exact ⟨A2, v, rfl, p1, HF2.out.2.trans p2, p3, p4⟩
theorem first_tells {A : Book} {σ : St} {w : World} (hR : Rep A σ w) (s : Nat) (c : Cal) (hc : σ.calls.getD s none = some c) (Q : Ending → World → Prop) (h1 : c.op.kind = 1 → Calls Tryz.prog 82 #[.pointer (some ⟨A.be, 0, none⟩), .pointer (some ⟨A.bt s, 0, none⟩), .pointer (some ⟨A.bc s, 0, none⟩)] w Q) (h5 : c.op.kind = 5 → Calls Tryz.prog 83 #[.pointer (some ⟨A.be, 0, none⟩), .pointer (some ⟨A.bt s, 0, none⟩), .pointer (some ⟨A.bc s, 0, none⟩), .int .i64 (c.op.key : Int)] w Q) (h6 : c.op.kind = 6 → Calls Tryz.prog 84 #[.pointer (some ⟨A.be, 0, none⟩), .pointer (some ⟨A.bt s, 0, none⟩), .pointer (some ⟨A.bc s, 0, none⟩)] w Q) (h7 : c.op.kind = 7 → Calls Tryz.prog 85 #[.pointer (some ⟨A.be, 0, none⟩), .pointer (some ⟨A.bt s, 0, none⟩), .pointer (some ⟨A.bc s, 0, none⟩), .int .i64 0, .int .i64 1] w Q)
    (hz : c.op.kind ≠ 1 → c.op.kind ≠ 5 → c.op.kind ≠ 6 → c.op.kind ≠ 7 → Calls Tryz.prog 86 #[.pointer (some ⟨A.be, 0, none⟩), .pointer (some ⟨A.bt s, 0, none⟩), .pointer (some ⟨A.bc s, 0, none⟩)] w Q) (hQ : ∀ e w', Q e w' → ∃ v, e = .returned v) :
    Calls Tryz.prog 51 #[.pointer (some ⟨A.be, 0, none⟩), .pointer (some ⟨A.bt s, 0, none⟩), .pointer (some ⟨A.bc s, 0, none⟩)] w Q := by
  have k0 : w.cell? ⟨A.bc s, 0, none⟩ = some (.int .i64 (c.op.kind : Int)) := hR.call hc 0 rfl
  have k1 : w.cell? ⟨A.bc s, 1, none⟩ = some (.int .i64 (c.op.key : Int)) := hR.call hc 1 rfl
  clear hR hc
  generalize c.op.kind = kd at *
  generalize c.op.key = key at *
  have HQ := Lib.hid hQ
  clear hQ
  by_cases k1' : kd = 1
  · subst k1'
    have k0' : w.cell? ⟨A.bc s, 0, none⟩ = some (.int .i64 1) := k0
    clear k0
    have HC := Lib.hid (h1 rfl)
    clear h1 h5 h6 h7 hz
    go_enter Tryz.func51, Tryz.ntmps51
    go_wp2_with (go_at_call 82; refine HC.out.mono ?_; intro e w2 hq; obtain ⟨v, rfl⟩ := HQ.out e w2 hq; have HV := Lib.hid hq; clear hq)
    exact HV.out
  · skip
    by_cases k5' : kd = 5
    · subst k5'
      have k0' : w.cell? ⟨A.bc s, 0, none⟩ = some (.int .i64 5) := k0
      clear k0
      have HC := Lib.hid (h5 rfl)
      clear h1 h5 h6 h7 hz
      clear k1'
      go_enter Tryz.func51, Tryz.ntmps51
      go_wp2_with (go_at_call 83; refine HC.out.mono ?_; intro e w2 hq; obtain ⟨v, rfl⟩ := HQ.out e w2 hq; have HV := Lib.hid hq; clear hq)
      exact HV.out
    · skip
      by_cases k6' : kd = 6
      · subst k6'
        have k0' : w.cell? ⟨A.bc s, 0, none⟩ = some (.int .i64 6) := k0
        clear k0
        have HC := Lib.hid (h6 rfl)
        clear h1 h5 h6 h7 hz
        clear k1' k5'
        go_enter Tryz.func51, Tryz.ntmps51
        go_wp2_with (go_at_call 84; refine HC.out.mono ?_; intro e w2 hq; obtain ⟨v, rfl⟩ := HQ.out e w2 hq; have HV := Lib.hid hq; clear hq)
        exact HV.out
      · skip
        by_cases k7' : kd = 7
        · subst k7'
          have k0' : w.cell? ⟨A.bc s, 0, none⟩ = some (.int .i64 7) := k0
          clear k0
          have HC := Lib.hid (h7 rfl)
          clear h1 h5 h6 h7 hz
          clear k1' k5' k6'
          go_enter Tryz.func51, Tryz.ntmps51
          go_wp2_with (go_at_call 85; refine HC.out.mono ?_; intro e w2 hq; obtain ⟨v, rfl⟩ := HQ.out e w2 hq; have HV := Lib.hid hq; clear hq)
          exact HV.out
        · skip
          have a1 : ((kd : Int) == 1) = false := by simp; omega
          have b1 : ((kd : Int) = 1) = False := by simp; omega
          have n1 : (kd = 1) = False := by simp; omega
          have a5 : ((kd : Int) == 5) = false := by simp; omega
          have b5 : ((kd : Int) = 5) = False := by simp; omega
          have n5 : (kd = 5) = False := by simp; omega
          have a6 : ((kd : Int) == 6) = false := by simp; omega
          have b6 : ((kd : Int) = 6) = False := by simp; omega
          have n6 : (kd = 6) = False := by simp; omega
          have a7 : ((kd : Int) == 7) = false := by simp; omega
          have b7 : ((kd : Int) = 7) = False := by simp; omega
          have n7 : (kd = 7) = False := by simp; omega
          have HC := Lib.hid (hz k1' k5' k6' k7')
          clear h1 h5 h6 h7 hz
          clear k1' k5' k6' k7'
          go_enter Tryz.func51, Tryz.ntmps51
          go_wp2_with (go_at_call 86; refine HC.out.mono ?_; intro e w2 hq; obtain ⟨v, rfl⟩ := HQ.out e w2 hq; have HV := Lib.hid hq; clear hq)
          exact HV.out
end Go.Proofs.YtbefcdjcefmicaaGreat.Em
