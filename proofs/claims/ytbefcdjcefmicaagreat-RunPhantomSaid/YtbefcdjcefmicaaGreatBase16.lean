/- Texts of this claim, laid together: Sw, At, Be. -/
import Derived.Test.YtbefcdjcefmicaaGreatBase7
import Derived.Test.YtbefcdjcefmicaaGreatBase4
import Derived.Test.YtbefcdjcefmicaaGreatBase15
import Derived.Test.YtbefcdjcefmicaaGreatBase6
import Derived.Test.YtbefcdjcefmicaaGreatBase8
import Derived.Test.YtbefcdjcefmicaaGreatBase9
import Derived.Test.YtbefcdjcefmicaaGreatBase10
namespace Go.Proofs.YtbefcdjcefmicaaGreat.Em
open Go.ChangeShapes Go.WideShapes Go.ChangeAt Go.RowKit En
set_option linter.unusedVariables false
set_option linter.unusedSimpArgs false
set_option maxRecDepth 100000
set_option maxHeartbeats 1600000

theorem step_pairs {A : Book} {σ : St} {w : World} (hL : Live A σ w) (s : Nat) (hs : s < 8) (t : Txn) (ht : σ.txns.getD s none = some t) (c : Cal) (hc : σ.calls.getD s none = some c) (k : K) (hk : c.k = some k) (hcnt : σ.count < 3000000000000000000) (σ2 : St) (ok : Option K) (hrun : (σ.setC s { c with waits := false }).run s k = (σ2, ok)) (HS : RunsTo (σ.setC s { c with waits := false }) s k) (c2 : Cal) (hc2 : σ2.calls.getD s none = some c2) (dl : Nat) (hdl : σ2.count = σ.count + dl) (hd1 : dl < 1000000) (hlk : σ2.looks < 1000000000000000000) (hcq : ∀ q, q ≠ s → σ2.calls.getD q none = σ.calls.getD q none) (t2 : Txn) (ht2 : σ2.txns.getD s none = some t2) (htl : σ2.tale.length < 1000000) (hok : ok = none) (hw : c2.waits = false) (hov : c2.over = true) (hpr : c2.r.pairs.length ≤ 1000000) (hro : c2.r.over = 0) :
    Calls Tryz.prog 19 #[.pointer (some ⟨A.be, 0, none⟩), .int .i64 (s : Int)] w (Stepped A w (({ σ2.setC s { c2 with k := ok } with looks := σ2.looks + dl, calls := (σ2.setC s { c2 with k := ok }).calls.set s none } : St).event { kind := 2, t := t2.id, op := c2.op, res := c2.r }) 3 c2.r) := by
  obtain ⟨Q, hQ⟩ : ∃ Q, Q = Stepped A w (({ σ2.setC s { c2 with k := ok } with looks := σ2.looks + dl, calls := (σ2.setC s { c2 with k := ok }).calls.set s none } : St).event { kind := 2, t := t2.id, op := c2.op, res := c2.r }) 3 c2.r := ⟨_, rfl⟩
  rw [← hQ]
  have HQ := Lib.hid hQ
  clear hQ
  obtain ⟨r0, g0, fl, fh⟩ := hL.rep.newTmp (.cells #[.int .i64 0, .int .i64 0, .int .i64 0, .slice none 0 0, .int .i64 0, .int .i64 0] 44)
  obtain ⟨hvc, k0, hk0, hkr⟩ := hL.call s hs c hc
  obtain rfl : k = k0 := by rw [hk] at hk0; exact Option.some.inj hk0
  obtain ⟨fv, fb, fc, hvn, hent⟩ := hkr.enter
  have hsok := Lib.hid (sessionOk s hs)
  have b1 : (s : Int) < 8 := by omega
  have b0 : (0 : Int) ≤ (s : Int) := by omega
  have v0 : (w.alloc (.cells #[.int .i64 0, .int .i64 0, .int .i64 0, .slice none 0 0, .int .i64 0, .int .i64 0] 44)).cell? ⟨A.be, 13 + s, none⟩ = some (.pointer (some ⟨A.bc s, 0, none⟩)) := by rw [← show A.vcall s = .pointer (some ⟨A.bc s, 0, none⟩) from hvc]; exact r0.eng (13 + s) (engCs_call (A.tmp w.heap.size) σ hs)
  have v1 : (w.alloc (.cells #[.int .i64 0, .int .i64 0, .int .i64 0, .slice none 0 0, .int .i64 0, .int .i64 0] 44)).cell? ⟨A.be, 5 + s, none⟩ = some (.pointer (some ⟨A.bt s, 0, none⟩)) := by
    have h := r0.eng (5 + s) (engCs_txn (A.tmp w.heap.size) σ hs)
    have e : (A.tmp w.heap.size).tp σ s = .pointer (some ⟨A.bt s, 0, none⟩) := by unfold Book.tp; rw [ht]; rfl
    rw [e] at h; exact h
  obtain ⟨σ1, hσ1⟩ : ∃ σ1, σ1 = σ.setC s { c with waits := false } := ⟨_, rfl⟩
  rw [← hσ1] at hrun HS
  have hc1 : σ1.calls.getD s none = some { c with waits := false } := by rw [hσ1, getC_set (lt_of_call hc), if_pos rfl]
  have hkp : kp A σ1 s = kp A σ s := by unfold kp; rw [call_get hc1, call_get hc]
  -- behind the draws: the first store
  have H5 : Hid (∀ n w5, (w.alloc (.cells #[.int .i64 0, .int .i64 0, .int .i64 0, .slice none 0 0, .int .i64 0, .int .i64 0] 44)).drewN n = w5 → w5.cell? ⟨A.bc s, 10, none⟩ = some (.bool c.waits) ∧ w5.frozen? ⟨A.bc s, 10, none⟩ = false ∧ ∀ w6, w5.setCell ⟨A.bc s, 10, none⟩ (.bool false) = w6 → w6.cell? ⟨A.be, 2, none⟩ = some (.pointer (some ⟨A.ba, 0, none⟩)) ∧ w6.cell? ⟨A.bc s, 4, none⟩ = some (.func (.func fv) fb fc) ∧ Calls Tryz.prog 52 #[.pointer (some ⟨A.ba, 0, none⟩)] w6 (fun e w' => e = .returned (.int .i64 (σ.count : Int)) ∧ w6 = w') ∧ Calls Tryz.prog fv (fb ++ fc) w6 (Ran (A.tmp w.heap.size) w6 s (σ2, ok)) ∧ Grow A.L w (A.tmp w.heap.size).L w6 ∧ ((A.tmp w.heap.size).L w.heap.size = some .tmp ∧ w6.heap[w.heap.size]? = some (.cells #[.int .i64 0, .int .i64 0, .int .i64 0, .slice none 0 0, .int .i64 0, .int .i64 0] 44))) := by
    rintro n w5 rfl
    have r5 := r0.drewN n
    refine ⟨r5.call hc 10 rfl, r5.callF hc 10, ?_⟩
    rintro w6 rfl
    obtain ⟨r6, g6⟩ := r5.setCall hc { c with waits := false } 10 (.bool false) rfl rfl
    have g56 := (Grow.drewN (A.tmp w.heap.size).L (w.alloc (.cells #[.int .i64 0, .int .i64 0, .int .i64 0, .slice none 0 0, .int .i64 0, .int .i64 0] 44)) n).trans g6
    have gg := g0.trans g56
    rw [← hσ1] at r6
    have h4 : _ = some (A.vnext s) := r6.call hc1 4 rfl
    rw [hvn] at h4
    have h4' : (((w.alloc (.cells #[.int .i64 0, .int .i64 0, .int .i64 0, .slice none 0 0, .int .i64 0, .int .i64 0] 44)).drewN n).setCell ⟨A.bc s, 10, none⟩ (.bool false)).cell? ⟨A.bc s, 4, none⟩ = some (.func (.func fv) fb fc) := h4
    have hk6 := (hkr.grow gg)
    rw [hvn, ← hkp] at hk6
    have hS := HS (A.tmp w.heap.size) _ fv fb fc r6 hL.mp (hL.mt s) hk6
    rw [hrun] at hS
    have hcn := count_any r6 (by rw [hσ1]; exact Nat.lt_trans hcnt (by decide))
    have hcc : σ1.count = σ.count := by rw [hσ1]; rfl
    rw [hcc] at hcn
    exact ⟨r6.eng 2 rfl, h4', hcn, hS, gg, tmp_grow ⟨fl, fh⟩ g56⟩
  have HL0 := Lib.hid hL
  have HF := Lib.hid (And.intro hc2 (And.intro hdl (And.intro hcq (And.intro hs hlk))))
  have n1 : IntKind.i64.wrap (((σ.count + dl : Nat) : Int) - (σ.count : Int)) = (dl : Int) := by rw [IntKind.wrap_i64]; omega
  have n2 : IntKind.i64.wrap ((σ2.looks : Int) + (dl : Int)) = ((σ2.looks + dl : Nat) : Int) := by rw [IntKind.wrap_i64]; omega
  -- behind the closure: the next step is laid; the looks are counted
  have H7 : Hid (∀ A2 w2 v A3, A3 = { A2 with vnext := upF A2.vnext s v } → Rep A2 σ2 w2 → Stay (A.tmp w.heap.size) A2 s → w2.cell? ⟨A.bc s, 4, none⟩ = some (A2.vnext s) ∧ w2.frozen? ⟨A.bc s, 4, none⟩ = false ∧ ∀ w3, w2.setCell ⟨A.bc s, 4, none⟩ v = w3 → w3.cell? ⟨A.be, 23, none⟩ = some (.int .i64 (σ2.looks : Int)) ∧ w3.frozen? ⟨A.be, 23, none⟩ = false ∧ w3.cell? ⟨A.be, 2, none⟩ = some (.pointer (some ⟨A.ba, 0, none⟩)) ∧ Calls Tryz.prog 52 #[.pointer (some ⟨A.ba, 0, none⟩)] w3.drew (fun e w' => e = .returned (.int .i64 ((σ.count + dl : Nat) : Int)) ∧ w' = w3.drew) ∧
      ∀ w4, w3.drew.setCell ⟨A.be, 23, none⟩ (.int .i64 ((σ2.looks + dl : Nat) : Int)) = w4 → Rep A3 ({ σ2.setC s { c2 with k := ok } with looks := σ2.looks + dl }) w4 ∧ Grow A2.L w2 A2.L w4 ∧ w4.cell? ⟨A.bc s, 10, none⟩ = some (.bool c2.waits) ∧ w4.cell? ⟨A.bc s, 11, none⟩ = some (.bool c2.over)) := by
    intro A2 w2 v A3 hA3 q st
    have ebc : A2.bc = A.bc := st.bc
    have ebe : A2.be = A.be := st.be
    have eba : A2.ba = A.ba := st.ba
    have x4 := q.call hc2 4 (v := A2.vnext s) rfl
    have z4 := q.callF hc2 4
    rw [ebc] at x4 z4
    refine ⟨x4, z4, ?_⟩
    rintro w3 rfl
    obtain ⟨r3, g3⟩ := q.nextSet hc2 v ok
    rw [← hA3, ebc] at r3
    rw [ebc] at g3
    have e3 : A3.be = A.be := by rw [hA3]; exact ebe
    have e3a : A3.ba = A.ba := by rw [hA3]; exact eba
    have e3c : A3.bc = A.bc := by rw [hA3]; exact ebc
    have e3L : A3.L = A2.L := by rw [hA3]
    have y23 := r3.eng 23 (v := .int .i64 (σ2.looks : Int)) rfl
    have z23 := r3.engF 23
    have y2 := r3.eng 2 (v := .pointer (some ⟨A3.ba, 0, none⟩)) rfl
    have hcn := flip (count_any r3.drew (by show σ2.count < _; omega))
    rw [e3] at y23 z23 y2
    rw [e3a] at hcn y2
    rw [show (σ2.setC s { c2 with k := ok }).count = σ.count + dl from hdl] at hcn
    refine ⟨y23, z23, y2, hcn, ?_⟩
    intro w4 hw4
    obtain ⟨r4, g4⟩ := r3.drew.looksSet (σ2.looks + dl)
    rw [e3, hw4] at r4 g4
    rw [e3L] at g4
    have hc4 : ({ σ2.setC s { c2 with k := ok } with looks := σ2.looks + dl } : St).calls.getD s none = some { c2 with k := ok } := by show (σ2.setC s { c2 with k := ok }).calls.getD s none = _; rw [getC_set (lt_of_call hc2), if_pos rfl]
    have a10 := r4.call hc4 10 (v := .bool c2.waits) rfl
    have a11 := r4.call hc4 11 (v := .bool c2.over) rfl
    rw [e3c] at a10 a11
    exact ⟨r4, (g3.trans (Grow.drew _ _)).trans g4, a10, a11⟩
  have hwx : (w.alloc (.cells #[.int .i64 0, .int .i64 0, .int .i64 0, .slice none 0 0, .int .i64 0, .int .i64 0] 44)).cell? ⟨A.bc s, 10, none⟩ = some (.bool c.waits) := r0.call hc 10 rfl
  have HVC := Lib.hid hvc
  clear hL ht hc hk hcnt hrun HS hc2 hdl hd1 hlk hcq r0 g0 fl fh hvc hk0 hkr hvn hσ1 hc1 hkp hs
  generalize (σ.count : Int) = ca at *
  generalize ((σ.count + dl : Nat) : Int) = cb at *
  generalize ((σ2.looks + dl : Nat) : Int) = lb at *
  go_enter Tryz.func19, Tryz.ntmps19
  go_wp2_with (go_at_call 48; refine (hsok.out _).mono ?_; rintro e w' ⟨rfl, rfl⟩)
  generalize hw0 : w.alloc _ = w0 at *
  go_quiet (fail)
  generalize hw5 : w0.drewN _ = w5
  obtain ⟨x10, z10, h6⟩ := H5.out _ w5 hw5
  obtain ⟨y2, y4, hcn, hS, gg, fD⟩ := h6 _ rfl
  have HC := Lib.hid hcn
  have HX := Lib.hid (And.intro hS (And.intro gg fD))
  clear hcn hS gg fD h6 hw5 hw0 H5 v0 v1 hwx
  go_wp2_with (go_at_call 52; refine HC.out.mono ?_; rintro e w' ⟨rfl, rfl⟩)
  refine HX.out.1.mono ?_
  rintro e w2 ⟨A2, v, rfl, q1, q2, q3, q4⟩
  subst hok
  have hv : v = .nilFunc := q4
  clear q4
  subst hv
  obtain ⟨x4, z4, h3⟩ := H7.out A2 w2 .nilFunc _ rfl q1 q3
  obtain ⟨y23, z23, y2', hcn, h4⟩ := h3 _ rfl
  have HC2 := Lib.hid hcn
  have HX2 := Lib.hid (And.intro q1 (And.intro q2 (And.intro q3 h4)))
  clear hcn h3 h4 q1 q2 q3 H7 x10 z10 y2 y4
  go_wp2_with fail
  generalize hw3 : w2.setCell ⟨A.bc s, 4, none⟩ .nilFunc = w3 at *
  refine wp_region_still_tail 14 (by kernel_rfl) (by kernel_rfl) ?_
  simp only [List.take_succ_cons, List.take_zero, List.drop_succ_cons, List.drop_zero]
  repeat still_step
  still_call HC2.out
  repeat still_step
  refine wpStill_nil ?_
  change wpList _ _ _ _ _ w3.drew
  have y23d : w3.drew.cell? ⟨A.be, 23, none⟩ = some (.int .i64 (σ2.looks : Int)) := y23
  have z23d : w3.drew.frozen? ⟨A.be, 23, none⟩ = false := z23
  generalize w3.drew = wd at *
  obtain ⟨r4, g4, a10, a11⟩ := HX2.out.2.2.2 _ rfl
  rw [hw] at a10
  rw [hov] at a11
  obtain ⟨hc2, hdl, hcq, hs, _⟩ := HF.out
  have q3 := HX2.out.2.2.1
  have hc4 : ({ σ2.setC s { c2 with k := none } with looks := σ2.looks + dl } : St).calls.getD s none = some { c2 with k := none } := by show (σ2.setC s { c2 with k := none }).calls.getD s none = _; rw [getC_set (lt_of_call hc2), if_pos rfl]
  obtain ⟨A4, hA4⟩ : ∃ A4 : Book, A4 = { A2 with vnext := upF A2.vnext s .nilFunc } := ⟨_, rfl⟩
  rw [← hA4] at r4
  have e4be : A4.be = A.be := by rw [hA4]; exact q3.be
  have e4L : A4.L = A2.L := by rw [hA4]
  have m13 := r4.eng (13 + s) (engCs_call A4 _ hs)
  have z13 := r4.engF (13 + s)
  obtain ⟨r5, g5⟩ := r4.vcallSet hs (.pointer none)
  obtain ⟨A5, hA5⟩ : ∃ A5 : Book, A5 = { A4 with vcall := upF A4.vcall s (.pointer none) } := ⟨_, rfl⟩
  rw [← hA5, e4be] at r5
  rw [e4be] at g5 m13 z13
  have e5L : A5.L = A2.L := by rw [hA5]; exact e4L
  rw [e4L] at g5
  have st5 : StayQ A A5 s := by
    rw [hA5, hA4]
    exact ⟨q3.be, q3.mp, q3.mt, fun q _ => congrFun q3.bt q, fun q _ => congrFun q3.bc q, q3.bx, q3.vpairs, fun q hq => (upF_other _ _ hq).trans (congrFun q3.vnext q), fun q hq => (upF_other _ _ hq).trans (congrFun q3.vcall q)⟩
  have e5bt : A5.bt = A.bt := by rw [hA5, hA4]; exact q3.bt
  have e5bc : A5.bc = A.bc := by rw [hA5, hA4]; exact q3.bc
  have e5v : A5.vcall s = .pointer none := by rw [hA5]; exact upF_same _ _ _
  have m8 := r5.call hc4 8 (v := .int .i64 (c2.r.over : Int)) rfl
  have hown := r5.mem.all (.pairs s)
  rw [mem_pairs (A := A5) hc4] at hown
  obtain ⟨pa, pcap, hpv, _⟩ := Ow.own_form hown.1
  obtain ⟨np, hnp⟩ : ∃ np, np = c2.r.pairs.length := ⟨_, rfl⟩
  rw [show ({ c2 with k := none } : Cal).r.pairs.length = np from hnp.symm] at hpv
  rw [e5bc] at m8
  rw [show (c2.r.over : Int) = 0 by rw [hro]; rfl] at m8
  have hK0 : ∀ (A6 : Book) (σ6 : St) w', Rep A6 σ6 w' → A6.bt = A.bt → A6.bc = A.bc → A6.vpairs = A5.vpairs → σ6.txns.getD s none = some t2 → σ6.calls.getD s none = some { c2 with k := none } → w'.cell? ⟨A.bt s, 0, none⟩ = some (.int .i64 (t2.id : Int)) ∧ w'.cell? ⟨A.bc s, 0, none⟩ = some (.int .i64 (c2.op.kind : Int)) ∧ w'.cell? ⟨A.bc s, 1, none⟩ = some (.int .i64 (c2.op.key : Int)) ∧ w'.cell? ⟨A.bc s, 2, none⟩ = some (.int .i64 (c2.op.hi : Int)) ∧ w'.cell? ⟨A.bc s, 3, none⟩ = some (.int .i64 (c2.op.value : Int)) ∧ w'.cell? ⟨A.bc s, 5, none⟩ = some (.int .i64 (c2.r.e : Int)) ∧ w'.cell? ⟨A.bc s, 6, none⟩ = some (.int .i64 (c2.r.value : Int)) ∧ w'.cell? ⟨A.bc s, 7, none⟩ = some (.slice pa np pcap) ∧ w'.cell? ⟨A.bc s, 8, none⟩ = some (.int .i64 (c2.r.over : Int)) ∧ w'.cell? ⟨A.bc s, 9, none⟩ = some (.int .i64 (c2.r.reason : Int)) := by
    intro A6 σ6 w' r b1 b2 b3 b4 b5
    have x0 := r.txn b4 0 (v := .int .i64 (t2.id : Int)) rfl
    have y0 := r.call b5 0 (v := .int .i64 (c2.op.kind : Int)) rfl
    have y1 := r.call b5 1 (v := .int .i64 (c2.op.key : Int)) rfl
    have y2 := r.call b5 2 (v := .int .i64 (c2.op.hi : Int)) rfl
    have y3 := r.call b5 3 (v := .int .i64 (c2.op.value : Int)) rfl
    have y5 := r.call b5 5 (v := .int .i64 (c2.r.e : Int)) rfl
    have y6 := r.call b5 6 (v := .int .i64 (c2.r.value : Int)) rfl
    have y7 := r.call b5 7 (v := A6.vpairs s) rfl
    have y8 := r.call b5 8 (v := .int .i64 (c2.r.over : Int)) rfl
    have y9 := r.call b5 9 (v := .int .i64 (c2.r.reason : Int)) rfl
    rw [b1] at x0
    rw [b2] at y0 y1 y2 y3 y5 y6 y7 y8 y9
    rw [b3, hpv] at y7
    exact ⟨x0, y0, y1, y2, y3, y5, y6, y7, y8, y9⟩
  have HE : Hid (∀ w6 va vc, Rep A5 ({ σ2.setC s { c2 with k := none } with looks := σ2.looks + dl } : St) w6 → PRow A5.L w6 (.slice va np vc) (pairCs c2.r.pairs) → Calls Tryz.prog 53 #[.pointer (some ⟨A.be, 0, none⟩), .agg #[.int .i64 2, .int .i64 (t2.id : Int), .int .u64 0, .int .i64 (c2.op.kind : Int), .int .i64 (c2.op.key : Int), .int .i64 (c2.op.hi : Int), .int .i64 (c2.op.value : Int), .int .i64 (c2.r.e : Int), .int .i64 (c2.r.value : Int), .slice va np vc, .int .i64 (c2.r.over : Int), .int .i64 (c2.r.reason : Int)]] w6 (Does A5 w6 s (({ σ2.setC s { c2 with k := none } with looks := σ2.looks + dl } : St).event { kind := 2, t := t2.id, op := c2.op, res := c2.r }) (.tuple #[]))) := by
    intro w6 va vc r hp
    have h := event_any r s { kind := 2, t := t2.id, op := c2.op, res := c2.r } 2 t2.id 0 c2.op.kind c2.op.key c2.op.hi c2.op.value c2.r.e c2.r.value c2.r.over c2.r.reason va np vc rfl hp htl
    rw [st5.be] at h
    exact h
  have HKR : Hid (∀ (A6 : Book) (σ6 : St) w', Rep A6 σ6 w' → A6.vpairs = A5.vpairs → σ6.calls.getD s none = some { c2 with k := none } → Ow.Row w' 0 2 (.slice pa np pcap) (pairCs c2.r.pairs)) := by
    intro A6 σ6 w' r b3 b5
    have h := r.mem.all (.pairs s)
    rw [mem_pairs (A := A6) b5] at h
    have h2 := own_row h.1
    rw [b3, hpv] at h2
    exact h2
  have HNP := Lib.hid (And.intro hnp.symm (by rw [hnp]; exact hpr : np ≤ 1000000))
  have HK0 := Lib.hid hK0
  have fD := tmp_grow (tmp_grow (tmp_grow HX.out.2.2 HX2.out.2.1) g4) g5
  have HY := Lib.hid (And.intro r5 (And.intro (g4.trans g5) (And.intro fD (And.intro hpr (And.intro hro (And.intro ht2 (And.intro hc4 (And.intro st5 (And.intro e5bt (And.intro e5bc (And.intro e5v e5L)))))))))))
  have S0 := hK0 A5 _ _ r5 e5bt e5bc rfl ht2 hc4
  clear hnp hK0 r4 g4 r5 g5 fD hown hpv q3 hc4 hc2 hdl hcq hw hov hpr hro ht2 hA4 hA5 e4be e4L e5L st5 e5bt e5bc e5v htl
  go_wp2_with fail
  generalize hw5 : World.setCell (World.setCell wd _ _) _ _ = w5 at *
  have HKB : Hid (∀ w', Below w5.heap.size w5 w' → w'.cell? ⟨A.bt s, 0, none⟩ = some (.int .i64 (t2.id : Int)) ∧ w'.cell? ⟨A.bc s, 0, none⟩ = some (.int .i64 (c2.op.kind : Int)) ∧ w'.cell? ⟨A.bc s, 1, none⟩ = some (.int .i64 (c2.op.key : Int)) ∧ w'.cell? ⟨A.bc s, 2, none⟩ = some (.int .i64 (c2.op.hi : Int)) ∧ w'.cell? ⟨A.bc s, 3, none⟩ = some (.int .i64 (c2.op.value : Int)) ∧ w'.cell? ⟨A.bc s, 5, none⟩ = some (.int .i64 (c2.r.e : Int)) ∧ w'.cell? ⟨A.bc s, 6, none⟩ = some (.int .i64 (c2.r.value : Int)) ∧ w'.cell? ⟨A.bc s, 7, none⟩ = some (.slice pa np pcap) ∧ w'.cell? ⟨A.bc s, 8, none⟩ = some (.int .i64 (c2.r.over : Int)) ∧ w'.cell? ⟨A.bc s, 9, none⟩ = some (.int .i64 (c2.r.reason : Int))) := fun w' hb => HK0.out A5 _ _ (HY.out.1.below hb) HY.out.2.2.2.2.2.2.2.2.1 HY.out.2.2.2.2.2.2.2.2.2.1 rfl HY.out.2.2.2.2.2.1 HY.out.2.2.2.2.2.2.1
  have HK7 : Hid (∀ A7 w', Rep A7 (({ σ2.setC s { c2 with k := none } with looks := σ2.looks + dl } : St).event { kind := 2, t := t2.id, op := c2.op, res := c2.r }) w' → Stay A5 A7 s → A7.vpairs = A5.vpairs → w'.cell? ⟨A.bt s, 0, none⟩ = some (.int .i64 (t2.id : Int)) ∧ w'.cell? ⟨A.bc s, 0, none⟩ = some (.int .i64 (c2.op.kind : Int)) ∧ w'.cell? ⟨A.bc s, 1, none⟩ = some (.int .i64 (c2.op.key : Int)) ∧ w'.cell? ⟨A.bc s, 2, none⟩ = some (.int .i64 (c2.op.hi : Int)) ∧ w'.cell? ⟨A.bc s, 3, none⟩ = some (.int .i64 (c2.op.value : Int)) ∧ w'.cell? ⟨A.bc s, 5, none⟩ = some (.int .i64 (c2.r.e : Int)) ∧ w'.cell? ⟨A.bc s, 6, none⟩ = some (.int .i64 (c2.r.value : Int)) ∧ w'.cell? ⟨A.bc s, 7, none⟩ = some (.slice pa np pcap) ∧ w'.cell? ⟨A.bc s, 8, none⟩ = some (.int .i64 (c2.r.over : Int)) ∧ w'.cell? ⟨A.bc s, 9, none⟩ = some (.int .i64 (c2.r.reason : Int))) := fun A7 w' r st vp => HK0.out A7 _ _ r (st.bt.trans HY.out.2.2.2.2.2.2.2.2.1) (st.bc.trans HY.out.2.2.2.2.2.2.2.2.2.1) vp HY.out.2.2.2.2.2.1 HY.out.2.2.2.2.2.2.1
  have HRW : Hid (∀ w', Below w5.heap.size w5 w' → Ow.Row w' 0 2 (.slice pa np pcap) (pairCs c2.r.pairs)) := fun w' hb => HKR.out A5 _ _ (HY.out.1.below hb) rfl HY.out.2.2.2.2.2.2.1
  have HFR : Hid (∀ b, w5.heap.size ≤ b → A5.L b = none) := HY.out.1.mem.fresh
  go_region_held3 (fun w' => w'.cell? ⟨A.bt s, 0, none⟩ = some (.int .i64 (t2.id : Int)) ∧ w'.cell? ⟨A.bc s, 0, none⟩ = some (.int .i64 (c2.op.kind : Int)) ∧ w'.cell? ⟨A.bc s, 1, none⟩ = some (.int .i64 (c2.op.key : Int)) ∧ w'.cell? ⟨A.bc s, 2, none⟩ = some (.int .i64 (c2.op.hi : Int)) ∧ w'.cell? ⟨A.bc s, 3, none⟩ = some (.int .i64 (c2.op.value : Int)) ∧ w'.cell? ⟨A.bc s, 5, none⟩ = some (.int .i64 (c2.r.e : Int)) ∧ w'.cell? ⟨A.bc s, 6, none⟩ = some (.int .i64 (c2.r.value : Int)) ∧ w'.cell? ⟨A.bc s, 7, none⟩ = some (.slice pa np pcap) ∧ w'.cell? ⟨A.bc s, 8, none⟩ = some (.int .i64 (c2.r.over : Int)) ∧ w'.cell? ⟨A.bc s, 9, none⟩ = some (.int .i64 (c2.r.reason : Int)))
    (first | exact S0 | assumption | exact HKB.out _ (by assumption) | exact HK7.out _ _ (by assumption) (by assumption) (by assumption))
    (first | (go_at_call 54; refine (copied_any _ _ _ _ _ _ _ _ c2.r.pairs (HRW.out _ ((Below.refl _ w5).drew)) HNP.out.1 HNP.out.2).mono ?_; rintro e w6 ⟨ca, cc, rfl, ho, hb⟩; have hb5 : Below w5.heap.size w5 w6 := ((Below.refl _ w5).drew).trans hb; have hPR : PRow A5.L w6 (.slice ca np cc) (pairCs c2.r.pairs) := prow_of_own ho (fun b h _ => HFR.out b h); clear hb ho) | (go_at_call 53; refine (HE.out _ _ _ (HY.out.1.below (by assumption)) (by assumption)).mono ?_; rintro e w7 ⟨rfl, A7, p1, p2, p3, p4, p5⟩))
  obtain ⟨_, _, _, _, _, s5, s6, s7, s8, s9⟩ := HK7.out _ _ p1 p3 p5
  rw [HY.out.2.2.2.2.2.2.2.2.2.2.2] at p2
  have HTD := Lib.hid (tmp_grow (tmp_grow HY.out.2.2.1 (Grow.below (L := A2.L) hb5)) p2)
  have H7 := Lib.hid (And.intro p1 (And.intro ((Grow.below (L := A2.L) hb5).trans p2) (And.intro p3 (And.intro p4 p5))))
  have HR7 := Lib.hid (HKR.out A7 _ _ p1 p5 HY.out.2.2.2.2.2.2.1)
  have HF7 := Lib.hid p1.mem.fresh
  clear p1 p2 p3 p4 p5 hb5 S0 hPR
  go_wp2_with (first | (go_at_call 54; refine (copied_any _ _ _ _ _ _ _ _ c2.r.pairs HR7.out HNP.out.1 HNP.out.2).mono ?_; rintro e w8 ⟨da, dc, rfl, ho8, hb8⟩; have HO8 := Lib.hid ho8; clear ho8; have HB8 := Lib.hid hb8; have HTH := Lib.hid (there_of (tmp_grow HTD.out (Grow.below (L := A7.L) hb8)).2); clear hb8) | (refine wpList_store_mid rfl 44 (.tmp 4) (.tmp 115) rfl w.heap.size 0 #[.int .i64 3, .int .i64 (c2.r.e : Int), .int .i64 (c2.r.value : Int), .slice da np dc, .int .i64 (c2.r.over : Int), .int .i64 (c2.r.reason : Int)] rfl rfl HTH.out (by kernel_rfl) (by simp [Value.oneCell']) ?_; generalize hws : World.setCells _ _ _ _ = ws))
  have hbut := But.setCells w.heap.size [.int .i64 3, .int .i64 (c2.r.e : Int), .int .i64 (c2.r.value : Int), .slice da np dc, .int .i64 (c2.r.over : Int), .int .i64 (c2.r.reason : Int)] 0 w8
  have fD := tmp_grow HTD.out (Grow.below (L := A7.L) HB8.out)
  have hfin := heap_setCells6 fD.2 (.int .i64 3) (.int .i64 (c2.r.e : Int)) (.int .i64 (c2.r.value : Int)) (.slice da np dc) (.int .i64 (c2.r.over : Int)) (.int .i64 (c2.r.reason : Int))
  rw [show w8.setCells w.heap.size 0 [.int .i64 3, .int .i64 (c2.r.e : Int), .int .i64 (c2.r.value : Int), .slice da np dc, .int .i64 (c2.r.over : Int), .int .i64 (c2.r.reason : Int)] = ws from hws] at hbut hfin
  (try simp only [Exit.inBlock, Exit.then])
  refine bodyPost_ret (results_cell_tmp_row rfl _ _ w.heap.size 44 #[.int .i64 3, .int .i64 (c2.r.e : Int), .int .i64 (c2.r.value : Int), .slice da np dc, .int .i64 (c2.r.over : Int), .int .i64 (c2.r.reason : Int)] _ _ rfl hfin Tryz.underlying44 rfl (by kernel_rfl)) rfl ?_
  rw [HQ.out]
  obtain ⟨hc2, hdl, hcq, hs, _⟩ := HF.out
  obtain ⟨q1, q2, q3, _⟩ := HX2.out
  obtain ⟨_, g5, _, hpr, _, _, _, st5, _, _, e5v, e5L⟩ := HY.out
  obtain ⟨p1, p2, p3, p4, p5⟩ := H7.out
  have r7 := ((p1.below HB8.out).dropCall s).but fD.1 hbut
  have gg := (((((HX.out.2.1.trans q2).trans g5).trans p2).trans (Grow.below (L := A7.L) HB8.out)).but (Nat.le_refl _) hbut)
  have hlen : s < (σ2.setC s { c2 with k := none }).calls.length := by have := lt_of_call hc2; simpa [St.setC] using this
  have hns : ((σ2.setC s { c2 with k := none }).calls.set s none).getD s none = none := by rw [getD_set _ _ _ _ _ hlen, if_pos rfl]
  refine ⟨A7, .slice da np dc, rfl, (prow_of_own (own_but HO8.out hbut fD.2 (by decide)) (fun b h _ => HF7.out b h)).1, Live.of (s := s) HL0.out r7 gg ⟨p3.be.trans st5.be, p3.mp.trans st5.mp, p3.mt.trans st5.mt, fun q hq => (congrFun p3.bt q).trans (st5.bt q hq), fun q hq => (congrFun p3.bc q).trans (st5.bc q hq), fun q hq => (p3.bx q hq).trans (st5.bx q hq), fun q hq => (p3.vpairs q hq).trans (st5.vpairs q hq), fun q hq => (congrFun p3.vnext q).trans (st5.vnext q hq), fun q hq => (congrFun p3.vcall q).trans (st5.vcall q hq)⟩ (fun q hq => ?_) (fun c' hcc => ?_) (fun hnn => (congrFun p3.vcall s).trans e5v), gg, p3.be.trans st5.be⟩
  · show ((σ2.setC s { c2 with k := none }).calls.set s none).getD q none = _
    rw [getD_set _ _ _ _ _ hlen, if_neg hq, getC_set (lt_of_call hc2), if_neg hq]
    exact hcq q hq
  · have h0 := hns.symm.trans hcc
    cases h0
end Go.Proofs.YtbefcdjcefmicaaGreat.Em

namespace Go.Proofs.YtbefcdjcefmicaaGreat.Em
open Go.ChangeShapes Go.WideShapes Go.ChangeAt Go.RowKit En
set_option linter.unusedVariables false
set_option linter.unusedSimpArgs false
set_option maxRecDepth 100000
set_option maxHeartbeats 1600000

theorem PRow.labs {L L' : Lab} {w : World} {v : Value} {xs : List Value} (h : PRow L w v xs) {b : Nat} (hL : ∀ g, g ≠ b → L' g = L g) (hb : ∀ cs, w.heap[b]? ≠ some (.cells cs 140)) : PRow L' w v xs := by
  obtain ⟨⟨ad, n, cap, rfl, e2, e3, e4, e5⟩, h2⟩ := h
  refine ⟨⟨ad, n, cap, rfl, e2, e3, e4, ?_⟩, h2⟩
  rcases e5 with h0 | ⟨g, off, rfl, e7, e8, e9⟩
  · exact .inl h0
  · rcases h2 g off n cap rfl with h0 | ⟨cs, hc⟩
    · exact .inl h0
    · refine .inr ⟨g, off, rfl, ?_, e8, e9⟩
      rw [hL g (by rintro rfl; exact hb _ hc)]
      exact e7
theorem Evs.labs {L L' : Lab} {w : World} {b : Nat} (hL : ∀ g, g ≠ b → L' g = L g) (hb : ∀ cs, w.heap[b]? ≠ some (.cells cs 140)) : ∀ {l : List Ev} {xs : List Value}, Evs L w l xs → Evs L' w l xs
  | [], _, h => h
  | _ :: _, _, ⟨vp, ys, h1, h2, h3⟩ => ⟨vp, ys, h1, h2.labs hL hb, Evs.labs hL hb h3⟩
theorem Evs.lab {L : Lab} {w : World} {b : Nat} {cs : Array Value} {T : TypeId} {l : List Ev} {xs : List Value} (h : Evs L w l xs) (he : w.heap[b]? = some (.cells cs T)) (hT : T ≠ 140) (r : Role) : Evs (lab1 L b r) w l xs :=
  h.labs (fun g hg => lab1_other hg) (fun cs' hc => by rw [he] at hc; simp at hc; exact hT hc.2)
theorem Evs.labMap {L : Lab} {w : World} {b : Nat} {es : Array MapEntry} {k : Nat} {l : List Ev} {xs : List Value} (h : Evs L w l xs) (he : w.heap[b]? = some (.map es k)) (r : Role) : Evs (lab1 L b r) w l xs :=
  h.labs (fun g hg => lab1_other hg) (fun cs' hc => by rw [he] at hc; simp at hc)
theorem Rep.adoptTxn {A : Book} {σ : St} {w w1 : World} (h : Rep A σ w1) (g0 : Grow A.L w A.L w1) {s b m : Nat} (hfb : A.L b = none) (hfm : A.L m = none) (hs : s < 8) (hb : w.heap.size ≤ b) (hm : w.heap.size ≤ m) (hbm : b ≠ m) (t : Txn) (h1 : t.keys = []) (h2 : t.cells = []) (h3 : t.reads = []) (h4 : t.bonds = [])
    (he : w1.heap[b]? = some (.cells (txnCs (A.newTxn s b m) s t).toArray 129)) (hmap : w1.heap[m]? = some (.map #[] 0)) (hn : σ.txns.getD s none = none) :
    Rep (A.newTxn s b m) (σ.setT s t) (w1.setCell ⟨A.be, 5 + s, none⟩ (.pointer (some ⟨b, 0, none⟩))) ∧ Grow A.L w (A.newTxn s b m).L (w1.setCell ⟨A.be, 5 + s, none⟩ (.pointer (some ⟨b, 0, none⟩))) := by
  have hlt : b < w1.heap.size := lt_of he
  have hltm : m < w1.heap.size := lt_of hmap
  have n8 := h.n8
  have hn2 := hn
  rw [List.getD_eq_getElem?_getD] at hn2
  have k1 := h.mem.adopt (.txn s) hfb (.obj b (txnCs (A.newTxn s b m) s t) 129) ⟨lab1_same _ _ _, he⟩ hlt
  have k2 := k1.adopt (.map s) (b := m) ((lab1_other (Ne.symm hbm)).trans hfm) (.map m [] 0) ⟨lab1_same _ _ _, hmap⟩ hltm
  have hE : (updE (updE (memOf A σ) (.txn s) (.obj b (txnCs (A.newTxn s b m) s t) 129)) (.map s) (.map m [] 0)) .eng = .obj A.be (engCs A σ) 113 := rfl
  have k3 := k2.put .eng hE (5 + s) (.pointer (some ⟨b, 0, none⟩))
  have g : Grow A.L w (A.newTxn s b m).L (w1.setCell ⟨A.be, 5 + s, none⟩ (.pointer (some ⟨b, 0, none⟩))) :=
    ((g0.lab1 hb _).lab1 hm _).trans (k2.grow_set hE (5 + s) _)
  have k4 : Holds (A.newTxn s b m).L (w1.setCell ⟨A.be, 5 + s, none⟩ (.pointer (some ⟨b, 0, none⟩))) (fun q => match q with
      | .keys k => if k = s then .own (.slice none 0 0) 3 1 0 [] else memOf A σ (.keys k)
      | .reads k => if k = s then .own (.slice none 0 0) 237 3 0 [] else memOf A σ (.reads k)
      | .bonds k => if k = s then .own (.slice none 0 0) 3 1 0 [] else memOf A σ (.bonds k)
      | q => updE (updE (updE (memOf A σ) (.txn s) (.obj b (txnCs (A.newTxn s b m) s t) 129)) (.map s) (.map m [] 0)) .eng (.obj A.be ((engCs A σ).set (5 + s) (.pointer (some ⟨b, 0, none⟩))) 113) q) := by
    refine ⟨fun q => ?_, k3.fresh⟩
    have k := k3.all q
    cases q <;> first | exact k | skip
    all_goals
      rename_i j
      by_cases hj : j = s
      · subst hj
        simp only [if_pos]
        exact ⟨World.ownsRow_nil _ 0 _ _, fun g hg => by cases hg⟩
      · simp only [if_neg hj]
        simp [updE] at k
        exact k
  refine ⟨⟨k4.of_eq fun q => ?_, ((h.ev.lab he (by decide) (.txn s)).labMap hmap (.map s)).grow (k2.grow_set hE (5 + s) _), h.sl, h.nw, h.nt, h.nv, by simpa [St.setT] using h.n8, h.nc⟩, g⟩
  have gt : ∀ k, (σ.setT s t).txns.getD k none = if k = s then some t else σ.txns.getD k none := fun k => getT_set (by omega) t k
  have tp : ∀ k, (A.newTxn s b m).tp (σ.setT s t) k = if k = s then .pointer (some ⟨b, 0, none⟩) else A.tp σ k := by
    intro k; unfold Book.tp; rw [gt]; by_cases hk : k = s
    · subst hk; simp [Book.newTxn]
    · simp [hk, Book.newTxn]
  cases hq : q.tx with
  | none =>
    cases q <;> first | rfl | (simp [Role.tx] at hq; done) | skip
    simp only [updE, if_pos, memOf, engCs, tp]
    match s, hs with
    | 0, _ | 1, _ | 2, _ | 3, _ | 4, _ | 5, _ | 6, _ | 7, _ => rfl
  | some k =>
    rw [mem_tx _ _ hq, gt]
    by_cases hk : k = s
    · subst hk
      rw [if_pos rfl]
      cases q <;> simp [Role.tx] at hq <;> subst hq <;> simp [txEntry, updE, Book.newTxn, upF, h1, h2, h3, h4, mapEs, readCs, Txn.cell, memOf, hn2]
    · rw [if_neg hk, ← mem_tx _ σ hq]
      have := mem_butTx (A := A) (A' := { A.newTxn s b m with bt := A.bt }) (s := s) ⟨rfl, rfl, rfl, rfl, rfl, rfl, rfl, rfl, rfl, rfl, rfl, rfl, rfl, rfl, rfl, rfl, rfl, fun k hk => if_neg hk, fun _ _ => rfl, fun k hk => upF_other _ _ hk, fun k hk => upF_other _ _ hk, fun k hk => upF_other _ _ hk, fun k hk => if_neg hk, fun k hk => if_neg hk⟩ σ (q := q) (by rw [hq]; simpa using hk)
      have e2 : memOf (A.newTxn s b m) σ q = memOf { A.newTxn s b m with bt := A.bt } σ q := by
        cases q <;> simp [Role.tx] at hq <;> subst hq <;> simp [memOf, Book.newTxn, hk, txnCs, mapEs]
      rw [e2, this]
      cases q <;> simp [Role.tx] at hq <;> subst hq <;> simp [updE, hk]
end Go.Proofs.YtbefcdjcefmicaaGreat.Em

namespace Go.Proofs.YtbefcdjcefmicaaGreat.Em
open Go.ChangeShapes Go.WideShapes Go.ChangeAt Go.RowKit En
set_option linter.unusedVariables false
set_option linter.unusedSimpArgs false
set_option maxRecDepth 100000
set_option maxHeartbeats 1600000

def txnOf (id level bg : Nat) : Txn := { id := id, level := level, begin_ := bg, end_ := 0, ops := 0, keys := [], cells := [], reads := [], bonds := [], over := false }
theorem help_count (σ : St) (x : Nat) : (σ.help x).count = σ.count + 1 := by unfold St.help St.cas; split <;> rfl
theorem help_place (σ : St) (x id : Nat) : (σ.help x).place id = σ.place id := by unfold St.help St.cas; split <;> rfl
theorem help_tale (σ : St) (x : Nat) : (σ.help x).tale = σ.tale := by unfold St.help St.cas; split <;> rfl
theorem cas_count (σ : St) (i a b : Nat) : (σ.cas i a b).count = σ.count + 1 := by unfold St.cas; split <;> rfl
theorem cas_place (σ : St) (i a b id : Nat) : (σ.cas i a b).place id = σ.place id := by unfold St.cas; split <;> rfl
theorem cas_txns (σ : St) (i a b : Nat) : (σ.cas i a b).txns = σ.txns := by unfold St.cas; split <;> rfl
theorem cas_calls (σ : St) (i a b : Nat) : (σ.cas i a b).calls = σ.calls := by unfold St.cas; split <;> rfl
theorem cas_tale (σ : St) (i a b : Nat) : (σ.cas i a b).tale = σ.tale := by unfold St.cas; split <;> rfl
/-- A transaction has begun. -/
def Begun (A : Book) (w : World) (σ' : St) (id : Nat) : Ending → World → Prop := fun e w' => ∃ A', e = .returned (.tuple #[.int .i64 (id : Int), .int .i64 0]) ∧ Live A' σ' w' ∧ Grow A.L w A'.L w' ∧ A'.be = A.be
theorem begin_new {A : Book} {σ : St} {w : World} (hL : Live A σ w) (s : Nat) (hs : s < 8) (level : Nat) (hl1 : 1 ≤ level) (hl2 : level ≤ 3) (hn : σ.txns.getD s none = none) (hcn : σ.calls.getD s none = none) (hmd : σ.made < 2000) (hx : σ.word 0 < 18446744073709551616) (htm : timeOf (σ.word 0) < 281474976710000) (hlim : timeOf (σ.word 0) < σ.limit) (hlo : lastOf (σ.word 0) = 0) (hcnt : σ.count < 3000000000000000000) (htl : σ.tale.length < 1000000) :
    Calls Tryz.prog 41 #[.pointer (some ⟨A.be, 0, none⟩), .int .i64 (s : Int), .int .i64 (level : Int)] w (Begun A w (((((({ σ.tick with made := σ.made + 1 } : St).cas 0 (σ.word 0) (clockW (timeOf (σ.word 0) + 1) 0)).put (σ.place (σ.made + 1)) (pack 1 0)).put (1 + s) (timeOf (σ.word 0) + 1)).setT s (txnOf (σ.made + 1) level (timeOf (σ.word 0) + 1))).event { kind := 1, t := σ.made + 1, n := timeOf (σ.word 0) + 1, op := ⟨0, 0, 0, level⟩ }) (σ.made + 1)) := by
  have hR := hL.rep
  generalize hσ4 : ({ σ.tick with made := σ.made + 1 } : St).cas 0 (σ.word 0) (clockW (timeOf (σ.word 0) + 1) 0) = σ4
  have HS4 : Hid (({ σ.tick with made := σ.made + 1 } : St).cas 0 (σ.word 0) (clockW (timeOf (σ.word 0) + 1) 0) = σ4 ∧ σ4.place (σ.made + 1) = σ.place (σ.made + 1) ∧ σ4.txns = σ.txns ∧ σ4.calls = σ.calls ∧ σ4.tale = σ.tale ∧ σ4.count < 3000000000000000010) := by
    refine ⟨hσ4, ?_, ?_, ?_, ?_, ?_⟩ <;> rw [← hσ4]
    · rw [cas_place]; rfl
    · rw [cas_txns]; rfl
    · rw [cas_calls]; rfl
    · rw [cas_tale]; rfl
    · rw [cas_count]; show σ.count + 1 + 1 < _; omega
  clear hσ4
  have b1 : (s : Int) < 8 := by omega
  have b0 : (0 : Int) ≤ (s : Int) := by omega
  have hsok := Lib.hid (sessionOk s hs)
  have hlev := Lib.hid (levelOk level hl1 hl2)
  have e2 : w.cell? ⟨A.be, 2, none⟩ = some (.pointer (some ⟨A.ba, 0, none⟩)) := hR.eng 2 rfl
  have v5 := hR.eng (5 + s) (engCs_txn A σ hs)
  rw [show A.tp σ s = .pointer none by unfold Book.tp; rw [hn]] at v5
  have v21 : w.cell? ⟨A.be, 21, none⟩ = some (.int .i64 (σ.made : Int)) := hR.eng 21 rfl
  have d1 : decide ((2000 : Int) ≤ (σ.made : Int)) = false := by simp; omega
  have d2 : ((2000 : Int) ≤ (σ.made : Int)) = False := by simp; omega
  have d3 : (2000 ≤ σ.made) = False := by simp; omega
  have l1 : decide ((σ.limit : Int) ≤ (timeOf (σ.word 0) : Int)) = false := by simp; omega
  have l2 : ((σ.limit : Int) ≤ (timeOf (σ.word 0) : Int)) = False := by simp; omega
  have l3 : (σ.limit ≤ timeOf (σ.word 0)) = False := by simp; omega
  have k1 : decide ((0 : Int) < (lastOf (σ.word 0) : Int)) = false := by simp; omega
  have k2 : ((0 : Int) < (lastOf (σ.word 0) : Int)) = False := by simp; omega
  have k3 : (0 < lastOf (σ.word 0)) = False := by simp; omega
  have n1 : IntKind.i64.wrap ((σ.made : Int) + 1) = (σ.made : Int) + 1 := by rw [IntKind.wrap_i64]; omega
  have n2 : IntKind.u64.wrap ((timeOf (σ.word 0) : Int) + 1) = (timeOf (σ.word 0) : Int) + 1 := by rw [IntKind.wrap_u64]; omega
  have n3 : IntKind.i64.wrap (1 + (s : Int)) = 1 + (s : Int) := by rw [IntKind.wrap_i64]; omega
  have HLo := Lib.hid (load_i hR 0 0 rfl (by rw [hR.nw]; omega) (by omega))
  have HDr := Lib.hid (fun w' => drawn_any (σ.word 0) hx w')
  have H1 : Hid (∀ w1, Rep A σ.tick w1 → Grow A.L w A.L w1 → w1.cell? ⟨A.be, 1, none⟩ = some (.int .u64 (σ.limit : Int)) ∧ w1.cell? ⟨A.be, 21, none⟩ = some (.int .i64 (σ.made : Int)) ∧ w1.frozen? ⟨A.be, 21, none⟩ = false) :=
    fun w1 r g => ⟨r.eng 1 rfl, r.eng 21 rfl, r.engF 21⟩
  have hmm : ∀ w, (Instr.makeMap 114 none).run Tryz.prog w = .ok (.map (some w.heap.size)) (w.alloc (.map #[] 0)) := fun w => rfl
  have HL0 := Lib.hid (And.intro hL (And.intro hs (And.intro hn (And.intro hcn (And.intro hmd (And.intro htm (And.intro hcnt (And.intro htl hx))))))))
  clear hL hs hl1 hl2 hn hcn hmd hx htm hlim hlo hcnt htl
  clear hR
  go_enter Tryz.func41, Tryz.ntmps41
  go_wp2_with (first | (go_at_call 48; refine (hsok.out _).mono ?_; rintro e w' ⟨rfl, rfl⟩) | (go_at_call 72; refine (hlev.out _).mono ?_; rintro e w' ⟨rfl, rfl⟩) | (go_at_call 73; refine HLo.out.mono ?_; rintro e w1 ⟨rfl, q1, q2⟩; obtain ⟨y1, y2, y3⟩ := H1.out w1 q1 q2; have HQ1 := Lib.hid (And.intro q1 q2); clear q1 q2) | (go_at_call 59; refine (HDr.out _).mono ?_; rintro e w' ⟨rfl, rfl⟩))
  obtain ⟨hL, hs, hn, hcn, hmd, htm, hcnt, htl, hx⟩ := HL0.out
  obtain ⟨r1, g1⟩ := HQ1.out
  obtain ⟨rm, gm⟩ := r1.madeSet (σ.made + 1)
  rw [show ((σ.made + 1 : Nat) : Int) = (σ.made : Int) + 1 from rfl] at rm gm
  have hz3 : (w1.setCell ⟨A.be, 21, none⟩ (.int .i64 ((σ.made : Int) + 1))).heap.size = w1.heap.size := by simp [World.setCell]
  generalize hw3 : w1.setCell ⟨A.be, 21, none⟩ (.int .i64 ((σ.made : Int) + 1)) = w3 at *
  generalize hw4 : (w3.alloc (.map #[] 0)).alloc _ = w4
  have r4 : Rep A ({ σ.tick with made := σ.made + 1 } : St) w4 := by rw [← hw4]; exact (rm.alloc _).alloc _
  have g34 : Grow A.L w3 A.L w4 := by rw [← hw4]; exact (Grow.alloc _ _ _).trans (Grow.alloc _ _ _)
  have g4 : Grow A.L w A.L w4 := (g1.trans gm).trans g34
  have hm4 : w4.heap[w1.heap.size]? = some (.map #[] 0) := by rw [← hw4, ← hz3]; exact (Below.heap_alloc _ _ _ (by simp)).trans (heap_alloc_new w3 _)
  have hb4 : w4.heap[w1.heap.size + 1]? = some (.cells #[.int .i64 ((σ.made : Int) + 1), .int .i64 (level : Int), .int .i64 (s : Int), .int .u64 ((timeOf (σ.word 0) : Int) + 1), .int .u64 0, .int .i64 0, .slice none 0 0, .map (some w1.heap.size), .slice none 0 0, .slice none 0 0, .int .u32 0, .int .i32 0, .int .u32 0, .bool false] 129) := by rw [← hw4, ← hz3]; exact heap_alloc2_new w3 _ _
  have hmL : A.L w1.heap.size = none := by rw [← hz3]; exact rm.mem.fresh _ (Nat.le_refl _)
  have hbL : A.L (w1.heap.size + 1) = none := by rw [← hz3]; exact rm.mem.fresh _ (by omega)
  have hle : w.heap.size ≤ w1.heap.size := g1.size
  have F4 : Fix A.L w4 (w1.heap.size + 1) (.cells #[.int .i64 ((σ.made : Int) + 1), .int .i64 (level : Int), .int .i64 (s : Int), .int .u64 ((timeOf (σ.word 0) : Int) + 1), .int .u64 0, .int .i64 0, .slice none 0 0, .map (some w1.heap.size), .slice none 0 0, .slice none 0 0, .int .u32 0, .int .i32 0, .int .u32 0, .bool false] 129) := ⟨hbL, hb4⟩
  have M4 : Fix A.L w4 w1.heap.size (.map #[] 0) := ⟨hmL, hm4⟩
  have a2 := r4.eng 2 (v := .pointer (some ⟨A.ba, 0, none⟩)) rfl
  have a3 := F4.cell 3 (v := .int .u64 ((timeOf (σ.word 0) : Int) + 1)) rfl
  have hk : Calls Tryz.prog 76 #[.int .u64 ((timeOf (σ.word 0) : Int) + 1), .int .i64 0] w4.drew fun e w' => e = .returned (.int .u64 ((clockW (timeOf (σ.word 0) + 1) 0 : Nat) : Int)) ∧ w' = w4.drew := flip (clock_any (timeOf (σ.word 0) + 1) 0 (by omega) (by omega) w4.drew)
  have HC := Lib.hid hk
  have HCA := Lib.hid (cas_i r4.drew 0 (σ.word 0) (clockW (timeOf (σ.word 0) + 1) 0) 0 rfl (by rw [r4.nw]; omega) (by show σ.count + 1 < _; omega))
  have H4 := Lib.hid (And.intro g4 (And.intro F4 (And.intro M4 (And.intro hmL (And.intro hbL hle)))))
  clear hL hs hn hcn hmd htm hcnt htl hx r1 g1 rm gm hz3 hw3 hw4 r4 g34 g4 hm4 hb4 hmL hbL hle F4 M4 hk
  refine wp_region_still_tail 10 (by kernel_rfl) (by kernel_rfl) ?_
  simp only [List.take_succ_cons, List.take_zero, List.drop_succ_cons, List.drop_zero]
  repeat still_step
  still_call HC.out
  refine wpStill_nil ?_
  change wpList _ _ _ _ _ w4.drew
  have HG4 : Hid (Grow A.L w4 A.L w4.drew) := Grow.drew _ _
  generalize w4.drew = wd4 at *
  go_wp2_with (go_at_call 75; refine HCA.out.mono ?_; rintro e w5 ⟨rfl, q1, q2⟩)
  obtain ⟨g4, F4, M4, hmL, hbL, hle⟩ := H4.out
  obtain ⟨hL, hs, hn, hcn, hmd, htm, hcnt, htl, hx⟩ := HL0.out
  rw [HS4.out.1] at q1
  obtain ⟨-, p4, tx4, cl4, tl4, ct4⟩ := HS4.out
  have g45 := HG4.out.trans q2
  have F5 := F4.grow g45
  have M5 := M4.grow g45
  have g5 := g4.trans g45
  have a2 := q1.eng 2 (v := .pointer (some ⟨A.ba, 0, none⟩)) rfl
  have a0 := F5.cell 0 (v := .int .i64 ((σ.made : Int) + 1)) rfl
  have hpl : Calls Tryz.prog 78 #[.pointer (some ⟨A.be, 0, none⟩), .int .i64 ((σ.made : Int) + 1)] w5.drew fun e w' => e = .returned (.int .i64 ((σ.place (σ.made + 1) : Nat) : Int)) ∧ w' = w5.drew := by
    have h := place_still q1.drew (σ.made + 1) (by omega)
    rw [p4] at h
    exact h
  have HPL := Lib.hid hpl
  have HPK := Lib.hid (pack_still 1 0 1 0 rfl rfl (by omega) (by omega) w5.drew)
  have HST := Lib.hid (store_any q1.drew (σ.place (σ.made + 1)) (pack 1 0) (by rw [q1.nw]; have := q1.sl; have := congrArg (fun x => x) p4; unfold St.place at p4 ⊢; omega) (by omega))
  have H5 := Lib.hid (And.intro g5 (And.intro F5 (And.intro M5 q1)))
  clear hL hs hn hcn hmd htm hcnt htl hx g4 F4 M4 hmL hbL hle g45 F5 M5 g5 q1 q2 hpl p4 tx4 cl4 tl4 ct4
  refine wp_region_still_tail 11 (by kernel_rfl) (by kernel_rfl) ?_
  simp only [List.take_succ_cons, List.take_zero, List.drop_succ_cons, List.drop_zero]
  repeat still_step
  still_call HPL.out
  still_call HPK.out
  refine wpStill_nil ?_
  change wpList _ _ _ _ _ w5.drew
  have HG6 : Hid (Grow A.L w5 A.L w5.drew) := Grow.drew _ _
  generalize w5.drew = wd5 at *
  go_wp2_with (go_at_call 77; refine HST.out.mono ?_; rintro e w6 ⟨rfl, q1, q2⟩)
  obtain ⟨g5, F5, M5, _⟩ := H5.out
  obtain ⟨hL, hs, hn, hcn, hmd, htm, hcnt, htl, hx⟩ := HL0.out
  have ct4 := HS4.out.2.2.2.2.2
  have g56 := HG6.out.trans q2
  have F6 := F5.grow g56
  have M6 := M5.grow g56
  have g6 := g5.trans g56
  have a2 := q1.eng 2 (v := .pointer (some ⟨A.ba, 0, none⟩)) rfl
  have a3 := F6.cell 3 (v := .int .u64 ((timeOf (σ.word 0) : Int) + 1)) rfl
  have HSU := Lib.hid (store_i q1.drew (1 + s) (timeOf (σ.word 0) + 1) (1 + (s : Int)) ((timeOf (σ.word 0) : Int) + 1) (by omega) (by omega) (by rw [q1.nw]; omega) (by show σ4.count + 1 < _; omega))
  have H6 := Lib.hid (And.intro g6 (And.intro F6 M6))
  have HV5 : Hid (∀ w7, Rep A ((σ4.put (σ.place (σ.made + 1)) (pack 1 0)).put (1 + s) (timeOf (σ.word 0) + 1)) w7 → w7.cell? ⟨A.be, 5 + s, none⟩ = some (.pointer none) ∧ w7.frozen? ⟨A.be, 5 + s, none⟩ = false) := by
    intro w7 r
    have h := r.eng (5 + s) (engCs_txn A _ hs)
    rw [show A.tp ((σ4.put (σ.place (σ.made + 1)) (pack 1 0)).put (1 + s) (timeOf (σ.word 0) + 1)) s = .pointer none by unfold Book.tp; rw [show ((σ4.put (σ.place (σ.made + 1)) (pack 1 0)).put (1 + s) (timeOf (σ.word 0) + 1)).txns.getD s none = none by show σ4.txns.getD s none = none; rw [HS4.out.2.2.1]; exact hn]] at h
    exact ⟨h, r.engF _⟩
  clear hL hs hn hcn hmd htm hcnt htl hx g5 F5 M5 g56 F6 M6 g6 q1 q2 ct4
  refine wp_region_still_tail 10 (by kernel_rfl) (by kernel_rfl) ?_
  simp only [List.take_succ_cons, List.take_zero, List.drop_succ_cons, List.drop_zero]
  repeat still_step
  refine wpStill_nil ?_
  change wpList _ _ _ _ _ w6.drew
  have HG7 : Hid (Grow A.L w6 A.L w6.drew) := Grow.drew _ _
  generalize w6.drew = wd6 at *
  go_wp2_with (go_at_call 77; refine HSU.out.mono ?_; rintro e w7 ⟨rfl, q1, q2⟩; obtain ⟨m5, z5⟩ := HV5.out w7 q1; have H7 := Lib.hid (And.intro q1 q2); clear q1 q2)
  obtain ⟨g6, F6, M6⟩ := H6.out
  obtain ⟨q1, q2⟩ := H7.out
  obtain ⟨_, _, _, hmL, hbL, hle⟩ := H4.out
  obtain ⟨hL, hs, hn, hcn, hmd, htm, hcnt, htl, hx⟩ := HL0.out
  obtain ⟨-, p4, tx4, cl4, tl4, ct4⟩ := HS4.out
  have g67 := HG7.out.trans q2
  have F7 := F6.grow g67
  have M7 := M6.grow g67
  have g7 := g6.trans g67
  have hn6 : ((σ4.put (σ.place (σ.made + 1)) (pack 1 0)).put (1 + s) (timeOf (σ.word 0) + 1)).txns.getD s none = none := by show σ4.txns.getD s none = none; rw [tx4]; exact hn
  have hblk : w7.heap[w1.heap.size + 1]? = some (.cells (txnCs (A.newTxn s (w1.heap.size + 1) w1.heap.size) s (txnOf (σ.made + 1) level (timeOf (σ.word 0) + 1))).toArray 129) := by
    rw [show (txnCs (A.newTxn s (w1.heap.size + 1) w1.heap.size) s (txnOf (σ.made + 1) level (timeOf (σ.word 0) + 1))).toArray = #[.int .i64 ((σ.made : Int) + 1), .int .i64 (level : Int), .int .i64 (s : Int), .int .u64 ((timeOf (σ.word 0) : Int) + 1), .int .u64 0, .int .i64 0, .slice none 0 0, .map (some w1.heap.size), .slice none 0 0, .slice none 0 0, .int .u32 0, .int .i32 0, .int .u32 0, .bool false] by simp [txnCs, Book.newTxn, upF, onceCs, txnOf]]
    exact F7.2
  obtain ⟨rA, gA⟩ := q1.adoptTxn g7 F7.1 M7.1 hs (by omega) hle (by omega) (txnOf (σ.made + 1) level (timeOf (σ.word 0) + 1)) rfl rfl rfl rfl hblk M7.2 hn6
  obtain ⟨A8, hA8⟩ : ∃ A8 : Book, A8 = A.newTxn s (w1.heap.size + 1) w1.heap.size := ⟨_, rfl⟩
  rw [← hA8] at rA gA
  have e8 : A8.be = A.be := by rw [hA8]; rfl
  have e8t : A8.bt s = w1.heap.size + 1 := by rw [hA8]; exact if_pos rfl
  have ht8 : (((σ4.put (σ.place (σ.made + 1)) (pack 1 0)).put (1 + s) (timeOf (σ.word 0) + 1)).setT s (txnOf (σ.made + 1) level (timeOf (σ.word 0) + 1))).txns.getD s none = some (txnOf (σ.made + 1) level (timeOf (σ.word 0) + 1)) := by rw [getT_set (by show s < σ4.txns.length; rw [tx4, hL.rep.n8]; exact hs), if_pos rfl]
  generalize hw8 : World.setCell w7 _ _ = w8 at *
  have c0 := rA.txn ht8 0 (v := .int .i64 ((σ.made : Int) + 1)) rfl
  have c3 := rA.txn ht8 3 (v := .int .u64 ((timeOf (σ.word 0) : Int) + 1)) rfl
  rw [e8t] at c0 c3
  have hev := event_any rA.drew s { kind := 1, t := σ.made + 1, n := timeOf (σ.word 0) + 1, op := ⟨0, 0, 0, level⟩ } 1 ((σ.made : Int) + 1) ((timeOf (σ.word 0) : Int) + 1) 0 0 0 level 0 0 0 0 none 0 0 rfl (PRow.nil _ _) (by show σ4.tale.length < _; rw [tl4]; exact htl)
  rw [e8] at hev
  have HE := Lib.hid hev
  have H8 : Hid (∀ A9 w9, Rep A9 ((((σ4.put (σ.place (σ.made + 1)) (pack 1 0)).put (1 + s) (timeOf (σ.word 0) + 1)).setT s (txnOf (σ.made + 1) level (timeOf (σ.word 0) + 1))).event { kind := 1, t := σ.made + 1, n := timeOf (σ.word 0) + 1, op := ⟨0, 0, 0, level⟩ }) w9 → Stay A8 A9 s → w9.cell? ⟨w1.heap.size + 1, 0, none⟩ = some (.int .i64 ((σ.made : Int) + 1))) := by
    intro A9 w9 r st
    have h := r.txn (show ((((σ4.put (σ.place (σ.made + 1)) (pack 1 0)).put (1 + s) (timeOf (σ.word 0) + 1)).setT s (txnOf (σ.made + 1) level (timeOf (σ.word 0) + 1))).event { kind := 1, t := σ.made + 1, n := timeOf (σ.word 0) + 1, op := ⟨0, 0, 0, level⟩ }).txns.getD s none = some (txnOf (σ.made + 1) level (timeOf (σ.word 0) + 1)) from ht8) 0 (v := .int .i64 ((σ.made : Int) + 1)) rfl
    rw [st.bt, e8t] at h
    exact h
  have HAA := Lib.hid (And.intro hA8 (And.intro gA (And.intro cl4 ht8)))
  clear hL hs hn hcn hmd htm hcnt htl hx g6 F6 M6 g67 F7 M7 g7 q1 q2 hmL hbL hle p4 tx4 cl4 tl4 ct4 hn6 hblk rA gA hA8 e8 e8t ht8 hw8 hev m5 z5
  refine wp_region_still_tail 12 (by kernel_rfl) (by kernel_rfl) ?_
  simp only [List.take_succ_cons, List.take_zero, List.drop_succ_cons, List.drop_zero]
  repeat still_step
  refine wpStill_nil ?_
  change wpList _ _ _ _ _ w8.drew
  have HG9 : Hid (∀ L, Grow L w8 L w8.drew) := fun L => Grow.drew _ _
  generalize w8.drew = wd8 at *
  go_wp2_with (go_at_call 53; refine HE.out.mono ?_; rintro e w9 ⟨rfl, A9, p1, p2, p3, p4, p5⟩; have t0 := H8.out A9 w9 p1 p3; have HP := Lib.hid (And.intro p1 (And.intro p2 p3)); clear p1 p2 p3 p4 p5)
  go_ret2
  obtain ⟨p1, p2, p3⟩ := HP.out
  obtain ⟨hA8, gA, cl4, ht8⟩ := HAA.out
  obtain ⟨hL, hs, hn, hcn, _⟩ := HL0.out
  have gg := (gA.trans (HG9.out _)).trans p2
  have hcl : ∀ q, ((((σ4.put (σ.place (σ.made + 1)) (pack 1 0)).put (1 + s) (timeOf (σ.word 0) + 1)).setT s (txnOf (σ.made + 1) level (timeOf (σ.word 0) + 1))).event { kind := 1, t := σ.made + 1, n := timeOf (σ.word 0) + 1, op := ⟨0, 0, 0, level⟩ }).calls.getD q none = σ.calls.getD q none := fun q => by show σ4.calls.getD q none = _; rw [cl4]
  rw [HS4.out.1.symm] at p1 ⊢
  refine ⟨A9, rfl, Live.of (s := s) hL p1 gg ⟨p3.be.trans (by rw [hA8]; rfl), p3.mp.trans (by rw [hA8]; rfl), p3.mt.trans (by rw [hA8]; funext k; show (if k = s then 0 else A.mt k) = A.mt k; by_cases hk : k = s; rw [if_pos hk, hL.mt k]; rw [if_neg hk]), fun q hq => by rw [p3.bt, hA8]; exact if_neg hq, fun q _ => by rw [p3.bc, hA8]; rfl, fun q hq => (p3.bx q hq).trans (by rw [hA8]; rfl), fun q hq => (p3.vpairs q hq).trans (by rw [hA8]; rfl), fun q _ => by rw [p3.vnext, hA8]; rfl, fun q _ => by rw [p3.vcall, hA8]; rfl⟩ (fun q hq => ?_) (fun c' hcc => ?_) (fun _ => ?_), gg, p3.be.trans (by rw [hA8]; rfl)⟩
  · rw [HS4.out.1]; exact hcl q
  · rw [HS4.out.1, hcl s, hcn] at hcc; cases hcc
  · rw [p3.vcall, hA8]; exact hL.idle s hs hcn
theorem begin_help {A : Book} {σ : St} {w : World} (hL : Live A σ w) (s : Nat) (hs : s < 8) (level : Nat) (hl1 : 1 ≤ level) (hl2 : level ≤ 3) (hn : σ.txns.getD s none = none) (hcn : σ.calls.getD s none = none) (hmd : σ.made < 2000) (hx : σ.word 0 < 18446744073709551616) (htm : timeOf (σ.word 0) < 281474976710000) (hlim : timeOf (σ.word 0) < σ.limit) (hlo : 0 < lastOf (σ.word 0) ∧ lastOf (σ.word 0) ≤ 2000) (hcnt : σ.count < 3000000000000000000) (htl : σ.tale.length < 1000000) :
    Calls Tryz.prog 41 #[.pointer (some ⟨A.be, 0, none⟩), .int .i64 (s : Int), .int .i64 (level : Int)] w (Begun A w (((((({ (σ.tick.help (σ.word 0)) with made := σ.made + 1 } : St).cas 0 (σ.word 0) (clockW (timeOf (σ.word 0) + 1) 0)).put (σ.place (σ.made + 1)) (pack 1 0)).put (1 + s) (timeOf (σ.word 0) + 1)).setT s (txnOf (σ.made + 1) level (timeOf (σ.word 0) + 1))).event { kind := 1, t := σ.made + 1, n := timeOf (σ.word 0) + 1, op := ⟨0, 0, 0, level⟩ }) (σ.made + 1)) := by
  have hR := hL.rep
  generalize hσ4 : ({ (σ.tick.help (σ.word 0)) with made := σ.made + 1 } : St).cas 0 (σ.word 0) (clockW (timeOf (σ.word 0) + 1) 0) = σ4
  have HS4 : Hid (({ (σ.tick.help (σ.word 0)) with made := σ.made + 1 } : St).cas 0 (σ.word 0) (clockW (timeOf (σ.word 0) + 1) 0) = σ4 ∧ σ4.place (σ.made + 1) = σ.place (σ.made + 1) ∧ σ4.txns = σ.txns ∧ σ4.calls = σ.calls ∧ σ4.tale = σ.tale ∧ σ4.count < 3000000000000000010) := by
    refine ⟨hσ4, ?_, ?_, ?_, ?_, ?_⟩ <;> rw [← hσ4]
    · rw [cas_place]; exact help_place σ.tick (σ.word 0) (σ.made + 1)
    · rw [cas_txns]; exact help_txns σ.tick (σ.word 0)
    · rw [cas_calls]; exact help_calls σ.tick (σ.word 0)
    · rw [cas_tale]; exact help_tale σ.tick (σ.word 0)
    · rw [cas_count]; show (σ.tick.help (σ.word 0)).count + 1 < _; rw [help_count]; show σ.count + 1 + 1 + 1 < _; omega
  clear hσ4
  have b1 : (s : Int) < 8 := by omega
  have b0 : (0 : Int) ≤ (s : Int) := by omega
  have hsok := Lib.hid (sessionOk s hs)
  have hlev := Lib.hid (levelOk level hl1 hl2)
  have e2 : w.cell? ⟨A.be, 2, none⟩ = some (.pointer (some ⟨A.ba, 0, none⟩)) := hR.eng 2 rfl
  have v5 := hR.eng (5 + s) (engCs_txn A σ hs)
  rw [show A.tp σ s = .pointer none by unfold Book.tp; rw [hn]] at v5
  have v21 : w.cell? ⟨A.be, 21, none⟩ = some (.int .i64 (σ.made : Int)) := hR.eng 21 rfl
  have d1 : decide ((2000 : Int) ≤ (σ.made : Int)) = false := by simp; omega
  have d2 : ((2000 : Int) ≤ (σ.made : Int)) = False := by simp; omega
  have d3 : (2000 ≤ σ.made) = False := by simp; omega
  have l1 : decide ((σ.limit : Int) ≤ (timeOf (σ.word 0) : Int)) = false := by simp; omega
  have l2 : ((σ.limit : Int) ≤ (timeOf (σ.word 0) : Int)) = False := by simp; omega
  have l3 : (σ.limit ≤ timeOf (σ.word 0)) = False := by simp; omega
  have k1 : decide ((0 : Int) < (lastOf (σ.word 0) : Int)) = true := by simp; omega
  have k2 : ((0 : Int) < (lastOf (σ.word 0) : Int)) = True := by simp; omega
  have k3 : (0 < lastOf (σ.word 0)) = True := by simp; omega
  have n1 : IntKind.i64.wrap ((σ.made : Int) + 1) = (σ.made : Int) + 1 := by rw [IntKind.wrap_i64]; omega
  have n2 : IntKind.u64.wrap ((timeOf (σ.word 0) : Int) + 1) = (timeOf (σ.word 0) : Int) + 1 := by rw [IntKind.wrap_u64]; omega
  have n3 : IntKind.i64.wrap (1 + (s : Int)) = 1 + (s : Int) := by rw [IntKind.wrap_i64]; omega
  have HLo := Lib.hid (load_i hR 0 0 rfl (by rw [hR.nw]; omega) (by omega))
  have HDr := Lib.hid (fun w' => drawn_any (σ.word 0) hx w')
  have H1 : Hid (∀ w1, Rep A σ.tick w1 → Grow A.L w A.L w1 → w1.cell? ⟨A.be, 1, none⟩ = some (.int .u64 (σ.limit : Int)) ∧ w1.cell? ⟨A.be, 21, none⟩ = some (.int .i64 (σ.made : Int)) ∧ w1.frozen? ⟨A.be, 21, none⟩ = false ∧ Calls Tryz.prog 74 #[.pointer (some ⟨A.be, 0, none⟩), .int .u64 (σ.word 0 : Int)] w1 (Did A w1 (σ.tick.help (σ.word 0)) (.tuple #[]))) :=
    fun w1 r g => ⟨r.eng 1 rfl, r.eng 21 rfl, r.engF 21, help_any r (σ.word 0) hx hlo.2 (by show σ.count + 1 < _; omega)⟩
  have H2 : Hid (∀ w1 w2, Rep A (σ.tick.help (σ.word 0)) w2 → Grow A.L w1 A.L w2 → w2.cell? ⟨A.be, 21, none⟩ = some (.int .i64 (σ.made : Int)) ∧ w2.frozen? ⟨A.be, 21, none⟩ = false) := fun w1 w2 r g => ⟨by
      have h := r.eng 21 (v := .int .i64 ((σ.tick.help (σ.word 0)).made : Int)) rfl
      rw [show (σ.tick.help (σ.word 0)).made = σ.made by unfold St.help St.cas; split <;> rfl] at h
      exact h, r.engF 21⟩
  have hmm : ∀ w, (Instr.makeMap 114 none).run Tryz.prog w = .ok (.map (some w.heap.size)) (w.alloc (.map #[] 0)) := fun w => rfl
  have HL0 := Lib.hid (And.intro hL (And.intro hs (And.intro hn (And.intro hcn (And.intro hmd (And.intro htm (And.intro hcnt (And.intro htl hx))))))))
  clear hL hs hl1 hl2 hn hcn hmd hx htm hlim hlo hcnt htl
  clear hR
  go_enter Tryz.func41, Tryz.ntmps41
  go_wp2_with (first | (go_at_call 48; refine (hsok.out _).mono ?_; rintro e w' ⟨rfl, rfl⟩) | (go_at_call 72; refine (hlev.out _).mono ?_; rintro e w' ⟨rfl, rfl⟩) | (go_at_call 73; refine HLo.out.mono ?_; rintro e w1 ⟨rfl, q1, q2⟩; obtain ⟨y1, y2, y3, hhelp⟩ := H1.out w1 q1 q2; have HH := Lib.hid hhelp; clear hhelp; have HQ1 := Lib.hid (And.intro q1 q2); clear q1 q2) | (go_at_call 59; refine (HDr.out _).mono ?_; rintro e w' ⟨rfl, rfl⟩) | (go_at_call 74; refine HH.out.mono ?_; rintro e w2 ⟨rfl, q1, q2⟩; obtain ⟨y4, y5⟩ := H2.out w1 w2 q1 q2; have HQ2 := Lib.hid (And.intro q1 q2); clear q1 q2))
  obtain ⟨hL, hs, hn, hcn, hmd, htm, hcnt, htl, hx⟩ := HL0.out
  obtain ⟨r1, g12⟩ := HQ2.out
  have g1 := HQ1.out.2.trans g12
  clear g12
  obtain ⟨rm, gm⟩ := r1.madeSet (σ.made + 1)
  rw [show ((σ.made + 1 : Nat) : Int) = (σ.made : Int) + 1 from rfl] at rm gm
  have hz3 : (w2.setCell ⟨A.be, 21, none⟩ (.int .i64 ((σ.made : Int) + 1))).heap.size = w2.heap.size := by simp [World.setCell]
  generalize hw3 : w2.setCell ⟨A.be, 21, none⟩ (.int .i64 ((σ.made : Int) + 1)) = w3 at *
  generalize hw4 : (w3.alloc (.map #[] 0)).alloc _ = w4
  have r4 : Rep A ({ (σ.tick.help (σ.word 0)) with made := σ.made + 1 } : St) w4 := by rw [← hw4]; exact (rm.alloc _).alloc _
  have g34 : Grow A.L w3 A.L w4 := by rw [← hw4]; exact (Grow.alloc _ _ _).trans (Grow.alloc _ _ _)
  have g4 : Grow A.L w A.L w4 := (g1.trans gm).trans g34
  have hm4 : w4.heap[w2.heap.size]? = some (.map #[] 0) := by rw [← hw4, ← hz3]; exact (Below.heap_alloc _ _ _ (by simp)).trans (heap_alloc_new w3 _)
  have hb4 : w4.heap[w2.heap.size + 1]? = some (.cells #[.int .i64 ((σ.made : Int) + 1), .int .i64 (level : Int), .int .i64 (s : Int), .int .u64 ((timeOf (σ.word 0) : Int) + 1), .int .u64 0, .int .i64 0, .slice none 0 0, .map (some w2.heap.size), .slice none 0 0, .slice none 0 0, .int .u32 0, .int .i32 0, .int .u32 0, .bool false] 129) := by rw [← hw4, ← hz3]; exact heap_alloc2_new w3 _ _
  have hmL : A.L w2.heap.size = none := by rw [← hz3]; exact rm.mem.fresh _ (Nat.le_refl _)
  have hbL : A.L (w2.heap.size + 1) = none := by rw [← hz3]; exact rm.mem.fresh _ (by omega)
  have hle : w.heap.size ≤ w2.heap.size := g1.size
  have F4 : Fix A.L w4 (w2.heap.size + 1) (.cells #[.int .i64 ((σ.made : Int) + 1), .int .i64 (level : Int), .int .i64 (s : Int), .int .u64 ((timeOf (σ.word 0) : Int) + 1), .int .u64 0, .int .i64 0, .slice none 0 0, .map (some w2.heap.size), .slice none 0 0, .slice none 0 0, .int .u32 0, .int .i32 0, .int .u32 0, .bool false] 129) := ⟨hbL, hb4⟩
  have M4 : Fix A.L w4 w2.heap.size (.map #[] 0) := ⟨hmL, hm4⟩
  have a2 := r4.eng 2 (v := .pointer (some ⟨A.ba, 0, none⟩)) rfl
  have a3 := F4.cell 3 (v := .int .u64 ((timeOf (σ.word 0) : Int) + 1)) rfl
  have hk : Calls Tryz.prog 76 #[.int .u64 ((timeOf (σ.word 0) : Int) + 1), .int .i64 0] w4.drew fun e w' => e = .returned (.int .u64 ((clockW (timeOf (σ.word 0) + 1) 0 : Nat) : Int)) ∧ w' = w4.drew := flip (clock_any (timeOf (σ.word 0) + 1) 0 (by omega) (by omega) w4.drew)
  have HC := Lib.hid hk
  have HCA := Lib.hid (cas_i r4.drew 0 (σ.word 0) (clockW (timeOf (σ.word 0) + 1) 0) 0 rfl (by rw [r4.nw]; omega) (by show (σ.tick.help (σ.word 0)).count < _; have := help_count σ.tick (σ.word 0); have e : σ.tick.count = σ.count + 1 := rfl; omega))
  have H4 := Lib.hid (And.intro g4 (And.intro F4 (And.intro M4 (And.intro hmL (And.intro hbL hle)))))
  clear hL hs hn hcn hmd htm hcnt htl hx r1 g1 rm gm hz3 hw3 hw4 r4 g34 g4 hm4 hb4 hmL hbL hle F4 M4 hk
  refine wp_region_still_tail 10 (by kernel_rfl) (by kernel_rfl) ?_
  simp only [List.take_succ_cons, List.take_zero, List.drop_succ_cons, List.drop_zero]
  repeat still_step
  still_call HC.out
  refine wpStill_nil ?_
  change wpList _ _ _ _ _ w4.drew
  have HG4 : Hid (Grow A.L w4 A.L w4.drew) := Grow.drew _ _
  generalize w4.drew = wd4 at *
  go_wp2_with (go_at_call 75; refine HCA.out.mono ?_; rintro e w5 ⟨rfl, q1, q2⟩)
  obtain ⟨g4, F4, M4, hmL, hbL, hle⟩ := H4.out
  obtain ⟨hL, hs, hn, hcn, hmd, htm, hcnt, htl, hx⟩ := HL0.out
  rw [HS4.out.1] at q1
  obtain ⟨-, p4, tx4, cl4, tl4, ct4⟩ := HS4.out
  have g45 := HG4.out.trans q2
  have F5 := F4.grow g45
  have M5 := M4.grow g45
  have g5 := g4.trans g45
  have a2 := q1.eng 2 (v := .pointer (some ⟨A.ba, 0, none⟩)) rfl
  have a0 := F5.cell 0 (v := .int .i64 ((σ.made : Int) + 1)) rfl
  have hpl : Calls Tryz.prog 78 #[.pointer (some ⟨A.be, 0, none⟩), .int .i64 ((σ.made : Int) + 1)] w5.drew fun e w' => e = .returned (.int .i64 ((σ.place (σ.made + 1) : Nat) : Int)) ∧ w' = w5.drew := by
    have h := place_still q1.drew (σ.made + 1) (by omega)
    rw [p4] at h
    exact h
  have HPL := Lib.hid hpl
  have HPK := Lib.hid (pack_still 1 0 1 0 rfl rfl (by omega) (by omega) w5.drew)
  have HST := Lib.hid (store_any q1.drew (σ.place (σ.made + 1)) (pack 1 0) (by rw [q1.nw]; have := q1.sl; have := congrArg (fun x => x) p4; unfold St.place at p4 ⊢; omega) (by omega))
  have H5 := Lib.hid (And.intro g5 (And.intro F5 (And.intro M5 q1)))
  clear hL hs hn hcn hmd htm hcnt htl hx g4 F4 M4 hmL hbL hle g45 F5 M5 g5 q1 q2 hpl p4 tx4 cl4 tl4 ct4
  refine wp_region_still_tail 11 (by kernel_rfl) (by kernel_rfl) ?_
  simp only [List.take_succ_cons, List.take_zero, List.drop_succ_cons, List.drop_zero]
  repeat still_step
  still_call HPL.out
  still_call HPK.out
  refine wpStill_nil ?_
  change wpList _ _ _ _ _ w5.drew
  have HG6 : Hid (Grow A.L w5 A.L w5.drew) := Grow.drew _ _
  generalize w5.drew = wd5 at *
  go_wp2_with (go_at_call 77; refine HST.out.mono ?_; rintro e w6 ⟨rfl, q1, q2⟩)
  obtain ⟨g5, F5, M5, _⟩ := H5.out
  obtain ⟨hL, hs, hn, hcn, hmd, htm, hcnt, htl, hx⟩ := HL0.out
  have ct4 := HS4.out.2.2.2.2.2
  have g56 := HG6.out.trans q2
  have F6 := F5.grow g56
  have M6 := M5.grow g56
  have g6 := g5.trans g56
  have a2 := q1.eng 2 (v := .pointer (some ⟨A.ba, 0, none⟩)) rfl
  have a3 := F6.cell 3 (v := .int .u64 ((timeOf (σ.word 0) : Int) + 1)) rfl
  have HSU := Lib.hid (store_i q1.drew (1 + s) (timeOf (σ.word 0) + 1) (1 + (s : Int)) ((timeOf (σ.word 0) : Int) + 1) (by omega) (by omega) (by rw [q1.nw]; omega) (by show σ4.count + 1 < _; omega))
  have H6 := Lib.hid (And.intro g6 (And.intro F6 M6))
  have HV5 : Hid (∀ w7, Rep A ((σ4.put (σ.place (σ.made + 1)) (pack 1 0)).put (1 + s) (timeOf (σ.word 0) + 1)) w7 → w7.cell? ⟨A.be, 5 + s, none⟩ = some (.pointer none) ∧ w7.frozen? ⟨A.be, 5 + s, none⟩ = false) := by
    intro w7 r
    have h := r.eng (5 + s) (engCs_txn A _ hs)
    rw [show A.tp ((σ4.put (σ.place (σ.made + 1)) (pack 1 0)).put (1 + s) (timeOf (σ.word 0) + 1)) s = .pointer none by unfold Book.tp; rw [show ((σ4.put (σ.place (σ.made + 1)) (pack 1 0)).put (1 + s) (timeOf (σ.word 0) + 1)).txns.getD s none = none by show σ4.txns.getD s none = none; rw [HS4.out.2.2.1]; exact hn]] at h
    exact ⟨h, r.engF _⟩
  clear hL hs hn hcn hmd htm hcnt htl hx g5 F5 M5 g56 F6 M6 g6 q1 q2 ct4
  refine wp_region_still_tail 10 (by kernel_rfl) (by kernel_rfl) ?_
  simp only [List.take_succ_cons, List.take_zero, List.drop_succ_cons, List.drop_zero]
  repeat still_step
  refine wpStill_nil ?_
  change wpList _ _ _ _ _ w6.drew
  have HG7 : Hid (Grow A.L w6 A.L w6.drew) := Grow.drew _ _
  generalize w6.drew = wd6 at *
  go_wp2_with (go_at_call 77; refine HSU.out.mono ?_; rintro e w7 ⟨rfl, q1, q2⟩; obtain ⟨m5, z5⟩ := HV5.out w7 q1; have H7 := Lib.hid (And.intro q1 q2); clear q1 q2)
  obtain ⟨g6, F6, M6⟩ := H6.out
  obtain ⟨q1, q2⟩ := H7.out
  obtain ⟨_, _, _, hmL, hbL, hle⟩ := H4.out
  obtain ⟨hL, hs, hn, hcn, hmd, htm, hcnt, htl, hx⟩ := HL0.out
  obtain ⟨-, p4, tx4, cl4, tl4, ct4⟩ := HS4.out
  have g67 := HG7.out.trans q2
  have F7 := F6.grow g67
  have M7 := M6.grow g67
  have g7 := g6.trans g67
  have hn6 : ((σ4.put (σ.place (σ.made + 1)) (pack 1 0)).put (1 + s) (timeOf (σ.word 0) + 1)).txns.getD s none = none := by show σ4.txns.getD s none = none; rw [tx4]; exact hn
  have hblk : w7.heap[w2.heap.size + 1]? = some (.cells (txnCs (A.newTxn s (w2.heap.size + 1) w2.heap.size) s (txnOf (σ.made + 1) level (timeOf (σ.word 0) + 1))).toArray 129) := by
    rw [show (txnCs (A.newTxn s (w2.heap.size + 1) w2.heap.size) s (txnOf (σ.made + 1) level (timeOf (σ.word 0) + 1))).toArray = #[.int .i64 ((σ.made : Int) + 1), .int .i64 (level : Int), .int .i64 (s : Int), .int .u64 ((timeOf (σ.word 0) : Int) + 1), .int .u64 0, .int .i64 0, .slice none 0 0, .map (some w2.heap.size), .slice none 0 0, .slice none 0 0, .int .u32 0, .int .i32 0, .int .u32 0, .bool false] by simp [txnCs, Book.newTxn, upF, onceCs, txnOf]]
    exact F7.2
  obtain ⟨rA, gA⟩ := q1.adoptTxn g7 F7.1 M7.1 hs (by omega) hle (by omega) (txnOf (σ.made + 1) level (timeOf (σ.word 0) + 1)) rfl rfl rfl rfl hblk M7.2 hn6
  obtain ⟨A8, hA8⟩ : ∃ A8 : Book, A8 = A.newTxn s (w2.heap.size + 1) w2.heap.size := ⟨_, rfl⟩
  rw [← hA8] at rA gA
  have e8 : A8.be = A.be := by rw [hA8]; rfl
  have e8t : A8.bt s = w2.heap.size + 1 := by rw [hA8]; exact if_pos rfl
  have ht8 : (((σ4.put (σ.place (σ.made + 1)) (pack 1 0)).put (1 + s) (timeOf (σ.word 0) + 1)).setT s (txnOf (σ.made + 1) level (timeOf (σ.word 0) + 1))).txns.getD s none = some (txnOf (σ.made + 1) level (timeOf (σ.word 0) + 1)) := by rw [getT_set (by show s < σ4.txns.length; rw [tx4, hL.rep.n8]; exact hs), if_pos rfl]
  generalize hw8 : World.setCell w7 _ _ = w8 at *
  have c0 := rA.txn ht8 0 (v := .int .i64 ((σ.made : Int) + 1)) rfl
  have c3 := rA.txn ht8 3 (v := .int .u64 ((timeOf (σ.word 0) : Int) + 1)) rfl
  rw [e8t] at c0 c3
  have hev := event_any rA.drew s { kind := 1, t := σ.made + 1, n := timeOf (σ.word 0) + 1, op := ⟨0, 0, 0, level⟩ } 1 ((σ.made : Int) + 1) ((timeOf (σ.word 0) : Int) + 1) 0 0 0 level 0 0 0 0 none 0 0 rfl (PRow.nil _ _) (by show σ4.tale.length < _; rw [tl4]; exact htl)
  rw [e8] at hev
  have HE := Lib.hid hev
  have H8 : Hid (∀ A9 w9, Rep A9 ((((σ4.put (σ.place (σ.made + 1)) (pack 1 0)).put (1 + s) (timeOf (σ.word 0) + 1)).setT s (txnOf (σ.made + 1) level (timeOf (σ.word 0) + 1))).event { kind := 1, t := σ.made + 1, n := timeOf (σ.word 0) + 1, op := ⟨0, 0, 0, level⟩ }) w9 → Stay A8 A9 s → w9.cell? ⟨w2.heap.size + 1, 0, none⟩ = some (.int .i64 ((σ.made : Int) + 1))) := by
    intro A9 w9 r st
    have h := r.txn (show ((((σ4.put (σ.place (σ.made + 1)) (pack 1 0)).put (1 + s) (timeOf (σ.word 0) + 1)).setT s (txnOf (σ.made + 1) level (timeOf (σ.word 0) + 1))).event { kind := 1, t := σ.made + 1, n := timeOf (σ.word 0) + 1, op := ⟨0, 0, 0, level⟩ }).txns.getD s none = some (txnOf (σ.made + 1) level (timeOf (σ.word 0) + 1)) from ht8) 0 (v := .int .i64 ((σ.made : Int) + 1)) rfl
    rw [st.bt, e8t] at h
    exact h
  have HAA := Lib.hid (And.intro hA8 (And.intro gA (And.intro cl4 ht8)))
  clear hL hs hn hcn hmd htm hcnt htl hx g6 F6 M6 g67 F7 M7 g7 q1 q2 hmL hbL hle p4 tx4 cl4 tl4 ct4 hn6 hblk rA gA hA8 e8 e8t ht8 hw8 hev m5 z5
  refine wp_region_still_tail 12 (by kernel_rfl) (by kernel_rfl) ?_
  simp only [List.take_succ_cons, List.take_zero, List.drop_succ_cons, List.drop_zero]
  repeat still_step
  refine wpStill_nil ?_
  change wpList _ _ _ _ _ w8.drew
  have HG9 : Hid (∀ L, Grow L w8 L w8.drew) := fun L => Grow.drew _ _
  generalize w8.drew = wd8 at *
  go_wp2_with (go_at_call 53; refine HE.out.mono ?_; rintro e w9 ⟨rfl, A9, p1, p2, p3, p4, p5⟩; have t0 := H8.out A9 w9 p1 p3; have HP := Lib.hid (And.intro p1 (And.intro p2 p3)); clear p1 p2 p3 p4 p5)
  go_ret2
  obtain ⟨p1, p2, p3⟩ := HP.out
  obtain ⟨hA8, gA, cl4, ht8⟩ := HAA.out
  obtain ⟨hL, hs, hn, hcn, _⟩ := HL0.out
  have gg := (gA.trans (HG9.out _)).trans p2
  have hcl : ∀ q, ((((σ4.put (σ.place (σ.made + 1)) (pack 1 0)).put (1 + s) (timeOf (σ.word 0) + 1)).setT s (txnOf (σ.made + 1) level (timeOf (σ.word 0) + 1))).event { kind := 1, t := σ.made + 1, n := timeOf (σ.word 0) + 1, op := ⟨0, 0, 0, level⟩ }).calls.getD q none = σ.calls.getD q none := fun q => by show σ4.calls.getD q none = _; rw [cl4]
  rw [HS4.out.1.symm] at p1 ⊢
  refine ⟨A9, rfl, Live.of (s := s) hL p1 gg ⟨p3.be.trans (by rw [hA8]; rfl), p3.mp.trans (by rw [hA8]; rfl), p3.mt.trans (by rw [hA8]; funext k; show (if k = s then 0 else A.mt k) = A.mt k; by_cases hk : k = s; rw [if_pos hk, hL.mt k]; rw [if_neg hk]), fun q hq => by rw [p3.bt, hA8]; exact if_neg hq, fun q _ => by rw [p3.bc, hA8]; rfl, fun q hq => (p3.bx q hq).trans (by rw [hA8]; rfl), fun q hq => (p3.vpairs q hq).trans (by rw [hA8]; rfl), fun q _ => by rw [p3.vnext, hA8]; rfl, fun q _ => by rw [p3.vcall, hA8]; rfl⟩ (fun q hq => ?_) (fun c' hcc => ?_) (fun _ => ?_), gg, p3.be.trans (by rw [hA8]; rfl)⟩
  · rw [HS4.out.1]; exact hcl q
  · rw [HS4.out.1, hcl s, hcn] at hcc; cases hcc
  · rw [p3.vcall, hA8]; exact hL.idle s hs hcn
end Go.Proofs.YtbefcdjcefmicaaGreat.Em
