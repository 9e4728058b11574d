/- Texts of this claim, laid together: Op, Su, Ch, Is. -/
import Derived.Test.YtdgombgcjeelpaaGreatM7er
import Derived.Test.YtdgombgcjeelpaaGreatM5er
import Derived.Test.YtdgombgcjeelpaaGreatM4er
import Derived.Test.YtdgombgcjeelpaaGreatM6er
namespace Go.Proofs.YtdgombgcjeelpaaGreat.Em
open Go.ChangeShapes Go.WideShapes Go.ChangeAt Go.RowKit En
set_option linter.unusedVariables false
set_option linter.unusedSimpArgs false
set_option maxRecDepth 100000
set_option maxHeartbeats 1600000

theorem opOk_true (o : En.Op) (h : opOk o = true) (w : World) : Calls Tryz.prog 44 #[.agg #[.int .i64 (o.kind : Int), .int .i64 (o.key : Int), .int .i64 (o.hi : Int), .int .i64 (o.value : Int)]] w fun e w' => e = .returned (.bool true) ∧ Below w.heap.size w w' := by
  have hb : Below w.heap.size w (w.alloc (.cells #[.int .i64 (o.kind : Int), .int .i64 (o.key : Int), .int .i64 (o.hi : Int), .int .i64 (o.value : Int)] 31)) := (Below.refl _ _).alloc (Nat.le_refl _) _
  have HB := Lib.hid hb
  clear hb
  obtain ⟨kind, key, hi, value⟩ := o
  unfold opOk at h
  simp only at h HB ⊢
  have hk : kind = 1 ∨ kind = 2 ∨ kind = 3 ∨ kind = 4 ∨ kind = 5 ∨ kind = 6 ∨ kind = 7 := by
    by_cases h1 : kind = 1; exact .inl h1
    by_cases h2 : kind = 2; exact .inr (.inl h2)
    by_cases h3 : kind = 3; exact .inr (.inr (.inl h3))
    by_cases h4 : kind = 4; exact .inr (.inr (.inr (.inl h4)))
    by_cases h5 : kind = 5; exact .inr (.inr (.inr (.inr (.inl h5))))
    by_cases h6 : kind = 6; exact .inr (.inr (.inr (.inr (.inr (.inl h6)))))
    by_cases h7 : kind = 7; exact .inr (.inr (.inr (.inr (.inr (.inr h7)))))
    simp [h1, h2, h3, h4, h5, h6, h7] at h
  rcases hk with rfl | rfl | rfl | rfl | rfl | rfl | rfl
  · simp only [Bool.and_eq_true, decide_eq_true_eq, beq_iff_eq] at h
    have hx := h
    have a1 : decide ((key : Int) ≤ (63 : Int)) = true := by simp; omega
    have a2 : ((key : Int) ≤ (63 : Int)) = True := by simp; omega
    have b1 : ((hi : Int) == 0) = true := by simp; omega
    have b2 : ((hi : Int) = 0) = True := by simp; omega
    have c1 : ((value : Int) == 0) = true := by simp; omega
    have c2 : ((value : Int) = 0) = True := by simp; omega
    clear h hx
    go_enter Tryz.func44, Tryz.ntmps44
    go_wp2
    go_ret
    exact ⟨rfl, HB.out⟩
  · simp only [Bool.and_eq_true, decide_eq_true_eq, beq_iff_eq] at h
    have hx := h
    have a1 : decide ((key : Int) ≤ (63 : Int)) = true := by simp; omega
    have a2 : ((key : Int) ≤ (63 : Int)) = True := by simp; omega
    have b1 : ((hi : Int) == 0) = true := by simp; omega
    have b2 : ((hi : Int) = 0) = True := by simp; omega
    have c1 : decide ((value : Int) ≤ (65535 : Int)) = true := by simp; omega
    have c2 : ((value : Int) ≤ (65535 : Int)) = True := by simp; omega
    clear h hx
    go_enter Tryz.func44, Tryz.ntmps44
    go_wp2
    go_ret
    exact ⟨rfl, HB.out⟩
  · simp only [Bool.and_eq_true, decide_eq_true_eq, beq_iff_eq] at h
    have hx := h
    have a1 : decide ((key : Int) ≤ (63 : Int)) = true := by simp; omega
    have a2 : ((key : Int) ≤ (63 : Int)) = True := by simp; omega
    have b1 : ((hi : Int) == 0) = true := by simp; omega
    have b2 : ((hi : Int) = 0) = True := by simp; omega
    have c1 : decide ((value : Int) ≤ (65535 : Int)) = true := by simp; omega
    have c2 : ((value : Int) ≤ (65535 : Int)) = True := by simp; omega
    clear h hx
    go_enter Tryz.func44, Tryz.ntmps44
    go_wp2
    go_ret
    exact ⟨rfl, HB.out⟩
  · simp only [Bool.and_eq_true, decide_eq_true_eq, beq_iff_eq] at h
    have hx := h
    have a1 : decide ((key : Int) ≤ (63 : Int)) = true := by simp; omega
    have a2 : ((key : Int) ≤ (63 : Int)) = True := by simp; omega
    have b1 : ((hi : Int) == 0) = true := by simp; omega
    have b2 : ((hi : Int) = 0) = True := by simp; omega
    have c1 : ((value : Int) == 0) = true := by simp; omega
    have c2 : ((value : Int) = 0) = True := by simp; omega
    clear h hx
    go_enter Tryz.func44, Tryz.ntmps44
    go_wp2
    go_ret
    exact ⟨rfl, HB.out⟩
  · simp only [Bool.and_eq_true, decide_eq_true_eq, beq_iff_eq] at h
    have hx := h
    have a1 : decide ((key : Int) ≤ (63 : Int)) = true := by simp; omega
    have a2 : ((key : Int) ≤ (63 : Int)) = True := by simp; omega
    have b1 : decide ((key : Int) ≤ (hi : Int)) = true := by simp; omega
    have b2 : ((key : Int) ≤ (hi : Int)) = True := by simp; omega
    have e1 : decide ((hi : Int) ≤ (63 : Int)) = true := by simp; omega
    have e2 : ((hi : Int) ≤ (63 : Int)) = True := by simp; omega
    have c1 : ((value : Int) == 0) = true := by simp; omega
    have c2 : ((value : Int) = 0) = True := by simp; omega
    clear h hx
    go_enter Tryz.func44, Tryz.ntmps44
    go_wp2
    go_ret
    exact ⟨rfl, HB.out⟩
  · simp only [Bool.and_eq_true, decide_eq_true_eq, beq_iff_eq] at h
    have hx := h
    have a1 : ((key : Int) == 0) = true := by simp; omega
    have a2 : ((key : Int) = 0) = True := by simp; omega
    have b1 : ((hi : Int) == 0) = true := by simp; omega
    have b2 : ((hi : Int) = 0) = True := by simp; omega
    have c1 : ((value : Int) == 0) = true := by simp; omega
    have c2 : ((value : Int) = 0) = True := by simp; omega
    clear h hx
    go_enter Tryz.func44, Tryz.ntmps44
    go_wp2
    go_ret
    exact ⟨rfl, HB.out⟩
  · simp only [Bool.and_eq_true, decide_eq_true_eq, beq_iff_eq] at h
    have hx := h
    have a1 : ((key : Int) == 0) = true := by simp; omega
    have a2 : ((key : Int) = 0) = True := by simp; omega
    have b1 : ((hi : Int) == 0) = true := by simp; omega
    have b2 : ((hi : Int) = 0) = True := by simp; omega
    have c1 : ((value : Int) == 0) = true := by simp; omega
    have c2 : ((value : Int) = 0) = True := by simp; omega
    clear h hx
    go_enter Tryz.func44, Tryz.ntmps44
    go_wp2
    go_ret
    exact ⟨rfl, HB.out⟩
theorem ends_op (o : En.Op) (w : World) : Calls Tryz.prog 45 #[.agg #[.int .i64 (o.kind : Int), .int .i64 (o.key : Int), .int .i64 (o.hi : Int), .int .i64 (o.value : Int)]] w fun e w' => e = .returned (.bool (opEnds o)) ∧ Below w.heap.size w w' := by
  have hb : Below w.heap.size w (w.alloc (.cells #[.int .i64 (o.kind : Int), .int .i64 (o.key : Int), .int .i64 (o.hi : Int), .int .i64 (o.value : Int)] 31)) := (Below.refl _ _).alloc (Nat.le_refl _) _
  have HB := Lib.hid hb
  clear hb
  have he : opEnds o = (decide (o.kind = 6) || decide (o.kind = 7)) := by unfold opEnds; by_cases h1 : o.kind = 6 <;> by_cases h2 : o.kind = 7 <;> simp [h1, h2]
  rw [he]
  clear he
  generalize o.kind = kd at *
  by_cases h6 : kd = 6
  · subst h6
    go_enter Tryz.func45, Tryz.ntmps45
    go_wp2
    go_ret
    exact ⟨rfl, HB.out⟩
  · have a1 : ((kd : Int) == 6) = false := by simp; omega
    have a2 : ((kd : Int) = 6) = False := by simp; omega
    by_cases h7 : kd = 7
    · have b1 : ((kd : Int) == 7) = true := by simp; omega
      have b2 : ((kd : Int) = 7) = True := by simp; omega
      have HX := Lib.hid (And.intro h6 h7)
      clear h6 h7
      go_enter Tryz.func45, Tryz.ntmps45
      go_wp2
      go_ret
      exact ⟨by simp [HX.out.1, HX.out.2], HB.out⟩
    · have b1 : ((kd : Int) == 7) = false := by simp; omega
      have b2 : ((kd : Int) = 7) = False := by simp; omega
      have HX := Lib.hid (And.intro h6 h7)
      clear h6 h7
      go_enter Tryz.func45, Tryz.ntmps45
      go_wp2
      go_ret
      exact ⟨by simp [HX.out.1, HX.out.2], HB.out⟩
theorem levelOk (l : Nat) (h1 : 1 ≤ l) (h2 : l ≤ 3) (w : World) : Calls Tryz.prog 65 #[.int .i64 (l : Int)] w fun e w' => e = .returned (.bool true) ∧ w = w' := by
  have d1 : decide ((1 : Int) ≤ (l : Int)) = true := by simp; omega
  have d2 : decide ((l : Int) ≤ 3) = true := by simp; omega
  have e1 : ((1 : Int) ≤ (l : Int)) = True := by simp; omega
  have e2 : ((l : Int) ≤ 3) = True := by simp; omega
  have g1 : (1 ≤ l) = True := by simp; omega
  have g2 : (l ≤ 3) = True := by simp; omega
  have g3 : (0 < l) = True := by simp; omega
  clear h1 h2
  go_enter Tryz.func65, Tryz.ntmps65
  go_wp2
  go_ret
  exact ⟨rfl, rfl⟩
end Go.Proofs.YtdgombgcjeelpaaGreat.Em

namespace Go.Proofs.YtdgombgcjeelpaaGreat.Em
open Go.ChangeShapes Go.WideShapes Go.ChangeAt Go.RowKit En
set_option linter.unusedVariables false
set_option linter.unusedSimpArgs false
set_option maxRecDepth 100000
set_option maxHeartbeats 1600000

theorem step_over {A : Book} {σ : St} {w : World} (hL : Live A σ w) (s : Nat) (hs : s < 8) (t : Txn) (ht : σ.txns.getD s none = some t) (c : Cal) (hc : σ.calls.getD s none = some c) (k : K) (hk : c.k = some k) (hcnt : σ.count < 3000000000000000000) (σ2 : St) (ok : Option K) (hrun : (σ.setC s { c with waits := false }).run s k = (σ2, ok)) (HS : RunsTo (σ.setC s { c with waits := false }) s k) (c2 : Cal) (hc2 : σ2.calls.getD s none = some c2) (dl : Nat) (hdl : σ2.count = σ.count + dl) (hd1 : dl < 1000000) (hlk : σ2.looks < 1000000000000000000) (hcq : ∀ q, q ≠ s → σ2.calls.getD q none = σ.calls.getD q none) (hok : ok = none) (hw : c2.waits = false) (hov : c2.over = true) (hpr : c2.r.pairs = []) (hro : c2.r.over ≠ 0) :
    Calls Tryz.prog 19 #[.pointer (some ⟨A.be, 0, none⟩), .int .i64 (s : Int)] w (Stepped A w ({ σ2.setC s { c2 with k := ok } with looks := σ2.looks + dl, calls := (σ2.setC s { c2 with k := ok }).calls.set s none, txns := σ2.txns.set s none }) 3 c2.r) := by
  obtain ⟨Q, hQ⟩ : ∃ Q, Q = Stepped A w ({ σ2.setC s { c2 with k := ok } with looks := σ2.looks + dl, calls := (σ2.setC s { c2 with k := ok }).calls.set s none, txns := σ2.txns.set s none }) 3 c2.r := ⟨_, rfl⟩
  rw [← hQ]
  have HQ := Lib.hid hQ
  clear hQ
  obtain ⟨r0, g0, fl, fh⟩ := hL.rep.newTmp (.cells #[.int .i64 0, .int .i64 0, .int .i64 0, .slice none 0 0, .int .i64 0, .int .i64 0] 44)
  obtain ⟨hvc, k0, hk0, hkr⟩ := hL.call s hs c hc
  obtain rfl : k = k0 := by rw [hk] at hk0; exact Option.some.inj hk0
  obtain ⟨fv, fb, fc, hvn, hent⟩ := hkr.enter
  have hsok := Lib.hid (sessionOk s hs)
  have b1 : (s : Int) < 8 := by omega
  have b0 : (0 : Int) ≤ (s : Int) := by omega
  have v0 : (w.alloc (.cells #[.int .i64 0, .int .i64 0, .int .i64 0, .slice none 0 0, .int .i64 0, .int .i64 0] 44)).cell? ⟨A.be, 13 + s, none⟩ = some (.pointer (some ⟨A.bc s, 0, none⟩)) := by rw [← show A.vcall s = .pointer (some ⟨A.bc s, 0, none⟩) from hvc]; exact r0.eng (13 + s) (engCs_call (A.tmp w.heap.size) σ hs)
  have v1 : (w.alloc (.cells #[.int .i64 0, .int .i64 0, .int .i64 0, .slice none 0 0, .int .i64 0, .int .i64 0] 44)).cell? ⟨A.be, 5 + s, none⟩ = some (.pointer (some ⟨A.bt s, 0, none⟩)) := by
    have h := r0.eng (5 + s) (engCs_txn (A.tmp w.heap.size) σ hs)
    have e : (A.tmp w.heap.size).tp σ s = .pointer (some ⟨A.bt s, 0, none⟩) := by unfold Book.tp; rw [ht]; rfl
    rw [e] at h; exact h
  obtain ⟨σ1, hσ1⟩ : ∃ σ1, σ1 = σ.setC s { c with waits := false } := ⟨_, rfl⟩
  rw [← hσ1] at hrun HS
  have hc1 : σ1.calls.getD s none = some { c with waits := false } := by rw [hσ1, getC_set (lt_of_call hc), if_pos rfl]
  have hkp : kp A σ1 s = kp A σ s := by unfold kp; rw [call_get hc1, call_get hc]
  -- behind the draws: the first store
  have H5 : Hid (∀ n w5, (w.alloc (.cells #[.int .i64 0, .int .i64 0, .int .i64 0, .slice none 0 0, .int .i64 0, .int .i64 0] 44)).drewN n = w5 → w5.cell? ⟨A.bc s, 10, none⟩ = some (.bool c.waits) ∧ w5.frozen? ⟨A.bc s, 10, none⟩ = false ∧ ∀ w6, w5.setCell ⟨A.bc s, 10, none⟩ (.bool false) = w6 → w6.cell? ⟨A.be, 2, none⟩ = some (.pointer (some ⟨A.ba, 0, none⟩)) ∧ w6.cell? ⟨A.bc s, 4, none⟩ = some (.func (.func fv) fb fc) ∧ Calls Tryz.prog 47 #[.pointer (some ⟨A.ba, 0, none⟩)] w6 (fun e w' => e = .returned (.int .i64 (σ.count : Int)) ∧ w6 = w') ∧ Calls Tryz.prog fv (fb ++ fc) w6 (Ran (A.tmp w.heap.size) w6 s (σ2, ok)) ∧ Grow A.L w (A.tmp w.heap.size).L w6 ∧ ((A.tmp w.heap.size).L w.heap.size = some .tmp ∧ w6.heap[w.heap.size]? = some (.cells #[.int .i64 0, .int .i64 0, .int .i64 0, .slice none 0 0, .int .i64 0, .int .i64 0] 44))) := by
    rintro n w5 rfl
    have r5 := r0.drewN n
    refine ⟨r5.call hc 10 rfl, r5.callF hc 10, ?_⟩
    rintro w6 rfl
    obtain ⟨r6, g6⟩ := r5.setCall hc { c with waits := false } 10 (.bool false) rfl rfl
    have g56 := (Grow.drewN (A.tmp w.heap.size).L (w.alloc (.cells #[.int .i64 0, .int .i64 0, .int .i64 0, .slice none 0 0, .int .i64 0, .int .i64 0] 44)) n).trans g6
    have gg := g0.trans g56
    rw [← hσ1] at r6
    have h4 : _ = some (A.vnext s) := r6.call hc1 4 rfl
    rw [hvn] at h4
    have h4' : (((w.alloc (.cells #[.int .i64 0, .int .i64 0, .int .i64 0, .slice none 0 0, .int .i64 0, .int .i64 0] 44)).drewN n).setCell ⟨A.bc s, 10, none⟩ (.bool false)).cell? ⟨A.bc s, 4, none⟩ = some (.func (.func fv) fb fc) := h4
    have hk6 := (hkr.grow gg)
    rw [hvn, ← hkp] at hk6
    have hS := HS (A.tmp w.heap.size) _ fv fb fc r6 hL.mp (hL.mt s) hk6
    rw [hrun] at hS
    have hcn := count_any r6 (by rw [hσ1]; exact Nat.lt_trans hcnt (by decide))
    have hcc : σ1.count = σ.count := by rw [hσ1]; rfl
    rw [hcc] at hcn
    exact ⟨r6.eng 2 rfl, h4', hcn, hS, gg, tmp_grow ⟨fl, fh⟩ g56⟩
  have HL0 := Lib.hid hL
  have HF := Lib.hid (And.intro hc2 (And.intro hdl (And.intro hcq (And.intro hs hlk))))
  have n1 : IntKind.i64.wrap (((σ.count + dl : Nat) : Int) - (σ.count : Int)) = (dl : Int) := by rw [IntKind.wrap_i64]; omega
  have n2 : IntKind.i64.wrap ((σ2.looks : Int) + (dl : Int)) = ((σ2.looks + dl : Nat) : Int) := by rw [IntKind.wrap_i64]; omega
  -- behind the closure: the next step is laid; the looks are counted
  have H7 : Hid (∀ A2 w2 v A3, A3 = { A2 with vnext := upF A2.vnext s v } → Rep A2 σ2 w2 → Stay (A.tmp w.heap.size) A2 s → w2.cell? ⟨A.bc s, 4, none⟩ = some (A2.vnext s) ∧ w2.frozen? ⟨A.bc s, 4, none⟩ = false ∧ ∀ w3, w2.setCell ⟨A.bc s, 4, none⟩ v = w3 → w3.cell? ⟨A.be, 23, none⟩ = some (.int .i64 (σ2.looks : Int)) ∧ w3.frozen? ⟨A.be, 23, none⟩ = false ∧ w3.cell? ⟨A.be, 2, none⟩ = some (.pointer (some ⟨A.ba, 0, none⟩)) ∧ Calls Tryz.prog 47 #[.pointer (some ⟨A.ba, 0, none⟩)] w3.drew (fun e w' => e = .returned (.int .i64 ((σ.count + dl : Nat) : Int)) ∧ w' = w3.drew) ∧
      ∀ w4, w3.drew.setCell ⟨A.be, 23, none⟩ (.int .i64 ((σ2.looks + dl : Nat) : Int)) = w4 → Rep A3 ({ σ2.setC s { c2 with k := ok } with looks := σ2.looks + dl }) w4 ∧ Grow A2.L w2 A2.L w4 ∧ w4.cell? ⟨A.bc s, 10, none⟩ = some (.bool c2.waits) ∧ w4.cell? ⟨A.bc s, 11, none⟩ = some (.bool c2.over)) := by
    intro A2 w2 v A3 hA3 q st
    have ebc : A2.bc = A.bc := st.bc
    have ebe : A2.be = A.be := st.be
    have eba : A2.ba = A.ba := st.ba
    have x4 := q.call hc2 4 (v := A2.vnext s) rfl
    have z4 := q.callF hc2 4
    rw [ebc] at x4 z4
    refine ⟨x4, z4, ?_⟩
    rintro w3 rfl
    obtain ⟨r3, g3⟩ := q.nextSet hc2 v ok
    rw [← hA3, ebc] at r3
    rw [ebc] at g3
    have e3 : A3.be = A.be := by rw [hA3]; exact ebe
    have e3a : A3.ba = A.ba := by rw [hA3]; exact eba
    have e3c : A3.bc = A.bc := by rw [hA3]; exact ebc
    have e3L : A3.L = A2.L := by rw [hA3]
    have y23 := r3.eng 23 (v := .int .i64 (σ2.looks : Int)) rfl
    have z23 := r3.engF 23
    have y2 := r3.eng 2 (v := .pointer (some ⟨A3.ba, 0, none⟩)) rfl
    have hcn := flip (count_any r3.drew (by show σ2.count < _; omega))
    rw [e3] at y23 z23 y2
    rw [e3a] at hcn y2
    rw [show (σ2.setC s { c2 with k := ok }).count = σ.count + dl from hdl] at hcn
    refine ⟨y23, z23, y2, hcn, ?_⟩
    intro w4 hw4
    obtain ⟨r4, g4⟩ := r3.drew.looksSet (σ2.looks + dl)
    rw [e3, hw4] at r4 g4
    rw [e3L] at g4
    have hc4 : ({ σ2.setC s { c2 with k := ok } with looks := σ2.looks + dl } : St).calls.getD s none = some { c2 with k := ok } := by show (σ2.setC s { c2 with k := ok }).calls.getD s none = _; rw [getC_set (lt_of_call hc2), if_pos rfl]
    have a10 := r4.call hc4 10 (v := .bool c2.waits) rfl
    have a11 := r4.call hc4 11 (v := .bool c2.over) rfl
    rw [e3c] at a10 a11
    exact ⟨r4, (g3.trans (Grow.drew _ _)).trans g4, a10, a11⟩
  have hwx : (w.alloc (.cells #[.int .i64 0, .int .i64 0, .int .i64 0, .slice none 0 0, .int .i64 0, .int .i64 0] 44)).cell? ⟨A.bc s, 10, none⟩ = some (.bool c.waits) := r0.call hc 10 rfl
  have HVC := Lib.hid hvc
  clear hL ht hc hk hcnt hrun HS hc2 hdl hd1 hlk hcq r0 g0 fl fh hvc hk0 hkr hvn hσ1 hc1 hkp hs
  generalize (σ.count : Int) = ca at *
  generalize ((σ.count + dl : Nat) : Int) = cb at *
  generalize ((σ2.looks + dl : Nat) : Int) = lb at *
  go_enter Tryz.func19, Tryz.ntmps19
  go_wp2_with (go_at_call 43; refine (hsok.out _).mono ?_; rintro e w' ⟨rfl, rfl⟩)
  generalize hw0 : w.alloc _ = w0 at *
  go_quiet (fail)
  generalize hw5 : w0.drewN _ = w5
  obtain ⟨x10, z10, h6⟩ := H5.out _ w5 hw5
  obtain ⟨y2, y4, hcn, hS, gg, fD⟩ := h6 _ rfl
  have HC := Lib.hid hcn
  have HX := Lib.hid (And.intro hS (And.intro gg fD))
  clear hcn hS gg fD h6 hw5 hw0 H5 v0 v1 hwx
  go_wp2_with (go_at_call 47; refine HC.out.mono ?_; rintro e w' ⟨rfl, rfl⟩)
  refine HX.out.1.mono ?_
  rintro e w2 ⟨A2, v, rfl, q1, q2, q3, q4⟩
  subst hok
  have hv : v = .nilFunc := q4
  clear q4
  subst hv
  obtain ⟨x4, z4, h3⟩ := H7.out A2 w2 .nilFunc _ rfl q1 q3
  obtain ⟨y23, z23, y2', hcn, h4⟩ := h3 _ rfl
  have HC2 := Lib.hid hcn
  have HX2 := Lib.hid (And.intro q1 (And.intro q2 (And.intro q3 h4)))
  clear hcn h3 h4 q1 q2 q3 H7 x10 z10 y2 y4
  go_wp2_with fail
  generalize hw3 : w2.setCell ⟨A.bc s, 4, none⟩ .nilFunc = w3 at *
  refine wp_region_still_tail 14 (by kernel_rfl) (by kernel_rfl) ?_
  simp only [List.take_succ_cons, List.take_zero, List.drop_succ_cons, List.drop_zero]
  repeat still_step
  still_call HC2.out
  repeat still_step
  refine wpStill_nil ?_
  change wpList _ _ _ _ _ w3.drew
  have y23d : w3.drew.cell? ⟨A.be, 23, none⟩ = some (.int .i64 (σ2.looks : Int)) := y23
  have z23d : w3.drew.frozen? ⟨A.be, 23, none⟩ = false := z23
  generalize w3.drew = wd at *
  obtain ⟨r4, g4, a10, a11⟩ := HX2.out.2.2.2 _ rfl
  rw [hw] at a10
  rw [hov] at a11
  obtain ⟨hc2, hdl, hcq, hs, _⟩ := HF.out
  have q3 := HX2.out.2.2.1
  have ebe : A2.be = A.be := q3.be
  have ebc : A2.bc = A.bc := q3.bc
  have hc4 : ({ σ2.setC s { c2 with k := none } with looks := σ2.looks + dl } : St).calls.getD s none = some { c2 with k := none } := by show (σ2.setC s { c2 with k := none }).calls.getD s none = _; rw [getC_set (lt_of_call hc2), if_pos rfl]
  have m13 := r4.eng (13 + s) (engCs_call { A2 with vnext := upF A2.vnext s .nilFunc } _ hs)
  have z13 := r4.engF (13 + s)
  obtain ⟨r5, g5⟩ := r4.vcallSet hs (.pointer none)
  have m8 := r5.call hc4 8 (v := .int .i64 (c2.r.over : Int)) rfl
  have m5 := r5.eng (5 + s) (engCs_txn { A2 with vnext := upF A2.vnext s .nilFunc, vcall := upF A2.vcall s (.pointer none) } _ hs)
  have z5 := r5.engF (5 + s)
  obtain ⟨r6, g6⟩ := r5.dropTxn hs
  have hown := r6.mem.all (.pairs s)
  rw [mem_pairs (A := { A2 with vnext := upF A2.vnext s .nilFunc, vcall := upF A2.vcall s (.pointer none) }) (σ := { ({ σ2.setC s { c2 with k := none } with looks := σ2.looks + dl } : St) with txns := ({ σ2.setC s { c2 with k := none } with looks := σ2.looks + dl } : St).txns.set s none }) hc4] at hown
  obtain ⟨pa, pcap, hpv, _⟩ := Ow.own_form hown.1
  rw [show ({ c2 with k := none } : Cal).r.pairs.length = 0 by rw [show ({ c2 with k := none } : Cal).r.pairs = [] from hpr]; rfl] at hpv
  have p0 := r6.call hc4 5 (v := .int .i64 (c2.r.e : Int)) rfl
  have p1 := r6.call hc4 6 (v := .int .i64 (c2.r.value : Int)) rfl
  have p2 := r6.call hc4 7 (v := A2.vpairs s) rfl
  have p3 := r6.call hc4 8 (v := .int .i64 (c2.r.over : Int)) rfl
  have p4 := r6.call hc4 9 (v := .int .i64 (c2.r.reason : Int)) rfl
  rw [show A2.vpairs s = .slice pa 0 pcap from hpv] at p2
  simp only [ebe, ebc] at m13 z13 r5 g5 m8 m5 z5 r6 g6 p0 p1 p2 p3 p4
  have d1 : ((c2.r.over : Int) == 0) = false := by simp; omega
  have d2 : ((c2.r.over : Int) != 0) = true := by simp; omega
  have d3 : ((c2.r.over : Int) = 0) = False := by simp; omega
  have fD := tmp_grow (tmp_grow (tmp_grow (tmp_grow HX.out.2.2 HX2.out.2.1) g4) g5) g6
  have HY := Lib.hid (And.intro r6 (And.intro (((g4.trans g5).trans g6)) (And.intro fD (And.intro hpr hro))))
  have HCP := Lib.hid (copied_nil (((wd.setCell ⟨A.be, 23, none⟩ (.int .i64 lb)).setCell ⟨A.be, 13 + s, none⟩ (.pointer none)).setCell ⟨A.be, 5 + s, none⟩ (.pointer none)) c2.r.e c2.r.value c2.r.over c2.r.reason pa pcap)
  clear r4 g4 r5 g5 r6 g6 fD hown hpv q3 ebe ebc hc4 hc2 hdl hcq hw hov hpr hro
  go_wp2_with (first | (go_at_call 49; refine HCP.out.mono ?_; rintro e w7 ⟨rfl, hb⟩; have HB7 := Lib.hid hb; have HTH := Lib.hid (there_of (tmp_grow HY.out.2.2.1 (Grow.below (L := A2.L) hb)).2); clear hb) | (refine wpList_store_mid rfl 44 (.tmp 4) (.tmp 115) rfl w.heap.size 0 #[.int .i64 3, .int .i64 (c2.r.e : Int), .int .i64 (c2.r.value : Int), .slice none 0 0, .int .i64 (c2.r.over : Int), .int .i64 (c2.r.reason : Int)] rfl rfl HTH.out (by kernel_rfl) (by simp [Value.oneCell']) ?_; generalize hws : World.setCells _ _ _ _ = ws))
  have hbut := But.setCells w.heap.size [.int .i64 3, .int .i64 (c2.r.e : Int), .int .i64 (c2.r.value : Int), .slice none 0 0, .int .i64 (c2.r.over : Int), .int .i64 (c2.r.reason : Int)] 0 w7
  have fD := tmp_grow HY.out.2.2.1 (Grow.below (L := A2.L) HB7.out)
  have hfin := heap_setCells6 fD.2 (.int .i64 3) (.int .i64 (c2.r.e : Int)) (.int .i64 (c2.r.value : Int)) (.slice none 0 0) (.int .i64 (c2.r.over : Int)) (.int .i64 (c2.r.reason : Int))
  rw [show w7.setCells w.heap.size 0 [.int .i64 3, .int .i64 (c2.r.e : Int), .int .i64 (c2.r.value : Int), .slice none 0 0, .int .i64 (c2.r.over : Int), .int .i64 (c2.r.reason : Int)] = ws from hws] at hbut hfin
  (try simp only [Exit.inBlock, Exit.then])
  refine bodyPost_ret (results_cell_tmp_row rfl _ _ w.heap.size 44 #[.int .i64 3, .int .i64 (c2.r.e : Int), .int .i64 (c2.r.value : Int), .slice none 0 0, .int .i64 (c2.r.over : Int), .int .i64 (c2.r.reason : Int)] _ _ rfl hfin Tryz.underlying44 rfl (by kernel_rfl)) rfl ?_
  rw [HQ.out]
  obtain ⟨hc2, hdl, hcq, hs, _⟩ := HF.out
  obtain ⟨q1, q2, q3, _⟩ := HX2.out
  obtain ⟨r6, g6, _, hpr, hro⟩ := HY.out
  have r7 := ((r6.below HB7.out).dropCall s).but fD.1 hbut
  have gg := ((((HX.out.2.1.trans q2).trans g6).trans (Grow.below (L := A2.L) HB7.out)).but (Nat.le_refl _) hbut)
  have hlen : s < (σ2.setC s { c2 with k := none }).calls.length := by have := lt_of_call hc2; simpa [St.setC] using this
  have hns : ((σ2.setC s { c2 with k := none }).calls.set s none).getD s none = none := by rw [getD_set _ _ _ _ _ hlen, if_pos rfl]
  refine ⟨{ A2 with be := A.be, bc := A.bc, vnext := upF A2.vnext s .nilFunc, vcall := upF A2.vcall s (.pointer none) }, .slice none 0 0, rfl, by rw [hpr]; exact FRow.nil _ _ _, Live.of (s := s) HL0.out r7 gg ⟨rfl, q3.mp, q3.mt, fun q _ => congrFun q3.bt q, fun q _ => rfl, q3.bx, q3.vpairs, fun q hq => (upF_other _ _ hq).trans (congrFun q3.vnext q), fun q hq => (upF_other _ _ hq).trans (congrFun q3.vcall q)⟩ (fun q hq => ?_) (fun c' hcc => ?_) (fun hnn => upF_same _ _ _), gg, rfl⟩
  · show ((σ2.setC s { c2 with k := none }).calls.set s none).getD q none = _
    rw [getD_set _ _ _ _ _ hlen, if_neg hq, getC_set (lt_of_call hc2), if_neg hq]
    exact hcq q hq
  · have h0 := hns.symm.trans hcc
    cases h0
end Go.Proofs.YtdgombgcjeelpaaGreat.Em

namespace Go.Proofs.YtdgombgcjeelpaaGreat.Em
open Go.ChangeShapes Go.WideShapes Go.ChangeAt Go.RowKit En
set_option linter.unusedVariables false
set_option linter.unusedSimpArgs false
set_option maxRecDepth 100000
set_option maxHeartbeats 1600000

theorem change_none {A : Book} {σ : St} {w : World} (hR : Rep A σ w) (s : Nat) (t : Txn) (ht : σ.txns.getD s none = some t) (c : Cal) (hc : σ.calls.getD s none = some c) (hx : t.cell c.op.key = none) :
    Calls Tryz.prog 81 #[.pointer (some ⟨A.be, 0, none⟩), .pointer (some ⟨A.bt s, 0, none⟩), .pointer (some ⟨A.bc s, 0, none⟩)] w (Tells A w s (σ, .start ⟨c.op.key, t.begin_, .change⟩)) := by
  obtain ⟨r3, g3, _, _, _⟩ := allocs3 hR #[.pointer (some ⟨A.be, 0, none⟩)] 27 #[.pointer (some ⟨A.bt s, 0, none⟩)] 93 #[.pointer (some ⟨A.bc s, 0, none⟩)] 98
  have k1 := r3.call hc 1 (v := .int .i64 (c.op.key : Int)) rfl
  obtain ⟨r4, g4, f0, f1, f2, f3⟩ := allocs4 hR #[.pointer (some ⟨A.be, 0, none⟩)] 27 #[.pointer (some ⟨A.bt s, 0, none⟩)] 93 #[.pointer (some ⟨A.bc s, 0, none⟩)] 98 #[.int .i64 (c.op.key : Int)] 3
  have a0 := f0.cell 0 (v := .pointer (some ⟨A.be, 0, none⟩)) rfl
  have a1 := f1.cell 0 (v := .pointer (some ⟨A.bt s, 0, none⟩)) rfl
  have a2 := f2.cell 0 (v := .pointer (some ⟨A.bc s, 0, none⟩)) rfl
  have a3 := f3.cell 0 (v := .int .i64 (c.op.key : Int)) rfl
  have a7 := r4.txn ht 7 (v := .map (some (A.bm s))) rfl
  have ab := r4.txn ht 3 (v := .int .u64 (t.begin_ : Int)) rfl
  have hlk := fun n => lookup_run (r4.drewN n) ht c.op.key
  have hpx : A.px s t c.op.key = .pointer none := by unfold Book.px; rw [hx]; rfl
  rw [hpx] at hlk
  have gd := fun n => (Grow.drewN A.L ((((w.alloc (.cells #[.pointer (some ⟨A.be, 0, none⟩)] 27)).alloc (.cells #[.pointer (some ⟨A.bt s, 0, none⟩)] 93)).alloc (.cells #[.pointer (some ⟨A.bc s, 0, none⟩)] 98)).alloc (.cells #[.int .i64 (c.op.key : Int)] 3)) n).trans (Grow.drew A.L _)
  have HF := Lib.hid (fun n => And.intro (find_any (r4.drewN n).drew s c.op.key t.begin_ (.func (.func 120) #[] #[.pointer (some ⟨w.heap.size + 1 + 1, 0, none⟩), .pointer (some ⟨w.heap.size + 1, 0, none⟩), .pointer (some ⟨w.heap.size + 1 + 1 + 1, 0, none⟩), .pointer (some ⟨w.heap.size, 0, none⟩)]) .change ⟨_, _, _, _, rfl, f2.box.grow (gd n), f1.box.grow (gd n), f3.box.grow (gd n), f0.box.grow (gd n)⟩) (g4.trans (gd n)))
  clear hR ht hc hx r3 g3 r4 g4 f0 f1 f2 f3 gd hpx
  generalize c.op.key = key at *
  generalize t.begin_ = bg at *
  go_enter Tryz.func81, Tryz.ntmps81
  go_wp2_with fail
  generalize (((w.alloc _).alloc _).alloc _).alloc _ = w4 at *
  go_quiet (fail)
  go_wp2_with fail
  generalize hw5 : w4.drewN _ = w5
  have e0 : w5.cell? ⟨w.heap.size, 0, none⟩ = some (.pointer (some ⟨A.be, 0, none⟩)) := by rw [← hw5]; exact a0
  have e1 : w5.cell? ⟨w.heap.size + 1, 0, none⟩ = some (.pointer (some ⟨A.bt s, 0, none⟩)) := by rw [← hw5]; exact a1
  have e3 : w5.cell? ⟨w.heap.size + 1 + 1 + 1, 0, none⟩ = some (.int .i64 (key : Int)) := by rw [← hw5]; exact a3
  have eb : w5.cell? ⟨A.bt s, 3, none⟩ = some (.int .u64 (bg : Int)) := by rw [← hw5]; exact ab
  have HF0 : ∀ n, w4.drewN n = w5 → Calls Tryz.prog 104 #[.pointer (some ⟨A.be, 0, none⟩), .pointer (some ⟨A.bt s, 0, none⟩), .int .i64 (key : Int), .int .u64 (bg : Int), .func (.func 120) #[] #[.pointer (some ⟨w.heap.size + 1 + 1, 0, none⟩), .pointer (some ⟨w.heap.size + 1, 0, none⟩), .pointer (some ⟨w.heap.size + 1 + 1 + 1, 0, none⟩), .pointer (some ⟨w.heap.size, 0, none⟩)]] w5.drew (Tells A w5.drew s (σ, .start ⟨key, bg, .change⟩)) ∧ Grow A.L w A.L w5.drew := fun n h => by rw [← h]; exact HF.out n
  have HF1 := HF0 _ hw5
  have HF2 := Lib.hid HF1
  clear a0 a1 a2 a3 a7 ab hlk HF HF0 HF1 hw5
  refine wp_region_still_tail 8 (by kernel_rfl) (by kernel_rfl) ?_
  simp only [List.take_succ_cons, List.take_zero, List.drop_succ_cons, List.drop_zero]
  repeat still_step
  refine wpStill_nil ?_
  go_wp2_with (go_at_call 104; refine (HF2.out.1).mono ?_; rintro e w2 ⟨A2, v, rfl, p1, p2, p3, p4⟩)
  go_ret
  exact ⟨A2, v, rfl, p1, HF2.out.2.trans p2, p3, p4⟩
theorem first_tells {A : Book} {σ : St} {w : World} (hR : Rep A σ w) (s : Nat) (c : Cal) (hc : σ.calls.getD s none = some c) (Q : Ending → World → Prop) (h1 : c.op.kind = 1 → Calls Tryz.prog 77 #[.pointer (some ⟨A.be, 0, none⟩), .pointer (some ⟨A.bt s, 0, none⟩), .pointer (some ⟨A.bc s, 0, none⟩)] w Q) (h5 : c.op.kind = 5 → Calls Tryz.prog 78 #[.pointer (some ⟨A.be, 0, none⟩), .pointer (some ⟨A.bt s, 0, none⟩), .pointer (some ⟨A.bc s, 0, none⟩), .int .i64 (c.op.key : Int)] w Q) (h6 : c.op.kind = 6 → Calls Tryz.prog 79 #[.pointer (some ⟨A.be, 0, none⟩), .pointer (some ⟨A.bt s, 0, none⟩), .pointer (some ⟨A.bc s, 0, none⟩)] w Q) (h7 : c.op.kind = 7 → Calls Tryz.prog 80 #[.pointer (some ⟨A.be, 0, none⟩), .pointer (some ⟨A.bt s, 0, none⟩), .pointer (some ⟨A.bc s, 0, none⟩), .int .i64 0, .int .i64 1] w Q)
    (hz : c.op.kind ≠ 1 → c.op.kind ≠ 5 → c.op.kind ≠ 6 → c.op.kind ≠ 7 → Calls Tryz.prog 81 #[.pointer (some ⟨A.be, 0, none⟩), .pointer (some ⟨A.bt s, 0, none⟩), .pointer (some ⟨A.bc s, 0, none⟩)] w Q) (hQ : ∀ e w', Q e w' → ∃ v, e = .returned v) :
    Calls Tryz.prog 46 #[.pointer (some ⟨A.be, 0, none⟩), .pointer (some ⟨A.bt s, 0, none⟩), .pointer (some ⟨A.bc s, 0, none⟩)] w Q := by
  have k0 : w.cell? ⟨A.bc s, 0, none⟩ = some (.int .i64 (c.op.kind : Int)) := hR.call hc 0 rfl
  have k1 : w.cell? ⟨A.bc s, 1, none⟩ = some (.int .i64 (c.op.key : Int)) := hR.call hc 1 rfl
  clear hR hc
  generalize c.op.kind = kd at *
  generalize c.op.key = key at *
  have HQ := Lib.hid hQ
  clear hQ
  by_cases k1' : kd = 1
  · subst k1'
    have k0' : w.cell? ⟨A.bc s, 0, none⟩ = some (.int .i64 1) := k0
    clear k0
    have HC := Lib.hid (h1 rfl)
    clear h1 h5 h6 h7 hz
    go_enter Tryz.func46, Tryz.ntmps46
    go_wp2_with (go_at_call 77; refine HC.out.mono ?_; intro e w2 hq; obtain ⟨v, rfl⟩ := HQ.out e w2 hq; have HV := Lib.hid hq; clear hq)
    exact HV.out
  · skip
    by_cases k5' : kd = 5
    · subst k5'
      have k0' : w.cell? ⟨A.bc s, 0, none⟩ = some (.int .i64 5) := k0
      clear k0
      have HC := Lib.hid (h5 rfl)
      clear h1 h5 h6 h7 hz
      clear k1'
      go_enter Tryz.func46, Tryz.ntmps46
      go_wp2_with (go_at_call 78; refine HC.out.mono ?_; intro e w2 hq; obtain ⟨v, rfl⟩ := HQ.out e w2 hq; have HV := Lib.hid hq; clear hq)
      exact HV.out
    · skip
      by_cases k6' : kd = 6
      · subst k6'
        have k0' : w.cell? ⟨A.bc s, 0, none⟩ = some (.int .i64 6) := k0
        clear k0
        have HC := Lib.hid (h6 rfl)
        clear h1 h5 h6 h7 hz
        clear k1' k5'
        go_enter Tryz.func46, Tryz.ntmps46
        go_wp2_with (go_at_call 79; refine HC.out.mono ?_; intro e w2 hq; obtain ⟨v, rfl⟩ := HQ.out e w2 hq; have HV := Lib.hid hq; clear hq)
        exact HV.out
      · skip
        by_cases k7' : kd = 7
        · subst k7'
          have k0' : w.cell? ⟨A.bc s, 0, none⟩ = some (.int .i64 7) := k0
          clear k0
          have HC := Lib.hid (h7 rfl)
          clear h1 h5 h6 h7 hz
          clear k1' k5' k6'
          go_enter Tryz.func46, Tryz.ntmps46
          go_wp2_with (go_at_call 80; refine HC.out.mono ?_; intro e w2 hq; obtain ⟨v, rfl⟩ := HQ.out e w2 hq; have HV := Lib.hid hq; clear hq)
          exact HV.out
        · skip
          have a1 : ((kd : Int) == 1) = false := by simp; omega
          have b1 : ((kd : Int) = 1) = False := by simp; omega
          have n1 : (kd = 1) = False := by simp; omega
          have a5 : ((kd : Int) == 5) = false := by simp; omega
          have b5 : ((kd : Int) = 5) = False := by simp; omega
          have n5 : (kd = 5) = False := by simp; omega
          have a6 : ((kd : Int) == 6) = false := by simp; omega
          have b6 : ((kd : Int) = 6) = False := by simp; omega
          have n6 : (kd = 6) = False := by simp; omega
          have a7 : ((kd : Int) == 7) = false := by simp; omega
          have b7 : ((kd : Int) = 7) = False := by simp; omega
          have n7 : (kd = 7) = False := by simp; omega
          have HC := Lib.hid (hz k1' k5' k6' k7')
          clear h1 h5 h6 h7 hz
          clear k1' k5' k6' k7'
          go_enter Tryz.func46, Tryz.ntmps46
          go_wp2_with (go_at_call 81; refine HC.out.mono ?_; intro e w2 hq; obtain ⟨v, rfl⟩ := HQ.out e w2 hq; have HV := Lib.hid hq; clear hq)
          exact HV.out
end Go.Proofs.YtdgombgcjeelpaaGreat.Em

namespace Go.Proofs.YtdgombgcjeelpaaGreat.Em
open Go.ChangeShapes Go.WideShapes Go.ChangeAt Go.RowKit En
set_option linter.unusedVariables false
set_option linter.unusedSimpArgs false
set_option maxRecDepth 100000
set_option maxHeartbeats 1600000

/-- A call's first step is told. -/
def FirstTo (σ3 : St) (s : Nat) : Prop := ∀ A w, Rep A σ3 w → A.mp = 0 → Calls Tryz.prog 46 #[.pointer (some ⟨A.be, 0, none⟩), .pointer (some ⟨A.bt s, 0, none⟩), .pointer (some ⟨A.bc s, 0, none⟩)] w (Tells A w s (σ3.first s))
/-- A call has been issued. -/
def Issued (A : Book) (w : World) (σ' : St) (err : Int) : Ending → World → Prop := fun e w' => ∃ A', e = .returned (.int .i64 err) ∧ Live A' σ' w' ∧ Grow A.L w A'.L w' ∧ A'.be = A.be
def callOf (o : En.Op) (q : Nat) : Cal := { op := o, k := none, r := {}, waits := false, over := false, seq := q }
theorem setC_getQ {σ : St} {s q : Nat} (c : Cal) (h : q ≠ s) : (σ.setC s c).calls.getD q none = σ.calls.getD q none := by
  unfold St.setC
  simp only [List.getD_eq_getElem?_getD, List.getElem?_set]
  rw [if_neg (Ne.symm h)]
theorem issue_ends {A : Book} {σ : St} {w : World} (hL : Live A σ w) (s : Nat) (hs : s < 8) (t : Txn) (ht : σ.txns.getD s none = some t) (o : En.Op) (ho : opOk o = true) (he : opEnds o = true) (hn : σ.calls.getD s none = none) (hop : t.ops < 12) (hsq : σ.seq < 4000000000000000000)
    (HF : FirstTo (({ σ with seq := σ.seq + 1 } : St).setC s (callOf o (σ.seq + 1))) s) (σ4 : St) (k : K) (hf : (({ σ with seq := σ.seq + 1 } : St).setC s (callOf o (σ.seq + 1))).first s = (σ4, k)) (c4 : Cal) (hc4 : σ4.calls.getD s none = some c4) (hcq : ∀ q, q ≠ s → σ4.calls.getD q none = σ.calls.getD q none) :
    Calls Tryz.prog 17 #[.pointer (some ⟨A.be, 0, none⟩), .int .i64 (s : Int), .agg #[.int .i64 (o.kind : Int), .int .i64 (o.key : Int), .int .i64 (o.hi : Int), .int .i64 (o.value : Int)]] w (Issued A w (σ4.setC s { c4 with k := some k }) 0) := by
  obtain ⟨r0, g0, f0⟩ := allocs1 hL.rep #[.int .i64 (o.kind : Int), .int .i64 (o.key : Int), .int .i64 (o.hi : Int), .int .i64 (o.value : Int)] 31
  have hsok := Lib.hid (sessionOk s hs)
  have hok := Lib.hid (opOk_true o ho)
  have hen := Lib.hid (ends_op o)
  rw [he] at hen
  have b1 : (s : Int) < 8 := by omega
  have b0 : (0 : Int) ≤ (s : Int) := by omega
  have hV : ∀ (A' : Book) (σ' : St) w', Rep A' σ' w' → A'.be = A.be → A'.bt = A.bt → A'.vcall = A.vcall → (∃ t', σ'.txns.getD s none = some t') → w'.cell? ⟨A.be, 5 + s, none⟩ = some (.pointer (some ⟨A.bt s, 0, none⟩)) ∧ w'.cell? ⟨A.be, 13 + s, none⟩ = some (.pointer none) := by
    rintro A' σ' w' r e1 e2 e3 ⟨t', ht'⟩
    have h := r.eng (5 + s) (engCs_txn A' σ' hs)
    have h2 := r.eng (13 + s) (engCs_call A' σ' hs)
    have e : A'.tp σ' s = .pointer (some ⟨A.bt s, 0, none⟩) := by unfold Book.tp; rw [ht', e2]
    rw [e, e1] at h
    rw [e1, e3, hL.idle s hs hn] at h2
    exact ⟨h, h2⟩
  have HW : Hid (∀ w', Below (w.alloc (.cells #[.int .i64 (o.kind : Int), .int .i64 (o.key : Int), .int .i64 (o.hi : Int), .int .i64 (o.value : Int)] 31)).heap.size (w.alloc (.cells #[.int .i64 (o.kind : Int), .int .i64 (o.key : Int), .int .i64 (o.hi : Int), .int .i64 (o.value : Int)] 31)) w' → Rep A σ w' ∧ Grow A.L w A.L w' ∧ Fix A.L w' w.heap.size (.cells #[.int .i64 (o.kind : Int), .int .i64 (o.key : Int), .int .i64 (o.hi : Int), .int .i64 (o.value : Int)] 31) ∧ w'.cell? ⟨A.be, 5 + s, none⟩ = some (.pointer (some ⟨A.bt s, 0, none⟩)) ∧ w'.cell? ⟨A.be, 13 + s, none⟩ = some (.pointer none) ∧ w'.cell? ⟨A.bt s, 5, none⟩ = some (.int .i64 (t.ops : Int)) ∧ w'.frozen? ⟨A.bt s, 5, none⟩ = false ∧ w'.cell? ⟨A.be, 22, none⟩ = some (.int .i64 (σ.seq : Int)) ∧ w'.frozen? ⟨A.be, 22, none⟩ = false) := by
    intro w' hb
    have r := r0.below hb
    have gb := Grow.below (L := A.L) hb
    obtain ⟨v1, v2⟩ := hV A σ w' r rfl rfl rfl ⟨t, ht⟩
    exact ⟨r, g0.trans gb, f0.grow gb, v1, v2, r.txn ht 5 rfl, r.txnF ht 5, r.eng 22 rfl, r.engF 22⟩
  obtain ⟨_, _, _, v1, v2, v3, v4, v5, v6⟩ := HW.out _ (Below.refl _ _)
  have HL0 := Lib.hid (And.intro hL (And.intro ht (And.intro hn (And.intro hs (And.intro hc4 hcq)))))
  have HFF := Lib.hid (And.intro HF hf)
  have d1 : decide ((12 : Int) ≤ (t.ops : Int)) = false := by simp; omega
  have d2 : ((12 : Int) ≤ (t.ops : Int)) = False := by simp; omega
  have d3 : (12 ≤ t.ops) = False := by simp; omega
  have n1 : IntKind.i64.wrap ((t.ops : Int) + 1) = (t.ops : Int) + 1 := by rw [IntKind.wrap_i64]; omega
  have n2 : IntKind.i64.wrap ((σ.seq : Int) + 1) = (σ.seq : Int) + 1 := by rw [IntKind.wrap_i64]; omega
  clear hL r0 g0 f0 hs ho he hn hop hsq HF hf hc4 hcq hV ht
  go_enter Tryz.func17, Tryz.ntmps17
  go_wp2_with (first | (go_at_call 43; refine (hsok.out _).mono ?_; rintro e w' ⟨rfl, rfl⟩) | (go_at_call 44; refine (hok.out _).mono ?_; rintro e w1 ⟨rfl, hb⟩; obtain ⟨r1, g1, f1, x1, x2, x3, x4, x5, x6⟩ := HW.out w1 hb; have y0 := f1.cell 0 (v := .int .i64 (o.kind : Int)) rfl; have y1 := f1.cell 1 (v := .int .i64 (o.key : Int)) rfl; have y2 := f1.cell 2 (v := .int .i64 (o.hi : Int)) rfl; have y3 := f1.cell 3 (v := .int .i64 (o.value : Int)) rfl; have H1 := Lib.hid hb; clear r1 g1 f1 hb) | (go_at_call 45; refine (hen.out _).mono ?_; rintro e w2 ⟨rfl, hb2⟩; obtain ⟨r1, g1, f1, x1, x2, x3, x4, x5, x6⟩ := HW.out w2 (H1.out.trans (hb2.mono H1.out.size)); have y0 := f1.cell 0 (v := .int .i64 (o.kind : Int)) rfl; have y1 := f1.cell 1 (v := .int .i64 (o.key : Int)) rfl; have y2 := f1.cell 2 (v := .int .i64 (o.hi : Int)) rfl; have y3 := f1.cell 3 (v := .int .i64 (o.value : Int)) rfl; have H2 := Lib.hid (And.intro r1 (And.intro g1 f1)); clear r1 g1 f1 hb2))
  obtain ⟨r1, g1, f1⟩ := H2.out
  obtain ⟨hL, ht, hn, hs, hc4, hcq⟩ := HL0.out
  obtain ⟨ra, ga1⟩ := r1.seqSet (σ.seq + 1)
  rw [show ((σ.seq + 1 : Nat) : Int) = (σ.seq : Int) + 1 from rfl] at ra ga1
  have ga := g1.trans ga1
  have fa := f1.grow ga1
  clear ga1
  generalize w2.setCell ⟨A.be, 22, none⟩ (.int .i64 ((σ.seq : Int) + 1)) = w3 at *
  have hseq := ra.eng 22 (v := .int .i64 ((σ.seq : Int) + 1)) rfl
  have o0 := fa.cell 0 (v := .int .i64 (o.kind : Int)) rfl
  have o1 := fa.cell 1 (v := .int .i64 (o.key : Int)) rfl
  have o2 := fa.cell 2 (v := .int .i64 (o.hi : Int)) rfl
  have o3 := fa.cell 3 (v := .int .i64 (o.value : Int)) rfl
  have hB : Below w3.heap.size w3 (w3.alloc (.cells #[.int .i64 (o.kind : Int), .int .i64 (o.key : Int), .int .i64 (o.hi : Int), .int .i64 (o.value : Int), .nilFunc, .int .i64 0, .int .i64 0, .slice none 0 0, .int .i64 0, .int .i64 0, .bool false, .bool false, .int .i64 ((σ.seq : Int) + 1)] 125)).drew := ((Below.refl _ _).alloc (Nat.le_refl _) _).drew
  have hblk : (w3.alloc (.cells #[.int .i64 (o.kind : Int), .int .i64 (o.key : Int), .int .i64 (o.hi : Int), .int .i64 (o.value : Int), .nilFunc, .int .i64 0, .int .i64 0, .slice none 0 0, .int .i64 0, .int .i64 0, .bool false, .bool false, .int .i64 ((σ.seq : Int) + 1)] 125)).drew.heap[w3.heap.size]? = some (.cells (callCs (A.newCall s w3.heap.size .nilFunc) s (callOf o (σ.seq + 1))).toArray 125) := by
    rw [show (callCs (A.newCall s w3.heap.size .nilFunc) s (callOf o (σ.seq + 1))).toArray = #[.int .i64 (o.kind : Int), .int .i64 (o.key : Int), .int .i64 (o.hi : Int), .int .i64 (o.value : Int), .nilFunc, .int .i64 0, .int .i64 0, .slice none 0 0, .int .i64 0, .int .i64 0, .bool false, .bool false, .int .i64 ((σ.seq : Int) + 1)] by simp [callCs, Book.newCall, upF, callOf]]
    exact heap_alloc_new w3 _
  have hn1 : ({ σ with seq := σ.seq + 1 } : St).calls.getD s none = none := hn
  obtain ⟨rb, gb⟩ := ra.newCall hB hs (Nat.le_refl _) .nilFunc (callOf o (σ.seq + 1)) rfl hblk hn1
  obtain ⟨A1, hA1⟩ : ∃ A1 : Book, A1 = A.newCall s w3.heap.size .nilFunc := ⟨_, rfl⟩
  rw [← hA1] at rb gb
  have e1 : A1.be = A.be := by rw [hA1]; rfl
  have e2 : A1.bt = A.bt := by rw [hA1]; rfl
  have e3 : A1.bc s = w3.heap.size := by rw [hA1]; exact if_pos rfl
  have e4 : A1.mp = A.mp := by rw [hA1]; rfl
  have hFF := HFF.out.1 A1 _ rb (e4.trans hL.mp)
  rw [HFF.out.2, e1, e2, e3] at hFF
  have hst : ∀ A5 : Book, Stay A1 A5 s → StayQ A A5 s := fun A5 st => by
    refine ⟨st.be.trans e1, st.mp.trans e4, st.mt.trans (by rw [hA1]; rfl), fun q _ => by rw [st.bt, e2], fun q hq => by rw [st.bc, hA1]; exact if_neg hq, fun q hq => (st.bx q hq).trans (by rw [hA1]; rfl), fun q hq => (st.vpairs q hq).trans (by rw [hA1]; exact upF_other _ _ hq), fun q hq => by rw [st.vnext, hA1]; exact upF_other _ _ hq, fun q hq => by rw [st.vcall, hA1]; rfl⟩
  have HN : Hid (∀ A5 w5 v A6, A6 = { A5 with vnext := upF A5.vnext s v } → Rep A5 σ4 w5 → Stay A1 A5 s → w5.cell? ⟨w3.heap.size, 4, none⟩ = some (A5.vnext s) ∧ w5.frozen? ⟨w3.heap.size, 4, none⟩ = false ∧ Rep A6 (σ4.setC s { c4 with k := some k }) (w5.setCell ⟨w3.heap.size, 4, none⟩ v) ∧ Grow A5.L w5 A5.L (w5.setCell ⟨w3.heap.size, 4, none⟩ v) ∧ (w5.setCell ⟨w3.heap.size, 4, none⟩ v).cell? ⟨A.be, 13 + s, none⟩ = some (A5.vcall s) ∧ (w5.setCell ⟨w3.heap.size, 4, none⟩ v).frozen? ⟨A.be, 13 + s, none⟩ = false) := by
    intro A5 w5 v A6 hA6 q st
    have ebc : A5.bc s = w3.heap.size := by rw [st.bc]; exact e3
    have x4 := q.call hc4 4 (v := A5.vnext s) rfl
    have z4 := q.callF hc4 4
    obtain ⟨r6, g6⟩ := q.nextSet hc4 v (some k)
    rw [← hA6, ebc] at r6
    rw [ebc] at x4 z4 g6
    have e6 : A6.be = A.be := by rw [hA6]; exact st.be.trans e1
    have m13 := r6.eng (13 + s) (engCs_call A6 _ hs)
    have z13 := r6.engF (13 + s)
    rw [e6] at m13 z13
    rw [show A6.vcall = A5.vcall by rw [hA6]] at m13
    exact ⟨x4, z4, r6, g6, m13, z13⟩
  have HY := Lib.hid (And.intro hFF (And.intro gb (And.intro ga (And.intro hst (And.intro e3 (And.intro e1 (And.intro hc4 (And.intro hcq hs))))))))
  clear hL ht hn hs hc4 hcq ra ga fa hB hblk hn1 rb gb hA1 e1 e2 e3 e4 hFF hst r1 g1 f1
  go_region
  generalize hw4 : (w3.alloc _).drew = w4 at *
  clear hseq o0 o1 o2 o3 hw4
  go_wp2_with (go_at_call 46; refine HY.out.1.mono ?_; rintro e w5 ⟨A5, v, rfl, p1, p2, p3, p4⟩; obtain ⟨f5, u5, u6, rfl, _⟩ := KRep.enter p4; obtain ⟨x4, z4, r6, g6, m13, z13⟩ := HN.out A5 w5 (.func (.func f5) u5 u6) _ rfl p1 p3; have HP := Lib.hid (And.intro p2 (And.intro p3 (And.intro p4 (And.intro r6 g6)))); clear p1 p2 p3 p4 r6 g6)
  go_ret
  obtain ⟨_, gb, ga, hst, e3, e1, hc4, hcq, hs⟩ := HY.out
  obtain ⟨p2, p3, p4, r6, g6⟩ := HP.out
  obtain ⟨r7, g7⟩ := r6.vcallSet hs (.pointer (some ⟨w3.heap.size, 0, none⟩))
  obtain ⟨A7, hA7⟩ : ∃ A7 : Book, A7 = { A5 with vnext := upF A5.vnext s (.func (.func f5) u5 u6), vcall := upF A5.vcall s (.pointer (some ⟨w3.heap.size, 0, none⟩)) } := ⟨_, rfl⟩
  rw [show ({ A5 with vnext := upF A5.vnext s (.func (.func f5) u5 u6) } : Book).be = A.be from p3.be.trans e1] at g7
  have r8 : Rep A7 (σ4.setC s { c4 with k := some k }) ((w5.setCell ⟨w3.heap.size, 4, none⟩ (.func (.func f5) u5 u6)).setCell ⟨A.be, 13 + s, none⟩ (.pointer (some ⟨w3.heap.size, 0, none⟩))) := by
    rw [hA7, ← show A5.be = A.be from p3.be.trans e1]
    exact r7
  have e7L : A7.L = A5.L := by rw [hA7]
  have gg : Grow A.L w A7.L ((w5.setCell ⟨w3.heap.size, 4, none⟩ (.func (.func f5) u5 u6)).setCell ⟨A.be, 13 + s, none⟩ (.pointer (some ⟨w3.heap.size, 0, none⟩))) := by
    rw [e7L]
    exact (((ga.trans gb).trans p2).trans g6).trans g7
  have sq := hst A5 p3
  have hc' : (σ4.setC s { c4 with k := some k }).calls.getD s none = some { c4 with k := some k } := by rw [getC_set (lt_of_call hc4), if_pos rfl]
  refine ⟨A7, rfl, Live.of (s := s) HL0.out.1 r8 gg ⟨by rw [hA7]; exact sq.be, by rw [hA7]; exact sq.mp, by rw [hA7]; exact sq.mt, fun q hq => by rw [hA7]; exact sq.bt q hq, fun q hq => by rw [hA7]; exact sq.bc q hq, fun q hq => by rw [hA7]; exact sq.bx q hq, fun q hq => by rw [hA7]; exact sq.vpairs q hq, fun q hq => by rw [hA7]; exact (upF_other _ _ hq).trans (sq.vnext q hq), fun q hq => by rw [hA7]; exact (upF_other _ _ hq).trans (sq.vcall q hq)⟩ (fun q hq => ?_) (fun c' hcc => ?_) (fun hnn => by have h0 := hc'.symm.trans hnn; cases h0), gg, by rw [hA7]; exact sq.be⟩
  · rw [setC_getQ _ hq]; exact hcq q hq
  · obtain rfl : { c4 with k := some k } = c' := Option.some.inj (hc'.symm.trans hcc)
    refine ⟨?_, k, rfl, ?_⟩
    · rw [hA7]
      show upF A5.vcall s _ s = ptr (A5.bc s)
      rw [upF_same, p3.bc, e3]
    · have ek : kp A7 (σ4.setC s { c4 with k := some k }) s = kp A5 σ4 s := by unfold kp; rw [call_get hc', call_get hc4, hA7]
      have ev : A7.vnext s = .func (.func f5) u5 u6 := by rw [hA7]; exact upF_same _ _ _
      rw [ek, ev, e7L]
      exact p4.grow (g6.trans g7)
theorem issue_other {A : Book} {σ : St} {w : World} (hL : Live A σ w) (s : Nat) (hs : s < 8) (t : Txn) (ht : σ.txns.getD s none = some t) (o : En.Op) (ho : opOk o = true) (he : opEnds o = false) (hn : σ.calls.getD s none = none) (hop : t.ops < 12) (hsq : σ.seq < 4000000000000000000)
    (HF : FirstTo (({ (σ.setT s { t with ops := t.ops + 1 }) with seq := σ.seq + 1 } : St).setC s (callOf o (σ.seq + 1))) s) (σ4 : St) (k : K) (hf : (({ (σ.setT s { t with ops := t.ops + 1 }) with seq := σ.seq + 1 } : St).setC s (callOf o (σ.seq + 1))).first s = (σ4, k)) (c4 : Cal) (hc4 : σ4.calls.getD s none = some c4) (hcq : ∀ q, q ≠ s → σ4.calls.getD q none = σ.calls.getD q none) :
    Calls Tryz.prog 17 #[.pointer (some ⟨A.be, 0, none⟩), .int .i64 (s : Int), .agg #[.int .i64 (o.kind : Int), .int .i64 (o.key : Int), .int .i64 (o.hi : Int), .int .i64 (o.value : Int)]] w (Issued A w (σ4.setC s { c4 with k := some k }) 0) := by
  obtain ⟨r0, g0, f0⟩ := allocs1 hL.rep #[.int .i64 (o.kind : Int), .int .i64 (o.key : Int), .int .i64 (o.hi : Int), .int .i64 (o.value : Int)] 31
  have hsok := Lib.hid (sessionOk s hs)
  have hok := Lib.hid (opOk_true o ho)
  have hen := Lib.hid (ends_op o)
  rw [he] at hen
  have b1 : (s : Int) < 8 := by omega
  have b0 : (0 : Int) ≤ (s : Int) := by omega
  have hV : ∀ (A' : Book) (σ' : St) w', Rep A' σ' w' → A'.be = A.be → A'.bt = A.bt → A'.vcall = A.vcall → (∃ t', σ'.txns.getD s none = some t') → w'.cell? ⟨A.be, 5 + s, none⟩ = some (.pointer (some ⟨A.bt s, 0, none⟩)) ∧ w'.cell? ⟨A.be, 13 + s, none⟩ = some (.pointer none) := by
    rintro A' σ' w' r e1 e2 e3 ⟨t', ht'⟩
    have h := r.eng (5 + s) (engCs_txn A' σ' hs)
    have h2 := r.eng (13 + s) (engCs_call A' σ' hs)
    have e : A'.tp σ' s = .pointer (some ⟨A.bt s, 0, none⟩) := by unfold Book.tp; rw [ht', e2]
    rw [e, e1] at h
    rw [e1, e3, hL.idle s hs hn] at h2
    exact ⟨h, h2⟩
  have HW : Hid (∀ w', Below (w.alloc (.cells #[.int .i64 (o.kind : Int), .int .i64 (o.key : Int), .int .i64 (o.hi : Int), .int .i64 (o.value : Int)] 31)).heap.size (w.alloc (.cells #[.int .i64 (o.kind : Int), .int .i64 (o.key : Int), .int .i64 (o.hi : Int), .int .i64 (o.value : Int)] 31)) w' → Rep A σ w' ∧ Grow A.L w A.L w' ∧ Fix A.L w' w.heap.size (.cells #[.int .i64 (o.kind : Int), .int .i64 (o.key : Int), .int .i64 (o.hi : Int), .int .i64 (o.value : Int)] 31) ∧ w'.cell? ⟨A.be, 5 + s, none⟩ = some (.pointer (some ⟨A.bt s, 0, none⟩)) ∧ w'.cell? ⟨A.be, 13 + s, none⟩ = some (.pointer none) ∧ w'.cell? ⟨A.bt s, 5, none⟩ = some (.int .i64 (t.ops : Int)) ∧ w'.frozen? ⟨A.bt s, 5, none⟩ = false ∧ w'.cell? ⟨A.be, 22, none⟩ = some (.int .i64 (σ.seq : Int)) ∧ w'.frozen? ⟨A.be, 22, none⟩ = false) := by
    intro w' hb
    have r := r0.below hb
    have gb := Grow.below (L := A.L) hb
    obtain ⟨v1, v2⟩ := hV A σ w' r rfl rfl rfl ⟨t, ht⟩
    exact ⟨r, g0.trans gb, f0.grow gb, v1, v2, r.txn ht 5 rfl, r.txnF ht 5, r.eng 22 rfl, r.engF 22⟩
  obtain ⟨_, _, _, v1, v2, v3, v4, v5, v6⟩ := HW.out _ (Below.refl _ _)
  have HL0 := Lib.hid (And.intro hL (And.intro ht (And.intro hn (And.intro hs (And.intro hc4 hcq)))))
  have HFF := Lib.hid (And.intro HF hf)
  have d1 : decide ((12 : Int) ≤ (t.ops : Int)) = false := by simp; omega
  have d2 : ((12 : Int) ≤ (t.ops : Int)) = False := by simp; omega
  have d3 : (12 ≤ t.ops) = False := by simp; omega
  have n1 : IntKind.i64.wrap ((t.ops : Int) + 1) = (t.ops : Int) + 1 := by rw [IntKind.wrap_i64]; omega
  have n2 : IntKind.i64.wrap ((σ.seq : Int) + 1) = (σ.seq : Int) + 1 := by rw [IntKind.wrap_i64]; omega
  clear hL r0 g0 f0 hs ho he hn hop hsq HF hf hc4 hcq hV ht
  go_enter Tryz.func17, Tryz.ntmps17
  go_wp2_with (first | (go_at_call 43; refine (hsok.out _).mono ?_; rintro e w' ⟨rfl, rfl⟩) | (go_at_call 44; refine (hok.out _).mono ?_; rintro e w1 ⟨rfl, hb⟩; obtain ⟨r1, g1, f1, x1, x2, x3, x4, x5, x6⟩ := HW.out w1 hb; have y0 := f1.cell 0 (v := .int .i64 (o.kind : Int)) rfl; have y1 := f1.cell 1 (v := .int .i64 (o.key : Int)) rfl; have y2 := f1.cell 2 (v := .int .i64 (o.hi : Int)) rfl; have y3 := f1.cell 3 (v := .int .i64 (o.value : Int)) rfl; have H1 := Lib.hid hb; clear r1 g1 f1 hb) | (go_at_call 45; refine (hen.out _).mono ?_; rintro e w2 ⟨rfl, hb2⟩; obtain ⟨r1, g1, f1, x1, x2, x3, x4, x5, x6⟩ := HW.out w2 (H1.out.trans (hb2.mono H1.out.size)); have y0 := f1.cell 0 (v := .int .i64 (o.kind : Int)) rfl; have y1 := f1.cell 1 (v := .int .i64 (o.key : Int)) rfl; have y2 := f1.cell 2 (v := .int .i64 (o.hi : Int)) rfl; have y3 := f1.cell 3 (v := .int .i64 (o.value : Int)) rfl; have H2 := Lib.hid (And.intro r1 (And.intro g1 f1)); clear r1 g1 f1 hb2))
  obtain ⟨r1, g1, f1⟩ := H2.out
  obtain ⟨hL, ht, hn, hs, hc4, hcq⟩ := HL0.out
  obtain ⟨rt, gt⟩ := r1.setTxn ht { t with ops := t.ops + 1 } 5 (.int .i64 ((t.ops : Int) + 1)) rfl rfl rfl rfl rfl
  obtain ⟨ra, ga1⟩ := rt.seqSet (σ.seq + 1)
  rw [show ((σ.seq + 1 : Nat) : Int) = (σ.seq : Int) + 1 from rfl] at ra ga1
  have ga := (g1.trans gt).trans ga1
  have fa := f1.grow (gt.trans ga1)
  clear ga1 rt gt
  generalize (w2.setCell ⟨A.bt s, 5, none⟩ (.int .i64 ((t.ops : Int) + 1))).setCell ⟨A.be, 22, none⟩ (.int .i64 ((σ.seq : Int) + 1)) = w3 at *
  have hseq := ra.eng 22 (v := .int .i64 ((σ.seq : Int) + 1)) rfl
  have o0 := fa.cell 0 (v := .int .i64 (o.kind : Int)) rfl
  have o1 := fa.cell 1 (v := .int .i64 (o.key : Int)) rfl
  have o2 := fa.cell 2 (v := .int .i64 (o.hi : Int)) rfl
  have o3 := fa.cell 3 (v := .int .i64 (o.value : Int)) rfl
  have hB : Below w3.heap.size w3 (w3.alloc (.cells #[.int .i64 (o.kind : Int), .int .i64 (o.key : Int), .int .i64 (o.hi : Int), .int .i64 (o.value : Int), .nilFunc, .int .i64 0, .int .i64 0, .slice none 0 0, .int .i64 0, .int .i64 0, .bool false, .bool false, .int .i64 ((σ.seq : Int) + 1)] 125)).drew := ((Below.refl _ _).alloc (Nat.le_refl _) _).drew
  have hblk : (w3.alloc (.cells #[.int .i64 (o.kind : Int), .int .i64 (o.key : Int), .int .i64 (o.hi : Int), .int .i64 (o.value : Int), .nilFunc, .int .i64 0, .int .i64 0, .slice none 0 0, .int .i64 0, .int .i64 0, .bool false, .bool false, .int .i64 ((σ.seq : Int) + 1)] 125)).drew.heap[w3.heap.size]? = some (.cells (callCs (A.newCall s w3.heap.size .nilFunc) s (callOf o (σ.seq + 1))).toArray 125) := by
    rw [show (callCs (A.newCall s w3.heap.size .nilFunc) s (callOf o (σ.seq + 1))).toArray = #[.int .i64 (o.kind : Int), .int .i64 (o.key : Int), .int .i64 (o.hi : Int), .int .i64 (o.value : Int), .nilFunc, .int .i64 0, .int .i64 0, .slice none 0 0, .int .i64 0, .int .i64 0, .bool false, .bool false, .int .i64 ((σ.seq : Int) + 1)] by simp [callCs, Book.newCall, upF, callOf]]
    exact heap_alloc_new w3 _
  have hn1 : ({ (σ.setT s { t with ops := t.ops + 1 }) with seq := σ.seq + 1 } : St).calls.getD s none = none := hn
  obtain ⟨rb, gb⟩ := ra.newCall hB hs (Nat.le_refl _) .nilFunc (callOf o (σ.seq + 1)) rfl hblk hn1
  obtain ⟨A1, hA1⟩ : ∃ A1 : Book, A1 = A.newCall s w3.heap.size .nilFunc := ⟨_, rfl⟩
  rw [← hA1] at rb gb
  have e1 : A1.be = A.be := by rw [hA1]; rfl
  have e2 : A1.bt = A.bt := by rw [hA1]; rfl
  have e3 : A1.bc s = w3.heap.size := by rw [hA1]; exact if_pos rfl
  have e4 : A1.mp = A.mp := by rw [hA1]; rfl
  have hFF := HFF.out.1 A1 _ rb (e4.trans hL.mp)
  rw [HFF.out.2, e1, e2, e3] at hFF
  have hst : ∀ A5 : Book, Stay A1 A5 s → StayQ A A5 s := fun A5 st => by
    refine ⟨st.be.trans e1, st.mp.trans e4, st.mt.trans (by rw [hA1]; rfl), fun q _ => by rw [st.bt, e2], fun q hq => by rw [st.bc, hA1]; exact if_neg hq, fun q hq => (st.bx q hq).trans (by rw [hA1]; rfl), fun q hq => (st.vpairs q hq).trans (by rw [hA1]; exact upF_other _ _ hq), fun q hq => by rw [st.vnext, hA1]; exact upF_other _ _ hq, fun q hq => by rw [st.vcall, hA1]; rfl⟩
  have HN : Hid (∀ A5 w5 v A6, A6 = { A5 with vnext := upF A5.vnext s v } → Rep A5 σ4 w5 → Stay A1 A5 s → w5.cell? ⟨w3.heap.size, 4, none⟩ = some (A5.vnext s) ∧ w5.frozen? ⟨w3.heap.size, 4, none⟩ = false ∧ Rep A6 (σ4.setC s { c4 with k := some k }) (w5.setCell ⟨w3.heap.size, 4, none⟩ v) ∧ Grow A5.L w5 A5.L (w5.setCell ⟨w3.heap.size, 4, none⟩ v) ∧ (w5.setCell ⟨w3.heap.size, 4, none⟩ v).cell? ⟨A.be, 13 + s, none⟩ = some (A5.vcall s) ∧ (w5.setCell ⟨w3.heap.size, 4, none⟩ v).frozen? ⟨A.be, 13 + s, none⟩ = false) := by
    intro A5 w5 v A6 hA6 q st
    have ebc : A5.bc s = w3.heap.size := by rw [st.bc]; exact e3
    have x4 := q.call hc4 4 (v := A5.vnext s) rfl
    have z4 := q.callF hc4 4
    obtain ⟨r6, g6⟩ := q.nextSet hc4 v (some k)
    rw [← hA6, ebc] at r6
    rw [ebc] at x4 z4 g6
    have e6 : A6.be = A.be := by rw [hA6]; exact st.be.trans e1
    have m13 := r6.eng (13 + s) (engCs_call A6 _ hs)
    have z13 := r6.engF (13 + s)
    rw [e6] at m13 z13
    rw [show A6.vcall = A5.vcall by rw [hA6]] at m13
    exact ⟨x4, z4, r6, g6, m13, z13⟩
  have HY := Lib.hid (And.intro hFF (And.intro gb (And.intro ga (And.intro hst (And.intro e3 (And.intro e1 (And.intro hc4 (And.intro hcq hs))))))))
  clear hL ht hn hs hc4 hcq ra ga fa hB hblk hn1 rb gb hA1 e1 e2 e3 e4 hFF hst r1 g1 f1
  go_region
  generalize hw4 : (w3.alloc _).drew = w4 at *
  clear hseq o0 o1 o2 o3 hw4
  go_wp2_with (go_at_call 46; refine HY.out.1.mono ?_; rintro e w5 ⟨A5, v, rfl, p1, p2, p3, p4⟩; obtain ⟨f5, u5, u6, rfl, _⟩ := KRep.enter p4; obtain ⟨x4, z4, r6, g6, m13, z13⟩ := HN.out A5 w5 (.func (.func f5) u5 u6) _ rfl p1 p3; have HP := Lib.hid (And.intro p2 (And.intro p3 (And.intro p4 (And.intro r6 g6)))); clear p1 p2 p3 p4 r6 g6)
  go_ret
  obtain ⟨_, gb, ga, hst, e3, e1, hc4, hcq, hs⟩ := HY.out
  obtain ⟨p2, p3, p4, r6, g6⟩ := HP.out
  obtain ⟨r7, g7⟩ := r6.vcallSet hs (.pointer (some ⟨w3.heap.size, 0, none⟩))
  obtain ⟨A7, hA7⟩ : ∃ A7 : Book, A7 = { A5 with vnext := upF A5.vnext s (.func (.func f5) u5 u6), vcall := upF A5.vcall s (.pointer (some ⟨w3.heap.size, 0, none⟩)) } := ⟨_, rfl⟩
  rw [show ({ A5 with vnext := upF A5.vnext s (.func (.func f5) u5 u6) } : Book).be = A.be from p3.be.trans e1] at g7
  have r8 : Rep A7 (σ4.setC s { c4 with k := some k }) ((w5.setCell ⟨w3.heap.size, 4, none⟩ (.func (.func f5) u5 u6)).setCell ⟨A.be, 13 + s, none⟩ (.pointer (some ⟨w3.heap.size, 0, none⟩))) := by
    rw [hA7, ← show A5.be = A.be from p3.be.trans e1]
    exact r7
  have e7L : A7.L = A5.L := by rw [hA7]
  have gg : Grow A.L w A7.L ((w5.setCell ⟨w3.heap.size, 4, none⟩ (.func (.func f5) u5 u6)).setCell ⟨A.be, 13 + s, none⟩ (.pointer (some ⟨w3.heap.size, 0, none⟩))) := by
    rw [e7L]
    exact (((ga.trans gb).trans p2).trans g6).trans g7
  have sq := hst A5 p3
  have hc' : (σ4.setC s { c4 with k := some k }).calls.getD s none = some { c4 with k := some k } := by rw [getC_set (lt_of_call hc4), if_pos rfl]
  refine ⟨A7, rfl, Live.of (s := s) HL0.out.1 r8 gg ⟨by rw [hA7]; exact sq.be, by rw [hA7]; exact sq.mp, by rw [hA7]; exact sq.mt, fun q hq => by rw [hA7]; exact sq.bt q hq, fun q hq => by rw [hA7]; exact sq.bc q hq, fun q hq => by rw [hA7]; exact sq.bx q hq, fun q hq => by rw [hA7]; exact sq.vpairs q hq, fun q hq => by rw [hA7]; exact (upF_other _ _ hq).trans (sq.vnext q hq), fun q hq => by rw [hA7]; exact (upF_other _ _ hq).trans (sq.vcall q hq)⟩ (fun q hq => ?_) (fun c' hcc => ?_) (fun hnn => by have h0 := hc'.symm.trans hnn; cases h0), gg, by rw [hA7]; exact sq.be⟩
  · rw [setC_getQ _ hq]; exact hcq q hq
  · obtain rfl : { c4 with k := some k } = c' := Option.some.inj (hc'.symm.trans hcc)
    refine ⟨?_, k, rfl, ?_⟩
    · rw [hA7]
      show upF A5.vcall s _ s = ptr (A5.bc s)
      rw [upF_same, p3.bc, e3]
    · have ek : kp A7 (σ4.setC s { c4 with k := some k }) s = kp A5 σ4 s := by unfold kp; rw [call_get hc', call_get hc4, hA7]
      have ev : A7.vnext s = .func (.func f5) u5 u6 := by rw [hA7]; exact upF_same _ _ _
      rw [ek, ev, e7L]
      exact p4.grow (g6.trans g7)
end Go.Proofs.YtdgombgcjeelpaaGreat.Em
