/- Texts of this claim, laid together: Is, Hs, Pd, Pe, Pf, Ftx, Ov, Sle. -/
import Derived.Test.YtbefcdjcefmicaaGreatBase7
import Derived.Test.YtbefcdjcefmicaaGreatBase5
import Derived.Test.YtbefcdjcefmicaaGreatBase6
namespace Go.Proofs.YtbefcdjcefmicaaGreat.Em
open Go.ChangeShapes Go.WideShapes Go.ChangeAt Go.RowKit En
set_option linter.unusedVariables false
set_option linter.unusedSimpArgs false
set_option maxRecDepth 100000
set_option maxHeartbeats 1600000

/-- A call's first step is told. -/
def FirstTo (σ3 : St) (s : Nat) : Prop := ∀ A w, Rep A σ3 w → A.mp = 0 → Calls Tryz.prog 51 #[.pointer (some ⟨A.be, 0, none⟩), .pointer (some ⟨A.bt s, 0, none⟩), .pointer (some ⟨A.bc s, 0, none⟩)] w (Tells A w s (σ3.first s))
/-- A call has been issued. -/
def Issued (A : Book) (w : World) (σ' : St) (err : Int) : Ending → World → Prop := fun e w' => ∃ A', e = .returned (.int .i64 err) ∧ Live A' σ' w' ∧ Grow A.L w A'.L w' ∧ A'.be = A.be
def callOf (o : En.Op) (q : Nat) : Cal := { op := o, k := none, r := {}, waits := false, over := false, seq := q }
theorem setC_getQ {σ : St} {s q : Nat} (c : Cal) (h : q ≠ s) : (σ.setC s c).calls.getD q none = σ.calls.getD q none := by
  unfold St.setC
  simp only [List.getD_eq_getElem?_getD, List.getElem?_set]
  rw [if_neg (Ne.symm h)]
theorem issue_ends {A : Book} {σ : St} {w : World} (hL : Live A σ w) (s : Nat) (hs : s < 8) (t : Txn) (ht : σ.txns.getD s none = some t) (o : En.Op) (ho : opOk o = true) (he : opEnds o = true) (hn : σ.calls.getD s none = none) (hop : t.ops < 1000000) (hsq : σ.seq < 4000000000000000000)
    (HF : FirstTo (({ σ with seq := σ.seq + 1 } : St).setC s (callOf o (σ.seq + 1))) s) (σ4 : St) (k : K) (hf : (({ σ with seq := σ.seq + 1 } : St).setC s (callOf o (σ.seq + 1))).first s = (σ4, k)) (c4 : Cal) (hc4 : σ4.calls.getD s none = some c4) (hcq : ∀ q, q ≠ s → σ4.calls.getD q none = σ.calls.getD q none) :
    Calls Tryz.prog 17 #[.pointer (some ⟨A.be, 0, none⟩), .int .i64 (s : Int), .agg #[.int .i64 (o.kind : Int), .int .i64 (o.key : Int), .int .i64 (o.hi : Int), .int .i64 (o.value : Int)]] w (Issued A w (σ4.setC s { c4 with k := some k }) 0) := by
  obtain ⟨r0, g0, f0⟩ := allocs1 hL.rep #[.int .i64 (o.kind : Int), .int .i64 (o.key : Int), .int .i64 (o.hi : Int), .int .i64 (o.value : Int)] 31
  have hsok := Lib.hid (sessionOk s hs)
  have hok := Lib.hid (opOk_true o ho)
  have hen := Lib.hid (ends_op o)
  rw [he] at hen
  have b1 : (s : Int) < 8 := by omega
  have b0 : (0 : Int) ≤ (s : Int) := by omega
  have hV : ∀ (A' : Book) (σ' : St) w', Rep A' σ' w' → A'.be = A.be → A'.bt = A.bt → A'.vcall = A.vcall → (∃ t', σ'.txns.getD s none = some t') → w'.cell? ⟨A.be, 5 + s, none⟩ = some (.pointer (some ⟨A.bt s, 0, none⟩)) ∧ w'.cell? ⟨A.be, 13 + s, none⟩ = some (.pointer none) := by
    rintro A' σ' w' r e1 e2 e3 ⟨t', ht'⟩
    have h := r.eng (5 + s) (engCs_txn A' σ' hs)
    have h2 := r.eng (13 + s) (engCs_call A' σ' hs)
    have e : A'.tp σ' s = .pointer (some ⟨A.bt s, 0, none⟩) := by unfold Book.tp; rw [ht', e2]
    rw [e, e1] at h
    rw [e1, e3, hL.idle s hs hn] at h2
    exact ⟨h, h2⟩
  have HW : Hid (∀ w', Below (w.alloc (.cells #[.int .i64 (o.kind : Int), .int .i64 (o.key : Int), .int .i64 (o.hi : Int), .int .i64 (o.value : Int)] 31)).heap.size (w.alloc (.cells #[.int .i64 (o.kind : Int), .int .i64 (o.key : Int), .int .i64 (o.hi : Int), .int .i64 (o.value : Int)] 31)) w' → Rep A σ w' ∧ Grow A.L w A.L w' ∧ Fix A.L w' w.heap.size (.cells #[.int .i64 (o.kind : Int), .int .i64 (o.key : Int), .int .i64 (o.hi : Int), .int .i64 (o.value : Int)] 31) ∧ w'.cell? ⟨A.be, 5 + s, none⟩ = some (.pointer (some ⟨A.bt s, 0, none⟩)) ∧ w'.cell? ⟨A.be, 13 + s, none⟩ = some (.pointer none) ∧ w'.cell? ⟨A.bt s, 5, none⟩ = some (.int .i64 (t.ops : Int)) ∧ w'.frozen? ⟨A.bt s, 5, none⟩ = false ∧ w'.cell? ⟨A.be, 22, none⟩ = some (.int .i64 (σ.seq : Int)) ∧ w'.frozen? ⟨A.be, 22, none⟩ = false) := by
    intro w' hb
    have r := r0.below hb
    have gb := Grow.below (L := A.L) hb
    obtain ⟨v1, v2⟩ := hV A σ w' r rfl rfl rfl ⟨t, ht⟩
    exact ⟨r, g0.trans gb, f0.grow gb, v1, v2, r.txn ht 5 rfl, r.txnF ht 5, r.eng 22 rfl, r.engF 22⟩
  obtain ⟨_, _, _, v1, v2, v3, v4, v5, v6⟩ := HW.out _ (Below.refl _ _)
  have HL0 := Lib.hid (And.intro hL (And.intro ht (And.intro hn (And.intro hs (And.intro hc4 hcq)))))
  have HFF := Lib.hid (And.intro HF hf)
  have hd : (decide ((12 : Int) ≤ (t.ops : Int)) = false ∧ ((12 : Int) ≤ (t.ops : Int)) = False ∧ (12 ≤ t.ops) = False) ∨ (decide ((12 : Int) ≤ (t.ops : Int)) = true ∧ ((12 : Int) ≤ (t.ops : Int)) = True ∧ (12 ≤ t.ops) = True ∧ Hid (0 = 0)) := by
    rcases Nat.lt_or_ge t.ops 12 with h | h
    · exact .inl ⟨by simp; omega, by simp; omega, by simp; omega⟩
    · exact .inr ⟨by simp; omega, by simp; omega, by simp; omega, Lib.hid rfl⟩
  have n1 : IntKind.i64.wrap ((t.ops : Int) + 1) = (t.ops : Int) + 1 := by rw [IntKind.wrap_i64]; omega
  have n2 : IntKind.i64.wrap ((σ.seq : Int) + 1) = (σ.seq : Int) + 1 := by rw [IntKind.wrap_i64]; omega
  clear hL r0 g0 f0 hs ho he hn hop hsq HF hf hc4 hcq hV ht
  rcases hd with ⟨d1, d2, d3⟩ | ⟨d1, d2, d3, TA⟩
  all_goals (
    go_enter Tryz.func17, Tryz.ntmps17
    go_wp2_with (first | (go_at_call 48; refine (hsok.out _).mono ?_; rintro e w' ⟨rfl, rfl⟩) | (go_at_call 49; refine (hok.out _).mono ?_; rintro e w1 ⟨rfl, hb⟩; obtain ⟨r1, g1, f1, x1, x2, x3, x4, x5, x6⟩ := HW.out w1 hb; have y0 := f1.cell 0 (v := .int .i64 (o.kind : Int)) rfl; have y1 := f1.cell 1 (v := .int .i64 (o.key : Int)) rfl; have y2 := f1.cell 2 (v := .int .i64 (o.hi : Int)) rfl; have y3 := f1.cell 3 (v := .int .i64 (o.value : Int)) rfl; have H1 := Lib.hid hb; clear r1 g1 f1 hb) | (go_at_call 50; refine (hen.out _).mono ?_; rintro e w1 ⟨rfl, hb2⟩; clear TA; obtain ⟨r1, g1, f1, x1, x2, x3, x4, x5, x6⟩ := HW.out w1 (H1.out.trans (hb2.mono H1.out.size)); have y0 := f1.cell 0 (v := .int .i64 (o.kind : Int)) rfl; have y1 := f1.cell 1 (v := .int .i64 (o.key : Int)) rfl; have y2 := f1.cell 2 (v := .int .i64 (o.hi : Int)) rfl; have y3 := f1.cell 3 (v := .int .i64 (o.value : Int)) rfl; have H1' := Lib.hid (H1.out.trans (hb2.mono H1.out.size)); clear r1 g1 f1 hb2 H1; have H1 := H1'; clear H1') | (go_at_call 50; refine (hen.out _).mono ?_; rintro e w2 ⟨rfl, hb2⟩; obtain ⟨r1, g1, f1, x1, x2, x3, x4, x5, x6⟩ := HW.out w2 (H1.out.trans (hb2.mono H1.out.size)); have y0 := f1.cell 0 (v := .int .i64 (o.kind : Int)) rfl; have y1 := f1.cell 1 (v := .int .i64 (o.key : Int)) rfl; have y2 := f1.cell 2 (v := .int .i64 (o.hi : Int)) rfl; have y3 := f1.cell 3 (v := .int .i64 (o.value : Int)) rfl; have H2 := Lib.hid (And.intro r1 (And.intro g1 f1)); clear r1 g1 f1 hb2))
    obtain ⟨r1, g1, f1⟩ := H2.out
    obtain ⟨hL, ht, hn, hs, hc4, hcq⟩ := HL0.out
    obtain ⟨ra, ga1⟩ := r1.seqSet (σ.seq + 1)
    rw [show ((σ.seq + 1 : Nat) : Int) = (σ.seq : Int) + 1 from rfl] at ra ga1
    have ga := g1.trans ga1
    have fa := f1.grow ga1
    clear ga1
    generalize w2.setCell ⟨A.be, 22, none⟩ (.int .i64 ((σ.seq : Int) + 1)) = w3 at *
    have hseq := ra.eng 22 (v := .int .i64 ((σ.seq : Int) + 1)) rfl
    have o0 := fa.cell 0 (v := .int .i64 (o.kind : Int)) rfl
    have o1 := fa.cell 1 (v := .int .i64 (o.key : Int)) rfl
    have o2 := fa.cell 2 (v := .int .i64 (o.hi : Int)) rfl
    have o3 := fa.cell 3 (v := .int .i64 (o.value : Int)) rfl
    have hB : Below w3.heap.size w3 (w3.alloc (.cells #[.int .i64 (o.kind : Int), .int .i64 (o.key : Int), .int .i64 (o.hi : Int), .int .i64 (o.value : Int), .nilFunc, .int .i64 0, .int .i64 0, .slice none 0 0, .int .i64 0, .int .i64 0, .bool false, .bool false, .int .i64 ((σ.seq : Int) + 1)] 133)).drew := ((Below.refl _ _).alloc (Nat.le_refl _) _).drew
    have hblk : (w3.alloc (.cells #[.int .i64 (o.kind : Int), .int .i64 (o.key : Int), .int .i64 (o.hi : Int), .int .i64 (o.value : Int), .nilFunc, .int .i64 0, .int .i64 0, .slice none 0 0, .int .i64 0, .int .i64 0, .bool false, .bool false, .int .i64 ((σ.seq : Int) + 1)] 133)).drew.heap[w3.heap.size]? = some (.cells (callCs (A.newCall s w3.heap.size .nilFunc) s (callOf o (σ.seq + 1))).toArray 133) := by
      rw [show (callCs (A.newCall s w3.heap.size .nilFunc) s (callOf o (σ.seq + 1))).toArray = #[.int .i64 (o.kind : Int), .int .i64 (o.key : Int), .int .i64 (o.hi : Int), .int .i64 (o.value : Int), .nilFunc, .int .i64 0, .int .i64 0, .slice none 0 0, .int .i64 0, .int .i64 0, .bool false, .bool false, .int .i64 ((σ.seq : Int) + 1)] by simp [callCs, Book.newCall, upF, callOf]]
      exact heap_alloc_new w3 _
    have hn1 : ({ σ with seq := σ.seq + 1 } : St).calls.getD s none = none := hn
    obtain ⟨rb, gb⟩ := ra.newCall hB hs (Nat.le_refl _) .nilFunc (callOf o (σ.seq + 1)) rfl hblk hn1
    obtain ⟨A1, hA1⟩ : ∃ A1 : Book, A1 = A.newCall s w3.heap.size .nilFunc := ⟨_, rfl⟩
    rw [← hA1] at rb gb
    have e1 : A1.be = A.be := by rw [hA1]; rfl
    have e2 : A1.bt = A.bt := by rw [hA1]; rfl
    have e3 : A1.bc s = w3.heap.size := by rw [hA1]; exact if_pos rfl
    have e4 : A1.mp = A.mp := by rw [hA1]; rfl
    have hFF := HFF.out.1 A1 _ rb (e4.trans hL.mp)
    rw [HFF.out.2, e1, e2, e3] at hFF
    have hst : ∀ A5 : Book, Stay A1 A5 s → StayQ A A5 s := fun A5 st => by
      refine ⟨st.be.trans e1, st.mp.trans e4, st.mt.trans (by rw [hA1]; rfl), fun q _ => by rw [st.bt, e2], fun q hq => by rw [st.bc, hA1]; exact if_neg hq, fun q hq => (st.bx q hq).trans (by rw [hA1]; rfl), fun q hq => (st.vpairs q hq).trans (by rw [hA1]; exact upF_other _ _ hq), fun q hq => by rw [st.vnext, hA1]; exact upF_other _ _ hq, fun q hq => by rw [st.vcall, hA1]; rfl⟩
    have HN : Hid (∀ A5 w5 v A6, A6 = { A5 with vnext := upF A5.vnext s v } → Rep A5 σ4 w5 → Stay A1 A5 s → w5.cell? ⟨w3.heap.size, 4, none⟩ = some (A5.vnext s) ∧ w5.frozen? ⟨w3.heap.size, 4, none⟩ = false ∧ Rep A6 (σ4.setC s { c4 with k := some k }) (w5.setCell ⟨w3.heap.size, 4, none⟩ v) ∧ Grow A5.L w5 A5.L (w5.setCell ⟨w3.heap.size, 4, none⟩ v) ∧ (w5.setCell ⟨w3.heap.size, 4, none⟩ v).cell? ⟨A.be, 13 + s, none⟩ = some (A5.vcall s) ∧ (w5.setCell ⟨w3.heap.size, 4, none⟩ v).frozen? ⟨A.be, 13 + s, none⟩ = false) := by
      intro A5 w5 v A6 hA6 q st
      have ebc : A5.bc s = w3.heap.size := by rw [st.bc]; exact e3
      have x4 := q.call hc4 4 (v := A5.vnext s) rfl
      have z4 := q.callF hc4 4
      obtain ⟨r6, g6⟩ := q.nextSet hc4 v (some k)
      rw [← hA6, ebc] at r6
      rw [ebc] at x4 z4 g6
      have e6 : A6.be = A.be := by rw [hA6]; exact st.be.trans e1
      have m13 := r6.eng (13 + s) (engCs_call A6 _ hs)
      have z13 := r6.engF (13 + s)
      rw [e6] at m13 z13
      rw [show A6.vcall = A5.vcall by rw [hA6]] at m13
      exact ⟨x4, z4, r6, g6, m13, z13⟩
    have HY := Lib.hid (And.intro hFF (And.intro gb (And.intro ga (And.intro hst (And.intro e3 (And.intro e1 (And.intro hc4 (And.intro hcq hs))))))))
    clear hL ht hn hs hc4 hcq ra ga fa hB hblk hn1 rb gb hA1 e1 e2 e3 e4 hFF hst r1 g1 f1
    go_region
    generalize hw4 : (w3.alloc _).drew = w4 at *
    clear hseq o0 o1 o2 o3 hw4
    go_wp2_with (go_at_call 51; refine HY.out.1.mono ?_; rintro e w5 ⟨A5, v, rfl, p1, p2, p3, p4⟩; obtain ⟨f5, u5, u6, rfl, _⟩ := KRep.enter p4; obtain ⟨x4, z4, r6, g6, m13, z13⟩ := HN.out A5 w5 (.func (.func f5) u5 u6) _ rfl p1 p3; have HP := Lib.hid (And.intro p2 (And.intro p3 (And.intro p4 (And.intro r6 g6)))); clear p1 p2 p3 p4 r6 g6)
    go_ret
    obtain ⟨_, gb, ga, hst, e3, e1, hc4, hcq, hs⟩ := HY.out
    obtain ⟨p2, p3, p4, r6, g6⟩ := HP.out
    obtain ⟨r7, g7⟩ := r6.vcallSet hs (.pointer (some ⟨w3.heap.size, 0, none⟩))
    obtain ⟨A7, hA7⟩ : ∃ A7 : Book, A7 = { A5 with vnext := upF A5.vnext s (.func (.func f5) u5 u6), vcall := upF A5.vcall s (.pointer (some ⟨w3.heap.size, 0, none⟩)) } := ⟨_, rfl⟩
    rw [show ({ A5 with vnext := upF A5.vnext s (.func (.func f5) u5 u6) } : Book).be = A.be from p3.be.trans e1] at g7
    have r8 : Rep A7 (σ4.setC s { c4 with k := some k }) ((w5.setCell ⟨w3.heap.size, 4, none⟩ (.func (.func f5) u5 u6)).setCell ⟨A.be, 13 + s, none⟩ (.pointer (some ⟨w3.heap.size, 0, none⟩))) := by
      rw [hA7, ← show A5.be = A.be from p3.be.trans e1]
      exact r7
    have e7L : A7.L = A5.L := by rw [hA7]
    have gg : Grow A.L w A7.L ((w5.setCell ⟨w3.heap.size, 4, none⟩ (.func (.func f5) u5 u6)).setCell ⟨A.be, 13 + s, none⟩ (.pointer (some ⟨w3.heap.size, 0, none⟩))) := by
      rw [e7L]
      exact (((ga.trans gb).trans p2).trans g6).trans g7
    have sq := hst A5 p3
    have hc' : (σ4.setC s { c4 with k := some k }).calls.getD s none = some { c4 with k := some k } := by rw [getC_set (lt_of_call hc4), if_pos rfl]
    refine ⟨A7, rfl, Live.of (s := s) HL0.out.1 r8 gg ⟨by rw [hA7]; exact sq.be, by rw [hA7]; exact sq.mp, by rw [hA7]; exact sq.mt, fun q hq => by rw [hA7]; exact sq.bt q hq, fun q hq => by rw [hA7]; exact sq.bc q hq, fun q hq => by rw [hA7]; exact sq.bx q hq, fun q hq => by rw [hA7]; exact sq.vpairs q hq, fun q hq => by rw [hA7]; exact (upF_other _ _ hq).trans (sq.vnext q hq), fun q hq => by rw [hA7]; exact (upF_other _ _ hq).trans (sq.vcall q hq)⟩ (fun q hq => ?_) (fun c' hcc => ?_) (fun hnn => by have h0 := hc'.symm.trans hnn; cases h0), gg, by rw [hA7]; exact sq.be⟩
    · rw [setC_getQ _ hq]; exact hcq q hq
    · obtain rfl : { c4 with k := some k } = c' := Option.some.inj (hc'.symm.trans hcc)
      refine ⟨?_, k, rfl, ?_⟩
      · rw [hA7]
        show upF A5.vcall s _ s = ptr (A5.bc s)
        rw [upF_same, p3.bc, e3]
      · have ek : kp A7 (σ4.setC s { c4 with k := some k }) s = kp A5 σ4 s := by unfold kp; rw [call_get hc', call_get hc4, hA7]
        have ev : A7.vnext s = .func (.func f5) u5 u6 := by rw [hA7]; exact upF_same _ _ _
        rw [ek, ev, e7L]
        exact p4.grow (g6.trans g7)
  )
theorem issue_other {A : Book} {σ : St} {w : World} (hL : Live A σ w) (s : Nat) (hs : s < 8) (t : Txn) (ht : σ.txns.getD s none = some t) (o : En.Op) (ho : opOk o = true) (he : opEnds o = false) (hn : σ.calls.getD s none = none) (hop : t.ops < 12) (hsq : σ.seq < 4000000000000000000)
    (HF : FirstTo (({ (σ.setT s { t with ops := t.ops + 1 }) with seq := σ.seq + 1 } : St).setC s (callOf o (σ.seq + 1))) s) (σ4 : St) (k : K) (hf : (({ (σ.setT s { t with ops := t.ops + 1 }) with seq := σ.seq + 1 } : St).setC s (callOf o (σ.seq + 1))).first s = (σ4, k)) (c4 : Cal) (hc4 : σ4.calls.getD s none = some c4) (hcq : ∀ q, q ≠ s → σ4.calls.getD q none = σ.calls.getD q none) :
    Calls Tryz.prog 17 #[.pointer (some ⟨A.be, 0, none⟩), .int .i64 (s : Int), .agg #[.int .i64 (o.kind : Int), .int .i64 (o.key : Int), .int .i64 (o.hi : Int), .int .i64 (o.value : Int)]] w (Issued A w (σ4.setC s { c4 with k := some k }) 0) := by
  obtain ⟨r0, g0, f0⟩ := allocs1 hL.rep #[.int .i64 (o.kind : Int), .int .i64 (o.key : Int), .int .i64 (o.hi : Int), .int .i64 (o.value : Int)] 31
  have hsok := Lib.hid (sessionOk s hs)
  have hok := Lib.hid (opOk_true o ho)
  have hen := Lib.hid (ends_op o)
  rw [he] at hen
  have b1 : (s : Int) < 8 := by omega
  have b0 : (0 : Int) ≤ (s : Int) := by omega
  have hV : ∀ (A' : Book) (σ' : St) w', Rep A' σ' w' → A'.be = A.be → A'.bt = A.bt → A'.vcall = A.vcall → (∃ t', σ'.txns.getD s none = some t') → w'.cell? ⟨A.be, 5 + s, none⟩ = some (.pointer (some ⟨A.bt s, 0, none⟩)) ∧ w'.cell? ⟨A.be, 13 + s, none⟩ = some (.pointer none) := by
    rintro A' σ' w' r e1 e2 e3 ⟨t', ht'⟩
    have h := r.eng (5 + s) (engCs_txn A' σ' hs)
    have h2 := r.eng (13 + s) (engCs_call A' σ' hs)
    have e : A'.tp σ' s = .pointer (some ⟨A.bt s, 0, none⟩) := by unfold Book.tp; rw [ht', e2]
    rw [e, e1] at h
    rw [e1, e3, hL.idle s hs hn] at h2
    exact ⟨h, h2⟩
  have HW : Hid (∀ w', Below (w.alloc (.cells #[.int .i64 (o.kind : Int), .int .i64 (o.key : Int), .int .i64 (o.hi : Int), .int .i64 (o.value : Int)] 31)).heap.size (w.alloc (.cells #[.int .i64 (o.kind : Int), .int .i64 (o.key : Int), .int .i64 (o.hi : Int), .int .i64 (o.value : Int)] 31)) w' → Rep A σ w' ∧ Grow A.L w A.L w' ∧ Fix A.L w' w.heap.size (.cells #[.int .i64 (o.kind : Int), .int .i64 (o.key : Int), .int .i64 (o.hi : Int), .int .i64 (o.value : Int)] 31) ∧ w'.cell? ⟨A.be, 5 + s, none⟩ = some (.pointer (some ⟨A.bt s, 0, none⟩)) ∧ w'.cell? ⟨A.be, 13 + s, none⟩ = some (.pointer none) ∧ w'.cell? ⟨A.bt s, 5, none⟩ = some (.int .i64 (t.ops : Int)) ∧ w'.frozen? ⟨A.bt s, 5, none⟩ = false ∧ w'.cell? ⟨A.be, 22, none⟩ = some (.int .i64 (σ.seq : Int)) ∧ w'.frozen? ⟨A.be, 22, none⟩ = false) := by
    intro w' hb
    have r := r0.below hb
    have gb := Grow.below (L := A.L) hb
    obtain ⟨v1, v2⟩ := hV A σ w' r rfl rfl rfl ⟨t, ht⟩
    exact ⟨r, g0.trans gb, f0.grow gb, v1, v2, r.txn ht 5 rfl, r.txnF ht 5, r.eng 22 rfl, r.engF 22⟩
  obtain ⟨_, _, _, v1, v2, v3, v4, v5, v6⟩ := HW.out _ (Below.refl _ _)
  have HL0 := Lib.hid (And.intro hL (And.intro ht (And.intro hn (And.intro hs (And.intro hc4 hcq)))))
  have HFF := Lib.hid (And.intro HF hf)
  have d1 : decide ((12 : Int) ≤ (t.ops : Int)) = false := by simp; omega
  have d2 : ((12 : Int) ≤ (t.ops : Int)) = False := by simp; omega
  have d3 : (12 ≤ t.ops) = False := by simp; omega
  have n1 : IntKind.i64.wrap ((t.ops : Int) + 1) = (t.ops : Int) + 1 := by rw [IntKind.wrap_i64]; omega
  have n2 : IntKind.i64.wrap ((σ.seq : Int) + 1) = (σ.seq : Int) + 1 := by rw [IntKind.wrap_i64]; omega
  clear hL r0 g0 f0 hs ho he hn hop hsq HF hf hc4 hcq hV ht
  go_enter Tryz.func17, Tryz.ntmps17
  go_wp2_with (first | (go_at_call 48; refine (hsok.out _).mono ?_; rintro e w' ⟨rfl, rfl⟩) | (go_at_call 49; refine (hok.out _).mono ?_; rintro e w1 ⟨rfl, hb⟩; obtain ⟨r1, g1, f1, x1, x2, x3, x4, x5, x6⟩ := HW.out w1 hb; have y0 := f1.cell 0 (v := .int .i64 (o.kind : Int)) rfl; have y1 := f1.cell 1 (v := .int .i64 (o.key : Int)) rfl; have y2 := f1.cell 2 (v := .int .i64 (o.hi : Int)) rfl; have y3 := f1.cell 3 (v := .int .i64 (o.value : Int)) rfl; have H1 := Lib.hid hb; clear r1 g1 f1 hb) | (go_at_call 50; refine (hen.out _).mono ?_; rintro e w2 ⟨rfl, hb2⟩; obtain ⟨r1, g1, f1, x1, x2, x3, x4, x5, x6⟩ := HW.out w2 (H1.out.trans (hb2.mono H1.out.size)); have y0 := f1.cell 0 (v := .int .i64 (o.kind : Int)) rfl; have y1 := f1.cell 1 (v := .int .i64 (o.key : Int)) rfl; have y2 := f1.cell 2 (v := .int .i64 (o.hi : Int)) rfl; have y3 := f1.cell 3 (v := .int .i64 (o.value : Int)) rfl; have H2 := Lib.hid (And.intro r1 (And.intro g1 f1)); clear r1 g1 f1 hb2))
  obtain ⟨r1, g1, f1⟩ := H2.out
  obtain ⟨hL, ht, hn, hs, hc4, hcq⟩ := HL0.out
  obtain ⟨rt, gt⟩ := r1.setTxn ht { t with ops := t.ops + 1 } 5 (.int .i64 ((t.ops : Int) + 1)) rfl rfl rfl rfl rfl
  obtain ⟨ra, ga1⟩ := rt.seqSet (σ.seq + 1)
  rw [show ((σ.seq + 1 : Nat) : Int) = (σ.seq : Int) + 1 from rfl] at ra ga1
  have ga := (g1.trans gt).trans ga1
  have fa := f1.grow (gt.trans ga1)
  clear ga1 rt gt
  generalize (w2.setCell ⟨A.bt s, 5, none⟩ (.int .i64 ((t.ops : Int) + 1))).setCell ⟨A.be, 22, none⟩ (.int .i64 ((σ.seq : Int) + 1)) = w3 at *
  have hseq := ra.eng 22 (v := .int .i64 ((σ.seq : Int) + 1)) rfl
  have o0 := fa.cell 0 (v := .int .i64 (o.kind : Int)) rfl
  have o1 := fa.cell 1 (v := .int .i64 (o.key : Int)) rfl
  have o2 := fa.cell 2 (v := .int .i64 (o.hi : Int)) rfl
  have o3 := fa.cell 3 (v := .int .i64 (o.value : Int)) rfl
  have hB : Below w3.heap.size w3 (w3.alloc (.cells #[.int .i64 (o.kind : Int), .int .i64 (o.key : Int), .int .i64 (o.hi : Int), .int .i64 (o.value : Int), .nilFunc, .int .i64 0, .int .i64 0, .slice none 0 0, .int .i64 0, .int .i64 0, .bool false, .bool false, .int .i64 ((σ.seq : Int) + 1)] 133)).drew := ((Below.refl _ _).alloc (Nat.le_refl _) _).drew
  have hblk : (w3.alloc (.cells #[.int .i64 (o.kind : Int), .int .i64 (o.key : Int), .int .i64 (o.hi : Int), .int .i64 (o.value : Int), .nilFunc, .int .i64 0, .int .i64 0, .slice none 0 0, .int .i64 0, .int .i64 0, .bool false, .bool false, .int .i64 ((σ.seq : Int) + 1)] 133)).drew.heap[w3.heap.size]? = some (.cells (callCs (A.newCall s w3.heap.size .nilFunc) s (callOf o (σ.seq + 1))).toArray 133) := by
    rw [show (callCs (A.newCall s w3.heap.size .nilFunc) s (callOf o (σ.seq + 1))).toArray = #[.int .i64 (o.kind : Int), .int .i64 (o.key : Int), .int .i64 (o.hi : Int), .int .i64 (o.value : Int), .nilFunc, .int .i64 0, .int .i64 0, .slice none 0 0, .int .i64 0, .int .i64 0, .bool false, .bool false, .int .i64 ((σ.seq : Int) + 1)] by simp [callCs, Book.newCall, upF, callOf]]
    exact heap_alloc_new w3 _
  have hn1 : ({ (σ.setT s { t with ops := t.ops + 1 }) with seq := σ.seq + 1 } : St).calls.getD s none = none := hn
  obtain ⟨rb, gb⟩ := ra.newCall hB hs (Nat.le_refl _) .nilFunc (callOf o (σ.seq + 1)) rfl hblk hn1
  obtain ⟨A1, hA1⟩ : ∃ A1 : Book, A1 = A.newCall s w3.heap.size .nilFunc := ⟨_, rfl⟩
  rw [← hA1] at rb gb
  have e1 : A1.be = A.be := by rw [hA1]; rfl
  have e2 : A1.bt = A.bt := by rw [hA1]; rfl
  have e3 : A1.bc s = w3.heap.size := by rw [hA1]; exact if_pos rfl
  have e4 : A1.mp = A.mp := by rw [hA1]; rfl
  have hFF := HFF.out.1 A1 _ rb (e4.trans hL.mp)
  rw [HFF.out.2, e1, e2, e3] at hFF
  have hst : ∀ A5 : Book, Stay A1 A5 s → StayQ A A5 s := fun A5 st => by
    refine ⟨st.be.trans e1, st.mp.trans e4, st.mt.trans (by rw [hA1]; rfl), fun q _ => by rw [st.bt, e2], fun q hq => by rw [st.bc, hA1]; exact if_neg hq, fun q hq => (st.bx q hq).trans (by rw [hA1]; rfl), fun q hq => (st.vpairs q hq).trans (by rw [hA1]; exact upF_other _ _ hq), fun q hq => by rw [st.vnext, hA1]; exact upF_other _ _ hq, fun q hq => by rw [st.vcall, hA1]; rfl⟩
  have HN : Hid (∀ A5 w5 v A6, A6 = { A5 with vnext := upF A5.vnext s v } → Rep A5 σ4 w5 → Stay A1 A5 s → w5.cell? ⟨w3.heap.size, 4, none⟩ = some (A5.vnext s) ∧ w5.frozen? ⟨w3.heap.size, 4, none⟩ = false ∧ Rep A6 (σ4.setC s { c4 with k := some k }) (w5.setCell ⟨w3.heap.size, 4, none⟩ v) ∧ Grow A5.L w5 A5.L (w5.setCell ⟨w3.heap.size, 4, none⟩ v) ∧ (w5.setCell ⟨w3.heap.size, 4, none⟩ v).cell? ⟨A.be, 13 + s, none⟩ = some (A5.vcall s) ∧ (w5.setCell ⟨w3.heap.size, 4, none⟩ v).frozen? ⟨A.be, 13 + s, none⟩ = false) := by
    intro A5 w5 v A6 hA6 q st
    have ebc : A5.bc s = w3.heap.size := by rw [st.bc]; exact e3
    have x4 := q.call hc4 4 (v := A5.vnext s) rfl
    have z4 := q.callF hc4 4
    obtain ⟨r6, g6⟩ := q.nextSet hc4 v (some k)
    rw [← hA6, ebc] at r6
    rw [ebc] at x4 z4 g6
    have e6 : A6.be = A.be := by rw [hA6]; exact st.be.trans e1
    have m13 := r6.eng (13 + s) (engCs_call A6 _ hs)
    have z13 := r6.engF (13 + s)
    rw [e6] at m13 z13
    rw [show A6.vcall = A5.vcall by rw [hA6]] at m13
    exact ⟨x4, z4, r6, g6, m13, z13⟩
  have HY := Lib.hid (And.intro hFF (And.intro gb (And.intro ga (And.intro hst (And.intro e3 (And.intro e1 (And.intro hc4 (And.intro hcq hs))))))))
  clear hL ht hn hs hc4 hcq ra ga fa hB hblk hn1 rb gb hA1 e1 e2 e3 e4 hFF hst r1 g1 f1
  go_region
  generalize hw4 : (w3.alloc _).drew = w4 at *
  clear hseq o0 o1 o2 o3 hw4
  go_wp2_with (go_at_call 51; refine HY.out.1.mono ?_; rintro e w5 ⟨A5, v, rfl, p1, p2, p3, p4⟩; obtain ⟨f5, u5, u6, rfl, _⟩ := KRep.enter p4; obtain ⟨x4, z4, r6, g6, m13, z13⟩ := HN.out A5 w5 (.func (.func f5) u5 u6) _ rfl p1 p3; have HP := Lib.hid (And.intro p2 (And.intro p3 (And.intro p4 (And.intro r6 g6)))); clear p1 p2 p3 p4 r6 g6)
  go_ret
  obtain ⟨_, gb, ga, hst, e3, e1, hc4, hcq, hs⟩ := HY.out
  obtain ⟨p2, p3, p4, r6, g6⟩ := HP.out
  obtain ⟨r7, g7⟩ := r6.vcallSet hs (.pointer (some ⟨w3.heap.size, 0, none⟩))
  obtain ⟨A7, hA7⟩ : ∃ A7 : Book, A7 = { A5 with vnext := upF A5.vnext s (.func (.func f5) u5 u6), vcall := upF A5.vcall s (.pointer (some ⟨w3.heap.size, 0, none⟩)) } := ⟨_, rfl⟩
  rw [show ({ A5 with vnext := upF A5.vnext s (.func (.func f5) u5 u6) } : Book).be = A.be from p3.be.trans e1] at g7
  have r8 : Rep A7 (σ4.setC s { c4 with k := some k }) ((w5.setCell ⟨w3.heap.size, 4, none⟩ (.func (.func f5) u5 u6)).setCell ⟨A.be, 13 + s, none⟩ (.pointer (some ⟨w3.heap.size, 0, none⟩))) := by
    rw [hA7, ← show A5.be = A.be from p3.be.trans e1]
    exact r7
  have e7L : A7.L = A5.L := by rw [hA7]
  have gg : Grow A.L w A7.L ((w5.setCell ⟨w3.heap.size, 4, none⟩ (.func (.func f5) u5 u6)).setCell ⟨A.be, 13 + s, none⟩ (.pointer (some ⟨w3.heap.size, 0, none⟩))) := by
    rw [e7L]
    exact (((ga.trans gb).trans p2).trans g6).trans g7
  have sq := hst A5 p3
  have hc' : (σ4.setC s { c4 with k := some k }).calls.getD s none = some { c4 with k := some k } := by rw [getC_set (lt_of_call hc4), if_pos rfl]
  refine ⟨A7, rfl, Live.of (s := s) HL0.out.1 r8 gg ⟨by rw [hA7]; exact sq.be, by rw [hA7]; exact sq.mp, by rw [hA7]; exact sq.mt, fun q hq => by rw [hA7]; exact sq.bt q hq, fun q hq => by rw [hA7]; exact sq.bc q hq, fun q hq => by rw [hA7]; exact sq.bx q hq, fun q hq => by rw [hA7]; exact sq.vpairs q hq, fun q hq => by rw [hA7]; exact (upF_other _ _ hq).trans (sq.vnext q hq), fun q hq => by rw [hA7]; exact (upF_other _ _ hq).trans (sq.vcall q hq)⟩ (fun q hq => ?_) (fun c' hcc => ?_) (fun hnn => by have h0 := hc'.symm.trans hnn; cases h0), gg, by rw [hA7]; exact sq.be⟩
  · rw [setC_getQ _ hq]; exact hcq q hq
  · obtain rfl : { c4 with k := some k } = c' := Option.some.inj (hc'.symm.trans hcc)
    refine ⟨?_, k, rfl, ?_⟩
    · rw [hA7]
      show upF A5.vcall s _ s = ptr (A5.bc s)
      rw [upF_same, p3.bc, e3]
    · have ek : kp A7 (σ4.setC s { c4 with k := some k }) s = kp A5 σ4 s := by unfold kp; rw [call_get hc', call_get hc4, hA7]
      have ev : A7.vnext s = .func (.func f5) u5 u6 := by rw [hA7]; exact upF_same _ _ _
      rw [ek, ev, e7L]
      exact p4.grow (g6.trans g7)
end Go.Proofs.YtbefcdjcefmicaaGreat.Em

namespace Go.Proofs.YtbefcdjcefmicaaGreat.Em
open Go.ChangeShapes Go.WideShapes Go.ChangeAt Go.RowKit En
set_option linter.unusedVariables false
set_option linter.unusedSimpArgs false
set_option maxRecDepth 100000
set_option maxHeartbeats 1600000

/-- Where a hunt leads: a closure that can be called. -/
theorem ThnRep.enter {p : KP} {L : Lab} {w : World} {v : Value} {key : Nat} {t : Thn} (h : ThnRep p L w v key t) : ∃ f c, v = .func (.func f) #[] c ∧ ∀ args w, (callFunc f args).run Tryz.prog w = .ok (.enter f args) w := by
  cases t
  · obtain ⟨b0, b1, b2, b3, e, _⟩ := h; exact ⟨_, _, e, fun args w => by kernel_rfl⟩
  · obtain ⟨b0, b1, b2, b3, b4, e, _⟩ := h; exact ⟨_, _, e, fun args w => by kernel_rfl⟩
  · obtain ⟨b0, b1, b2, b3, e, _⟩ := h; exact ⟨_, _, e, fun args w => by kernel_rfl⟩
  · obtain ⟨b0, b1, b2, b3, b4, e, _⟩ := h; exact ⟨_, _, e, fun args w => by kernel_rfl⟩
/-- What a hunt leads to is known. -/
def ThnAt (A : Book) (w : World) (σ : St) (s : Nat) (hu : Hunt) (link : Nat) : Prop := ∀ w1 f c, Rep A σ w1 → Grow A.L w A.L w1 → ThnRep (kp A σ s) A.L w1 (.func (.func f) #[] c) hu.key hu.thn → Calls Tryz.prog f (#[.int .u64 (link : Int)] ++ c) w1 (Tells A w1 s (σ.thn s hu link))
theorem visit_any {A : Book} {σ : St} {w : World} (hR : Rep A σ w) (s : Nat) (bh : Nat) (hu : Hunt) (hh : HuntAt (kp A σ s) A.L w bh hu) (link : Nat) (HT : link = 0 → ThnAt A w σ s hu 0) :
    Calls Tryz.prog 161 #[.pointer (some ⟨bh, 0, none⟩), .int .u64 (link : Int)] w (Tells A w s (σ.visit s hu link)) := by
  obtain ⟨r1, g1, f0, f1⟩ := allocs2 hR #[.pointer (some ⟨bh, 0, none⟩)] 233 #[.int .u64 (link : Int)] 24
  have c0 := f0.cell 0 (v := .pointer (some ⟨bh, 0, none⟩)) rfl
  have c1 := f1.cell 0 (v := .int .u64 (link : Int)) rfl
  have hh1 := hh.grow g1
  by_cases h0 : link = 0
  · have e0 : σ.visit s hu link = σ.thn s hu 0 := by unfold St.visit; rw [if_pos h0]
    rw [e0]
    obtain ⟨vt, TT, fh, hth⟩ := hh1
    obtain ⟨fv, cv, rfl, hent⟩ := hth.enter
    have d1 : ((link : Int) == 0) = true := by simpa using h0
    have d3 : ((link : Int) = 0) = True := by simpa using h0
    have h4 := fh.cell 4 (v := .func (.func fv) #[] cv) rfl
    have hf := HT h0 _ fv cv r1 g1 hth
    have HF := Lib.hid (And.intro hf g1)
    clear hR hh r1 g1 f0 f1 fh hth hf HT h0 e0
    go_enter Tryz.func161, Tryz.ntmps161
    go_wp2_with fail
    refine HF.out.1.mono ?_
    rintro e w3 ⟨A', v, rfl, q1, q2, q3, q4⟩
    go_wp2_with fail
    go_ret
    exact ⟨A', v, rfl, q1, HF.out.2.trans q2, q3, q4⟩
  · have e0 : σ.visit s hu link = (σ, .visit hu link) := by unfold St.visit; rw [if_neg h0]
    rw [e0]
    have d1 : ((link : Int) == 0) = false := by simpa using h0
    have d3 : ((link : Int) = 0) = False := by simpa using h0
    have HQ := Lib.hid (And.intro r1 (And.intro g1 (And.intro f0 (And.intro f1 hh1))))
    clear hR hh r1 g1 f0 f1 hh1 HT h0 e0
    go_enter Tryz.func161, Tryz.ntmps161
    go_wp2_with fail
    go_ret
    obtain ⟨r1, g1, f0, f1, hh1⟩ := HQ.out
    exact ⟨A, _, rfl, r1, g1, Stay.refl _ _, _, _, rfl, ⟨_, f0.box, hh1⟩, f1.box⟩
theorem k_start {A : Book} {σ : St} {w : World} (hR : Rep A σ w) (s : Nat) (hu : Hunt) (bh : Nat) (hh : HuntAt (kp A σ s) A.L w bh hu) (hk : hu.key < 64) (hcnt : σ.count < 4000000000000000000) (HT : σ.word (9 + hu.key) = 0 → ∀ w1, Rep A σ.tick w1 → Grow A.L w A.L w1 → ThnAt A w1 σ.tick s hu 0) :
    Calls Tryz.prog 139 #[.pointer (some ⟨bh, 0, none⟩)] w (Ran A w s (σ.run s (.start hu))) := by
  have hh0 := hh
  obtain ⟨vt, TT, fh, hth⟩ := hh
  have h0 := fh.cell 0 (v := .pointer (some ⟨A.be, 0, none⟩)) rfl
  have h2 := fh.cell 2 (v := .int .i64 (hu.key : Int)) rfl
  have e2 : w.cell? ⟨A.be, 2, none⟩ = some (.pointer (some ⟨A.ba, 0, none⟩)) := hR.eng 2 rfl
  have n1 : IntKind.i64.wrap (9 + (hu.key : Int)) = 9 + (hu.key : Int) := by rw [IntKind.wrap_i64]; omega
  have HL := Lib.hid (load_i hR.drew (9 + hu.key) (9 + (hu.key : Int)) (by omega) (by rw [hR.nw]; omega) hcnt)
  have HG : Hid (Grow A.L w A.L w.drew) := Grow.drew _ _
  have HK : Hid (∀ w', Kp A w w' → w'.cell? ⟨bh, 0, none⟩ = some (.pointer (some ⟨A.be, 0, none⟩)) ∧ w'.cell? ⟨bh, 2, none⟩ = some (.int .i64 (hu.key : Int)) ∧ w'.cell? ⟨A.be, 2, none⟩ = some (.pointer (some ⟨A.ba, 0, none⟩))) := fun w' k => ⟨k.fix _ _ _ fh.1 h0, k.fix _ _ _ fh.1 h2, k.ea⟩
  have HB : Hid (∀ w1, Rep A σ.tick w1 → Grow A.L w A.L w1 → Calls Tryz.prog 161 #[.pointer (some ⟨bh, 0, none⟩), .int .u64 (σ.word (9 + hu.key) : Int)] w1 (Tells A w1 s (σ.tick.visit s hu (σ.word (9 + hu.key))))) :=
    fun w1 r g => visit_any r s bh hu (hh0.grow g) _ fun hz => HT hz w1 r g
  have hrun : σ.run s (.start hu) = ((σ.tick.visit s hu (σ.word (9 + hu.key))).1, some (σ.tick.visit s hu (σ.word (9 + hu.key))).2) := rfl
  rw [hrun]
  clear hR hh0 fh hth hk hcnt HT hrun
  generalize σ.tick.visit s hu (σ.word (9 + hu.key)) = res at *
  generalize σ.word (9 + hu.key) = hd at *
  generalize hu.key = key at *
  go_enter Tryz.func139, Tryz.ntmps139
  go_wp2_with fail
  go_region_held3 (fun w' => w'.cell? ⟨bh, 0, none⟩ = some (.pointer (some ⟨A.be, 0, none⟩)) ∧ w'.cell? ⟨bh, 2, none⟩ = some (.int .i64 (key : Int)) ∧ w'.cell? ⟨A.be, 2, none⟩ = some (.pointer (some ⟨A.ba, 0, none⟩)))
    (first | exact ⟨h0, h2, e2⟩ | assumption | exact HK.out _ (Kp.of (by assumption) (by assumption) (by assumption)))
    (first | (go_at_call 73; refine HL.out.mono ?_; rintro e w1 ⟨rfl, q1, q2⟩; have q4 := HG.out.trans q2; have q3 := Stay.refl A s; clear q2) | (go_at_call 161; refine (HB.out _ (by assumption) (by assumption)).mono ?_; rintro e w2 ⟨A', v, rfl, p1, p2, p3, p4⟩; have p5 := (‹Grow A.L w A.L _›).trans p2))
  go_wp2_with fail
  go_ret
  exact ⟨A', _, rfl, p1, p5, p3, p4⟩
end Go.Proofs.YtbefcdjcefmicaaGreat.Em

namespace Go.Proofs.YtbefcdjcefmicaaGreat.Em
open Go.ChangeShapes Go.WideShapes Go.ChangeAt Go.RowKit En
set_option linter.unusedVariables false
set_option linter.unusedSimpArgs false
set_option maxRecDepth 100000
set_option maxHeartbeats 1600000

theorem poolLive_eq {σ : St} {link : Nat} (hv : VL σ link) : σ.poolLive link = ((σ.tags.getD (slotOf link) (0, false)).2 && σ.linkAt (slotOf link) == link) := by
  unfold St.poolLive
  have h1 : decide (1 ≤ link % 131072) = true := by simpa using hv.lo
  have h2 : decide (link % 131072 ≤ σ.slots) = true := by simpa using hv.hi
  rw [h1, h2, Bool.true_and, Bool.true_and]
theorem live_any {A : Book} {σ : St} {w : World} (hR : Rep A σ w) (link : Nat) (hv : VL σ link) (htag : ∀ i, i < σ.slots → (σ.tags.getD i (0, false)).1 ≤ 65535) :
    Calls Tryz.prog 158 #[.pointer (some ⟨A.bp, 0, none⟩), .int .u64 (link : Int)] w fun e w' => e = .returned (.bool (σ.poolLive link)) ∧ w = w' := by
  have hi := slotOf_lt hv
  have hu := Word.unlink_any (link : Int) (by omega) (by have := hv.u; omega) w
  rw [← slotOf_cast hv.lo] at hu
  have p0 : w.cell? ⟨A.bp, 0, none⟩ = some (.slice (some ⟨A.bs, 0, none⟩) σ.slots σ.slots) := hR.pool 0 rfl
  have t1 := (hR.tag hi).2
  rw [Nat.mul_comm] at t1
  have hl := link_any hR (slotOf link) hi (htag _ hi)
  have b0 : (0 : Int) ≤ (slotOf link : Int) := by omega
  have b1 : (slotOf link : Int) < (σ.slots : Int) := by omega
  rw [poolLive_eq hv]
  have HU := Lib.hid hu
  have HL := Lib.hid hl
  clear hu hl hv htag hR hi
  generalize slotOf link = i at *
  cases htk : (σ.tags.getD i (0, false)).2 with
  | false =>
    rw [htk] at t1
    clear htk
    go_enter Tryz.func158, Tryz.ntmps158
    go_wp2_with (go_at_call 92; refine HU.out.mono ?_; rintro e w' ⟨rfl, rfl⟩)
    go_ret
    exact ⟨rfl, rfl⟩
  | true =>
    rw [htk] at t1
    clear htk
    rw [Bool.true_and]
    generalize σ.linkAt i = la at *
    by_cases he : la = link
    · have d1 : ((la : Int) == (link : Int)) = true := by simp; omega
      have d2 : (la == link) = true := by simp; omega
      rw [d2]
      have d3 : ((la : Int) = (link : Int)) = True := by simp; omega
      clear d2 he
      go_enter Tryz.func158, Tryz.ntmps158
      go_wp2_with (first | (go_at_call 92; refine HU.out.mono ?_; rintro e w' ⟨rfl, rfl⟩) | (go_at_call 177; refine HL.out.mono ?_; rintro e w' ⟨rfl, rfl⟩))
      go_ret
      exact ⟨rfl, rfl⟩
    · have d1 : ((la : Int) == (link : Int)) = false := by simp; omega
      have d2 : (la == link) = false := by simp; omega
      rw [d2]
      have d3 : ((la : Int) = (link : Int)) = False := by simp; omega
      clear d2 he
      go_enter Tryz.func158, Tryz.ntmps158
      go_wp2_with (first | (go_at_call 92; refine HU.out.mono ?_; rintro e w' ⟨rfl, rfl⟩) | (go_at_call 177; refine HL.out.mono ?_; rintro e w' ⟨rfl, rfl⟩))
      go_ret
      exact ⟨rfl, rfl⟩
end Go.Proofs.YtbefcdjcefmicaaGreat.Em

namespace Go.Proofs.YtbefcdjcefmicaaGreat.Em
open Go.ChangeShapes Go.WideShapes Go.ChangeAt Go.RowKit En
set_option linter.unusedVariables false
set_option linter.unusedSimpArgs false
set_option maxRecDepth 100000
set_option maxHeartbeats 1600000

def Gave (A : Book) (w : World) (σ' : St) : Ending → World → Prop := fun e w' => (∃ z : Int, e = .returned (.int .i64 z)) ∧ ∃ A', FreeOnly A A' ∧ Rep A' σ' w' ∧ Grow A.L w A'.L w'
theorem give_off {σ : St} {link : Nat} (h : σ.poolLive link = false) : σ.give link = σ := by unfold St.give; rw [h]; rfl
theorem give_worn {σ : St} {link : Nat} (h : σ.poolLive link = true) (ht : (σ.tags.getD (slotOf link) (0, false)).1 = 65535) : σ.give link = { σ with tags := σ.tags.set (slotOf link) ((σ.tags.getD (slotOf link) (0, false)).1, false), worn := σ.worn + 1 } := by
  unfold St.give; rw [h]; simp only [if_pos, ht]
theorem give_on {σ : St} {link : Nat} (h : σ.poolLive link = true) (ht : (σ.tags.getD (slotOf link) (0, false)).1 ≠ 65535) : σ.give link = { σ with tags := σ.tags.set (slotOf link) ((σ.tags.getD (slotOf link) (0, false)).1 + 1, false), free := σ.free ++ [slotOf link] } := by
  unfold St.give; rw [h]; simp only [if_pos, if_neg ht]
theorem give_any {A : Book} {σ : St} {w : World} (hR : Rep A σ w) (link : Nat) (hv : VL σ link) (hp : PoolOk σ) :
    Calls Tryz.prog 135 #[.pointer (some ⟨A.bp, 0, none⟩), .int .u64 (link : Int)] w (Gave A w (σ.give link)) := by
  have hi := slotOf_lt hv
  have hlv := live_any hR link hv hp.tag
  cases hlive : σ.poolLive link with
  | false =>
    rw [give_off hlive]
    rw [hlive] at hlv
    have HL := Lib.hid hlv
    have HR := Lib.hid hR
    clear hlv hR hv hp hi hlive
    go_enter Tryz.func135, Tryz.ntmps135
    go_wp2_with (go_at_call 158; refine HL.out.mono ?_; rintro e w' ⟨rfl, rfl⟩)
    go_ret
    exact ⟨⟨_, rfl⟩, A, ⟨_, _, rfl⟩, HR.out, Grow.refl _ _⟩
  | true =>
    rw [hlive] at hlv
    have hu := Word.unlink_any (link : Int) (by omega) (by have := hv.u; omega) w
    rw [← slotOf_cast hv.lo] at hu
    have p0 : w.cell? ⟨A.bp, 0, none⟩ = some (.slice (some ⟨A.bs, 0, none⟩) σ.slots σ.slots) := hR.pool 0 rfl
    have b0 : (0 : Int) ≤ (slotOf link : Int) := by omega
    have b1 : (slotOf link : Int) < (σ.slots : Int) := by omega
    have t1 := (hR.tag hi).2
    have z1 := hR.tagF (2 * slotOf link + 1)
    rw [Nat.mul_comm 2] at t1 z1
    obtain ⟨r1, g1⟩ := hR.takenSet hi false
    rw [Nat.mul_comm 2] at r1 g1
    have i0 := (r1.tag (i := slotOf link) hi).1
    rw [Nat.mul_comm 2] at i0
    have hsl := hR.sl
    have etag : ((σ.tags.set (slotOf link) ((σ.tags.getD (slotOf link) (0, false)).1, false)).getD (slotOf link) (0, false)) = ((σ.tags.getD (slotOf link) (0, false)).1, false) := by
      rw [getD_set _ _ _ _ _ (by rw [hR.nt]; exact hi), if_pos rfl]
    rw [etag] at i0
    have q1 := r1.pool 1 (v := .int .i64 65535) rfl
    have q3 := r1.pool 3 (v := .int .i64 (σ.worn : Int)) rfl
    have z3 := r1.poolF 3
    by_cases htg : (σ.tags.getD (slotOf link) (0, false)).1 = 65535
    · rw [give_worn hlive htg]
      rw [htg] at i0
      have hww : IntKind.i64.wrap ((σ.worn : Int) + 1) = (σ.worn : Int) + 1 := by have := hp.worn; rw [IntKind.wrap_i64]; omega
      have HU := Lib.hid hu
      have HL := Lib.hid hlv
      have HR := Lib.hid (And.intro r1 g1)
      clear hu hlv hR hv hp hi hlive r1 g1 hsl etag htg
      go_enter Tryz.func135, Tryz.ntmps135
      go_wp2_with (first | (go_at_call 158; refine HL.out.mono ?_; rintro e w' ⟨rfl, rfl⟩) | (go_at_call 92; refine HU.out.mono ?_; rintro e w' ⟨rfl, rfl⟩))
      generalize hw1 : w.setCell ⟨A.bs, slotOf link * 2 + 1, none⟩ (.bool false) = w1 at *
      go_quiet (fail)
      generalize hw2 : w1.drewN _ = w2
      obtain ⟨r1, g1⟩ := HR.out
      have r2 : Rep A { σ with tags := σ.tags.set (slotOf link) ((σ.tags.getD (slotOf link) (0, false)).1, false) } w2 := by rw [← hw2]; exact r1.drewN _
      have g2 : Grow A.L w A.L w2 := by rw [← hw2]; exact g1.trans (Grow.drewN _ _ _)
      have q3 := r2.pool 3 (v := .int .i64 (σ.worn : Int)) rfl
      have z3 := r2.poolF 3
      obtain ⟨r3, g3⟩ := r2.wornSet (σ.worn + 1)
      rw [show ((σ.worn + 1 : Nat) : Int) = (σ.worn : Int) + 1 from rfl] at r3 g3
      have HQ := Lib.hid (And.intro r3 (g2.trans g3))
      clear r1 g1 r2 g2 r3 g3 hw2
      go_wp2_with fail
      go_ret
      exact ⟨⟨_, rfl⟩, A, ⟨_, _, rfl⟩, HQ.out.1, HQ.out.2⟩
    · rw [give_on hlive htg]
      have htl := hp.tag _ hi
      have hfl := hp.n
      have el : (σ.tags.set (slotOf link) ((σ.tags.getD (slotOf link) (0, false)).1, false)).set (slotOf link) ((σ.tags.getD (slotOf link) (0, false)).1 + 1, ((σ.tags.set (slotOf link) ((σ.tags.getD (slotOf link) (0, false)).1, false)).getD (slotOf link) (0, false)).2) = σ.tags.set (slotOf link) ((σ.tags.getD (slotOf link) (0, false)).1 + 1, false) := by rw [etag, List.set_set]
      have NEXT : Hid (∀ w2, Rep A { σ with tags := σ.tags.set (slotOf link) ((σ.tags.getD (slotOf link) (0, false)).1, false) } w2 → w2.cell? ⟨A.bs, slotOf link * 2, none⟩ = some (.int .i64 ((σ.tags.getD (slotOf link) (0, false)).1 : Int)) ∧ w2.frozen? ⟨A.bs, slotOf link * 2, none⟩ = false ∧
          Rep A { σ with tags := σ.tags.set (slotOf link) ((σ.tags.getD (slotOf link) (0, false)).1 + 1, false) } (w2.setCell ⟨A.bs, slotOf link * 2, none⟩ (.int .i64 (((σ.tags.getD (slotOf link) (0, false)).1 : Int) + 1))) ∧ Grow A.L w2 A.L (w2.setCell ⟨A.bs, slotOf link * 2, none⟩ (.int .i64 (((σ.tags.getD (slotOf link) (0, false)).1 : Int) + 1)))) := by
        rw [Nat.mul_comm (slotOf link) 2]
        intro w2 r2
        have a1 := (r2.tag (i := slotOf link) hi).1
        rw [show (({ σ with tags := σ.tags.set (slotOf link) ((σ.tags.getD (slotOf link) (0, false)).1, false) } : St).tags.getD (slotOf link) (0, false)) = _ from etag] at a1
        obtain ⟨r3, g3⟩ := r2.tagSet hi ((σ.tags.getD (slotOf link) (0, false)).1 + 1)
        refine ⟨a1, r2.tagF _, ?_, g3⟩
        have r3' := r3
        rw [show ({ ({ σ with tags := σ.tags.set (slotOf link) ((σ.tags.getD (slotOf link) (0, false)).1, false) } : St) with tags := ({ σ with tags := σ.tags.set (slotOf link) ((σ.tags.getD (slotOf link) (0, false)).1, false) } : St).tags.set (slotOf link) ((σ.tags.getD (slotOf link) (0, false)).1 + 1, (({ σ with tags := σ.tags.set (slotOf link) ((σ.tags.getD (slotOf link) (0, false)).1, false) } : St).tags.getD (slotOf link) (0, false)).2) } : St) = { σ with tags := σ.tags.set (slotOf link) ((σ.tags.getD (slotOf link) (0, false)).1 + 1, false) } by simp only [el]] at r3'
        exact r3'
      clear el etag
      generalize (σ.tags.getD (slotOf link) (0, false)).1 = tg at *
      have d1 : ((tg : Int) == 65535) = false := by simp; omega
      have d2 : ((tg : Int) = 65535) = False := by simp; omega
      have d3 : IntKind.i64.wrap ((tg : Int) + 1) = (tg : Int) + 1 := by rw [IntKind.wrap_i64]; omega
      have HU := Lib.hid hu
      have HL := Lib.hid hlv
      have HR := Lib.hid (And.intro r1 g1)
      have HN := Lib.hid hfl
      clear hu hlv hR hv hp hi hlive r1 g1 hsl htg htl hfl
      go_enter Tryz.func135, Tryz.ntmps135
      go_wp2_with (first | (go_at_call 158; refine HL.out.mono ?_; rintro e w' ⟨rfl, rfl⟩) | (go_at_call 92; refine HU.out.mono ?_; rintro e w' ⟨rfl, rfl⟩))
      generalize hw1 : w.setCell ⟨A.bs, slotOf link * 2 + 1, none⟩ (.bool false) = w1 at *
      go_quiet (fail)
      generalize hw2 : w1.drewN _ = w2
      obtain ⟨r1, g1⟩ := HR.out
      have r2 : Rep A { σ with tags := σ.tags.set (slotOf link) (tg, false) } w2 := by rw [← hw2]; exact r1.drewN _
      have g2 : Grow A.L w A.L w2 := by rw [← hw2]; exact g1.trans (Grow.drewN _ _ _)
      obtain ⟨a1, a2, r3, g3⟩ := NEXT.out w2 r2
      have g4 := g2.trans g3
      obtain ⟨av, capv, hv, hstep⟩ := free_step r3 (slotOf link)
      obtain ⟨r5, g5, _⟩ := allocs1 r3 #[.int .i64 (slotOf link : Int)] 3
      have p2 := r3.pool 2 (v := A.vfree) rfl
      have hown := free_row r5
      rw [hv] at p2 hown
      have HS := Lib.hid hstep
      have HV := Lib.hid hv
      have HO := Lib.hid hown
      have HQ := Lib.hid g4
      clear r1 g1 r2 g2 r3 g3 g4 hw2 hv hown hstep r5 g5
      obtain ⟨ii, hii, hz0, hz1, hz2⟩ := info_parts infoI
      have hsz : ∀ a u, (w2.setCell a u).heap.size = w2.heap.size := fun a u => by simp [World.setCell]
      have HZ := Lib.hid hsz
      clear hsz
      go_wp2_with (refine Ow.wpList_append_to _ rfl (.tmp 55) (.tmp 57) 33 rfl 0 _ ii _ 1 8 Tryz.underlying33 hii hz0 hz1 hz2 rfl (by decide) (.slice av σ.free.length capv) σ.free.length (σ.free.map i64) rfl HO.out ⟨w2.heap.size, 0, none⟩ 1 1 (by omega) [.int .i64 (slotOf link : Int)] rfl rfl (by intro j' u hu; rw [← HZ.out ⟨A.bs, slotOf link * 2, none⟩ (.int .i64 ((tg : Int) + 1))]; exact Ow.new_row _ [.int .i64 (slotOf link : Int)] _ _ rfl j' u hu) (by intro u hu; obtain rfl := List.mem_singleton.1 hu; rfl) (by have := HN.out; unfold maxLen; omega) (by have := HN.out; omega) (Nat.zero_le _) ?_; intro v' w4 q1 q2 q3; obtain ⟨k1, k2, k3, _⟩ := HS.out v' w4 q1 (by rw [HV.out]; exact q2) (by rw [HV.out]; exact q3); obtain ⟨a4, cap4, rfl, _⟩ := Ow.own_form q1; have K1 := Lib.hid k1; clear k1 q1 q2 q3)
      go_ret
      obtain ⟨A2, h1, h2, h3⟩ := K1.out
      exact ⟨⟨_, rfl⟩, A2, h1, h2, HQ.out.trans h3⟩
end Go.Proofs.YtbefcdjcefmicaaGreat.Em

namespace Go.Proofs.YtbefcdjcefmicaaGreat.Em
open Go.ChangeShapes Go.WideShapes Go.ChangeAt Go.RowKit En
set_option linter.unusedVariables false
set_option linter.unusedSimpArgs false
set_option maxRecDepth 100000
set_option maxHeartbeats 1600000

theorem lost_any {A : Book} {σ : St} {w : World} (hR : Rep A σ w) (s : Nat) (link : Nat) (hv0 : link = 0 ∨ VL σ link) (hp : PoolOk σ) :
    Calls Tryz.prog 173 #[.pointer (some ⟨A.be, 0, none⟩), .pointer (some ⟨A.bt s, 0, none⟩), .pointer (some ⟨A.bc s, 0, none⟩), .int .u64 (link : Int)] w (Tells A w s (σ.lost link)) := by
  by_cases h0 : link = 0
  · have e : σ.lost link = (σ, .abort 14 2) := by unfold St.lost; rw [if_neg (by simpa using h0)]
    rw [e]
    have d1 : ((link : Int) != 0) = false := by simpa using h0
    have d2 : ((link : Int) = 0) = True := by simpa using h0
    have d3 : ((link : Int) == 0) = true := by simpa using h0
    have HA := Lib.hid (abort_any hR s 14 2)
    clear hR hv0 hp h0 e
    go_enter Tryz.func173, Tryz.ntmps173
    go_wp2_with (go_at_call 85; refine HA.out.mono ?_; rintro e w2 ⟨A2, v, rfl, p1, p2, p3, p4⟩)
    go_ret
    exact ⟨A2, v, rfl, p1, p2, p3, p4⟩
  · have hv := hv0.resolve_left h0
    have e : σ.lost link = (σ.give link, .abort 14 2) := by unfold St.lost; rw [if_pos (by simpa using h0)]
    rw [e]
    have d1 : ((link : Int) != 0) = true := by simpa using h0
    have d2 : ((link : Int) = 0) = False := by simpa using h0
    have d3 : ((link : Int) == 0) = false := by simpa using h0
    have e3 := hR.eng 3 (v := .pointer (some ⟨A.bp, 0, none⟩)) rfl
    have HG := Lib.hid (give_any hR link hv hp)
    clear hR hv0 hv hp h0 e
    generalize σ.give link = σ1 at *
    go_enter Tryz.func173, Tryz.ntmps173
    go_wp2_with (first | (go_at_call 135; refine HG.out.mono ?_; rintro e w1 ⟨⟨z, rfl⟩, A1, ⟨L1, v1, rfl⟩, q1, q2⟩; have HA := Lib.hid (abort_any q1 s 14 2); have HQ := Lib.hid q2; clear q1 q2) | (go_at_call 85; refine HA.out.mono ?_; rintro e w2 ⟨A2, v, rfl, p1, p2, p3, p4⟩))
    go_ret
    have hst : Stay A { A with L := L1, vfree := v1 } s := ⟨rfl, rfl, rfl, rfl, rfl, rfl, rfl, rfl, rfl, rfl, rfl, fun _ _ => rfl, fun _ _ => rfl⟩
    exact ⟨A2, v, rfl, p1, HQ.out.trans p2, hst.trans p3, p4⟩
end Go.Proofs.YtbefcdjcefmicaaGreat.Em

namespace Go.Proofs.YtbefcdjcefmicaaGreat.Em
open Go.ChangeShapes Go.WideShapes Go.ChangeAt Go.RowKit En
set_option linter.unusedVariables false
set_option linter.unusedSimpArgs false
set_option maxRecDepth 100000
set_option maxHeartbeats 1600000

theorem place_still {A : Book} {σ : St} {w : World} (h : Rep A σ w) (id : Nat) (hid : id ≤ 65535) :
    Calls Tryz.prog 78 #[.pointer (some ⟨A.be, 0, none⟩), .int .i64 (id : Int)] w fun e w' => e = .returned (.int .i64 ((σ.place id : Nat) : Int)) ∧ w' = w := flip (place_any h id hid)
theorem k_freeTxn {A : Book} {σ : St} {w : World} (hR : Rep A σ w) (s : Nat) (t : Txn) (ht : σ.txns.getD s none = some t) (link head at_ id : Nat) (hv0 : link = 0 ∨ VL σ link) (hid : id ≤ 65535) (hpl : σ.place id < σ.words.length) (hw : σ.word (σ.place id) < 18446744073709551616) (hp : PoolOk σ) (hcnt : σ.count < 4000000000000000000)
    (b0 b1 b2 b3 b4 b5 : Nat) (B0 : Box A.L w b0 (.pointer (some ⟨A.be, 0, none⟩))) (B1 : StampBox A.L w b1 id) (B2 : Box A.L w b2 (.pointer (some ⟨A.bt s, 0, none⟩))) (B3 : NextBox (kp A σ s) A.L w b3 link head at_) (B4 : Box A.L w b4 (.pointer (some ⟨A.bc s, 0, none⟩))) (B5 : Box A.L w b5 (.int .u64 (link : Int))) :
    Calls Tryz.prog 174 #[.pointer (some ⟨b0, 0, none⟩), .pointer (some ⟨b1, 0, none⟩), .pointer (some ⟨b2, 0, none⟩), .pointer (some ⟨b3, 0, none⟩), .pointer (some ⟨b4, 0, none⟩), .pointer (some ⟨b5, 0, none⟩)] w (Ran A w s (σ.run s (.freeTxn link head at_ id))) := by
  obtain ⟨_, S1⟩ := B1
  obtain ⟨nv, X3, m0, m1, m2, m3, m4, m5, hnv, N0, N1, N2, N3, N4, N5⟩ := B3
  have c0 := B0.cell
  have c1 := S1.cell 1 (v := .int .u64 (id : Int)) rfl
  have e2 : w.cell? ⟨A.be, 2, none⟩ = some (.pointer (some ⟨A.ba, 0, none⟩)) := hR.eng 2 rfl
  have HP := Lib.hid (place_still hR.drew id hid)
  have HL := Lib.hid (load_any hR.drew (σ.place id) hpl hcnt)
  have HU := Lib.hid (fun w' => unpack_any (σ.word (σ.place id)) hw w')
  have n1 : IntKind.i64.wrap (id : Int) = (id : Int) := by rw [IntKind.wrap_i64]; omega
  have HG : Hid (Grow A.L w A.L w.drew) := Grow.drew _ _
  have HK : Hid (∀ w', Kp A w w' → w'.cell? ⟨b0, 0, none⟩ = some (.pointer (some ⟨A.be, 0, none⟩)) ∧ w'.cell? ⟨b1, 1, none⟩ = some (.int .u64 (id : Int)) ∧ w'.cell? ⟨A.be, 2, none⟩ = some (.pointer (some ⟨A.ba, 0, none⟩))) := by
    obtain ⟨_, x0⟩ := B0
    exact fun w' k => ⟨k.fix _ _ _ x0.1 c0, k.fix _ _ _ S1.1 c1, k.ea⟩
  have HB : Hid (∀ w1, Rep A σ.tick w1 → Grow A.L w A.L w1 → w1.cell? ⟨b0, 0, none⟩ = some (.pointer (some ⟨A.be, 0, none⟩)) ∧ w1.cell? ⟨b2, 0, none⟩ = some (.pointer (some ⟨A.bt s, 0, none⟩)) ∧ w1.cell? ⟨b3, 0, none⟩ = some nv ∧ w1.cell? ⟨b4, 0, none⟩ = some (.pointer (some ⟨A.bc s, 0, none⟩)) ∧ w1.cell? ⟨b5, 0, none⟩ = some (.int .u64 (link : Int)) ∧ w1.cell? ⟨A.bt s, 3, none⟩ = some (.int .u64 (t.begin_ : Int)) ∧
      (∀ w1, Rep A σ.tick w1 → Calls Tryz.prog 173 #[.pointer (some ⟨A.be, 0, none⟩), .pointer (some ⟨A.bt s, 0, none⟩), .pointer (some ⟨A.bc s, 0, none⟩), .int .u64 (link : Int)] w1 (Tells A w1 s (σ.tick.lost link)))) := by
    intro w1 q1 q2
    have g := q2
    exact ⟨(B0.grow g).cell, (B2.grow g).cell, (X3.grow g).cell, (B4.grow g).cell, (B5.grow g).cell, q1.txn ht 3 rfl, fun w3 q3 => lost_any q3 s link (hv0.imp (fun h => h) fun h => ⟨h.lo, h.hi, h.u⟩) ⟨hp.n, hp.free, hp.tag, hp.worn⟩⟩
  have HN := Lib.hid (And.intro N0 (And.intro N1 (And.intro N2 (And.intro N3 (And.intro N4 N5)))))
  have hrun : σ.run s (.freeTxn link head at_ id) = if stateOf (σ.word (σ.place id)) = 4 ∨ (0 < endOf (σ.word (σ.place id)) ∧ endOf (σ.word (σ.place id)) ≤ t.begin_) then (σ.tick, some (.next link head at_)) else ((σ.tick.lost link).1, some (σ.tick.lost link).2) := by
    have e : (σ.tick.t s) = t := txn_get ht
    simp only [St.run, e]
  rw [hrun]
  clear hR ht hv0 hid hpl hw hp hcnt B0 S1 B2 X3 B4 B5 N0 N1 N2 N3 N4 N5 hrun
  subst hnv
  generalize σ.word (σ.place id) = x at *
  generalize hst : stateOf x = st at *
  generalize hen : endOf x = en at *
  generalize t.begin_ = bg at *
  clear hst hen
  by_cases h4 : st = 4
  · rw [if_pos (Or.inl h4)]
    subst h4
    go_enter Tryz.func174, Tryz.ntmps174
    go_wp2_with fail
    go_region_held3 (fun w' => w'.cell? ⟨b0, 0, none⟩ = some (.pointer (some ⟨A.be, 0, none⟩)) ∧ w'.cell? ⟨b1, 1, none⟩ = some (.int .u64 (id : Int)) ∧ w'.cell? ⟨A.be, 2, none⟩ = some (.pointer (some ⟨A.ba, 0, none⟩)))
      (first | exact ⟨c0, c1, e2⟩ | assumption | exact HK.out _ (Kp.of (by assumption) (by assumption) (by assumption)))
      (first | (go_at_call 78; refine HP.out.mono ?_; rintro e w' ⟨rfl, rfl⟩) | (go_at_call 73; refine HL.out.mono ?_; rintro e w1 ⟨rfl, q1, q2⟩; have q4 := HG.out.trans q2; have q3 := Stay.refl A s; clear q2) | (go_at_call 94; refine (HU.out _).mono ?_; rintro e w' ⟨rfl, rfl⟩))
    obtain ⟨d0, d2, d3, d4, d5, d6, hk⟩ := HB.out _ (by assumption) (by assumption)
    have HQ := Lib.hid (And.intro (‹Rep A σ.tick _›) (And.intro (‹Grow A.L w A.L _›) hk))
    clear hk
    go_wp2_with fail
    go_ret
    obtain ⟨q1, g1, _⟩ := HQ.out
    exact ⟨A, _, rfl, q1, g1, Stay.refl _ _, _, _, _, _, _, _, rfl, (HN.out.1).grow g1, (HN.out.2.1).grow g1, (HN.out.2.2.1).grow g1, (HN.out.2.2.2.1).grow g1, (HN.out.2.2.2.2.1).grow g1, (HN.out.2.2.2.2.2).grow g1⟩
  · have a1 : ((st : Int) == 4) = false := by simp; omega
    have a2 : ((st : Int) = 4) = False := by simp; omega
    by_cases h0 : en = 0
    · rw [if_neg (by omega)]
      have a3 : decide ((0 : Int) < (en : Int)) = false := by simp; omega
      have a4 : ((0 : Int) < (en : Int)) = False := by simp; omega
      have a4n : (0 < en) = False := by simp; omega
      clear h4 h0
      go_enter Tryz.func174, Tryz.ntmps174
      go_wp2_with fail
      go_region_held3 (fun w' => w'.cell? ⟨b0, 0, none⟩ = some (.pointer (some ⟨A.be, 0, none⟩)) ∧ w'.cell? ⟨b1, 1, none⟩ = some (.int .u64 (id : Int)) ∧ w'.cell? ⟨A.be, 2, none⟩ = some (.pointer (some ⟨A.ba, 0, none⟩)))
        (first | exact ⟨c0, c1, e2⟩ | assumption | exact HK.out _ (Kp.of (by assumption) (by assumption) (by assumption)))
        (first | (go_at_call 78; refine HP.out.mono ?_; rintro e w' ⟨rfl, rfl⟩) | (go_at_call 73; refine HL.out.mono ?_; rintro e w1 ⟨rfl, q1, q2⟩; have q4 := HG.out.trans q2; have q3 := Stay.refl A s; clear q2) | (go_at_call 94; refine (HU.out _).mono ?_; rintro e w' ⟨rfl, rfl⟩))
      obtain ⟨d0, d2, d3, d4, d5, d6, hk⟩ := HB.out _ (by assumption) (by assumption)
      have HQ := Lib.hid (And.intro (‹Rep A σ.tick _›) (And.intro (‹Grow A.L w A.L _›) hk))
      clear hk
      go_wp2_with (go_at_call 173; refine (HQ.out.2.2 _ HQ.out.1).mono ?_; rintro e w2 ⟨A2, v, rfl, p1, p2, p3, p4⟩)
      go_ret
      exact ⟨A2, v, rfl, p1, HQ.out.2.1.trans p2, p3, p4⟩
    · have a3 : decide ((0 : Int) < (en : Int)) = true := by simp; omega
      have a4 : ((0 : Int) < (en : Int)) = True := by simp; omega
      have a4n : (0 < en) = True := by simp; omega
      by_cases hb : en ≤ bg
      · rw [if_pos (by omega)]
        have a5 : decide ((en : Int) ≤ (bg : Int)) = true := by simp; omega
        have a6 : ((en : Int) ≤ (bg : Int)) = True := by simp; omega
        have a6n : (en ≤ bg) = True := by simp; omega
        clear h4 h0 hb
        go_enter Tryz.func174, Tryz.ntmps174
        go_wp2_with fail
        go_region_held3 (fun w' => w'.cell? ⟨b0, 0, none⟩ = some (.pointer (some ⟨A.be, 0, none⟩)) ∧ w'.cell? ⟨b1, 1, none⟩ = some (.int .u64 (id : Int)) ∧ w'.cell? ⟨A.be, 2, none⟩ = some (.pointer (some ⟨A.ba, 0, none⟩)))
          (first | exact ⟨c0, c1, e2⟩ | assumption | exact HK.out _ (Kp.of (by assumption) (by assumption) (by assumption)))
          (first | (go_at_call 78; refine HP.out.mono ?_; rintro e w' ⟨rfl, rfl⟩) | (go_at_call 73; refine HL.out.mono ?_; rintro e w1 ⟨rfl, q1, q2⟩; have q4 := HG.out.trans q2; have q3 := Stay.refl A s; clear q2) | (go_at_call 94; refine (HU.out _).mono ?_; rintro e w' ⟨rfl, rfl⟩))
        obtain ⟨d0, d2, d3, d4, d5, d6, hk⟩ := HB.out _ (by assumption) (by assumption)
        have HQ := Lib.hid (And.intro (‹Rep A σ.tick _›) (And.intro (‹Grow A.L w A.L _›) hk))
        clear hk
        go_wp2_with fail
        go_ret
        obtain ⟨q1, g1, _⟩ := HQ.out
        exact ⟨A, _, rfl, q1, g1, Stay.refl _ _, _, _, _, _, _, _, rfl, (HN.out.1).grow g1, (HN.out.2.1).grow g1, (HN.out.2.2.1).grow g1, (HN.out.2.2.2.1).grow g1, (HN.out.2.2.2.2.1).grow g1, (HN.out.2.2.2.2.2).grow g1⟩
      · rw [if_neg (by omega)]
        have a5 : decide ((en : Int) ≤ (bg : Int)) = false := by simp; omega
        have a6 : ((en : Int) ≤ (bg : Int)) = False := by simp; omega
        have a6n : (en ≤ bg) = False := by simp; omega
        clear h4 h0 hb
        go_enter Tryz.func174, Tryz.ntmps174
        go_wp2_with fail
        go_region_held3 (fun w' => w'.cell? ⟨b0, 0, none⟩ = some (.pointer (some ⟨A.be, 0, none⟩)) ∧ w'.cell? ⟨b1, 1, none⟩ = some (.int .u64 (id : Int)) ∧ w'.cell? ⟨A.be, 2, none⟩ = some (.pointer (some ⟨A.ba, 0, none⟩)))
          (first | exact ⟨c0, c1, e2⟩ | assumption | exact HK.out _ (Kp.of (by assumption) (by assumption) (by assumption)))
          (first | (go_at_call 78; refine HP.out.mono ?_; rintro e w' ⟨rfl, rfl⟩) | (go_at_call 73; refine HL.out.mono ?_; rintro e w1 ⟨rfl, q1, q2⟩; have q4 := HG.out.trans q2; have q3 := Stay.refl A s; clear q2) | (go_at_call 94; refine (HU.out _).mono ?_; rintro e w' ⟨rfl, rfl⟩))
        obtain ⟨d0, d2, d3, d4, d5, d6, hk⟩ := HB.out _ (by assumption) (by assumption)
        have HQ := Lib.hid (And.intro (‹Rep A σ.tick _›) (And.intro (‹Grow A.L w A.L _›) hk))
        clear hk
        go_wp2_with (go_at_call 173; refine (HQ.out.2.2 _ HQ.out.1).mono ?_; rintro e w2 ⟨A2, v, rfl, p1, p2, p3, p4⟩)
        go_ret
        exact ⟨A2, v, rfl, p1, HQ.out.2.1.trans p2, p3, p4⟩
end Go.Proofs.YtbefcdjcefmicaaGreat.Em

namespace Go.Proofs.YtbefcdjcefmicaaGreat.Em
open Go.ChangeShapes Go.WideShapes Go.ChangeAt Go.RowKit En
set_option linter.unusedVariables false
set_option linter.unusedSimpArgs false
set_option maxRecDepth 100000
set_option maxHeartbeats 1600000

theorem over_tells {A : Book} {σ : St} {w : World} (hR : Rep A σ w) (s link : Nat) :
    Calls Tryz.prog 170 #[.pointer (some ⟨A.be, 0, none⟩), .pointer (some ⟨A.bt s, 0, none⟩), .pointer (some ⟨A.bc s, 0, none⟩), .pointer (some ⟨(kp A σ s).x, 0, none⟩), .int .u64 (link : Int)] w (Tells A w s (σ, .over link)) := by
  have F := Lib.hid (allocs5 hR #[.pointer (some ⟨A.be, 0, none⟩)] 27 #[.pointer (some ⟨A.bt s, 0, none⟩)] 102 #[.pointer (some ⟨A.bc s, 0, none⟩)] 107 #[.pointer (some ⟨(kp A σ s).x, 0, none⟩)] 202 #[.int .u64 (link : Int)] 24)
  clear hR
  go_enter Tryz.func170, Tryz.ntmps170
  go_wp2
  go_ret
  obtain ⟨r1, r2, f0, f1, f2, f3, f4⟩ := F.out
  exact ⟨A, _, rfl, r1, r2, Stay.refl _ _, _, _, _, _, _, rfl, f0.box, f2.box, f4.box, f1.box, f3.box⟩
end Go.Proofs.YtbefcdjcefmicaaGreat.Em

namespace Go.Proofs.YtbefcdjcefmicaaGreat.Em
open Go.ChangeShapes Go.WideShapes Go.ChangeAt Go.RowKit En
set_option linter.unusedVariables false
set_option linter.unusedSimpArgs false
set_option maxRecDepth 100000
set_option maxHeartbeats 1600000

theorem k_slotE_true {A : Book} {σ : St} {w : World} (hR : Rep A σ w) (s : Nat) (t : Txn) (ht : σ.txns.getD s none = some t) (link head : Nat) (hcnt : σ.count < 4000000000000000000) (hv : VL σ link) (b0 b1 b2 b3 b4 b5 : Nat)
    (B0 : Box A.L w b0 (.pointer (some ⟨A.be, 0, none⟩))) (B1 : Box A.L w b1 (.int .u64 (link : Int))) (B2 : Box A.L w b2 (.pointer (some ⟨(kp A σ s).x, 0, none⟩))) (B3 : Box A.L w b3 (.pointer (some ⟨A.bt s, 0, none⟩))) (B4 : Box A.L w b4 (.pointer (some ⟨A.bc s, 0, none⟩))) (B5 : HeadBox A.L w b5 true head) :
    Calls Tryz.prog 168 #[.pointer (some ⟨b0, 0, none⟩), .pointer (some ⟨b1, 0, none⟩), .pointer (some ⟨b2, 0, none⟩), .pointer (some ⟨b3, 0, none⟩), .pointer (some ⟨b4, 0, none⟩), .pointer (some ⟨b5, 0, none⟩)] w (Ran A w s (σ.run s (.slotE true link head))) := by
  have hsl := hR.sl
  obtain ⟨hv5, X5, R5⟩ := B5
  obtain ⟨ha, hn, hcap, rfl, hlen, hcap1, hcap2, hrow⟩ := R5
  have c0 := B0.cell
  have c1 := B1.cell
  have e2 : w.cell? ⟨A.be, 2, none⟩ = some (.pointer (some ⟨A.ba, 0, none⟩)) := hR.eng 2 rfl
  have HS := Lib.hid (flip (slot_at link 1 1 rfl hv.lo (by have := hv.hi; omega) hv.u (by omega) w.drew))
  have HF := Lib.hid (forever_still w.drew)
  have HL := Lib.hid (store_any hR.drew (wslot link 1) ever (wslot_lt hR hv.lo hv.hi (by omega)) hcnt)
  have HG : Hid (Grow A.L w A.L w.drew) := Grow.drew _ _
  have HB : Hid (∀ w1, Rep A (σ.put (wslot link 1) ever) w1 → Grow A.L w A.L w1 → Calls Tryz.prog 170 #[.pointer (some ⟨A.be, 0, none⟩), .pointer (some ⟨A.bt s, 0, none⟩), .pointer (some ⟨A.bc s, 0, none⟩), .pointer (some ⟨(kp A σ s).x, 0, none⟩), .int .u64 (link : Int)] w1 (Tells A w1 s (σ.put (wslot link 1) ever, .over link)) ∧ w1.cell? ⟨b0, 0, none⟩ = some (.pointer (some ⟨A.be, 0, none⟩)) ∧ w1.cell? ⟨b1, 0, none⟩ = some (.int .u64 (link : Int)) ∧ w1.cell? ⟨b2, 0, none⟩ = some (.pointer (some ⟨(kp A σ s).x, 0, none⟩)) ∧ w1.cell? ⟨b3, 0, none⟩ = some (.pointer (some ⟨A.bt s, 0, none⟩)) ∧ w1.cell? ⟨b4, 0, none⟩ = some (.pointer (some ⟨A.bc s, 0, none⟩))) :=
    fun w1 q g => ⟨over_tells q s link, (B0.grow g).cell, (B1.grow g).cell, (B2.grow g).cell, (B3.grow g).cell, (B4.grow g).cell⟩
  have hrun : σ.run s (.slotE true link head) = (σ.put (wslot link 1) ever, some (.over link)) := rfl
  rw [hrun]
  clear hR ht hcnt hv B0 B1 B2 B3 B4 X5 hrun hsl hlen hcap1 hcap2 hrow
  go_enter Tryz.func168, Tryz.ntmps168
  go_wp2_with fail
  refine wp_region_still_tail 7 (by kernel_rfl) (by kernel_rfl) ?_
  simp only [List.take_succ_cons, List.take_zero, List.drop_succ_cons, List.drop_zero]
  repeat still_step
  still_call HS.out
  still_call HF.out
  refine wpStill_nil ?_
  change wpList _ _ _ _ _ w.drew
  generalize w.drew = wd at *
  go_wp2_with (first | (go_at_call 77; refine HL.out.mono ?_; rintro e w1 ⟨rfl, q1, q2⟩; have g1 := HG.out.trans q2; obtain ⟨hf, d0, d1, d2, d3, d4⟩ := HB.out w1 q1 g1; have HQ := Lib.hid (And.intro hf g1); clear q1 q2 g1 hf) | (go_at_call 170; refine HQ.out.1.mono ?_; rintro e w2 ⟨A2, v, rfl, p1, p2, p3, p4⟩))
  go_ret
  exact ⟨A2, v, rfl, p1, HQ.out.2.trans p2, p3, p4⟩
theorem k_slotE_false {A : Book} {σ : St} {w : World} (hR : Rep A σ w) (s : Nat) (t : Txn) (ht : σ.txns.getD s none = some t) (link head : Nat) (hcnt : σ.count < 4000000000000000000) (hv : VL σ link) (b0 b1 b2 b3 b4 b5 : Nat)
    (B0 : Box A.L w b0 (.pointer (some ⟨A.be, 0, none⟩))) (B1 : Box A.L w b1 (.int .u64 (link : Int))) (B2 : Box A.L w b2 (.pointer none)) (B3 : Box A.L w b3 (.pointer (some ⟨A.bt s, 0, none⟩))) (B4 : Box A.L w b4 (.pointer (some ⟨A.bc s, 0, none⟩))) (B5 : HeadBox A.L w b5 false head) :
    Calls Tryz.prog 168 #[.pointer (some ⟨b0, 0, none⟩), .pointer (some ⟨b1, 0, none⟩), .pointer (some ⟨b2, 0, none⟩), .pointer (some ⟨b3, 0, none⟩), .pointer (some ⟨b4, 0, none⟩), .pointer (some ⟨b5, 0, none⟩)] w (Ran A w s (σ.run s (.slotE false link head))) := by
  have hsl := hR.sl
  obtain ⟨hv5, X5, R5⟩ := B5
  obtain ⟨ha, hn, hcap, rfl, hlen, hcap1, hcap2, hrow⟩ := R5
  have c0 := B0.cell
  have c1 := B1.cell
  have e2 : w.cell? ⟨A.be, 2, none⟩ = some (.pointer (some ⟨A.ba, 0, none⟩)) := hR.eng 2 rfl
  have HS := Lib.hid (flip (slot_at link 1 1 rfl hv.lo (by have := hv.hi; omega) hv.u (by omega) w.drew))
  have HF := Lib.hid (forever_still w.drew)
  have HL := Lib.hid (store_any hR.drew (wslot link 1) ever (wslot_lt hR hv.lo hv.hi (by omega)) hcnt)
  have HG : Hid (Grow A.L w A.L w.drew) := Grow.drew _ _
  have hn1 : hn = 1 := by simpa using hlen.symm
  subst hn1
  obtain ⟨hg, hoff, rfl, hlg, hltg, hcs⟩ := hrow.resolve_left (by omega)
  have h0 : w.cell? ⟨hg, hoff, none⟩ = some (.int .u64 (head : Int)) := hcs 0 (by omega)
  have HB : Hid (∀ w1, Rep A (σ.put (wslot link 1) ever) w1 → Grow A.L w A.L w1 → Calls Tryz.prog 169 #[.pointer (some ⟨A.be, 0, none⟩), .pointer (some ⟨A.bt s, 0, none⟩), .pointer (some ⟨A.bc s, 0, none⟩), .int .u64 (link : Int), .int .u64 (head : Int)] w1.drew (Tells A w1.drew s (σ.put (wslot link 1) ever, .push link head)) ∧ w1.cell? ⟨b0, 0, none⟩ = some (.pointer (some ⟨A.be, 0, none⟩)) ∧ w1.cell? ⟨b1, 0, none⟩ = some (.int .u64 (link : Int)) ∧ w1.cell? ⟨b2, 0, none⟩ = some (.pointer none) ∧ w1.cell? ⟨b3, 0, none⟩ = some (.pointer (some ⟨A.bt s, 0, none⟩)) ∧ w1.cell? ⟨b4, 0, none⟩ = some (.pointer (some ⟨A.bc s, 0, none⟩)) ∧ w1.cell? ⟨b5, 0, none⟩ = some (.slice (some ⟨hg, hoff, none⟩) 1 hcap) ∧ w1.cell? ⟨hg, hoff, none⟩ = some (.int .u64 (head : Int))) :=
    fun w1 q g => ⟨push_any q.drew s link head, (B0.grow g).cell, (B1.grow g).cell, (B2.grow g).cell, (B3.grow g).cell, (B4.grow g).cell, (X5.grow g).cell, (World.cell?_of_block (w := w) (a := ⟨hg, hoff, none⟩) (g.block hg hltg hlg)).trans h0⟩
  have hrun : σ.run s (.slotE false link head) = (σ.put (wslot link 1) ever, some (.push link head)) := rfl
  rw [hrun]
  clear hR ht hcnt hv B0 B1 B2 B3 B4 X5 hrun hsl hlen hcap1 hcap2 hrow hcs h0
  go_enter Tryz.func168, Tryz.ntmps168
  go_wp2_with fail
  refine wp_region_still_tail 7 (by kernel_rfl) (by kernel_rfl) ?_
  simp only [List.take_succ_cons, List.take_zero, List.drop_succ_cons, List.drop_zero]
  repeat still_step
  still_call HS.out
  still_call HF.out
  refine wpStill_nil ?_
  change wpList _ _ _ _ _ w.drew
  generalize w.drew = wd at *
  go_wp2_with (go_at_call 77; refine HL.out.mono ?_; rintro e w1 ⟨rfl, q1, q2⟩; have g1 := HG.out.trans q2; obtain ⟨hf, d0, d1, d2, d3, d4, d5, d6⟩ := HB.out w1 q1 g1; have HQ := Lib.hid (And.intro hf (g1.trans (Grow.drew _ _))); clear q1 q2 g1 hf)
  refine wp_region_still_tail 7 (by kernel_rfl) (by kernel_rfl) ?_
  simp only [List.take_succ_cons, List.take_zero, List.drop_succ_cons, List.drop_zero]
  repeat still_step
  refine wpStill_nil ?_
  change wpList _ _ _ _ _ w1.drew
  generalize w1.drew = wd1 at *
  go_wp2_with (go_at_call 169; refine HQ.out.1.mono ?_; rintro e w2 ⟨A2, v, rfl, p1, p2, p3, p4⟩)
  go_ret
  exact ⟨A2, v, rfl, p1, HQ.out.2.trans p2, p3, p4⟩
theorem k_slotE {A : Book} {σ : St} {w : World} (hR : Rep A σ w) (s : Nat) (t : Txn) (ht : σ.txns.getD s none = some t) (x : Bool) (link head : Nat) (hcnt : σ.count < 4000000000000000000) (hv : VL σ link) (b0 b1 b2 b3 b4 b5 : Nat)
    (B0 : Box A.L w b0 (.pointer (some ⟨A.be, 0, none⟩))) (B1 : Box A.L w b1 (.int .u64 (link : Int))) (B2 : Box A.L w b2 ((kp A σ s).xo x)) (B3 : Box A.L w b3 (.pointer (some ⟨A.bt s, 0, none⟩))) (B4 : Box A.L w b4 (.pointer (some ⟨A.bc s, 0, none⟩))) (B5 : HeadBox A.L w b5 x head) :
    Calls Tryz.prog 168 #[.pointer (some ⟨b0, 0, none⟩), .pointer (some ⟨b1, 0, none⟩), .pointer (some ⟨b2, 0, none⟩), .pointer (some ⟨b3, 0, none⟩), .pointer (some ⟨b4, 0, none⟩), .pointer (some ⟨b5, 0, none⟩)] w (Ran A w s (σ.run s (.slotE x link head))) := by
  cases x
  · exact k_slotE_false hR s t ht link head hcnt hv b0 b1 b2 b3 b4 b5 B0 B1 B2 B3 B4 B5
  · exact k_slotE_true hR s t ht link head hcnt hv b0 b1 b2 b3 b4 b5 B0 B1 B2 B3 B4 B5
end Go.Proofs.YtbefcdjcefmicaaGreat.Em
