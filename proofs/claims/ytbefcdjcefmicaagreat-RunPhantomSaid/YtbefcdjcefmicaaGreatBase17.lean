/- Texts of this claim, laid together: Kf, Bo, Do, Ro, Ik, Co, Wh. -/
import Derived.Test.YtbefcdjcefmicaaGreatBase15
import Derived.Test.YtbefcdjcefmicaaGreatBase7
import Derived.Test.YtbefcdjcefmicaaGreatBase16
import Derived.Test.YtbefcdjcefmicaaGreatBase13
import Derived.Test.YtbefcdjcefmicaaGreatBase14
import Derived.Test.YtbefcdjcefmicaaGreatBase8
import Derived.Lib.AppendZerosOnto
namespace Go.Proofs.YtbefcdjcefmicaaGreat.Em
open Go.ChangeShapes Go.WideShapes Go.ChangeAt Go.RowKit En
set_option linter.unusedVariables false
set_option linter.unusedSimpArgs false
set_option maxRecDepth 100000
set_option maxHeartbeats 1600000

def okFirst (σ : St) (s : Nat) : Bool := match (σ.c s).op.kind with
  | 6 => true
  | 7 => true
  | 1 => match (σ.t s).cell (σ.c s).op.key with | none => true | some x => !x.there || vl σ x.own
  | 5 => decide ((σ.c s).op.key ≤ 63) && decide ((σ.c s).op.hi ≤ 63) && okCels σ (σ.t s) && decide ((σ.c s).r.pairs.length < 90000)
  | 2 => okWrite σ s
  | 3 => okWrite σ s
  | 4 => okWrite σ s
  | _ => false
where okWrite (σ : St) (s : Nat) : Bool := match (σ.t s).cell (σ.c s).op.key with | none => true | some _ => decide (1 ≤ (σ.t s).id) && decide ((σ.t s).id ≤ 65535) && okPool σ
theorem firstTo {σ : St} {s : Nat} {t : Txn} (ht : σ.txns.getD s none = some t) {c : Cal} (hc : σ.calls.getD s none = some c) (h : okFirst σ s = true) : FirstTo σ s := by
  intro A w hR hmp
  have et := txn_get ht
  have ec := call_get hc
  unfold okFirst okFirst.okWrite at h
  rw [et, ec] at h
  have hret : ∀ r, ∀ e w', Tells A w s r e w' → ∃ v, e = .returned v := fun r e w' ⟨_, v, hv, _⟩ => ⟨v, hv⟩
  refine first_tells hR s c hc _ (fun hk => ?_) (fun hk => ?_) (fun hk => ?_) (fun hk => ?_) (fun k1 k5 k6 k7 => ?_) (hret _)
  · rw [hk] at h
    simp only at h
    cases hx : t.cell c.op.key with
    | none =>
      have e : σ.first s = (σ, .start ⟨c.op.key, t.begin_, .get⟩) := by unfold St.first; rw [ec, et]; simp only [hk, hx]
      rw [e]; exact get_none hR s t ht c hc hx
    | some x =>
      rw [hx] at h
      have e : σ.first s = (σ, if x.there then .fin { value := σ.valueOf x.own } else .fin { e := 11 }) := by unfold St.first; rw [ec, et]; simp only [hk, hx]
      rw [e]
      cases hth : x.there with
      | true =>
        simp only [hth, Bool.not_true, Bool.false_or] at h
        rw [if_pos rfl]
        exact get_there hR s t ht c hc x hx hth (vl_iff h)
      | false =>
        rw [if_neg (by decide)]
        exact get_gone hR s t ht c hc x hx hth
  · rw [hk] at h
    simp only [Bool.and_eq_true, decide_eq_true_eq] at h
    obtain ⟨⟨⟨h1, h2⟩, h3⟩, h4⟩ := h
    have e : σ.first s = σ.scan s c.op.key := by unfold St.first; rw [ec]; simp only [hk]
    rw [e]
    exact scan_any hR s t ht c hc c.op.key (by omega) h2 (okCels_iff h3) (by omega)
  · have e : σ.first s = (σ, .draw) := by unfold St.first; rw [ec]; simp only [hk]
    rw [e]; exact draw_any hR s
  · have e : σ.first s = (σ, .abort 0 1) := by unfold St.first; rw [ec]; simp only [hk]
    rw [e]; exact abort_any hR s 0 1
  · have hx : (match t.cell c.op.key with | none => true | some _ => decide (1 ≤ t.id) && decide (t.id ≤ 65535) && okPool σ) = true ∧ (c.op.kind = 2 ∨ c.op.kind = 3 ∨ c.op.kind = 4) := by
      split at h
      · omega
      · omega
      · omega
      · omega
      · rename_i hk; exact ⟨h, .inl hk⟩
      · rename_i hk; exact ⟨h, .inr (.inl hk)⟩
      · rename_i hk; exact ⟨h, .inr (.inr hk)⟩
      · cases h
    obtain ⟨hx1, hkk⟩ := hx
    cases hx : t.cell c.op.key with
    | none =>
      have e : σ.first s = (σ, .start ⟨c.op.key, t.begin_, .change⟩) := by
        rcases hkk with hk | hk | hk <;> (unfold St.first; rw [ec, et]; simp only [hk, hx])
      rw [e]
      exact change_none hR s t ht c hc hx
    | some x =>
      rw [hx] at hx1
      simp only [Bool.and_eq_true, decide_eq_true_eq] at hx1
      have e : σ.first s = againK σ s t x c.op.kind := by
        rcases hkk with hk | hk | hk <;> (unfold St.first againK; rw [ec, et]; simp only [hk, hx])
      rw [e]
      exact change_some hR s t ht c hc hmp x hx hx1.1.1 hx1.1.2 (okPool_iff hR.nt hx1.2)
def okOthers (σ σ2 : St) (s : Nat) : Bool := decide (σ.calls.length = 8) && decide (σ2.calls.length = 8) && (List.range 8).all fun q => q == s || decide (σ2.calls.getD q none = σ.calls.getD q none)
theorem okOthers_iff {σ σ2 : St} {s : Nat} (h : okOthers σ σ2 s = true) : ∀ q, q ≠ s → σ2.calls.getD q none = σ.calls.getD q none := by
  intro q hq
  unfold okOthers at h
  simp only [Bool.and_eq_true, decide_eq_true_eq, List.all_eq_true, List.mem_range, Bool.or_eq_true, beq_iff_eq] at h
  by_cases h8 : q < 8
  · exact (h.2 q h8).resolve_left hq
  · simp [List.getD_eq_getElem?_getD, List.getElem?_eq_none (show σ2.calls.length ≤ q by omega), List.getElem?_eq_none (show σ.calls.length ≤ q by omega)]
/-- What is behind a step's closure. -/
def afterStep (σ : St) (s : Nat) (σ2 : St) (ok : Option K) (c2 : Cal) : Option (St × Nat × Res) :=
  match ok with
  | some k' => if c2.over = false then some ({ σ2.setC s { c2 with k := some k' } with looks := σ2.looks + (σ2.count - σ.count) }, if c2.waits then 2 else 1, {}) else none
  | none =>
    if c2.waits = false ∧ c2.over = true ∧ c2.r.pairs.length ≤ 1000000 then
      if c2.r.over = 0 then
        match σ2.txns.getD s none with
        | some t2 => if σ2.tale.length < 1000000 then some (({ σ2.setC s { c2 with k := none } with looks := σ2.looks + (σ2.count - σ.count), calls := (σ2.setC s { c2 with k := none }).calls.set s none } : St).event { kind := 2, t := t2.id, op := c2.op, res := c2.r }, 3, c2.r) else none
        | none => none
      else if c2.r.pairs = [] then some ({ σ2.setC s { c2 with k := none } with looks := σ2.looks + (σ2.count - σ.count), calls := (σ2.setC s { c2 with k := none }).calls.set s none, txns := σ2.txns.set s none }, 3, c2.r) else none
    else none
/-- One step, if all it asks holds. -/
def oneStep (σ : St) (s : Nat) : Option (St × Nat × Res) :=
  match σ.txns.getD s none, σ.calls.getD s none with
  | some t, some c =>
    match c.k with
    | some k =>
      match (σ.setC s { c with waits := false }).run s k with
      | (σ2, ok) =>
        match σ2.calls.getD s none with
        | some c2 =>
          if okK (σ.setC s { c with waits := false }) s k = true ∧ okOthers σ σ2 s = true ∧ σ.count ≤ σ2.count ∧ σ2.count - σ.count < 1000000 ∧ σ2.looks < 1000000000000000000 ∧ σ.count < 3000000000000000000 then afterStep σ s σ2 ok c2 else none
        | none => none
    | none => none
  | _, _ => none
theorem step_calls {A : Book} {σ : St} {w : World} (hL : Live A σ w) {s : Nat} (hs : s < 8) {σ' : St} {kd : Nat} {r : Res} (h : oneStep σ s = some (σ', kd, r)) :
    Calls Tryz.prog 19 #[.pointer (some ⟨A.be, 0, none⟩), .int .i64 (s : Int)] w (Stepped A w σ' (kd : Int) r) := by
  unfold oneStep at h
  split at h
  · rename_i t c ht hc
    split at h
    · rename_i k hk
      split at h
      rename_i σ2 ok hrun
      split at h
      · rename_i c2 hc2
        split at h
        · rename_i hh
          obtain ⟨h1, h2, h3, h4, h5, h6⟩ := hh
          have hc1 : (σ.setC s { c with waits := false }).calls.getD s none = some { c with waits := false } := by rw [getC_set (lt_of_call hc), if_pos rfl]
          have hRT := runsTo hs (σ := σ.setC s { c with waits := false }) (t := t) ht hc1 k h1
          have hdl : σ2.count = σ.count + (σ2.count - σ.count) := by omega
          have hcq := okOthers_iff h2
          unfold afterStep at h
          cases ok with
          | some k' =>
            simp only at h
            split at h
            · rename_i hov
              simp only [Option.some.injEq, Prod.mk.injEq] at h
              obtain ⟨rfl, rfl, rfl⟩ := h
              have := step_go hL s hs t ht c hc k hk h6 σ2 _ hrun hRT c2 hc2 _ hdl h4 h5 hcq k' rfl hov
              cases hw : c2.waits <;> (rw [hw] at this; simpa [hw] using this)
            · cases h
          | none =>
            simp only at h
            split at h
            · rename_i hh
              obtain ⟨hw, hov, hpr⟩ := hh
              split at h
              · rename_i hro
                split at h
                · rename_i t2 ht2
                  split at h
                  · rename_i htl
                    simp only [Option.some.injEq, Prod.mk.injEq] at h
                    obtain ⟨rfl, rfl, rfl⟩ := h
                    exact step_pairs hL s hs t ht c hc k hk h6 σ2 _ hrun hRT c2 hc2 _ hdl h4 h5 hcq t2 ht2 htl rfl hw hov hpr hro
                  · cases h
                · cases h
              · rename_i hro
                split at h
                · rename_i hpe
                  simp only [Option.some.injEq, Prod.mk.injEq] at h
                  obtain ⟨rfl, rfl, rfl⟩ := h
                  exact step_over hL s hs t ht c hc k hk h6 σ2 _ hrun hRT c2 hc2 _ hdl h4 h5 hcq rfl hw hov hpe hro
                · cases h
            · cases h
        · cases h
      · cases h
    · cases h
  · cases h
end Go.Proofs.YtbefcdjcefmicaaGreat.Em

namespace Go.Proofs.YtbefcdjcefmicaaGreat.Em
open Go.ChangeShapes Go.WideShapes Go.ChangeAt Go.RowKit En
set_option linter.unusedVariables false
set_option linter.unusedSimpArgs false
set_option maxRecDepth 100000
set_option maxHeartbeats 1600000

def capTo (n : Int) : Int := min (max n 0) 1000
def boundOf (n c : Int) : Int := wrap64 (wrap64 (400 * (capTo n + 1) * (capTo c + 64)) * (capTo n + 4))
theorem capTo_low {n : Int} (h : n < 0) : capTo n = 0 := by unfold capTo; omega
theorem capTo_mid {n : Int} (h : 0 ≤ n) (h2 : (if n < 0 then 0 else n) ≤ 1000) : capTo n = n := by rw [if_neg (by omega)] at h2; unfold capTo; omega
theorem capTo_high {n : Int} (h : 0 ≤ n) (h2 : 1000 < (if n < 0 then 0 else n)) : capTo n = 1000 := by rw [if_neg (by omega)] at h2; unfold capTo; omega
theorem bound_any (n c : Int) (w : World) : Calls Tryz.prog 67 #[.int .i64 n, .int .i64 c] w fun e w' => e = .returned (.int .i64 (boundOf n c)) ∧ w = w' := by
  go_enter Tryz.func67, Tryz.ntmps67
  go_wp2
  all_goals (go_ret; refine ⟨?_, rfl⟩; unfold boundOf; first | (rw [capTo_low (n := n) (by assumption)]) | (rw [capTo_mid (n := n) (by assumption) (by assumption)]) | (rw [capTo_high (n := n) (by assumption) (by assumption)]))
  all_goals (first | (rw [capTo_low (n := c) (by assumption)]; rfl) | (rw [capTo_mid (n := c) (by assumption) (by assumption)]; rfl) | (rw [capTo_high (n := c) (by assumption) (by assumption)]; rfl))
theorem bound_run (w : World) : Calls Tryz.prog 67 #[.int .i64 8, .int .i64 256] w fun e w' => e = .returned (.int .i64 13824000) ∧ w = w' := by
  have h := bound_any 8 256 w
  rw [show boundOf 8 256 = 13824000 by decide +kernel] at h
  exact h
end Go.Proofs.YtbefcdjcefmicaaGreat.Em

namespace Go.Proofs.YtbefcdjcefmicaaGreat.Em
open Go.ChangeShapes Go.WideShapes Go.ChangeAt Go.RowKit En
set_option linter.unusedVariables false
set_option linter.unusedSimpArgs false
set_option maxRecDepth 100000
set_option maxHeartbeats 1600000

theorem Live.world {A : Book} {σ : St} {w w' : World} (hL : Live A σ w) (r : Rep A σ w') (g : Grow A.L w A.L w') : Live A σ w' :=
  ⟨r, hL.mp, hL.mt, fun s h c hc => let ⟨e1, k, e2, e3⟩ := hL.call s h c hc; ⟨e1, k, e2, e3.grow g⟩, hL.idle⟩
theorem Live.alloc {A : Book} {σ : St} {w : World} (hL : Live A σ w) (o : Obj) : Live A σ (w.alloc o) := hL.world (hL.rep.alloc _) (Grow.alloc _ _ _)
theorem Live.below {A : Book} {σ : St} {w w' : World} (hL : Live A σ w) (h : Below w.heap.size w w') : Live A σ w' := hL.world (hL.rep.below h) (Grow.below h)
theorem Live.newTmp {A : Book} {σ : St} {w : World} (hL : Live A σ w) (o : Obj) : Live (A.tmp w.heap.size) σ (w.alloc o) :=
  let ⟨r, g, _, _⟩ := hL.rep.newTmp o
  ⟨r, hL.mp, hL.mt, fun s h c hc => let ⟨e1, k, e2, e3⟩ := hL.call s h c hc; ⟨e1, k, e2, (show KRep (kp A σ s) (A.tmp w.heap.size).L (w.alloc o) (A.vnext s) k from e3.grow g)⟩, hL.idle⟩
theorem Live.but {A : Book} {σ : St} {w w' : World} {b : Nat} (hL : Live A σ w) (hl : A.L b = some .tmp) (h : But b w w') : Live A σ w' :=
  ⟨hL.rep.but hl h, hL.mp, hL.mt, fun s hs c hc => let ⟨e1, k, e2, e3⟩ := hL.call s hs c hc; ⟨e1, k, e2, e3.soft (h.soft hl)⟩, hL.idle⟩
/-- Steps until a call's end. -/
def runDo : Nat → St → Nat → Option (St × Res × Nat)
  | 0, _, _ => none
  | n + 1, σ, s => match oneStep σ s with
    | some (σ', kd, r) => if kd = 3 then some (σ', r, 0) else if kd = 2 then some (σ', {}, 18) else if kd = 1 then runDo n σ' s else none
    | none => none
/-- A call is issued, whatever the book. -/
def IssueTo (σ : St) (s : Nat) (o : En.Op) (σ1 : St) (err : Nat) : Prop := ∀ A w, Live A σ w → Calls Tryz.prog 17 #[.pointer (some ⟨A.be, 0, none⟩), .int .i64 (s : Int), .agg #[.int .i64 (o.kind : Int), .int .i64 (o.key : Int), .int .i64 (o.hi : Int), .int .i64 (o.value : Int)]] w (Issued A w σ1 (err : Int))
/-- What a whole call answers. -/
def Done (A : Book) (w : World) (σ' : St) (r : Res) (err : Nat) : Ending → World → Prop := fun e w' => ∃ A' vp, e = .returned (.tuple #[.agg #[.int .i64 (r.e : Int), .int .i64 (r.value : Int), vp, .int .i64 (r.over : Int), .int .i64 (r.reason : Int)], .int .i64 (err : Int)]) ∧ FRow A'.L w' 2 vp (pairCs r.pairs) ∧ Live A' σ' w' ∧ Grow A.L w A'.L w' ∧ A'.be = A.be
theorem frow_form {L : Lab} {w : World} {size : Nat} {v : Value} {xs : List Value} (h : FRow L w size v xs) : ∃ a n cap, v = .slice a n cap := let ⟨a, n, cap, e, _⟩ := h; ⟨a, n, cap, e⟩
theorem do_any {A : Book} {σ : St} {w : World} (hL : Live A σ w) (s : Nat) (hs : s < 8) (o : En.Op) (σ1 : St) (HI : IssueTo σ s o σ1 0) (F : Nat) (hF : F ≤ 13824000) (σ2 : St) (r : Res) (err : Nat) (hrun : runDo F σ1 s = some (σ2, r, err)) :
    Calls Tryz.prog 37 #[.pointer (some ⟨A.be, 0, none⟩), .int .i64 (s : Int), .agg #[.int .i64 (o.kind : Int), .int .i64 (o.key : Int), .int .i64 (o.hi : Int), .int .i64 (o.value : Int)]] w (Done A w σ2 r err) := by
  obtain ⟨w0, hw0⟩ : ∃ w0, w0 = w.alloc (.cells #[.int .i64 (o.kind : Int), .int .i64 (o.key : Int), .int .i64 (o.hi : Int), .int .i64 (o.value : Int)] 31) := ⟨_, rfl⟩
  have hL0 : Live A σ w0 := by rw [hw0]; exact hL.alloc _
  have g0 : Grow A.L w A.L w0 := by rw [hw0]; exact Grow.alloc _ _ _
  have hz : w0.heap.size = w.heap.size + 1 := by rw [hw0]; simp
  have hL1 := hL0.newTmp (.cells #[.int .i64 0, .int .i64 0, .slice none 0 0, .int .i64 0, .int .i64 0] 42)
  obtain ⟨_, g1, t1, t2⟩ := hL0.rep.newTmp (.cells #[.int .i64 0, .int .i64 0, .slice none 0 0, .int .i64 0, .int .i64 0] 42)
  have hI := HI _ _ hL1
  have c0 : (w0.alloc (.cells #[.int .i64 0, .int .i64 0, .slice none 0 0, .int .i64 0, .int .i64 0] 42)).heap[w.heap.size]? = some (.cells #[.int .i64 (o.kind : Int), .int .i64 (o.key : Int), .int .i64 (o.hi : Int), .int .i64 (o.value : Int)] 31) := by
    have f := (fix_next (L := A.L) hL.rep.mem.fresh (.cells #[.int .i64 (o.kind : Int), .int .i64 (o.key : Int), .int .i64 (o.hi : Int), .int .i64 (o.value : Int)] 31) rfl)
    rw [← hw0] at f
    exact (f.grow g1).2
  have HW := Lib.hid (And.intro (g0.trans g1) (And.intro t1 t2))
  have HII := Lib.hid hI
  have HR := Lib.hid (And.intro hrun (And.intro hF hs))
  subst hw0
  rw [hz] at *
  clear HI hI hrun hF hs hL0 hL1 g0 g1 t1 t2 hz hL
  go_enter Tryz.func37, Tryz.ntmps37
  go_wp2_with (first | (go_at_call 17; refine HII.out.mono ?_; rintro e w1 ⟨A1, rfl, q1, q2, q3⟩; have H1 := Lib.hid (And.intro q1 (And.intro q2 q3)); clear q1 q2 q3) | (go_at_call 67; refine (bound_run _).mono ?_; rintro e w' ⟨rfl, rfl⟩))
  go_loopw [20] (fun i wr => ∃ (j n : Nat) (σj : St) (A' : Book), i = .int .i64 (j : Int) ∧ runDo n σj s = some (σ2, r, err) ∧ j + n ≤ 13824000 ∧ Live A' σj wr ∧ Grow A.L w A'.L wr ∧ A'.be = A.be ∧ A'.L (w.heap.size + 1) = some .tmp ∧ wr.heap[w.heap.size + 1]? = some (.cells #[.int .i64 0, .int .i64 0, .slice none 0 0, .int .i64 0, .int .i64 0] 42)) (fun i _ => 13824000 - (intOf i).toNat)
  case atStart =>
    obtain ⟨q1, q2, q3⟩ := H1.out
    obtain ⟨gw, t1, t2⟩ := HW.out
    obtain ⟨t3, t4⟩ := tmp_grow ⟨t1, t2⟩ q2
    exact ⟨0, F, σ1, A1, rfl, HR.out.1, by have := HR.out.2.1; omega, q1, gw.trans q2, q3, t3, t4⟩
  case round =>
    obtain ⟨j, n, σj, A', rfl, hrun, hj, hL, g, eb, t1, t2⟩ := hrel
    cases n with
    | zero => cases hrun
    | succ n =>
    unfold runDo at hrun
    split at hrun
    · rename_i σ' kd r' hst
      have hcs := step_calls hL HR.out.2.2 hst
      rw [eb] at hcs
      have b1 : (j : Int) < 13824000 := by omega
      have n1 : IntKind.i64.wrap ((j : Int) + 1) = (j : Int) + 1 := by rw [IntKind.wrap_i64]; omega
      have HQ := Lib.hid (And.intro hrun (And.intro hj (And.intro g (And.intro eb (And.intro t1 t2)))))
      clear hrun hj hL g eb t1 t2 hst
      by_cases hk3 : kd = 3
      · subst hk3
        have HC := Lib.hid hcs
        clear hcs
        go_wp2_with (first | (go_at_call 19; refine HC.out.mono ?_; rintro e w2 ⟨A2, vp, rfl, q1, q2, q3, q4⟩; obtain ⟨va, vn, vc, rfl⟩ := frow_form q1; obtain ⟨_, _, gq, eq, t1, t2⟩ := HQ.out; obtain ⟨t3, t4⟩ := tmp_grow ⟨t1, t2⟩ q3; have HTH := Lib.hid (there_of (tmp_grow ⟨t3, t4⟩ (Grow.alloc A2.L w2 (.cells #[.int .i64 3, .int .i64 (r'.e : Int), .int .i64 (r'.value : Int), .slice va vn vc, .int .i64 (r'.over : Int), .int .i64 (r'.reason : Int)] 44))).2); have H2 := Lib.hid (And.intro q1 (And.intro q2 (And.intro (gq.trans q3) (And.intro (q4.trans eq) (And.intro t3 t4))))); clear q1 q2 q3 q4 gq eq t1 t2 t3 t4) | (refine wpList_store_mid rfl 42 (.tmp 6) (.tmp 33) rfl (w.heap.size + 1) 0 #[.int .i64 (r'.e : Int), .int .i64 (r'.value : Int), .slice va vn vc, .int .i64 (r'.over : Int), .int .i64 (r'.reason : Int)] rfl rfl HTH.out (by kernel_rfl) (by simp [Value.oneCell']) ?_; generalize hws : World.setCells _ _ _ _ = ws))
        obtain ⟨hrun, _⟩ := HQ.out
        obtain ⟨q1, q2, gq, eq, t3, t4⟩ := H2.out
        have ga := Grow.alloc A2.L w2 (.cells #[.int .i64 3, .int .i64 (r'.e : Int), .int .i64 (r'.value : Int), .slice va vn vc, .int .i64 (r'.over : Int), .int .i64 (r'.reason : Int)] 44)
        obtain ⟨t5, t6⟩ := tmp_grow ⟨t3, t4⟩ ga
        have hL3 := q2.alloc (.cells #[.int .i64 3, .int .i64 (r'.e : Int), .int .i64 (r'.value : Int), .slice va vn vc, .int .i64 (r'.over : Int), .int .i64 (r'.reason : Int)] 44)
        have gg := gq.trans ga
        have q1' := q1.grow ga
        generalize w2.alloc _ = w3 at *
        have hbut := But.setCells (w.heap.size + 1) [.int .i64 (r'.e : Int), .int .i64 (r'.value : Int), .slice va vn vc, .int .i64 (r'.over : Int), .int .i64 (r'.reason : Int)] 0 w3
        have hfin := heap_setCells5 t6 (.int .i64 (r'.e : Int)) (.int .i64 (r'.value : Int)) (.slice va vn vc) (.int .i64 (r'.over : Int)) (.int .i64 (r'.reason : Int))
        rw [show w3.setCells (w.heap.size + 1) 0 [.int .i64 (r'.e : Int), .int .i64 (r'.value : Int), .slice va vn vc, .int .i64 (r'.over : Int), .int .i64 (r'.reason : Int)] = ws from hws] at hbut hfin
        refine bodyPost_ret (results_cell_tmp_row rfl _ _ (w.heap.size + 1) 42 #[.int .i64 (r'.e : Int), .int .i64 (r'.value : Int), .slice va vn vc, .int .i64 (r'.over : Int), .int .i64 (r'.reason : Int)] _ _ rfl hfin Tryz.underlying42 rfl (by kernel_rfl)) rfl ?_
        replace hrun : some (σ', r', 0) = some (σ2, r, err) := hrun
        obtain ⟨rfl, rfl, rfl⟩ : σ' = σ2 ∧ r' = r ∧ 0 = err := by simpa using hrun
        exact ⟨A2, (.slice va vn vc), rfl, q1'.but t5 hbut, hL3.but t5 hbut, gg.but (Nat.le_succ _) hbut, eq⟩
      by_cases hk2 : kd = 2
      · subst hk2
        have HC := Lib.hid hcs
        clear hcs
        go_wp2_with (first | (go_at_call 19; refine HC.out.mono ?_; rintro e w2 ⟨A2, vp, rfl, q1, q2, q3, q4⟩; obtain ⟨va, vn, vc, rfl⟩ := frow_form q1; obtain ⟨_, _, gq, eq, t1, t2⟩ := HQ.out; obtain ⟨t3, t4⟩ := tmp_grow ⟨t1, t2⟩ q3; have HTH := Lib.hid (there_of (tmp_grow ⟨t3, t4⟩ (Grow.alloc A2.L w2 (.cells #[.int .i64 2, .int .i64 (r'.e : Int), .int .i64 (r'.value : Int), .slice va vn vc, .int .i64 (r'.over : Int), .int .i64 (r'.reason : Int)] 44))).2); have H2 := Lib.hid (And.intro q1 (And.intro q2 (And.intro (gq.trans q3) (And.intro (q4.trans eq) (And.intro t3 t4))))); clear q1 q2 q3 q4 gq eq t1 t2 t3 t4) | (refine wpList_store_mid rfl 42 (.tmp 6) (.tmp 36) rfl (w.heap.size + 1) 0 #[.int .i64 0, .int .i64 0, .slice none 0 0, .int .i64 0, .int .i64 0] rfl rfl HTH.out (by kernel_rfl) (by simp [Value.oneCell']) ?_; generalize hws : World.setCells _ _ _ _ = ws))
        obtain ⟨hrun, _⟩ := HQ.out
        obtain ⟨q1, q2, gq, eq, t3, t4⟩ := H2.out
        have ga := Grow.alloc A2.L w2 (.cells #[.int .i64 2, .int .i64 (r'.e : Int), .int .i64 (r'.value : Int), .slice va vn vc, .int .i64 (r'.over : Int), .int .i64 (r'.reason : Int)] 44)
        obtain ⟨t5, t6⟩ := tmp_grow ⟨t3, t4⟩ ga
        have hL3 := q2.alloc (.cells #[.int .i64 2, .int .i64 (r'.e : Int), .int .i64 (r'.value : Int), .slice va vn vc, .int .i64 (r'.over : Int), .int .i64 (r'.reason : Int)] 44)
        have gg := gq.trans ga
        have q1' := q1.grow ga
        generalize w2.alloc _ = w3 at *
        have hbut := But.setCells (w.heap.size + 1) [.int .i64 0, .int .i64 0, .slice none 0 0, .int .i64 0, .int .i64 0] 0 w3
        have hfin := heap_setCells5 t6 (.int .i64 0) (.int .i64 0) (.slice none 0 0) (.int .i64 0) (.int .i64 0)
        rw [show w3.setCells (w.heap.size + 1) 0 [.int .i64 0, .int .i64 0, .slice none 0 0, .int .i64 0, .int .i64 0] = ws from hws] at hbut hfin
        refine bodyPost_ret (results_cell_tmp_row rfl _ _ (w.heap.size + 1) 42 #[.int .i64 0, .int .i64 0, .slice none 0 0, .int .i64 0, .int .i64 0] _ _ rfl hfin Tryz.underlying42 rfl (by kernel_rfl)) rfl ?_
        replace hrun : some (σ', ({} : Res), 18) = some (σ2, r, err) := hrun
        obtain ⟨rfl, rfl, rfl⟩ : σ' = σ2 ∧ ({} : Res) = r ∧ 18 = err := by simpa using hrun
        exact ⟨A2, (.slice none 0 0), rfl, FRow.nil _ _ _, hL3.but t5 hbut, gg.but (Nat.le_succ _) hbut, eq⟩
      by_cases hk1 : kd = 1
      · subst hk1
        have HC := Lib.hid hcs
        clear hcs
        go_wp2_with (first | (go_at_call 19; refine HC.out.mono ?_; rintro e w2 ⟨A2, vp, rfl, q1, q2, q3, q4⟩; obtain ⟨va, vn, vc, rfl⟩ := frow_form q1; obtain ⟨_, _, gq, eq, t1, t2⟩ := HQ.out; obtain ⟨t3, t4⟩ := tmp_grow ⟨t1, t2⟩ q3; have HTH := Lib.hid (there_of (tmp_grow ⟨t3, t4⟩ (Grow.alloc A2.L w2 (.cells #[.int .i64 1, .int .i64 (r'.e : Int), .int .i64 (r'.value : Int), .slice va vn vc, .int .i64 (r'.over : Int), .int .i64 (r'.reason : Int)] 44))).2); have H2 := Lib.hid (And.intro q1 (And.intro q2 (And.intro (gq.trans q3) (And.intro (q4.trans eq) (And.intro t3 t4))))); clear q1 q2 q3 q4 gq eq t1 t2 t3 t4))
        obtain ⟨hrun, hj, _⟩ := HQ.out
        obtain ⟨q1, q2, gq, eq, t3, t4⟩ := H2.out
        have ga := Grow.alloc A2.L w2 (.cells #[.int .i64 1, .int .i64 (r'.e : Int), .int .i64 (r'.value : Int), .slice va vn vc, .int .i64 (r'.over : Int), .int .i64 (r'.reason : Int)] 44)
        obtain ⟨t5, t6⟩ := tmp_grow ⟨t3, t4⟩ ga
        replace hrun : runDo n σ' s = some (σ2, r, err) := hrun
        refine ⟨⟨j + 1, n, σ', A2, rfl, hrun, by omega, q2.alloc _, gq.trans ga, eq, t5, t6⟩, ?_⟩
        show 13824000 - ((j : Int) + 1).toNat < 13824000 - ((j : Int)).toNat
        omega
      exfalso; have h := HQ.out.1; rw [if_neg hk3, if_neg hk2, if_neg hk1] at h; cases h
    · cases hrun
end Go.Proofs.YtbefcdjcefmicaaGreat.Em

namespace Go.Proofs.YtbefcdjcefmicaaGreat.Em
open Go.ChangeShapes Go.WideShapes Go.ChangeAt Go.RowKit En
set_option linter.unusedVariables false
set_option linter.unusedSimpArgs false
set_option maxRecDepth 100000
set_option maxHeartbeats 1600000

section
variable {L L' : Lab} {w w' : World}
theorem PRow.soft {v : Value} {xs : List Value} (f : PRow L w v xs) (h : Soft L w L' w') : PRow L' w' v xs := by
  refine ⟨f.1.soft h, fun g off n cap hv => ?_⟩
  rcases f.2 g off n cap hv with h0 | ⟨cs, hc⟩
  · exact .inl h0
  · by_cases hn : n = 0
    · exact .inl hn
    · obtain ⟨ad, n', cap', e1, e2, e3, e4, e5⟩ := f.1
      obtain ⟨rfl, rfl, rfl⟩ : ad = some ⟨g, off, none⟩ ∧ n' = n ∧ cap' = cap := by rw [hv] at e1; simp at e1; exact ⟨e1.1.symm, e1.2.1.symm, e1.2.2.symm⟩
      obtain ⟨g', off', e6, e7, e8, _⟩ := e5.resolve_left hn
      obtain ⟨rfl, rfl⟩ : g = g' ∧ off = off' := by simpa using e6
      exact .inr ⟨cs, (h.block g e8 e7).trans hc⟩
theorem Evs.soft (h : Soft L w L' w') : ∀ {l : List Ev} {xs : List Value}, Evs L w l xs → Evs L' w' l xs
  | [], _, f => f
  | _ :: _, _, ⟨vp, ys, h1, h2, h3⟩ => ⟨vp, ys, h1, h2.soft h, Evs.soft h h3⟩
/-- Nothing but a caller's row turned. -/
structure Rown (L : Lab) (w : World) (L' : Lab) (w' : World) (ob : Option Nat) : Prop where
  os : w'.os = w.os
  tape : w'.tape = w.tape
  output : w'.output = w.output
  size : w.heap.size ≤ w'.heap.size
  block : ∀ k, k < w.heap.size → some k ≠ ob → w'.heap[k]? = w.heap[k]?
  lab : ∀ k, k < w.heap.size → L' k = L k
  fresh : ∀ k, w'.heap.size ≤ k → L' k = none
  tmp : ∀ b, ob = some b → L b = some .tmp
theorem Rown.soft {ob : Option Nat} (h : Rown L w L' w' ob) : Soft L w L' w' := ⟨h.size, fun b hb e => h.block b hb (by intro hh; rw [h.tmp b hh.symm] at e; cases e), fun b hb e => (h.lab b hb).trans e⟩
end
theorem mem_lab (A : Book) (L : Lab) (σ : St) (q : Role) : memOf { A with L := L } σ q = memOf A σ q := by cases q <;> rfl
theorem Rep.rown {A : Book} {σ : St} {w w' : World} {L' : Lab} {ob : Option Nat} (hR : Rep A σ w) (h : Rown A.L w L' w' ob) : Rep { A with L := L' } σ w' := by
  refine ⟨⟨fun r => ?_, h.fresh⟩, hR.ev.soft h.soft, hR.sl, hR.nw, hR.nt, hR.nv, hR.n8, hR.nc⟩
  rw [mem_lab]
  by_cases hr : r = .tmp
  · subst hr; trivial
  · refine (hR.mem.all r).frame (fun k hk hk' => h.block k hk ?_) h.lab
    intro hh
    rw [h.tmp k hh.symm] at hk'
    exact hr (Option.some.inj hk').symm
theorem Live.rown {A : Book} {σ : St} {w w' : World} {L' : Lab} {ob : Option Nat} (hL : Live A σ w) (h : Rown A.L w L' w' ob) : Live { A with L := L' } σ w' :=
  ⟨hL.rep.rown h, hL.mp, hL.mt, fun s hs c hc => let ⟨e1, k, e2, e3⟩ := hL.call s hs c hc; ⟨e1, k, e2, (show KRep (kp A σ s) L' w' (A.vnext s) k from e3.soft h.soft)⟩, hL.idle⟩
theorem Grow.rown {L0 L L' : Lab} {w0 w w' : World} {ob : Option Nat} (g : Grow L0 w0 L w) (h : Rown L w L' w' ob) (hb : ∀ b, ob = some b → w0.heap.size ≤ b) : Grow L0 w0 L' w' :=
  have hne : ∀ k, k < w0.heap.size → some k ≠ ob := fun k hk hh => by have := hb k hh.symm; omega
  ⟨h.os.trans g.os, h.tape.trans g.tape, h.output.trans g.output, Nat.le_trans g.size h.size, fun k hk hl => (h.block k (Nat.lt_of_lt_of_le hk g.size) (hne k hk)).trans (g.block k hk hl), fun k hk => (h.lab k (Nat.lt_of_lt_of_le hk g.size)).trans (g.lab k hk), fun k hk hl => (h.block k (Nat.lt_of_lt_of_le hk g.size) (hne k hk)).trans (g.keep k hk hl)⟩
/-- A row's block is a caller's. -/
def TmpRow (L : Lab) (v : Value) : Prop := ∀ b, v.ownBlock = some b → L b = some .tmp
theorem append_tmp {A : Book} {σ : St} {w w' : World} {v v' : Value} {base : Nat} {e : TypeId} {size n : Nat} {xs : List Value} (hL : Live A σ w) (hv : TmpRow A.L v) (hown : w'.ownsRow base e size v' n xs) (hg : w.grownBy w' v.ownBlock) (h3 : v'.ownBlock = v.ownBlock ∨ ∀ g, v'.ownBlock = some g → w.heap.size ≤ g) :
    ∃ L', Rown A.L w L' w' v.ownBlock ∧ TmpRow L' v' := by
  have hf : ∀ k, w'.heap.size ≤ k → A.L k = none := fun k hk => hL.rep.mem.fresh k (Nat.le_trans hg.size hk)
  by_cases hs : v'.ownBlock = v.ownBlock
  · exact ⟨A.L, ⟨hg.os, hg.tape, hg.output, hg.size, hg.block, fun _ _ => rfl, hf, hv⟩, fun b hb => hv b (hs.symm.trans hb)⟩
  · cases hb : v'.ownBlock with
    | none => exact ⟨A.L, ⟨hg.os, hg.tape, hg.output, hg.size, hg.block, fun _ _ => rfl, hf, hv⟩, fun b hb' => by rw [hb] at hb'; cases hb'⟩
    | some g =>
      have hge := (h3.resolve_left hs) g hb
      have hlt := (hown.lt g hb).2
      refine ⟨lab1 A.L g .tmp, ⟨hg.os, hg.tape, hg.output, hg.size, hg.block, fun k hk => lab1_other (by omega), fun k hk => ?_, hv⟩, fun b hb' => ?_⟩
      · rw [lab1_other (by omega)]; exact hf k hk
      · obtain rfl : g = b := Option.some.inj (hb.symm.trans hb')
        exact lab1_same _ _ _
/-- A caller's row, cut to its length: read only. -/
def TRow (L : Lab) (w : World) (size : Nat) (v : Value) (xs : List Value) : Prop := Ow.Row w 0 size v xs ∧ TmpRow L v
theorem TRow.grow {L L' : Lab} {w w' : World} {size : Nat} {v : Value} {xs : List Value} (h : TRow L w size v xs) (g : Grow L w L' w') (hlt : ∀ b, v.ownBlock = some b → b < w.heap.size) : TRow L' w' size v xs := by
  refine ⟨?_, fun b hb => (g.lab b (hlt b hb)).trans (h.2 b hb)⟩
  obtain ⟨a, n, cap, h1, h2, h3, h4, h5⟩ := h.1
  refine ⟨a, n, cap, h1, h2, h3, h4, ?_⟩
  rcases h5 with h5 | ⟨b, off, e1, e2, e3, e4⟩
  · exact .inl h5
  · refine .inr ⟨b, off, e1, e2, Nat.lt_of_lt_of_le e3 g.size, fun j hj => ?_⟩
    have hb : v.ownBlock = some b := by rw [h1, e1]; rfl
    rw [World.cell?_of_block (w := w) (a := ⟨b, off + j, none⟩) (g.keep b e3 (h.2 b hb))]
    exact e4 j hj
/-- Results, cell by cell. -/
def ResRow (L : Lab) (w : World) : List Res → List Value → Prop
  | [], cs => cs = []
  | r :: rs, cs => ∃ vp cs', cs = [.int .i64 (r.e : Int), .int .i64 (r.value : Int), vp, .int .i64 (r.over : Int), .int .i64 (r.reason : Int)] ++ cs' ∧ FRow L w 2 vp (pairCs r.pairs) ∧ ResRow L w rs cs'
theorem ResRow.soft {L L' : Lab} {w w' : World} (g : Soft L w L' w') : ∀ {rs : List Res} {cs : List Value}, ResRow L w rs cs → ResRow L' w' rs cs
  | [], _, h => h
  | _ :: _, _, ⟨vp, cs', h1, h2, h3⟩ => ⟨vp, cs', h1, h2.soft g, h3.soft g⟩
theorem ResRow.snoc {L : Lab} {w : World} : ∀ {rs : List Res} {cs : List Value} (_ : ResRow L w rs cs) (r : Res) (vp : Value) (_ : FRow L w 2 vp (pairCs r.pairs)), ResRow L w (rs ++ [r]) (cs ++ [.int .i64 (r.e : Int), .int .i64 (r.value : Int), vp, .int .i64 (r.over : Int), .int .i64 (r.reason : Int)])
  | [], _, h, r, vp, f => ⟨vp, [], by rw [show _ = _ from h]; rfl, f, rfl⟩
  | _ :: _, _, ⟨vp', cs', h1, h2, h3⟩, r, vp, f => ⟨vp', _, by rw [h1, List.append_assoc], h2, h3.snoc r vp f⟩
theorem Grow.soft {L L' : Lab} {w w' : World} (g : Grow L w L' w') : Soft L w L' w' := ⟨g.size, g.block, fun b hb e => (g.lab b hb).trans e⟩
end Go.Proofs.YtbefcdjcefmicaaGreat.Em

namespace Go.Proofs.YtbefcdjcefmicaaGreat.Em
open Go.ChangeShapes Go.WideShapes Go.ChangeAt Go.RowKit En
set_option linter.unusedVariables false
set_option linter.unusedSimpArgs false
set_option maxRecDepth 100000
set_option maxHeartbeats 1600000

/-- The state ahead of a call's first step. -/
def issueSt (σ : St) (s : Nat) (o : En.Op) (t : Txn) : St := if opEnds o then (({ σ with seq := σ.seq + 1 } : St).setC s (callOf o (σ.seq + 1))) else (({ (σ.setT s { t with ops := t.ops + 1 }) with seq := σ.seq + 1 } : St).setC s (callOf o (σ.seq + 1)))
def issueOk (σ : St) (s : Nat) (o : En.Op) : Option St :=
  match σ.txns.getD s none with
  | some t =>
    if opOk o = true ∧ (σ.calls.getD s none).isNone = true ∧ (t.ops < 12 ∨ (opEnds o = true ∧ t.ops < 1000000)) ∧ σ.seq < 4000000000000000000 ∧ s < σ.calls.length ∧ s < σ.txns.length ∧ okFirst (issueSt σ s o t) s = true then
      match (issueSt σ s o t).first s with
      | (σ4, k) =>
        match σ4.calls.getD s none with
        | some c4 => if okOthers σ σ4 s = true then some (σ4.setC s { c4 with k := some k }) else none
        | none => none
    else none
  | none => none
theorem setC_at {σ : St} {s : Nat} (c : Cal) (h : s < σ.calls.length) : (σ.setC s c).calls.getD s none = some c := by
  unfold St.setC
  simp [List.getD_eq_getElem?_getD, List.getElem?_set, h]
theorem setT_at {σ : St} {s : Nat} (t : Txn) (h : s < σ.txns.length) : (σ.setT s t).txns.getD s none = some t := by
  unfold St.setT
  simp [List.getD_eq_getElem?_getD, List.getElem?_set, h]
theorem issue_to {σ σ1 : St} {s : Nat} {o : En.Op} (hs : s < 8) (h : issueOk σ s o = some σ1) : IssueTo σ s o σ1 0 := by
  intro A w hL
  unfold issueOk at h
  split at h
  · rename_i t ht
    split at h
    · rename_i hh
      obtain ⟨ho, hn, hop, hsq, hcl, htl, hof⟩ := hh
      have hn' : σ.calls.getD s none = none := by simpa using hn
      split at h
      rename_i σ4 k hf
      split at h
      · rename_i c4 hc4
        split at h
        · rename_i hoth
          obtain rfl := Option.some.inj h
          have hcq := okOthers_iff hoth
          unfold issueSt at hof hf
          cases he : opEnds o with
          | true =>
            rw [he] at hof hf
            simp only [if_true] at hof hf
            exact issue_ends hL s hs t ht o ho he hn' (by omega) hsq (firstTo (t := t) ht (setC_at _ hcl) hof) σ4 k hf c4 hc4 hcq
          | false =>
            rw [he] at hof hf
            simp only [Bool.false_eq_true, if_false] at hof hf
            exact issue_other hL s hs t ht o ho he hn' (hop.resolve_right (fun h => by rw [he] at h; cases h.1)) hsq (firstTo (t := { t with ops := t.ops + 1 }) (setT_at _ htl) (setC_at _ hcl) hof) σ4 k hf c4 hc4 hcq
        · cases h
      · cases h
    · cases h
  · cases h
/-- A transaction begins, whatever the book. -/
def BeginTo (σ : St) (s level : Nat) (σ1 : St) (id : Nat) : Prop := ∀ A w, Live A σ w → Calls Tryz.prog 41 #[.pointer (some ⟨A.be, 0, none⟩), .int .i64 (s : Int), .int .i64 (level : Int)] w (Begun A w σ1 id)
def beginSt (σ : St) (s level : Nat) (σ2 : St) : St :=
  ((((({ σ2 with made := σ.made + 1 } : St).cas 0 (σ.word 0) (clockW (timeOf (σ.word 0) + 1) 0)).put (σ.place (σ.made + 1)) (pack 1 0)).put (1 + s) (timeOf (σ.word 0) + 1)).setT s (txnOf (σ.made + 1) level (timeOf (σ.word 0) + 1))).event { kind := 1, t := σ.made + 1, n := timeOf (σ.word 0) + 1, op := ⟨0, 0, 0, level⟩ }
def beginOk (σ : St) (s level : Nat) : Option (St × Nat) :=
  if 1 ≤ level ∧ level ≤ 3 ∧ (σ.txns.getD s none).isNone = true ∧ (σ.calls.getD s none).isNone = true ∧ σ.made < 2000 ∧ σ.word 0 < 18446744073709551616 ∧ timeOf (σ.word 0) < 281474976710000 ∧ timeOf (σ.word 0) < σ.limit ∧ σ.count < 3000000000000000000 ∧ σ.tale.length < 1000000 then
    if lastOf (σ.word 0) = 0 then some (beginSt σ s level σ.tick, σ.made + 1)
    else if lastOf (σ.word 0) ≤ 2000 then some (beginSt σ s level (σ.tick.help (σ.word 0)), σ.made + 1)
    else none
  else none
theorem begin_to {σ σ1 : St} {s level id : Nat} (hs : s < 8) (h : beginOk σ s level = some (σ1, id)) : BeginTo σ s level σ1 id := by
  intro A w hL
  unfold beginOk at h
  split at h
  · rename_i hh
    obtain ⟨h1, h2, h3, h4, h5, h6, h7, h8, h9, h10⟩ := hh
    split at h
    · rename_i hl
      simp only [Option.some.injEq, Prod.mk.injEq] at h
      obtain ⟨rfl, rfl⟩ := h
      exact begin_new hL s hs level h1 h2 (by simpa using h3) (by simpa using h4) h5 h6 h7 h8 hl h9 h10
    · rename_i hl
      split at h
      · rename_i hl2
        simp only [Option.some.injEq, Prod.mk.injEq] at h
        obtain ⟨rfl, rfl⟩ := h
        exact begin_help hL s hs level h1 h2 (by simpa using h3) (by simpa using h4) h5 h6 h7 h8 ⟨by omega, hl2⟩ h9 h10
      · cases h
  · cases h
end Go.Proofs.YtbefcdjcefmicaaGreat.Em

namespace Go.Proofs.YtbefcdjcefmicaaGreat.Em
open Go.ChangeShapes Go.WideShapes Go.ChangeAt Go.RowKit En
set_option linter.unusedVariables false
set_option linter.unusedSimpArgs false
set_option maxRecDepth 100000
set_option maxHeartbeats 1600000

theorem infoO : (Tryz.prog.info? 31).map (fun i => (i.zero, i.size, i.bytes)) = some (some (.agg #[.int .i64 0, .int .i64 0, .int .i64 0, .int .i64 0]), 4, 32) := by kernel_rfl
theorem grow_nil (n : Nat) (h0 : 0 < n) (hn : n ≤ 1000001) (w : World) : Calls Tryz.prog 95 #[.slice none 0 0, .int .i64 (n : Int)] w fun e w' => ∃ v, e = .returned v ∧ w'.ownsRow w.heap.size 31 4 v 0 [] ∧ Below w.heap.size w w' := by
  obtain ⟨ii, hii, hz0, hz1, hz2⟩ := info_parts infoO
  have hrz : ∀ ty, (Builtin.append_ #[51, 3] ty #[.slice none 0 0, .int .i64 (n : Int)]).run Tryz.prog w =
      .ok (.slice (some ⟨w.heap.size, 0, none⟩) n (grownCap w n 0 31)) (w.drew.alloc (.cells (#[] ++ Builtin.zeroCells (Value.agg #[.int .i64 0, .int .i64 0, .int .i64 0, .int .i64 0]).cells n ++ Builtin.zeroCells (Value.agg #[.int .i64 0, .int .i64 0, .int .i64 0, .int .i64 0]).cells (grownCap w n 0 31 - n)) 31)) := fun ty => by
    have h := Lib.run_append_grow_zeros w 51 3 ty 31 ii _ .i64 .i64 Tryz.underlying51 Tryz.underlying3 hii hz0 none 0 0 [] (by rw [hz1]; exact run_firstCells_none w.drew 4 0 0 0) n h0 (by rw [hz1]; decide) (by omega) (by omega) (by rw [hz2]; omega) (by rw [hz2]; exact growslice_fits (by omega) (by omega))
    simpa using h
  have hGn : n ≤ grownCap w n 0 31 := grownCap_ge w _ _ _
  have hG63 : grownCap w n 0 31 ≤ maxLen := grownCap_le_maxLen w n 0 31 (by unfold maxLen; omega)
  generalize grownCap w n 0 31 = G at *
  have hG64 : G ≤ 9223372036854775807 := hG63
  have n0 : ¬ ((n : Int) < 0) := by omega
  have n1 : (0 : Int) < (n : Int) := by omega
  have n2 : ((0 : Int) < (n : Int)) = True := by simpa using h0
  have HH := Lib.hid (And.intro hGn hG63)
  clear hii hz1 hz2
  go_enter Tryz.func95, Tryz.ntmps95
  go_wp2_with (at_builtin; refine Lib.wpList_append_run _ rfl _ _ _ _ rfl _ _ rfl rfl _ _ (hrz _) ?_)
  go_ret
  refine ⟨_, rfl, ⟨by simp, .inr ⟨w.heap.size, G, _, rfl, Nat.le_refl _, heap_alloc_new _ _, Nat.zero_le _, HH.out.2, ?_, by simp⟩⟩, ?_⟩
  · have := HH.out.1
    simp [size_zeroCells, Value.cells]
    omega
  · exact ((Below.refl _ w).drew).alloc (Nat.le_refl _) _
theorem concat_two {w : World} (g : Nat) (a1 a2 : Option Addr) (n1 c1 c2 : Nat) (xs1 xs2 : List Value) (hg : g < w.heap.size) (x0 : w.cell? ⟨g, 0, none⟩ = some (.slice a1 n1 c1)) (x1 : w.cell? ⟨g, 1, none⟩ = some (.slice a2 1 c2)) (hr1 : Ow.Row w 0 4 (.slice a1 n1 c1) xs1) (hr2 : Ow.Row w 0 4 (.slice a2 1 c2) xs2) (h1s : ∀ u ∈ xs1, u.oneCell' = true) (h2s : ∀ u ∈ xs2, u.oneCell' = true) (hn : n1 ≤ 1000000) :
    Calls Tryz.prog 65 #[.slice (some ⟨g, 0, none⟩) 2 2] w fun e w' => ∃ v, e = .returned v ∧ w'.ownsRow w.heap.size 31 4 v (n1 + 1) (xs1 ++ xs2) ∧ Below w.heap.size w w' := by
  obtain ⟨ii, hii, hz0, hz1, hz2⟩ := info_parts infoO
  have l1 : xs1.length = n1 * 4 := by obtain ⟨_, _, _, e, h, _⟩ := hr1; simp only [Value.slice.injEq] at e; obtain ⟨_, rfl, _⟩ := e; exact h
  have l2 : xs2.length = 1 * 4 := by obtain ⟨_, _, _, e, h, _⟩ := hr2; simp only [Value.slice.injEq] at e; obtain ⟨_, rfl, _⟩ := e; exact h
  have nn : IntKind.i64.wrap ((n1 : Int) + 1) = (n1 : Int) + 1 := by rw [IntKind.wrap_i64]; omega
  have nw : wrap64 ((n1 : Int) + 1) = (n1 : Int) + 1 := by unfold wrap64; omega
  have nw0 : wrap64 (n1 : Int) = (n1 : Int) := by unfold wrap64; omega
  have n5 : ¬ ((n1 : Int) < 0) := by omega
  have n6 : ¬ ((n1 : Int) + 1 < 0) := by omega
  have n3 : ((n1 : Int) < 0) = False := by simp
  have n4 : ((n1 : Int) + 1 < 0) = False := by simp; omega
  have HG := Lib.hid (grow_nil (n1 + 1) (by omega) (by omega) w)
  have HX : Hid (∀ w', Below w.heap.size w w' → w'.cell? ⟨g, 0, none⟩ = some (.slice a1 n1 c1) ∧ w'.cell? ⟨g, 1, none⟩ = some (.slice a2 1 c2) ∧ Ow.Row w' 0 4 (.slice a1 n1 c1) xs1 ∧ Ow.Row w' 0 4 (.slice a2 1 c2) xs2) := fun w' hb => ⟨by rw [hb.cell (p := ⟨g, 0, none⟩) hg]; exact x0, by rw [hb.cell (p := ⟨g, 1, none⟩) hg]; exact x1, hr1.below hb, hr2.below hb⟩
  have HS := Lib.hid (And.intro h1s (And.intro h2s (And.intro l1 l2)))
  have HN := Lib.hid hn
  clear hr1 hr2 h1s h2s l1 l2 hn
  go_enter Tryz.func65, Tryz.ntmps65
  go_wp2_with fail
  go_loopw [3, 11] (fun z i wr => ∃ k : Nat, k ≤ 2 ∧ i = .int .i64 (k : Int) ∧ z = (if k = 0 then .int .i64 0 else if k = 1 then .int .i64 (n1 : Int) else .int .i64 ((n1 : Int) + 1)) ∧ w = wr) (fun _ i _ => 2 - (intOf i).toNat)
  case atStart => exact ⟨0, by omega, rfl, rfl, rfl⟩
  case round =>
    obtain ⟨k, hk, rfl, rfl, rfl⟩ := hrel
    obtain rfl | rfl | rfl : k = 0 ∨ k = 1 ∨ k = 2 := by omega
    · go_wp2_with fail
      go_roundw
      case rel => exact ⟨1, by omega, rfl, by have := HN.out; simp; unfold wrap64; omega, trivial⟩
      case measure => decide
    · go_wp2_with fail
      go_roundw
      case rel => exact ⟨2, by omega, rfl, by simp [wrap64] <;> omega, trivial⟩
      case measure => decide
    · go_wp2_with (go_at_call 95; refine HG.out.mono ?_; rintro e w2 ⟨v, rfl, q1, q2⟩)
      go_loopw [6, 27] (fun z i wr => ∃ k : Nat, k ≤ 2 ∧ i = .int .i64 (k : Int) ∧ wr.ownsRow w.heap.size 31 4 z (if k = 0 then 0 else if k = 1 then n1 else n1 + 1) (if k = 0 then [] else if k = 1 then xs1 else xs1 ++ xs2) ∧ Below w.heap.size w wr) (fun _ i _ => 2 - (intOf i).toNat)
      case atStart => exact ⟨0, by omega, rfl, q1, q2⟩
      case round =>
        obtain ⟨k, hk, rfl, q1, q2⟩ := hrel
        obtain ⟨y0, y1, y2, y3⟩ := HX.out _ q2
        obtain ⟨av, cap, rfl, _⟩ := Ow.own_form q1
        have HQ := Lib.hid (And.intro y2 (And.intro y3 (And.intro q1 q2)))
        clear y2 y3 q1 q2
        obtain rfl | rfl | rfl : k = 0 ∨ k = 1 ∨ k = 2 := by omega
        · go_wp2_with (refine Ow.wpList_append_row _ rfl (.tmp 31) (.tmp 32) 51 rfl w.heap.size 31 ii _ 4 32 Tryz.underlying51 hii hz0 hz1 hz2 rfl (by decide) (.slice av 0 cap) 0 [] rfl HQ.out.2.2.1 0 (.slice a1 n1 c1) xs1 rfl HQ.out.1 n1 HS.out.2.2.1 HS.out.1 (by have := HN.out; unfold maxLen; omega) (by have := HN.out; omega) (HQ.out.2.2.2.size) ?_; intro v' w4 q1 q2)
          go_roundw
          case rel => exact ⟨1, by omega, rfl, by simpa using q1, Ow.grown_below HQ.out.2.2.1 HQ.out.2.2.2 HQ.out.2.2.2.size q2⟩
          case measure => decide
        · go_wp2_with (refine Ow.wpList_append_row _ rfl (.tmp 31) (.tmp 32) 51 rfl w.heap.size 31 ii _ 4 32 Tryz.underlying51 hii hz0 hz1 hz2 rfl (by decide) (.slice av n1 cap) n1 xs1 rfl HQ.out.2.2.1 0 (.slice a2 1 c2) xs2 rfl HQ.out.2.1 1 HS.out.2.2.2 HS.out.2.1 (by have := HN.out; unfold maxLen; omega) (by have := HN.out; omega) (HQ.out.2.2.2.size) ?_; intro v' w4 q1 q2)
          go_roundw
          case rel => exact ⟨2, by omega, rfl, by simpa using q1, Ow.grown_below HQ.out.2.2.1 HQ.out.2.2.2 HQ.out.2.2.2.size q2⟩
          case measure => decide
        · go_wp2_with fail
          go_ret
          exact ⟨_, rfl, HQ.out.2.2.1, HQ.out.2.2.2⟩
end Go.Proofs.YtbefcdjcefmicaaGreat.Em

namespace Go.Proofs.YtbefcdjcefmicaaGreat.Em
open Go.ChangeShapes Go.WideShapes Go.ChangeAt Go.RowKit En
set_option linter.unusedVariables false
set_option linter.unusedSimpArgs false
set_option maxRecDepth 100000
set_option maxHeartbeats 1600000

theorem clip_any (a : Option Addr) (n cap : Nat) (h1 : n ≤ cap) (h2 : cap ≤ 9223372036854775807) (h3 : a = none → cap = 0) (w : World) : Calls Tryz.prog 66 #[.slice a n cap] w fun e w' => e = .returned (.slice a n n) ∧ w = w' := by
  cases a with
  | none =>
    obtain rfl := h3 rfl
    obtain rfl : n = 0 := by omega
    go_enter Tryz.func66, Tryz.ntmps66
    go_wp2
    go_ret
    exact ⟨rfl, rfl⟩
  | some a =>
    clear h3
    obtain ⟨ab, ao, asp⟩ := a
    go_enter Tryz.func66, Tryz.ntmps66
    go_wp2
    go_ret
    exact ⟨rfl, rfl⟩
theorem own_none {w : World} {base : Nat} {e : TypeId} {size : Nat} {a : Option Addr} {n cap : Nat} {xs : List Value} (h : w.ownsRow base e size (.slice a n cap) n xs) (ha : a = none) : cap = 0 := by
  rcases h.2 with ⟨h0, _⟩ | ⟨g, cap', cur, h0, _⟩
  · simp at h0; exact h0.2.2
  · simp only [Value.slice.injEq] at h0; rw [ha] at h0; cases h0.1
theorem FRow.at {L : Lab} {w : World} {size : Nat} {g n cap : Nat} {xs : List Value} (h : FRow L w size (.slice (some ⟨g, 0, none⟩) n cap) xs) {j : Nat} {v : Value} (hj : xs[j]? = some v) : w.cell? ⟨g, j, none⟩ = some v := by
  obtain ⟨a, n', cap', h1, h2, h3, h4, h5⟩ := h
  have hlt : j < xs.length := (List.getElem?_eq_some_iff.1 hj).1
  simp only [Value.slice.injEq] at h1
  obtain ⟨rfl, rfl, rfl⟩ := h1
  rcases h5 with h5 | ⟨g', off, e1, e2, e3, e4⟩
  · subst h5; omega
  · simp only [Option.some.injEq, Addr.mk.injEq] at e1
    obtain ⟨rfl, rfl, _⟩ := e1
    have := e4 j (by omega)
    rw [Nat.zero_add, hj] at this
    exact this
def opsCs : List En.Op → List Value
  | [] => []
  | o :: l => .int .i64 (o.kind : Int) :: .int .i64 (o.key : Int) :: .int .i64 (o.hi : Int) :: .int .i64 (o.value : Int) :: opsCs l
theorem opsCs_append : ∀ a b : List En.Op, opsCs (a ++ b) = opsCs a ++ opsCs b
  | [], _ => rfl
  | o :: l, b => by show _ :: _ :: _ :: _ :: opsCs (l ++ b) = _; rw [opsCs_append l b]; rfl
theorem opsCs_length : ∀ l : List En.Op, (opsCs l).length = l.length * 4
  | [] => rfl
  | o :: l => by show (opsCs l).length + 1 + 1 + 1 + 1 = _; rw [opsCs_length l, List.length_cons]; omega
theorem opsCs_one : ∀ l : List En.Op, ∀ u ∈ opsCs l, u.oneCell' = true
  | [], _, h => by cases h
  | o :: l, u, h => by
    simp only [opsCs, List.mem_cons] at h
    rcases h with rfl | rfl | rfl | rfl | h
    · rfl
    · rfl
    · rfl
    · rfl
    · exact opsCs_one l u h
theorem opsCs_get : ∀ (l : List En.Op) (k : Nat) (o : En.Op), l[k]? = some o → (opsCs l)[k * 4]? = some (.int .i64 (o.kind : Int)) ∧ (opsCs l)[k * 4 + 1]? = some (.int .i64 (o.key : Int)) ∧ (opsCs l)[k * 4 + 2]? = some (.int .i64 (o.hi : Int)) ∧ (opsCs l)[k * 4 + 3]? = some (.int .i64 (o.value : Int))
  | [], _, _, h => by cases h
  | o' :: l, 0, o, h => by obtain rfl : o' = o := by simpa using h
                           exact ⟨rfl, rfl, rfl, rfl⟩
  | o' :: l, k + 1, o, h => by
    have := opsCs_get l k o (by simpa using h)
    rw [show (k + 1) * 4 = k * 4 + 1 + 1 + 1 + 1 by omega]
    exact this
/-- Calls, one behind the other, until one ends the transaction. -/
def wholeLoop (F : Nat) : St → Nat → List En.Op → List Res → Option (St × List Res × Nat)
  | σ, _, [], acc => some (σ, acc, 0)
  | σ, s, o :: os, acc => match issueOk σ s o with
    | some σ1 => match runDo F σ1 s with
      | some (σ2, r, err) => if err ≠ 0 then some (σ2, [], err) else if r.over ≠ 0 then some (σ2, acc ++ [r], 0) else wholeLoop F σ2 s os (acc ++ [r])
      | none => none
    | none => none
def runWhole (F : Nat) (σ : St) (s level : Nat) (ops : List En.Op) : Option (St × List Res × Nat) :=
  match beginOk σ s level with
  | some (σ1, _) => wholeLoop F σ1 s (ops ++ [⟨6, 0, 0, 0⟩]) []
  | none => none
/-- What a whole transaction answers. -/
def Wholed (A : Book) (w : World) (σ' : St) (rs : List Res) (err : Nat) : Ending → World → Prop := fun e w' => ∃ A' vo cs, e = .returned (.tuple #[vo, .int .i64 (err : Int)]) ∧ TRow A'.L w' 5 vo cs ∧ ResRow A'.L w' rs cs ∧ Live A' σ' w' ∧ Grow A.L w A'.L w' ∧ A'.be = A.be
theorem infoR : (Tryz.prog.info? 42).map (fun i => (i.zero, i.size, i.bytes)) = some (some (.agg #[.int .i64 0, .int .i64 0, .slice none 0 0, .int .i64 0, .int .i64 0]), 5, 56) := by kernel_rfl
theorem FRow.row {L : Lab} {w : World} {size : Nat} {v : Value} {xs : List Value} (h : FRow L w size v xs) : Ow.Row w 0 size v xs := by
  obtain ⟨a, n, cap, h1, h2, h3, h4, h5⟩ := h
  refine ⟨a, n, cap, h1, h2, h3, h4, ?_⟩
  rcases h5 with h5 | ⟨g, off, e1, e2, e3, e4⟩
  · exact .inl h5
  · exact .inr ⟨g, off, e1, Nat.zero_le _, e3, e4⟩
theorem trow_clip {L : Lab} {w : World} {base : Nat} {e : TypeId} {size : Nat} {a : Option Addr} {n cap : Nat} {xs : List Value} (h : w.ownsRow base e size (.slice a n cap) n xs) (ht : TmpRow L (.slice a n cap)) : TRow L w size (.slice a n n) xs := by
  obtain ⟨a', cap', e1, h1, h2, h3⟩ := Ow.own_form h
  simp only [Value.slice.injEq] at e1
  obtain ⟨rfl, _, rfl⟩ := e1
  refine ⟨?_, fun b hb => ht b (by cases a with | none => cases hb | some a => exact hb)⟩
  obtain ⟨a0, n0, c0, e0, k1, k2, k3, k4⟩ := h3
  refine ⟨a0, n0, c0, e0, k1, k2, k3, ?_⟩
  rcases k4 with k4 | ⟨g, off, e1, e2, e3, e4⟩
  · exact .inl k4
  · exact .inr ⟨g, off, e1, Nat.zero_le _, e3, e4⟩
theorem whole_any {A : Book} {σ : St} {w : World} (hL : Live A σ w) (s : Nat) (hs : s < 8) (level : Nat) (ops : List En.Op) (a : Option Addr) (n c : Nat) (hr : FRow A.L w 4 (.slice a n c) (opsCs ops)) (hn : n ≤ 100000) (F : Nat) (hF : F ≤ 13824000) (σ' : St) (rs : List Res) (err : Nat) (hrun : runWhole F σ s level ops = some (σ', rs, err)) :
    Calls Tryz.prog 34 #[.pointer (some ⟨A.be, 0, none⟩), .int .i64 (s : Int), .int .i64 (level : Int), .slice a n c] w (Wholed A w σ' rs err) := by
  obtain ⟨ii, hii, hz0, hz1, hz2⟩ := info_parts infoR
  unfold runWhole at hrun
  split at hrun
  · rename_i σ1 id hbe
    have hB := begin_to hs hbe A w hL
    obtain ⟨all, hall⟩ : ∃ all, all = ops ++ [⟨6, 0, 0, 0⟩] := ⟨_, rfl⟩
    have hlen : ops.length = n := by
      obtain ⟨_, _, _, e1, e2, _⟩ := hr
      simp only [Value.slice.injEq] at e1
      obtain ⟨_, rfl, _⟩ := e1
      rw [opsCs_length] at e2
      omega
    have hal : all.length = n + 1 := by rw [hall]; simp [hlen]
    have hac : opsCs all = opsCs ops ++ [.int .i64 6, .int .i64 0, .int .i64 0, .int .i64 0] := by rw [hall, opsCs_append]; rfl
    rw [← hall] at hrun
    -- behind Begin: two blocks are laid, the rows are put one behind the other
    have H2 : Hid (∀ A1 w1, Live A1 σ1 w1 → Grow A.L w A1.L w1 → Calls Tryz.prog 65 #[.slice (some ⟨w1.heap.size + 1, 0, none⟩) 2 2] ((w1.alloc (.cells #[.int .i64 6, .int .i64 0, .int .i64 0, .int .i64 0] 31)).alloc (.cells #[.slice a n c, .slice (some ⟨w1.heap.size, 0, none⟩) 1 1] 51)) (fun e w' => ∃ g cap, e = .returned (.slice (some ⟨g, 0, none⟩) (n + 1) cap) ∧ cap ≤ maxLen ∧ n + 1 ≤ cap ∧ Live A1 σ1 w' ∧ Grow A1.L w1 A1.L w' ∧ FRow A1.L w' 4 (.slice (some ⟨g, 0, none⟩) (n + 1) cap) (opsCs all))) := by
      intro A1 w1 q g1
      obtain ⟨r2, g2, f0, f1⟩ := allocs2 q.rep #[.int .i64 6, .int .i64 0, .int .i64 0, .int .i64 0] 31 #[.slice a n c, .slice (some ⟨w1.heap.size, 0, none⟩) 1 1] 51
      have row2 : Ow.Row ((w1.alloc (.cells #[.int .i64 6, .int .i64 0, .int .i64 0, .int .i64 0] 31)).alloc (.cells #[.slice a n c, .slice (some ⟨w1.heap.size, 0, none⟩) 1 1] 51)) 0 4 (.slice (some ⟨w1.heap.size, 0, none⟩) 1 1) [.int .i64 6, .int .i64 0, .int .i64 0, .int .i64 0] := by
        refine ⟨_, 1, 1, rfl, rfl, Nat.le_refl _, by unfold maxLen; omega, .inr ⟨w1.heap.size, 0, rfl, Nat.zero_le _, by simp; omega, fun j hj => ?_⟩⟩
        rw [Nat.zero_add]
        obtain rfl | rfl | rfl | rfl : j = 0 ∨ j = 1 ∨ j = 2 ∨ j = 3 := by omega
        · exact f0.cell 0 rfl
        · exact f0.cell 1 rfl
        · exact f0.cell 2 rfl
        · exact f0.cell 3 rfl
      have hc := concat_two (w := ((w1.alloc (.cells #[.int .i64 6, .int .i64 0, .int .i64 0, .int .i64 0] 31)).alloc (.cells #[.slice a n c, .slice (some ⟨w1.heap.size, 0, none⟩) 1 1] 51))) (w1.heap.size + 1) a (some ⟨w1.heap.size, 0, none⟩) n c 1 (opsCs ops) [.int .i64 6, .int .i64 0, .int .i64 0, .int .i64 0] (by simp) (f1.cell 0 rfl) (f1.cell 1 rfl) ((hr.grow g1).grow g2).row row2 (opsCs_one ops) (by intro u hu; simp at hu; rcases hu with rfl | rfl <;> rfl) (by omega)
      refine hc.mono ?_
      rintro e w' ⟨v, rfl, q1, q2⟩
      rw [← hac] at q1
      have hsz : w1.heap.size ≤ (((w1.alloc (.cells #[.int .i64 6, .int .i64 0, .int .i64 0, .int .i64 0] 31)).alloc (.cells #[.slice a n c, .slice (some ⟨w1.heap.size, 0, none⟩) 1 1] 51))).heap.size := g2.size
      rcases q1.2 with ⟨_, h0⟩ | ⟨g, cap, cur, rfl, hb, hg, hnc, hcm, _⟩
      · omega
      · refine ⟨g, cap, rfl, hcm, hnc, q.world (r2.below q2) (g2.trans (Grow.below q2)), g2.trans (Grow.below q2), some ⟨g, 0, none⟩, n + 1, cap, rfl, q1.1, hnc, hcm, .inr ⟨g, 0, rfl, q.rep.mem.fresh g (Nat.le_trans hsz hb), (q1.lt g rfl).2, fun j hj => ?_⟩⟩
        rw [Nat.zero_add]
        exact q1.cellAt j hj
    have HB := Lib.hid hB
    have HR := Lib.hid (And.intro hrun (And.intro hal (And.intro hs (And.intro hF hn))))
    have HN := Lib.hid hn
    clear hrun hbe hB hr hac hall hlen hL hn hal hs hF
    go_enter Tryz.func34, Tryz.ntmps34
    go_wp2_with (first | (go_at_call 41; refine HB.out.mono ?_; rintro e w1 ⟨A1, rfl, q1, q2, q3⟩; have HC := Lib.hid (H2.out A1 w1 q1 q2); have H1 := Lib.hid (And.intro q2 q3); clear q1 q2 q3) | (go_at_call 65; refine HC.out.mono ?_; rintro e w3 ⟨g, cap, rfl, p0, p1, p2, p3, p4⟩; have HP := Lib.hid (And.intro p2 (And.intro (H1.out.1.trans p3) (And.intro p4 (And.intro p0 p1)))); clear p2 p3 p4))
    go_loopw [12, 33] (fun z i wr => ∃ (k : Nat) (σk : St) (A' : Book) (acc : List Res) (cs : List Value), k ≤ n + 1 ∧ i = .int .i64 (k : Int) ∧ acc.length = k ∧ wholeLoop F σk s (all.drop k) acc = some (σ', rs, err) ∧ Live A' σk wr ∧ Grow A.L w A'.L wr ∧ A'.be = A.be ∧ FRow A'.L wr 4 (.slice (some ⟨g, 0, none⟩) (n + 1) cap) (opsCs all) ∧ wr.ownsRow w.heap.size 42 5 z acc.length cs ∧ ResRow A'.L wr acc cs ∧ TmpRow A'.L z) (fun _ i _ => n + 1 - (intOf i).toNat)
    case atStart =>
      obtain ⟨p2, p3, p4, _⟩ := HP.out
      exact ⟨0, σ1, A1, [], [], Nat.zero_le _, rfl, rfl, HR.out.1, p2, p3, H1.out.2, p4, ⟨rfl, .inl ⟨rfl, rfl⟩⟩, rfl, fun b hb => by cases hb⟩
    case round =>
      obtain ⟨k, σk, A', acc, cs, hk, rfl, hak, hrun, hL, gr, eb, hfr, hown, hres, htm⟩ := hrel
      rw [hak] at hown
      obtain ⟨av, cp, rfl, hc1, hc2, _⟩ := Ow.own_form hown
      obtain ⟨_, hal, hs, hF, hn⟩ := HR.out
      by_cases hlt : k < n + 1
      · have hk' : k < all.length := by omega
        obtain ⟨o, ho⟩ : ∃ o, all[k]? = some o := ⟨_, List.getElem?_eq_getElem hk'⟩
        have hd : all.drop k = o :: all.drop (k + 1) := by rw [List.drop_eq_getElem_cons hk', (List.getElem?_eq_some_iff.1 ho).2]
        rw [hd] at hrun
        unfold wholeLoop at hrun
        obtain ⟨x0, x1, x2, x3⟩ := opsCs_get all k o ho
        have X0 := hfr.at x0
        have X1 := hfr.at x1
        have X2 := hfr.at x2
        have X3 := hfr.at x3
        clear x0 x1 x2 x3 hd
        split at hrun
        · rename_i σ3 hi
          split at hrun
          · rename_i σ2 r e2 hdo
            have hD := do_any (hL.alloc (.cells #[.int .i64 (o.kind : Int), .int .i64 (o.key : Int), .int .i64 (o.hi : Int), .int .i64 (o.value : Int)] 31)) s hs o σ3 (issue_to hs hi) F hF σ2 r e2 hdo
            rw [eb] at hD
            have HD := Lib.hid hD
            -- behind Do: two blocks of results
            have H5 : Hid (∀ A5 w5 va vn vc, FRow A5.L w5 2 (.slice va vn vc) (pairCs r.pairs) → Live A5 σ2 w5 → Grow A'.L (wr.alloc (.cells #[.int .i64 (o.kind : Int), .int .i64 (o.key : Int), .int .i64 (o.hi : Int), .int .i64 (o.value : Int)] 31)) A5.L w5 → A5.be = A'.be →
                Grow A.L w A5.L w5 ∧ ∀ w6 w7, w6 = w5.alloc (.cells #[.int .i64 (r.e : Int), .int .i64 (r.value : Int), .slice va vn vc, .int .i64 (r.over : Int), .int .i64 (r.reason : Int)] 42) → w7 = w6.alloc (.cells #[.int .i64 (r.e : Int), .int .i64 (r.value : Int), .slice va vn vc, .int .i64 (r.over : Int), .int .i64 (r.reason : Int)] 42) → Live A5 σ2 w7 ∧ Grow A.L w A5.L w7 ∧ A5.be = A.be ∧ FRow A5.L w7 4 (.slice (some ⟨g, 0, none⟩) (n + 1) cap) (opsCs all) ∧ w7.ownsRow w.heap.size 42 5 (.slice av k cp) k cs ∧ ResRow A5.L w7 (acc ++ [r]) (cs ++ [.int .i64 (r.e : Int), .int .i64 (r.value : Int), .slice va vn vc, .int .i64 (r.over : Int), .int .i64 (r.reason : Int)]) ∧ TmpRow A5.L (.slice av k cp) ∧
                  ∀ w8, w7.grownBy w8 (Value.slice av k cp).ownBlock → w8.cell? ⟨w5.heap.size, 3, none⟩ = some (.int .i64 (r.over : Int))) := by
              intro A5 w5 va vn vc p1 p2 p3 p4
              have ga := (Grow.alloc A'.L wr (.cells #[.int .i64 (o.kind : Int), .int .i64 (o.key : Int), .int .i64 (o.hi : Int), .int .i64 (o.value : Int)] 31)).trans p3
              refine ⟨gr.trans ga, ?_⟩
              rintro w6 w7 rfl rfl
              have gb := (Grow.alloc A5.L w5 (.cells #[.int .i64 (r.e : Int), .int .i64 (r.value : Int), .slice va vn vc, .int .i64 (r.over : Int), .int .i64 (r.reason : Int)] 42)).trans (Grow.alloc A5.L _ (.cells #[.int .i64 (r.e : Int), .int .i64 (r.value : Int), .slice va vn vc, .int .i64 (r.over : Int), .int .i64 (r.reason : Int)] 42))
              have gc := ga.trans gb
              have hbl : ∀ b, (Value.slice av k cp).ownBlock = some b → b < wr.heap.size := fun b hb => (hown.lt b hb).2
              refine ⟨(p2.alloc _).alloc _, gr.trans gc, p4.trans eb, hfr.grow gc, own_same hown fun b hb => gc.keep b (hbl b hb) (htm b hb), (hres.soft gc.soft).snoc r _ (p1.grow gb), fun b hb => (gc.lab b (hbl b hb)).trans (htm b hb), ?_⟩
              intro w8 hg
              rw [World.cell?_of_block (w := (w5.alloc (.cells #[.int .i64 (r.e : Int), .int .i64 (r.value : Int), .slice va vn vc, .int .i64 (r.over : Int), .int .i64 (r.reason : Int)] 42)).alloc (.cells #[.int .i64 (r.e : Int), .int .i64 (r.value : Int), .slice va vn vc, .int .i64 (r.over : Int), .int .i64 (r.reason : Int)] 42)) (hg.block w5.heap.size (by simp; omega) (by intro hh; have h1 := hbl _ hh.symm; have h2 := ga.size; omega))]
              exact ((fix_next p2.rep.mem.fresh (.cells #[.int .i64 (r.e : Int), .int .i64 (r.value : Int), .slice va vn vc, .int .i64 (r.over : Int), .int .i64 (r.reason : Int)] 42) rfl).grow (Grow.alloc A5.L _ _)).cell 3 rfl
            have HQ := Lib.hid (And.intro hrun (And.intro hlt (And.intro hak (And.intro hk' (And.intro hn hs)))))
            have b1 : (k : Int) < (n : Int) + 1 := by omega
            have b0 : (0 : Int) ≤ (k : Int) := by omega
            have n1 : IntKind.i64.wrap ((k : Int) + 1) = (k : Int) + 1 := by rw [IntKind.wrap_i64]; omega
            clear hD hdo hi hrun hlt hak hk' hL gr eb hfr hown hres htm ho hal hF hn hs hk
            have HA := Lib.hid (And.intro hc1 hc2)
            clear hc1 hc2
            by_cases he : e2 = 0
            · subst he
              by_cases hv : r.over = 0
              · have v1 : ((r.over : Int) == 0) = true := by simp; omega
                have v2 : ((r.over : Int) != 0) = false := by simp; omega
                have v3 : ((r.over : Int) = 0) = True := by simp; omega
                have v4 : (r.over = 0) = True := by simp; omega
                have HV := Lib.hid hv
                clear hv
                go_wp2_with (first | (go_at_call 37; refine HD.out.mono ?_; rintro e w5 ⟨A5, vp, rfl, p1, p2, p3, p4⟩; obtain ⟨va, vn, vc, rfl⟩ := frow_form p1; have H6 := Lib.hid (H5.out A5 w5 va vn vc p1 p2 p3 p4); have HZ := Lib.hid (H6.out.2 _ _ rfl rfl); have HL5 := Lib.hid (And.intro p2 p4); clear p1 p2 p3 p4) | (refine Ow.wpList_append_to _ rfl (.tmp 47) (.tmp 49) 72 rfl w.heap.size 42 ii _ 5 56 Tryz.underlying72 hii hz0 hz1 hz2 rfl (by decide) (.slice av k cp) k cs rfl HZ.out.2.2.2.2.1 ⟨w5.heap.size + 1, 0, none⟩ 1 1 (by omega) [.int .i64 (r.e : Int), .int .i64 (r.value : Int), .slice va vn vc, .int .i64 (r.over : Int), .int .i64 (r.reason : Int)] rfl rfl (fun j u hu => Ow.new_row (w5.alloc (.cells #[.int .i64 (r.e : Int), .int .i64 (r.value : Int), .slice va vn vc, .int .i64 (r.over : Int), .int .i64 (r.reason : Int)] 42)) [.int .i64 (r.e : Int), .int .i64 (r.value : Int), .slice va vn vc, .int .i64 (r.over : Int), .int .i64 (r.reason : Int)] _ (w5.heap.size + 1) (by simp) j u hu) (by intro u hu; simp at hu; rcases hu with rfl | rfl | rfl | rfl | rfl <;> rfl) (by have := HQ.out.2.1; have := HQ.out.2.2.2.2.1; unfold maxLen; omega) (by have := HQ.out.2.1; have := HQ.out.2.2.2.2.1; omega) HZ.out.2.1.size ?_; intro v' w8 q1 q2 q3; have x3 := HZ.out.2.2.2.2.2.2.2 w8 q2; obtain ⟨av8, cp8, rfl, hc3, hc4, _⟩ := Ow.own_form q1; have hc5 := own_none q1; have HY := Lib.hid (And.intro q1 (And.intro q2 q3)); clear q1 q2 q3))
                obtain ⟨hrun, hlt, hak, hk', hn, hs⟩ := HQ.out
                obtain ⟨l1, l2, l3, l4, l5, l6, l7, _⟩ := HZ.out
                obtain ⟨q1, q2, q3⟩ := HY.out
                obtain ⟨L', hrow, htm'⟩ := append_tmp l1 l7 q1 q2 q3
                have gz := l2.rown hrow (fun b hb => (l5.lt b hb).1)
                rw [if_neg (by simp), if_neg (by simp [HV.out])] at hrun
                refine ⟨⟨k + 1, σ2, { A5 with L := L' }, acc ++ [r], _, by omega, rfl, by simp [hak], hrun, l1.rown hrow, gz, l3, l4.soft hrow.soft, by rw [List.length_append, hak]; exact q1, l6.soft hrow.soft, htm'⟩, ?_⟩
                show n + 1 - ((k : Int) + 1).toNat < n + 1 - ((k : Int)).toNat
                omega
              · have v1 : ((r.over : Int) == 0) = false := by simp; omega
                have v2 : ((r.over : Int) != 0) = true := by simp; omega
                have v3 : ((r.over : Int) = 0) = False := by simp; omega
                have v4 : (r.over = 0) = False := by simp; omega
                have HV := Lib.hid hv
                clear hv
                go_wp2_with (first | (go_at_call 37; refine HD.out.mono ?_; rintro e w5 ⟨A5, vp, rfl, p1, p2, p3, p4⟩; obtain ⟨va, vn, vc, rfl⟩ := frow_form p1; have H6 := Lib.hid (H5.out A5 w5 va vn vc p1 p2 p3 p4); have HZ := Lib.hid (H6.out.2 _ _ rfl rfl); have HL5 := Lib.hid (And.intro p2 p4); clear p1 p2 p3 p4) | (refine Ow.wpList_append_to _ rfl (.tmp 47) (.tmp 49) 72 rfl w.heap.size 42 ii _ 5 56 Tryz.underlying72 hii hz0 hz1 hz2 rfl (by decide) (.slice av k cp) k cs rfl HZ.out.2.2.2.2.1 ⟨w5.heap.size + 1, 0, none⟩ 1 1 (by omega) [.int .i64 (r.e : Int), .int .i64 (r.value : Int), .slice va vn vc, .int .i64 (r.over : Int), .int .i64 (r.reason : Int)] rfl rfl (fun j u hu => Ow.new_row (w5.alloc (.cells #[.int .i64 (r.e : Int), .int .i64 (r.value : Int), .slice va vn vc, .int .i64 (r.over : Int), .int .i64 (r.reason : Int)] 42)) [.int .i64 (r.e : Int), .int .i64 (r.value : Int), .slice va vn vc, .int .i64 (r.over : Int), .int .i64 (r.reason : Int)] _ (w5.heap.size + 1) (by simp) j u hu) (by intro u hu; simp at hu; rcases hu with rfl | rfl | rfl | rfl | rfl <;> rfl) (by have := HQ.out.2.1; have := HQ.out.2.2.2.2.1; unfold maxLen; omega) (by have := HQ.out.2.1; have := HQ.out.2.2.2.2.1; omega) HZ.out.2.1.size ?_; intro v' w8 q1 q2 q3; have x3 := HZ.out.2.2.2.2.2.2.2 w8 q2; obtain ⟨av8, cp8, rfl, hc3, hc4, _⟩ := Ow.own_form q1; have hc5 := own_none q1; have HY := Lib.hid (And.intro q1 (And.intro q2 q3)); clear q1 q2 q3) | (go_at_call 66; refine (clip_any av8 (k + 1) cp8 hc3 hc4 hc5 _).mono ?_; rintro e w9 ⟨rfl, rfl⟩))
                go_ret2
                obtain ⟨hrun, hlt, hak, hk', hn, hs⟩ := HQ.out
                obtain ⟨l1, l2, l3, l4, l5, l6, l7, _⟩ := HZ.out
                obtain ⟨q1, q2, q3⟩ := HY.out
                obtain ⟨L', hrow, htm'⟩ := append_tmp l1 l7 q1 q2 q3
                have gz := l2.rown hrow (fun b hb => (l5.lt b hb).1)
                rw [if_neg (by simp), if_pos (by simp [HV.out])] at hrun
                simp only [Option.some.injEq, Prod.mk.injEq] at hrun
                obtain ⟨rfl, rfl, rfl⟩ := hrun
                exact ⟨{ A5 with L := L' }, _, _, rfl, trow_clip q1 htm', l6.soft hrow.soft, l1.rown hrow, gz, l3⟩
            · have HE := Lib.hid he
              have v1 : ((e2 : Int) == 0) = false := by simp; omega
              have v2 : ((e2 : Int) != 0) = true := by simp; omega
              have v3 : ((e2 : Int) = 0) = False := by simp; omega
              have v4 : (e2 = 0) = False := by simp; omega
              clear he
              go_wp2_with (first | (go_at_call 37; refine HD.out.mono ?_; rintro e w5 ⟨A5, vp, rfl, p1, p2, p3, p4⟩; obtain ⟨va, vn, vc, rfl⟩ := frow_form p1; have H6 := Lib.hid (H5.out A5 w5 va vn vc p1 p2 p3 p4); have HZ := Lib.hid (H6.out.2 _ _ rfl rfl); have HL5 := Lib.hid (And.intro p2 p4); clear p1 p2 p3 p4))
              go_ret2
              obtain ⟨hrun, _⟩ := HQ.out
              rw [if_pos HE.out] at hrun
              simp only [Option.some.injEq, Prod.mk.injEq] at hrun
              obtain ⟨rfl, rfl, rfl⟩ := hrun
              exact ⟨_, _, [], rfl, ⟨⟨none, 0, 0, rfl, rfl, Nat.le_refl _, by unfold maxLen; omega, .inl rfl⟩, fun b hb => by cases hb⟩, rfl, HL5.out.1.alloc _, H6.out.1.trans (Grow.alloc _ _ _), HZ.out.2.2.1⟩
          · cases hrun
        · cases hrun
      · obtain rfl : k = n + 1 := by omega
        rw [List.drop_of_length_le (by omega)] at hrun
        unfold wholeLoop at hrun
        simp only [Option.some.injEq, Prod.mk.injEq] at hrun
        obtain ⟨rfl, rfl, rfl⟩ := hrun
        have hc5 := own_none hown
        have HQ := Lib.hid (And.intro hown (And.intro htm (And.intro hres (And.intro hL (And.intro gr eb)))))
        have b1 : ¬ (((n + 1 : Nat) : Int) < (n : Int) + 1) := by omega
        clear hown htm hres hL gr eb hfr hak hal hs hF hn hlt
        go_wp2_with (first | (go_at_call 66; refine (clip_any av (n + 1) cp hc1 hc2 hc5 _).mono ?_; rintro e w9 ⟨rfl, rfl⟩))
        go_ret2
        obtain ⟨hown, htm, hres, hL, gr, eb⟩ := HQ.out
        exact ⟨A', _, cs, rfl, trow_clip hown htm, hres, hL, gr, eb⟩
  · cases hrun
end Go.Proofs.YtbefcdjcefmicaaGreat.Em
