/- Texts of this claim, laid together: Prp, Prw. -/
import Derived.Test.YtbefcdjcefmicaaGreatGep1
import Derived.Test.YtbefcdjcefmicaaGreatGep2
import Derived.Test.YtbefcdjcefmicaaGreatBase20
import Derived.Test.YtbefcdjcefmicaaGreatBase18
import Derived.Deep.RegionWith
namespace Go.Proofs.YtbefcdjcefmicaaGreat.Em
open Go.ChangeShapes Go.WideShapes Go.ChangeAt Go.RowKit En
set_option linter.unusedVariables false
set_option linter.unusedSimpArgs false
set_option maxRecDepth 100000
set_option maxHeartbeats 1600000
def evSmall (l : List Ev) : Bool := decide (l.length ≤ 20000) && l.all fun e => decide (e.res.pairs.length ≤ 1000000) && (decide (e.n < 9223372036854775808) && (decide (e.t ≤ 1000000) && decide (e.kind < 100)))
theorem evSmall_ok {l : List Ev} (h : evSmall l = true) : l.length ≤ 20000 ∧ ∀ e ∈ l, e.res.pairs.length ≤ 1000000 ∧ e.n < 9223372036854775808 ∧ e.t ≤ 1000000 ∧ e.kind < 100 := by
 unfold evSmall at h
 obtain ⟨h1, h2⟩ := and_ok h
 refine ⟨of_decide_eq_true h1, fun e he => ?_⟩
 have h3 := List.all_eq_true.1 h2 e he
 obtain ⟨h4, h5⟩ := and_ok h3
 obtain ⟨h6, h7⟩ := and_ok h5
 obtain ⟨h8, h9⟩ := and_ok h7
 exact ⟨of_decide_eq_true h4, of_decide_eq_true h6, of_decide_eq_true h8, of_decide_eq_true h9⟩
def stateAt (O : Okr) (k : Nat) : Nat := match O.deals[k]? with | some d => d.state | none => 0
def prepEnd (σ : St) : Bool := evSmall σ.tale && thn (okTale σ.tale ⟨[], [], 0⟩) fun O => decide (O.deals.length = 4 ∧ stateAt O 1 = 3 ∧ stateAt O 2 = 3 ∧ stateAt O 3 = 3)
def prepRun (L M : Nat) : Bool :=
 thn (twoSt L 1) fun σ0 => thn (runPrep 1000 σ0 0) fun a => decide (a.2 = false) && thn (issueOk a.1 0 ⟨3, 1, 0, 11⟩) fun σ2 => thn (runDo 1000 σ2 0) fun b => decide (b.2.2 = 0 ∧ b.2.1.e = 0) && thn (issueOk b.1 0 ⟨6, 0, 0, 0⟩) fun σ4 => thn (runPrep 1000 σ4 0) fun c => decide (c.2 = true ∧ (c.1.status 0).live = true ∧ (c.1.status 0).busy = true ∧ (c.1.status 0).state = 2 ∧ (c.1.status 0).end_ = c.1.now ∧ c.1.word 0 < 18446744073709551616) &&
 thn (beginOk c.1 2 M) fun d => thn (issueOk d.1 1 ⟨1, 1, 0, 0⟩) fun σ7 => thn (runDo 1000 σ7 1) fun f => decide (f.2.2 = 0 ∧ f.2.1.value = 10) && thn (issueOk f.1 2 ⟨1, 1, 0, 0⟩) fun σ9 => thn (runDo 1000 σ9 2) fun g => decide (g.2.2 = 0 ∧ g.2.1.value = 11) && thn (runEnd (roundOf [2, 1, 0]) (mostOf g.1.live.length) 1000 g.1 0) fun u => decide (u.2.2 = true) && prepEnd u.1
theorem prep_1_1 : prepRun 1 1 = true := by decide +kernel
theorem prep_1_2 : prepRun 1 2 = true := by decide +kernel
theorem prep_1_3 : prepRun 1 3 = true := by decide +kernel
theorem prep_2_1 : prepRun 2 1 = true := by decide +kernel
theorem prep_2_2 : prepRun 2 2 = true := by decide +kernel
theorem prep_2_3 : prepRun 2 3 = true := by decide +kernel
theorem prep_3_1 : prepRun 3 1 = true := by decide +kernel
theorem prep_3_2 : prepRun 3 2 = true := by decide +kernel
theorem prep_3_3 : prepRun 3 3 = true := by decide +kernel
theorem prep_all (L M : Nat) (h1 : 1 ≤ L) (h2 : L ≤ 3) (h3 : 1 ≤ M) (h4 : M ≤ 3) : prepRun L M = true := by
 obtain rfl | rfl | rfl : L = 1 ∨ L = 2 ∨ L = 3 := by omega
 · obtain rfl | rfl | rfl : M = 1 ∨ M = 2 ∨ M = 3 := by omega
   · exact prep_1_1
   · exact prep_1_2
   · exact prep_1_3
 · obtain rfl | rfl | rfl : M = 1 ∨ M = 2 ∨ M = 3 := by omega
   · exact prep_2_1
   · exact prep_2_2
   · exact prep_2_3
 · obtain rfl | rfl | rfl : M = 1 ∨ M = 2 ∨ M = 3 := by omega
   · exact prep_3_1
   · exact prep_3_2
   · exact prep_3_3
theorem prepRun_ok {L M : Nat} (h : prepRun L M = true) : ∃ σ0 σ1 σ2 σ3 r3 σ4 σ5 σ6 i6 σ7 σ8 r8 σ9 σ10 r10 σ11 n11 O, twoSt L 1 = some σ0 ∧ runPrep 1000 σ0 0 = some (σ1, false) ∧ issueOk σ1 0 ⟨3, 1, 0, 11⟩ = some σ2 ∧ runDo 1000 σ2 0 = some (σ3, r3, 0) ∧ r3.e = 0 ∧ issueOk σ3 0 ⟨6, 0, 0, 0⟩ = some σ4 ∧ runPrep 1000 σ4 0 = some (σ5, true) ∧
 ((σ5.status 0).live = true ∧ (σ5.status 0).busy = true ∧ (σ5.status 0).state = 2 ∧ (σ5.status 0).end_ = σ5.now ∧ σ5.word 0 < 18446744073709551616) ∧ beginOk σ5 2 M = some (σ6, i6) ∧ issueOk σ6 1 ⟨1, 1, 0, 0⟩ = some σ7 ∧ runDo 1000 σ7 1 = some (σ8, r8, 0) ∧ r8.value = 10 ∧ issueOk σ8 2 ⟨1, 1, 0, 0⟩ = some σ9 ∧ runDo 1000 σ9 2 = some (σ10, r10, 0) ∧ r10.value = 11 ∧
 runEnd (roundOf [2, 1, 0]) (mostOf σ10.live.length) 1000 σ10 0 = some (σ11, n11, true) ∧ evSmall σ11.tale = true ∧ okTale σ11.tale ⟨[], [], 0⟩ = some O ∧ O.deals.length = 4 ∧ stateAt O 1 = 3 ∧ stateAt O 2 = 3 ∧ stateAt O 3 = 3 := by
 unfold prepRun at h
 obtain ⟨σ0, h0, h⟩ := thn_ok h
 obtain ⟨⟨σ1, x1⟩, h1, h⟩ := thn_ok h
 obtain ⟨g1, h⟩ := and_ok h
 obtain ⟨σ2, h2, h⟩ := thn_ok h
 obtain ⟨⟨σ3, r3, x3⟩, h3, h⟩ := thn_ok h
 obtain ⟨g3, h⟩ := and_ok h
 obtain ⟨σ4, h4, h⟩ := thn_ok h
 obtain ⟨⟨σ5, x5⟩, h5, h⟩ := thn_ok h
 obtain ⟨g5, h⟩ := and_ok h
 obtain ⟨⟨σ6, i6⟩, h6, h⟩ := thn_ok h
 obtain ⟨σ7, h7, h⟩ := thn_ok h
 obtain ⟨⟨σ8, r8, x8⟩, h8, h⟩ := thn_ok h
 obtain ⟨g8, h⟩ := and_ok h
 obtain ⟨σ9, h9, h⟩ := thn_ok h
 obtain ⟨⟨σ10, r10, x10⟩, h10, h⟩ := thn_ok h
 obtain ⟨g10, h⟩ := and_ok h
 obtain ⟨⟨σ11, n11, x11⟩, h11, h⟩ := thn_ok h
 obtain ⟨g11, h⟩ := and_ok h
 unfold prepEnd at h
 obtain ⟨h12, h⟩ := and_ok h
 obtain ⟨O, h13, hZ⟩ := thn_ok h
 replace g1 := of_decide_eq_true g1
 replace g3 := of_decide_eq_true g3
 replace g5 := of_decide_eq_true g5
 replace g8 := of_decide_eq_true g8
 replace g10 := of_decide_eq_true g10
 replace g11 := of_decide_eq_true g11
 replace hZ := of_decide_eq_true hZ
 simp only at g1 g3 g5 g8 g10 g11
 subst g1 g11
 obtain ⟨rfl, g3⟩ := g3
 obtain ⟨rfl, g5⟩ := g5
 obtain ⟨rfl, g8⟩ := g8
 obtain ⟨rfl, g10⟩ := g10
 exact ⟨σ0, σ1, σ2, σ3, r3, σ4, σ5, σ6, i6, σ7, σ8, r8, σ9, σ10, r10, σ11, n11, O, h0, h1, h2, h3, g3, h4, h5, g5, h6, h7, h8, g8, h9, h10, g10, h11, h12, h13, hZ.1, hZ.2.1, hZ.2.2.1, hZ.2.2.2⟩
end Go.Proofs.YtbefcdjcefmicaaGreat.Em
namespace Go.Proofs.YtbefcdjcefmicaaGreat.Em
open Go.ChangeShapes Go.WideShapes Go.ChangeAt Go.RowKit En
set_option linter.unusedVariables false
set_option linter.unusedSimpArgs false
set_option maxRecDepth 100000
set_option maxHeartbeats 1600000
theorem objp {w : World} {g : Nat} {cs : Array Value} {T : TypeId} (h : w.heap[g]? = some (.cells cs T)) (i : Nat) {v : Value} (hv : cs[i]? = some v) : w.cell? ⟨g, i, none⟩ = some v := by
 rw [cell_of_row w g i _ _ _ h]; exact hv
theorem taleOk {b : Nat} {w0 w : World} {ks : List Kept} {σ : St} (h : EKt b w0 ks σ w) (hs : evSmall σ.tale = true) : Calls Tryz.prog 31 #[.pointer (some ⟨b, 0, none⟩)] w fun e w' => ∃ av ac cs, e = .returned (.slice av σ.tale.length ac) ∧ EKt b w0 ks σ w' ∧ w'.ownsRow w.heap.size 138 12 (.slice av σ.tale.length ac) σ.tale.length cs ∧ EvO w.heap.size w' σ.tale cs := by
 obtain ⟨A, rfl, hL, g, t⟩ := h.ex
 obtain ⟨h1, h2⟩ := evSmall_ok hs
 refine (tale_any hL.rep (by omega) (fun e he => (h2 e he).1)).mono ?_
 rintro e w' ⟨v, cs, rfl, q1, q2, q3⟩
 obtain ⟨av, ac, rfl, _⟩ := Ow.own_form q1
 exact ⟨av, ac, cs, rfl, EKt.below ⟨A, rfl, hL, g, t⟩ q3, q1, q2⟩
theorem dealsOk {b : Nat} {w0 w : World} {ks : List Kept} {σ : St} {O : Okr} {base : Nat} {av : Option Addr} {ac : Nat} {cs : List Value} (h : EKt b w0 ks σ w) (hs : evSmall σ.tale = true) (hO : okTale σ.tale ⟨[], [], 0⟩ = some O) (hv : w.ownsRow base 138 12 (.slice av σ.tale.length ac) σ.tale.length cs) (he : EvO base w σ.tale cs) :
 Calls Tryz.prog 39 #[.slice av σ.tale.length ac] w fun e w' => ∃ dg dc dv vb ds, e = .returned (.tuple #[.bool true, .int .i64 (-1), .slice dg O.deals.length dc]) ∧ EKt b w0 ks σ w' ∧ OkM w.heap.size w' O (.slice dg O.deals.length dc) vb ds ∧ dv = ds := by
 obtain ⟨h1, h2⟩ := evSmall_ok hs
 refine (ok_any w base σ.tale _ cs O hv he h1 h2 hO).mono ?_
 rintro e w' ⟨vd, vb, ds, rfl, hM, hb⟩
 have hr := hM.dr
 rw [hM.len] at hr
 obtain ⟨dg, dc, rfl, _⟩ := Ow.own_form hr
 exact ⟨dg, dc, ds, vb, ds, rfl, h.below hb, hM, rfl⟩
theorem OkM.state {base : Nat} {w : World} {O : Okr} {da : Option Addr} {n dc : Nat} {vb : Value} {ds : List (Dq × Value)} (h : OkM base w O (.slice da n dc) vb ds) (hn : O.deals.length = n) {k z : Nat} (hk : k < n) (hz : stateAt O k = z) : ∃ g, da = some ⟨g, 0, none⟩ ∧ w.cell? ⟨g, k * 6 + 2, none⟩ = some (.int .i64 (z : Int)) := by
 have hr := h.dr
 have hlen : ds.length = n := by rw [h.len]; exact hn
 rw [hlen] at hr
 obtain ⟨g, c, hv, _⟩ := own_head hr (by omega)
 simp only [Value.slice.injEq] at hv
 obtain ⟨rfl, _, rfl⟩ := hv
 refine ⟨g, rfl, ?_⟩
 obtain ⟨d, hd⟩ : ∃ d, O.deals[k]? = some d := ⟨_, List.getElem?_eq_getElem (by omega)⟩
 obtain ⟨v, hv⟩ := h.get hd
 rw [hr.cellAt (k * 6 + 2) (by omega), dqsCs_get _ _ _ (by omega), hv]
 unfold stateAt at hz
 rw [hd] at hz
 simp only at hz
 rw [← hz]
 rfl
set_option maxHeartbeats 8000000 in
theorem prep_law (a' m' : Int) (w : World) : Calls Tryz.prog 10 #[.int .i64 a', .int .i64 m'] w fun e w' => e = .returned (.bool true) ∧ Below w.heap.size w w' := by
 obtain ⟨c, hc, hcs⟩ := mask_to a' 3 (by decide)
 obtain ⟨m, hm, hms⟩ := mask_to m' 3 (by decide)
 replace hcs : (bits .and .i64 a' 255).tmod 3 = (c : Int) := hcs
 replace hms : (bits .and .i64 m' 255).tmod 3 = (m : Int) := hms
 have n1 : IntKind.i64.wrap ((c : Int) + 1) = (c : Int) + 1 := by rw [IntKind.wrap_i64]; omega
 have n2 : IntKind.i64.wrap ((m : Int) + 1) = (m : Int) + 1 := by rw [IntKind.wrap_i64]; omega
 obtain ⟨σ0, σ1, σ2, σ3, r3, σ4, σ5, σ6, i6, σ7, σ8, r8, σ9, σ10, r10, σ11, n11, O, h0, h1, h2, h3, e3, h4, h5, hst, h6, h7, h8, e8, h9, h10, e10, h11, h12, h13, hO4, s1, s2, s3⟩ := prepRun_ok (prep_all (c + 1) (m + 1) (by omega) (by omega) (by omega) (by omega))
 have HTW : Hid (∀ w, Calls Tryz.prog 36 #[.int .i64 ((c : Int) + 1), .int .i64 1] w fun e w' => ∃ b, e = .returned (.pointer (some ⟨b, 0, none⟩)) ∧ EKt b w [] σ0 w') := twoSt_ok h0
 have HAW := Lib.hid awake24
 clear h0 hc hm
 obtain ⟨aa, haa⟩ : ∃ aa, aa = (c : Int) + 1 := ⟨_, rfl⟩
 obtain ⟨mm, hmm⟩ : ∃ mm, mm = (m : Int) + 1 := ⟨_, rfl⟩
 rw [← haa] at HTW
 replace n1 : IntKind.i64.wrap ((c : Int) + 1) = aa := by rw [haa]; exact n1
 replace n2 : IntKind.i64.wrap ((m : Int) + 1) = mm := by rw [hmm]; exact n2
 have HMM := Lib.hid hmm
 clear haa hmm
 go_enter Tryz.func10, Tryz.ntmps10
 go_upto_region 5 with (go_at_call 36; refine (HTW.out _).mono ?_; rintro e w1 ⟨b, rfl, q⟩; have T0 := Lib.hid q; clear q)
 clear HTW
 have HP1 : Hid (∀ ks w1, EKt b w ks σ0 w1 → Calls Tryz.prog 43 #[.pointer (some ⟨b, 0, none⟩), .int .i64 0] w1 (EV b w ks σ1 (.bool false))) := fun ks w1 h => by
  exact prep_kt (s := 0) h (by decide) (by decide : (1000 : Nat) ≤ _) h1
 have HD3 : Hid (∀ ks w1, EKt b w ks σ1 w1 → Calls Tryz.prog 37 #[.pointer (some ⟨b, 0, none⟩), .int .i64 0, .agg #[.int .i64 3, .int .i64 1, .int .i64 0, .int .i64 11]] w1 (fun e w' => ∃ va vc, e = .returned (.tuple #[.agg #[.int .i64 0, .int .i64 (r3.value : Int), .slice va r3.pairs.length vc, .int .i64 (r3.over : Int), .int .i64 (r3.reason : Int)], .int .i64 0]) ∧ EKt b w (.row 2 (.slice va r3.pairs.length vc) (pairCs r3.pairs) :: ks) σ3 w')) := fun ks w1 h => by
  refine (do_kt (s := 0) h (o := ⟨3, 1, 0, 11⟩) (by decide) h2 (by decide : (1000 : Nat) ≤ _) h3).mono ?_
  rintro e w' ⟨va, vn, vc, rfl, hvn, q⟩
  rw [e3]
  subst hvn
  exact ⟨va, vc, rfl, q⟩
 have HI4 : Hid (∀ ks w1, EKt b w ks σ3 w1 → Calls Tryz.prog 17 #[.pointer (some ⟨b, 0, none⟩), .int .i64 0, .agg #[.int .i64 6, .int .i64 0, .int .i64 0, .int .i64 0]] w1 (EV b w ks σ4 (.int .i64 0))) := fun ks w1 h => by
  exact issue_kt (s := 0) (o := ⟨6, 0, 0, 0⟩) h (by decide) h4
 have HP5 : Hid (∀ ks w1, EKt b w ks σ4 w1 → Calls Tryz.prog 43 #[.pointer (some ⟨b, 0, none⟩), .int .i64 0] w1 (EV b w ks σ5 (.bool true))) := fun ks w1 h => by
  exact prep_kt (s := 0) h (by decide) (by decide : (1000 : Nat) ≤ _) h5
 obtain ⟨st1, st2, st3, st4, st5⟩ := hst
 obtain ⟨y1, y2, y3, y4, y6, hcs5⟩ : ∃ (y1 : Bool) (y2 y3 y4 y6 : Int), statusCs (σ5.status 0) = #[.bool true, .bool true, .bool y1, .int .i64 y2, .int .i64 y3, .int .i64 2, .int .u64 y4, .int .u64 (σ5.now : Int), .int .i64 y6] := by
  unfold statusCs
  rw [st1, st2, st3, st4]
  exact ⟨_, _, _, _, _, rfl⟩
 have HS5 : Hid (∀ ks w1, EKt b w ks σ5 w1 → Calls Tryz.prog 18 #[.pointer (some ⟨b, 0, none⟩), .int .i64 0] w1 (EV b w ks σ5 (.agg #[.bool true, .bool true, .bool y1, .int .i64 y2, .int .i64 y3, .int .i64 2, .int .u64 y4, .int .u64 (σ5.now : Int), .int .i64 y6]))) := fun ks w1 h => by
  have hh := status_kt h 0 (by decide)
  rw [hcs5] at hh
  exact hh
 have HN5 : Hid (∀ ks w1, EKt b w ks σ5 w1 → Calls Tryz.prog 27 #[.pointer (some ⟨b, 0, none⟩)] w1 (EV b w ks σ5 (.int .u64 (σ5.now : Int)))) := fun ks w1 h => by
  have hh := now_kt h st5
  exact hh
 have HB6 : Hid (∀ ks w1, EKt b w ks σ5 w1 → Calls Tryz.prog 41 #[.pointer (some ⟨b, 0, none⟩), .int .i64 2, .int .i64 mm] w1 (EV b w ks σ6 (.tuple #[.int .i64 (i6 : Int), .int .i64 0]))) := fun ks w1 h => by
  rw [HMM.out]
  exact begin_kt (s := 2) h (by decide) h6
 have HD8 : Hid (∀ ks w1, EKt b w ks σ6 w1 → Calls Tryz.prog 37 #[.pointer (some ⟨b, 0, none⟩), .int .i64 1, .agg #[.int .i64 1, .int .i64 1, .int .i64 0, .int .i64 0]] w1 (fun e w' => ∃ va vc, e = .returned (.tuple #[.agg #[.int .i64 (r8.e : Int), .int .i64 10, .slice va r8.pairs.length vc, .int .i64 (r8.over : Int), .int .i64 (r8.reason : Int)], .int .i64 0]) ∧ EKt b w (.row 2 (.slice va r8.pairs.length vc) (pairCs r8.pairs) :: ks) σ8 w')) := fun ks w1 h => by
  refine (do_kt (s := 1) h (o := ⟨1, 1, 0, 0⟩) (by decide) h7 (by decide : (1000 : Nat) ≤ _) h8).mono ?_
  rintro e w' ⟨va, vn, vc, rfl, hvn, q⟩
  rw [e8]
  subst hvn
  exact ⟨va, vc, rfl, q⟩
 have HD10 : Hid (∀ ks w1, EKt b w ks σ8 w1 → Calls Tryz.prog 37 #[.pointer (some ⟨b, 0, none⟩), .int .i64 2, .agg #[.int .i64 1, .int .i64 1, .int .i64 0, .int .i64 0]] w1 (fun e w' => ∃ va vc, e = .returned (.tuple #[.agg #[.int .i64 (r10.e : Int), .int .i64 11, .slice va r10.pairs.length vc, .int .i64 (r10.over : Int), .int .i64 (r10.reason : Int)], .int .i64 0]) ∧ EKt b w (.row 2 (.slice va r10.pairs.length vc) (pairCs r10.pairs) :: ks) σ10 w')) := fun ks w1 h => by
  refine (do_kt (s := 2) h (o := ⟨1, 1, 0, 0⟩) (by decide) h9 (by decide : (1000 : Nat) ≤ _) h10).mono ?_
  rintro e w' ⟨va, vn, vc, rfl, hvn, q⟩
  rw [e10]
  subst hvn
  exact ⟨va, vc, rfl, q⟩
 have HE11 : Hid (∀ ks w1 g, g = w1.heap.size → EKt b w ks σ10 w1 → Calls Tryz.prog 44 #[.pointer (some ⟨b, 0, none⟩), .slice (some ⟨g, 0, none⟩) 3 3] (w1.alloc (.cells #[.int .i64 2, .int .i64 1, .int .i64 0] 3)) fun e w' => e = .returned (.tuple #[.int .i64 (n11 : Int), .bool true]) ∧ ∃ ks', EKt b w (ks' ++ ks) σ11 w') := fun ks w1 g hg h => by
  subst hg
  have h2 := h.alloc (.cells #[.int .i64 2, .int .i64 1, .int .i64 0] 3)
  obtain ⟨A, rfl, hL, gr, t⟩ := h2.ex
  refine (end_any hL [2, 1, 0] (some ⟨w1.heap.size, 0, none⟩) 3 (frow_block (xs := [.int .i64 2, .int .i64 1, .int .i64 0]) t.1 rfl (by decide)) (by decide) 1000 σ11 n11 true h11).mono ?_
  rintro e w' ⟨rfl, A', hL', g', e'⟩
  exact ⟨rfl, [_], A', e', hL', gr.trans g', Kepts.grow g' t⟩
 have HT11 : Hid (∀ ks w1, EKt b w ks σ11 w1 → Calls Tryz.prog 31 #[.pointer (some ⟨b, 0, none⟩)] w1 fun e w' => ∃ av ac cs, e = .returned (.slice av σ11.tale.length ac) ∧ EKt b w ks σ11 w' ∧ w'.ownsRow w1.heap.size 138 12 (.slice av σ11.tale.length ac) σ11.tale.length cs ∧ EvO w1.heap.size w' σ11.tale cs) := fun ks w1 h => taleOk h h12
 have HO11 : Hid (∀ ks w1 base av ac cs, EKt b w ks σ11 w1 → w1.ownsRow base 138 12 (.slice av σ11.tale.length ac) σ11.tale.length cs → EvO base w1 σ11.tale cs → Calls Tryz.prog 39 #[.slice av σ11.tale.length ac] w1 fun e w' => ∃ dg dc, e = .returned (.tuple #[.bool true, .int .i64 (-1), .slice (some ⟨dg, 0, none⟩) 4 dc]) ∧ EKt b w ks σ11 w' ∧ w'.cell? ⟨dg, 8, none⟩ = some (.int .i64 3) ∧ w'.cell? ⟨dg, 14, none⟩ = some (.int .i64 3) ∧ w'.cell? ⟨dg, 20, none⟩ = some (.int .i64 3)) := fun ks w1 base av ac cs h q1 q2 => by
  refine (dealsOk h h12 h13 q1 q2).mono ?_
  rintro e w' ⟨da, dc, dv, vb, ds, rfl, hk, hM, _⟩
  rw [hO4] at hM
  obtain ⟨g, rfl, c1⟩ := hM.state hO4 (k := 1) (by omega) s1
  obtain ⟨g2, e2, c2⟩ := hM.state hO4 (k := 2) (by omega) s2
  obtain ⟨g3, e3, c3⟩ := hM.state hO4 (k := 3) (by omega) s3
  simp only [Option.some.injEq, Addr.mk.injEq, and_true] at e2 e3
  subst e2 e3
  exact ⟨g, dc, by rw [hO4], hk, c1, c2, c3⟩
 clear h1 h2 h3 e3 h4 h5 st1 st2 st3 st4 st5 hcs5 h6 h7 h8 e8 h9 h10 e10 h11 h12 h13 hO4 s1 s2 s3
 go_upto_region 7 with (go_at_call 43; refine (HP1.out _ _ T0.out).mono ?_; clear T0; rintro e wA ⟨rfl, q⟩; have T1 := Lib.hid q; clear q)
 go_upto_region 8 with (go_at_call 37; refine (HD3.out _ _ T1.out).mono ?_; clear T1; rintro e wB ⟨va, vc, rfl, q⟩; have T2 := Lib.hid (q.alloc (.cells #[.int .i64 0, .int .i64 (r3.value : Int), .slice va r3.pairs.length vc, .int .i64 (r3.over : Int), .int .i64 (r3.reason : Int)] 42)); have z2 := objp (T2.out.obj List.mem_cons_self) 0 rfl; clear q)
 go_upto_region 10 with (first | (go_at_call 17; refine (HI4.out _ _ T2.out).mono ?_; clear T2; rintro e wC ⟨rfl, q⟩; have T3 := Lib.hid q; clear q) | (go_at_call 43; refine (HP5.out _ _ T3.out).mono ?_; clear T3; rintro e wD ⟨rfl, q⟩; have T4 := Lib.hid q; clear q))
 go_upto_region 11 with (go_at_call 18; refine (HS5.out _ _ T4.out).mono ?_; clear T4; rintro e wE ⟨rfl, q⟩; have T5 := Lib.hid (q.alloc (.cells #[.bool true, .bool true, .bool y1, .int .i64 y2, .int .i64 y3, .int .i64 2, .int .u64 y4, .int .u64 (σ5.now : Int), .int .i64 y6] 38)); have u0 := objp (T5.out.obj List.mem_cons_self) 0 rfl; have u1 := objp (T5.out.obj List.mem_cons_self) 1 rfl; have u5 := objp (T5.out.obj List.mem_cons_self) 5 rfl; have u7 := objp (T5.out.obj List.mem_cons_self) 7 rfl; clear q)
 generalize wE.alloc _ = wE2 at *
 generalize wE.heap.size = ge at *
 have T5d := Lib.hid T5.out.drew1
 go_region_held3 (fun w' => w'.cell? ⟨ge, 5, none⟩ = some (.int .i64 2) ∧ w'.cell? ⟨ge, 7, none⟩ = some (.int .u64 (σ5.now : Int)) ∧ w'.cell? ⟨ge, 1, none⟩ = some (.bool true) ∧ w'.cell? ⟨ge, 0, none⟩ = some (.bool true))
  (first | exact ⟨u5, u7, u1, u0⟩ | exact ⟨p5, p7, p1, p0⟩)
  (first | (go_at_call 27; refine (HN5.out _ _ T5d.out).mono ?_; rintro e wF ⟨rfl, q⟩; have p0 := objp (q.obj List.mem_cons_self) 0 rfl; have p1 := objp (q.obj List.mem_cons_self) 1 rfl; have p5 := objp (q.obj List.mem_cons_self) 5 rfl; have p7 := objp (q.obj List.mem_cons_self) 7 rfl; have T6 := Lib.hid q; clear q))
 clear T5 T5d u0 u1 u5 u7 p0 p1 p5 p7 z2
 go_upto_region 14 with (go_at_call 41; refine (HB6.out _ _ T6.out).mono ?_; clear T6; rintro e wG ⟨rfl, q⟩; have T7 := Lib.hid q; clear q)
 go_upto_region 17 with (go_at_call 37; refine (HD8.out _ _ T7.out).mono ?_; clear T7; rintro e wH ⟨vb, vd, rfl, q⟩; have T8 := Lib.hid (q.alloc (.cells #[.int .i64 (r8.e : Int), .int .i64 10, .slice vb r8.pairs.length vd, .int .i64 (r8.over : Int), .int .i64 (r8.reason : Int)] 42)); clear q)
 go_upto_region 18 with (go_at_call 37; refine (HD10.out _ _ T8.out).mono ?_; clear T8; rintro e wI ⟨ve, vf, rfl, q⟩; have T9 := Lib.hid (q.alloc (.cells #[.int .i64 (r10.e : Int), .int .i64 11, .slice ve r10.pairs.length vf, .int .i64 (r10.over : Int), .int .i64 (r10.reason : Int)] 42)); have zb := objp (T9.out.obj List.mem_cons_self) 1 rfl; have za := objp (T9.out.obj (List.mem_cons_of_mem _ (List.mem_cons_of_mem _ List.mem_cons_self))) 1 rfl; clear q)
 go_upto_region 20 with fail
 clear za zb
 generalize wI.alloc _ = wI2 at *
 generalize wI.heap.size = gi at *
 go_upto_region 21 with (go_at_call 44; refine (HE11.out _ _ _ rfl T9.out).mono ?_; clear T9; rintro e wJ ⟨rfl, ks', q⟩; have T10 := Lib.hid q; clear q)
 go_wp2_with (first | (go_at_call 31; refine (HT11.out _ _ T10.out).mono ?_; clear T10; rintro e wK ⟨av, ac, cs, rfl, q, q2, q3⟩; have T11 := Lib.hid (And.intro q (And.intro q2 q3)); clear q q2 q3) | (go_at_call 39; refine (HO11.out _ _ _ _ _ _ T11.out.1 T11.out.2.1 T11.out.2.2).mono ?_; clear T11; rintro e wL ⟨dg, dc, rfl, q, c1, c2, c3⟩; have T12 := Lib.hid q; clear q) | (go_at_call 35; refine (HAW.out _).mono ?_; rintro e wM ⟨rfl, hb⟩; have T13 := Lib.hid (T12.out.below hb); clear hb))
 go_ret
 exact ⟨rfl, T13.out.toBelow⟩
end Go.Proofs.YtbefcdjcefmicaaGreat.Em