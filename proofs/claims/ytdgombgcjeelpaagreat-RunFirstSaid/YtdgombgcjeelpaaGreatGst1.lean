/- Texts of this claim, laid together: Rfp, Rfw. -/
import Derived.Test.YtdgombgcjeelpaaGreatBase20
import Derived.Test.YtdgombgcjeelpaaGreatBase15
import Derived.Test.YtdgombgcjeelpaaGreatBase21
namespace Go.Proofs.YtdgombgcjeelpaaGreat.Em
open Go.ChangeShapes Go.WideShapes Go.ChangeAt Go.RowKit En
set_option linter.unusedVariables false
set_option linter.unusedSimpArgs false
set_option maxRecDepth 100000
set_option maxHeartbeats 1600000

/-- Steps while a session's transaction lives. -/
def runLive (s : Nat) : Nat → St → Option St
  | 0, _ => none
  | f + 1, σ => if (σ.status s).live = false then some σ else match oneStep σ s with | some (σ', _, _) => runLive s f σ' | none => none
def firstMid (wh : Nat) (σ : St) : Option St :=
  if wh = 0 then some σ else
  match issueOk σ 0 ⟨6, 0, 0, 0⟩ with
  | some σ1 => match runPrep 1000 σ1 0 with
    | some (σ2, true) => if wh = 1 then some σ2 else runLive 0 1000 σ2
    | _ => none
  | none => none
def firstEnd (b : Nat) (σ : St) : Bool :=
  thn (issueOk σ 1 ⟨3, 3, 0, 30⟩) fun σ1 => thn (runDo 1000 σ1 1) fun x => (x.2.2 == 0 && x.2.1.e == 14 && x.2.1.over == 4 && x.2.1.reason == 2) &&
  thn (runEnd (List.range 8) (mostOf x.1.live.length) 1000 x.1 0) fun y => y.2.2 && thn (runWhole 1000 y.1 2 b [⟨3, 3, 0, 40⟩]) fun z => (z.2.2 == 0 && z.2.1.length == 2 && (z.2.1.getD 1 {}).over == 3) && (okPairs z.1 && z.1.pairs == [(3, 40)])
def firstRun (a b wh : Nat) : Bool :=
  thn (runWhole 1000 (new 40 1000) 7 1 [⟨2, 3, 0, 10⟩]) fun x => (x.2.2 == 0 && decide (0 < x.2.1.length)) && thn (beginOk x.1 0 a) fun y => thn (beginOk y.1 1 b) fun z => thn (issueOk z.1 0 ⟨3, 3, 0, 20⟩) fun σ1 => thn (runDo 1000 σ1 0) fun u => (u.2.2 == 0 && u.2.1.e == 0) && thn (firstMid wh u.1) fun v => firstEnd b v
theorem first_1_1_0 : firstRun 1 1 0 = true := by decide +kernel
theorem first_1_1_1 : firstRun 1 1 1 = true := by decide +kernel
theorem first_1_1_2 : firstRun 1 1 2 = true := by decide +kernel
theorem first_1_2_0 : firstRun 1 2 0 = true := by decide +kernel
theorem first_1_2_1 : firstRun 1 2 1 = true := by decide +kernel
theorem first_1_2_2 : firstRun 1 2 2 = true := by decide +kernel
theorem first_1_3_0 : firstRun 1 3 0 = true := by decide +kernel
theorem first_1_3_1 : firstRun 1 3 1 = true := by decide +kernel
theorem first_1_3_2 : firstRun 1 3 2 = true := by decide +kernel
theorem first_2_1_0 : firstRun 2 1 0 = true := by decide +kernel
theorem first_2_1_1 : firstRun 2 1 1 = true := by decide +kernel
theorem first_2_1_2 : firstRun 2 1 2 = true := by decide +kernel
theorem first_2_2_0 : firstRun 2 2 0 = true := by decide +kernel
theorem first_2_2_1 : firstRun 2 2 1 = true := by decide +kernel
theorem first_2_2_2 : firstRun 2 2 2 = true := by decide +kernel
theorem first_2_3_0 : firstRun 2 3 0 = true := by decide +kernel
theorem first_2_3_1 : firstRun 2 3 1 = true := by decide +kernel
theorem first_2_3_2 : firstRun 2 3 2 = true := by decide +kernel
theorem first_3_1_0 : firstRun 3 1 0 = true := by decide +kernel
theorem first_3_1_1 : firstRun 3 1 1 = true := by decide +kernel
theorem first_3_1_2 : firstRun 3 1 2 = true := by decide +kernel
theorem first_3_2_0 : firstRun 3 2 0 = true := by decide +kernel
theorem first_3_2_1 : firstRun 3 2 1 = true := by decide +kernel
theorem first_3_2_2 : firstRun 3 2 2 = true := by decide +kernel
theorem first_3_3_0 : firstRun 3 3 0 = true := by decide +kernel
theorem first_3_3_1 : firstRun 3 3 1 = true := by decide +kernel
theorem first_3_3_2 : firstRun 3 3 2 = true := by decide +kernel
theorem first_all (a b wh : Nat) (h1 : 1 ≤ a) (h2 : a ≤ 3) (h3 : 1 ≤ b) (h4 : b ≤ 3) (h5 : wh ≤ 2) : firstRun a b wh = true := by
  have ha : a = 1 ∨ a = 2 ∨ a = 3 := by omega
  have hb : b = 1 ∨ b = 2 ∨ b = 3 := by omega
  have hw : wh = 0 ∨ wh = 1 ∨ wh = 2 := by omega
  rcases ha with rfl | rfl | rfl <;> rcases hb with rfl | rfl | rfl <;> rcases hw with rfl | rfl | rfl
  · exact first_1_1_0
  · exact first_1_1_1
  · exact first_1_1_2
  · exact first_1_2_0
  · exact first_1_2_1
  · exact first_1_2_2
  · exact first_1_3_0
  · exact first_1_3_1
  · exact first_1_3_2
  · exact first_2_1_0
  · exact first_2_1_1
  · exact first_2_1_2
  · exact first_2_2_0
  · exact first_2_2_1
  · exact first_2_2_2
  · exact first_2_3_0
  · exact first_2_3_1
  · exact first_2_3_2
  · exact first_3_1_0
  · exact first_3_1_1
  · exact first_3_1_2
  · exact first_3_2_0
  · exact first_3_2_1
  · exact first_3_2_2
  · exact first_3_3_0
  · exact first_3_3_1
  · exact first_3_3_2
end Go.Proofs.YtdgombgcjeelpaaGreat.Em

namespace Go.Proofs.YtdgombgcjeelpaaGreat.Em
open Go.ChangeShapes Go.WideShapes Go.ChangeAt Go.RowKit En
set_option linter.unusedVariables false
set_option linter.unusedSimpArgs false
set_option maxRecDepth 100000
set_option maxHeartbeats 1600000

theorem firstRun_ok {a b wh : Nat} (h : firstRun a b wh = true) : ∃ σ0 rs σ1 i1 σ2 i2 σ3 σ4 r σ5, runWhole 1000 (new 40 1000) 7 1 [⟨2, 3, 0, 10⟩] = some (σ0, rs, 0) ∧ 0 < rs.length ∧ beginOk σ0 0 a = some (σ1, i1) ∧ beginOk σ1 1 b = some (σ2, i2) ∧ issueOk σ2 0 ⟨3, 3, 0, 20⟩ = some σ3 ∧ runDo 1000 σ3 0 = some (σ4, r, 0) ∧ r.e = 0 ∧ firstMid wh σ4 = some σ5 ∧ firstEnd b σ5 = true := by
  unfold firstRun at h
  obtain ⟨⟨σ0, rs, x⟩, h0, h⟩ := thn_ok h
  obtain ⟨g0, h⟩ := and_ok h
  obtain ⟨⟨σ1, i1⟩, h1, h⟩ := thn_ok h
  obtain ⟨⟨σ2, i2⟩, h2, h⟩ := thn_ok h
  obtain ⟨σ3, h3, h⟩ := thn_ok h
  obtain ⟨⟨σ4, r, y⟩, h4, h⟩ := thn_ok h
  obtain ⟨g4, h⟩ := and_ok h
  obtain ⟨σ5, h5, hZ⟩ := thn_ok h
  simp only [Bool.and_eq_true, beq_iff_eq, decide_eq_true_eq] at g0 g4
  obtain ⟨rfl, g0⟩ := g0
  obtain ⟨rfl, g4⟩ := g4
  exact ⟨σ0, rs, σ1, i1, σ2, i2, σ3, σ4, r, σ5, h0, g0, h1, h2, h3, h4, g4, h5, hZ⟩
theorem firstEnd_ok {b : Nat} {σ : St} (h : firstEnd b σ = true) : ∃ σ1 σ2 r σ3 n σ4 r0 r1, issueOk σ 1 ⟨3, 3, 0, 30⟩ = some σ1 ∧ runDo 1000 σ1 1 = some (σ2, r, 0) ∧ r.e = 14 ∧ r.over = 4 ∧ r.reason = 2 ∧ runEnd (List.range 8) (mostOf σ2.live.length) 1000 σ2 0 = some (σ3, n, true) ∧ runWhole 1000 σ3 2 b [⟨3, 3, 0, 40⟩] = some (σ4, [r0, r1], 0) ∧ r1.over = 3 ∧ okPairs σ4 = true ∧ σ4.pairs = [(3, 40)] := by
  unfold firstEnd at h
  obtain ⟨σ1, h1, h⟩ := thn_ok h
  obtain ⟨⟨σ2, r, x⟩, h2, h⟩ := thn_ok h
  obtain ⟨g2, h⟩ := and_ok h
  obtain ⟨⟨σ3, n, ok⟩, h3, h⟩ := thn_ok h
  obtain ⟨g3, h⟩ := and_ok h
  obtain ⟨⟨σ4, rs, y⟩, h4, h⟩ := thn_ok h
  obtain ⟨g4, hZ⟩ := and_ok h
  simp only [Bool.and_eq_true, beq_iff_eq] at g2 g3 g4 hZ
  obtain ⟨⟨⟨rfl, a1⟩, a2⟩, a3⟩ := g2
  obtain ⟨⟨rfl, a4⟩, a5⟩ := g4
  subst g3
  match rs, a4, a5 with
  | [r0, r1], _, a5 => exact ⟨σ1, σ2, r, σ3, n, σ4, r0, r1, h1, h2, a1, a2, a3, h3, h4, a5, hZ.1, hZ.2⟩
theorem runLive_ok {s f : Nat} {σ σ2 : St} (h : runLive s (f + 1) σ = some σ2) : ((σ.status s).live = false ∧ σ = σ2) ∨ ((σ.status s).live = true ∧ ∃ σ' kd r, oneStep σ s = some (σ', kd, r) ∧ runLive s f σ' = some σ2) := by
  unfold runLive at h
  split at h
  · rename_i hl
    exact .inl ⟨hl, Option.some.inj h⟩
  · rename_i hl
    split at h
    · rename_i σ' kd r hs
      exact .inr ⟨by simpa using hl, σ', kd, r, hs, h⟩
    · cases h
/-- Where the loop stands. -/
def MidOk (z : Int) (f : Nat) (σ σ5 : St) : Prop := (z = 2 ∧ runLive 0 f σ = some σ5) ∨ (z ≠ 2 ∧ σ = σ5)
theorem stLive_at {b : Nat} {w0 : World} {σ : St} (s : Nat) (hs : s < 8) (w : World) (h : EAt b w0 σ w) :
    Calls Tryz.prog 18 #[.pointer (some ⟨b, 0, none⟩), .int .i64 (s : Int)] w fun e w' => ∃ y1 y2 y3 y4 y5 y6 y7 y8, e = .returned (.agg #[.bool (σ.status s).live, y1, y2, y3, y4, y5, y6, y7, y8]) ∧ EAt b w0 σ w' :=
  (status_at h s hs).mono fun e w' hh => ⟨_, _, _, _, _, _, _, _, hh.1, hh.2⟩
theorem firstMid_ok {wh : Nat} {z : Int} {σ σ5 : St} (hz : (wh : Int) = z) (hw : wh ≤ 2) (h : firstMid wh σ = some σ5) : (z = 0 ∧ MidOk 0 1000 σ σ5) ∨ ((z = 1 ∨ z = 2) ∧ ∃ σa σb, issueOk σ 0 ⟨6, 0, 0, 0⟩ = some σa ∧ runPrep 1000 σa 0 = some (σb, true) ∧ MidOk z 1000 σb σ5) := by
  unfold firstMid at h
  split at h
  · rename_i h0
    exact .inl ⟨by omega, .inr ⟨by decide, Option.some.inj h⟩⟩
  · rename_i h0
    refine .inr ⟨by omega, ?_⟩
    split at h
    · rename_i σa ha
      split at h
      · rename_i σb hb
        refine ⟨σa, σb, ha, hb, ?_⟩
        split at h
        · exact .inr ⟨by omega, Option.some.inj h⟩
        · exact .inl ⟨by omega, h⟩
      · cases h
    · cases h
theorem first_law (a' b' wh' : Int) (w : World) : Calls Tryz.prog 12 #[.int .i64 a', .int .i64 b', .int .i64 wh'] w fun e w' => e = .returned (.bool true) ∧ Below w.heap.size w w' := by
  obtain ⟨a, ha, has⟩ := mask_to a' 3 (by decide)
  obtain ⟨c, hc, hcs⟩ := mask_to b' 3 (by decide)
  obtain ⟨wh, hwh, hws⟩ := mask_to wh' 3 (by decide)
  rw [show ((3 : Nat) : Int) = 3 from rfl] at has hcs hws
  have hall := first_all (a + 1) (c + 1) wh (by omega) (by omega) (by omega) (by omega) (by omega)
  obtain ⟨σ0, rs0, σ1, i1, σ2, i2, σ3, σ4, r4, σ5, h0, h0l, h1, h2, h3, h4, h4e, h5, hend⟩ := firstRun_ok hall
  obtain ⟨τ1, τ2, s2, τ3, n3, τ4, r0, r1, k1, k2, k2e, k2o, k2r, k3, k4, k4o, k5, k6⟩ := firstEnd_ok hend
  clear hall hend
  have n1 : IntKind.i64.wrap ((a : Int) + 1) = (a : Int) + 1 := by rw [IntKind.wrap_i64]; omega
  have n2 : IntKind.i64.wrap ((c : Int) + 1) = (c : Int) + 1 := by rw [IntKind.wrap_i64]; omega
  have HN : Hid (∀ w, Calls Tryz.prog 23 #[.agg #[.int .i64 40, .int .u64 1000]] w fun e w' => ∃ b, e = .returned (.tuple #[.pointer (some ⟨b, 0, none⟩), .int .i64 0]) ∧ EAt b w (new 40 1000) w') := fun w => new_at 40 1000 (by omega) (by omega) (by omega) (by omega) w
  go_enter Tryz.func12, Tryz.ntmps12
  go_upto_region 2 with fail
  generalize haa : (a : Int) + 1 = aa at *
  generalize hcc : (c : Int) + 1 = cc at *
  clear has hcs hws n1 n2
  go_upto_region 4 with (go_at_call 23; refine (HN.out _).mono ?_; rintro e w1 ⟨b, rfl, q⟩; have T0 := Lib.hid q; clear q)
  clear HN
  have HW0 : Hid (∀ w1, EAt b w (new 40 1000) w1 → Calls Tryz.prog 36 #[.pointer (some ⟨b, 0, none⟩), .int .i64 7, .int .i64 1, .slice (some ⟨w1.heap.size, 0, none⟩) 1 1] (w1.alloc (.cells #[.int .i64 2, .int .i64 3, .int .i64 0, .int .i64 10] 31)) fun e w' => ∃ rb ro rc, e = .returned (.tuple #[.slice (some ⟨rb, ro, none⟩) rs0.length rc, .int .i64 0]) ∧ EAt b w σ0 w') := fun w1 h => by
    refine (whole_at h (ops := [⟨2, 3, 0, 10⟩]) (level := 1) (s := 7) (#[.int .i64 2, .int .i64 3, .int .i64 0, .int .i64 10]) 1 (by decide) (by decide : (1000 : Nat) ≤ _) h0 rfl rfl (by decide) (by exact h0l)).mono ?_
    rintro e w' ⟨rb, ro, rc, rfl, q1, q2⟩
    exact ⟨rb, ro, rc, rfl, q1⟩

  have HB0 : Hid (∀ w1, EAt b w σ0 w1 → Calls Tryz.prog 35 #[.pointer (some ⟨b, 0, none⟩), .int .i64 0, .int .i64 aa] w1 (EB b w σ1 (.tuple #[.int .i64 (i1 : Int), .int .i64 0]))) := fun w1 h => by
    rw [← haa]
    exact begin_at (s := 0) h (by decide) h1

  have HB1 : Hid (∀ w1, EAt b w σ1 w1 → Calls Tryz.prog 35 #[.pointer (some ⟨b, 0, none⟩), .int .i64 1, .int .i64 cc] w1 (EB b w σ2 (.tuple #[.int .i64 (i2 : Int), .int .i64 0]))) := fun w1 h => by
    rw [← hcc]
    exact begin_at (s := 1) h (by decide) h2

  have HD0 : Hid (∀ w1, EAt b w σ2 w1 → Calls Tryz.prog 31 #[.pointer (some ⟨b, 0, none⟩), .int .i64 0, .agg #[.int .i64 3, .int .i64 3, .int .i64 0, .int .i64 20]] w1 (fun e w' => ∃ va vn vc, e = .returned (.tuple #[.agg #[.int .i64 0, .int .i64 (r4.value : Int), .slice va vn vc, .int .i64 (r4.over : Int), .int .i64 (r4.reason : Int)], .int .i64 0]) ∧ EAt b w σ4 w')) := fun w1 h => by
    refine (do_at (s := 0) h (o := ⟨3, 3, 0, 20⟩) (by decide) h3 (by decide : (1000 : Nat) ≤ _) h4).mono ?_
    rintro e w' ⟨A, va, vn, vc, rfl, _, e1, e2, e3⟩
    rw [h4e]
    exact ⟨va, vn, vc, rfl, A, e1, e2, e3⟩

  have HD1 : Hid (∀ w1, EAt b w σ5 w1 → Calls Tryz.prog 31 #[.pointer (some ⟨b, 0, none⟩), .int .i64 1, .agg #[.int .i64 3, .int .i64 3, .int .i64 0, .int .i64 30]] w1 (fun e w' => ∃ va vn vc, e = .returned (.tuple #[.agg #[.int .i64 14, .int .i64 (s2.value : Int), .slice va vn vc, .int .i64 4, .int .i64 2], .int .i64 0]) ∧ EAt b w τ2 w')) := fun w1 h => by
    refine (do_at (s := 1) h (o := ⟨3, 3, 0, 30⟩) (by decide) k1 (by decide : (1000 : Nat) ≤ _) k2).mono ?_
    rintro e w' ⟨A, va, vn, vc, rfl, _, e1, e2, e3⟩
    rw [k2e, k2o, k2r]
    exact ⟨va, vn, vc, rfl, A, e1, e2, e3⟩

  have HE : Hid (∀ w1, EAt b w τ2 w1 → Calls Tryz.prog 40 #[.pointer (some ⟨b, 0, none⟩), .slice none 0 0] w1 (EB b w τ3 (.tuple #[.int .i64 (n3 : Int), .bool true]))) := fun w1 h => by
    exact endNone_at h k3

  have HW1 : Hid (∀ w1, EAt b w τ3 w1 → Calls Tryz.prog 36 #[.pointer (some ⟨b, 0, none⟩), .int .i64 2, .int .i64 cc, .slice (some ⟨w1.heap.size, 0, none⟩) 1 1] (w1.alloc (.cells #[.int .i64 3, .int .i64 3, .int .i64 0, .int .i64 40] 31)) fun e w' => ∃ rb ro rc, e = .returned (.tuple #[.slice (some ⟨rb, ro, none⟩) 2 rc, .int .i64 0]) ∧ EAt b w τ4 w' ∧ w'.cell? ⟨rb, ro + 5 + 3, none⟩ = some (.int .i64 3)) := fun w1 h => by
    rw [← hcc]
    refine (whole_at h (ops := [⟨3, 3, 0, 40⟩]) (level := c + 1) (s := 2) (#[.int .i64 3, .int .i64 3, .int .i64 0, .int .i64 40]) 1 (by decide) (by decide : (1000 : Nat) ≤ _) k4 rfl rfl (by decide) (by simp)).mono ?_
    rintro e w' ⟨rb, ro, rc, rfl, q1, q2⟩
    have q3 := (q2 1 r1 rfl).2.2.1
    rw [k4o] at q3
    exact ⟨rb, ro, rc, rfl, q1, q3⟩

  have HP : Hid (∀ w1, EAt b w τ4 w1 → Calls Tryz.prog 29 #[.pointer (some ⟨b, 0, none⟩)] w1 (fun e w' => ∃ av cap, e = .returned (.slice av 1 cap) ∧ w'.ownsRow w1.heap.size 80 2 (.slice av 1 cap) 1 (pairCs [(3, 40)]) ∧ EAt b w τ4 w')) := fun w1 h => by
    have hh := pairs_at h k5
    rw [k6] at hh
    exact hh

  have HAW := Lib.hid awake24
  clear h0 h0l h1 h2 h3 h4 h4e k1 k2 k2e k2o k2r k3 k4 k4o k5 k6
  generalize hz : (wh : Int) = z at *
  have hmid := firstMid_ok hz (by omega) h5
  clear h5 hz
  go_upto_region 17 with (first | (go_at_call 36; refine (HW0.out _ (T0.out)).mono ?_; rintro e w9 ⟨rb, ro, rc, rfl, q⟩; have T1 := Lib.hid q; clear q T0) | (go_at_call 35; refine (HB0.out _ (T1.out)).mono ?_; rintro e w9 ⟨rfl, q⟩; have T2 := Lib.hid q; clear q T1) | (go_at_call 35; refine (HB1.out _ (T2.out)).mono ?_; rintro e w9 ⟨rfl, q⟩; have T3 := Lib.hid q; clear q T2) | (go_at_call 31; refine (HD0.out _ (T3.out)).mono ?_; rintro e w9 ⟨va, vn, vc, rfl, q⟩; have T4 := Lib.hid q; clear q T3))
  clear HW0 HB0 HB1 HD0
  rcases hmid with ⟨rfl, hm⟩ | ⟨hz, σa, σb, ha, hb, hm⟩
  · have HM := Lib.hid hm
    have T5 := T4
    clear hm T4
    go_upto_region 20 with fail
    go_loopw [17] (fun i wr => ∃ (j f : Nat) (σ : St), i = .int .i64 (j : Int) ∧ j + f = 1000 ∧ MidOk 0 f σ σ5 ∧ EAt b w σ wr) (fun i _ => 1000 - (intOf i).toNat)
    case atStart => exact ⟨0, 1000, _, rfl, rfl, HM.out, T5.out.alloc _⟩
    case round =>
      clear HM T5
      obtain ⟨j, f, σ, rfl, hjf, hm, T6⟩ := hrel
      have T6 := Lib.hid T6
      have j1 : ((j : Int) < 20000) = True := by simp; omega
      have j2 : decide ((j : Int) < 20000) = true := by simp; omega
      obtain rfl : σ = σ5 := by
        rcases hm with ⟨h, _⟩ | ⟨_, h⟩
        · exact absurd h (by decide)
        · exact h
      go_wp2_with (first | (go_at_call 31; refine (HD1.out _ (T6.out)).mono ?_; rintro e w9 ⟨vb, vm, vd, rfl, q⟩; have T7 := Lib.hid q; clear q T6) | (go_at_call 40; refine (HE.out _ (T7.out.alloc _)).mono ?_; rintro e w9 ⟨rfl, q⟩; have T8 := Lib.hid q; clear q T7) | (go_at_call 36; refine (HW1.out _ T8.out).mono ?_; rintro e w9 ⟨rb, ro, rc, rfl, q, qc⟩; have T9 := Lib.hid q; clear q T8) | (go_at_call 29; refine (HP.out _ T9.out).mono ?_; rintro e w10 ⟨av, acap, rfl, q1, q⟩; have T10 := Lib.hid q; have R10 := Lib.hid (own_row q1); clear q q1 T9) | (go_at_call 41; refine (same_pairs _ _ [(3, 40)] _ _ _ (Row.alloc' R10.out _) (row_new _ (pairCs [(3, 40)]) _ 1 2 rfl (by decide))).mono ?_; rintro e w11 ⟨rfl, q⟩; have T11 := Lib.hid ((T10.out.alloc _).below q); clear q T10) | (go_at_call 22; refine (HAW.out _).mono ?_; rintro e w12 ⟨rfl, q⟩; have T12 := Lib.hid (T11.out.below q); clear q T11))
      go_ret
      exact ⟨rfl, T12.out.toBelow⟩
  · have HM := Lib.hid hm
    clear hm
    have HIS : Hid (∀ w1, EAt b w σ4 w1 → Calls Tryz.prog 17 #[.pointer (some ⟨b, 0, none⟩), .int .i64 0, .agg #[.int .i64 6, .int .i64 0, .int .i64 0, .int .i64 0]] w1 (EB b w σa (.int .i64 0))) := fun w1 h => issue_at (s := 0) (o := ⟨6, 0, 0, 0⟩) h (by decide) ha
    have HPP : Hid (∀ w1, EAt b w σa w1 → Calls Tryz.prog 39 #[.pointer (some ⟨b, 0, none⟩), .int .i64 0] w1 (EB b w σb (.bool true))) := fun w1 h => prep_at (s := 0) h (by decide) (by decide : (1000 : Nat) ≤ _) hb
    clear ha hb
    rcases hz with rfl | rfl
    · go_upto_region 20 with (first | (go_at_call 17; refine (HIS.out _ (T4.out.alloc _)).mono ?_; rintro e w9 ⟨rfl, q⟩; have T4b := Lib.hid q; clear q T4) | (go_at_call 39; refine (HPP.out _ (T4b.out)).mono ?_; rintro e w9 ⟨rfl, q⟩; have T5 := Lib.hid q; clear q T4b))
      clear HIS HPP
      go_loopw [17] (fun i wr => ∃ (j f : Nat) (σ : St), i = .int .i64 (j : Int) ∧ j + f = 1000 ∧ MidOk 1 f σ σ5 ∧ EAt b w σ wr) (fun i _ => 1000 - (intOf i).toNat)
      case atStart => exact ⟨0, 1000, _, rfl, rfl, HM.out, T5.out⟩
      case round =>
        clear HM T5
        obtain ⟨j, f, σ, rfl, hjf, hm, T6⟩ := hrel
        have T6 := Lib.hid T6
        have j1 : ((j : Int) < 20000) = True := by simp; omega
        have j2 : decide ((j : Int) < 20000) = true := by simp; omega
        obtain rfl : σ = σ5 := by
          rcases hm with ⟨h, _⟩ | ⟨_, h⟩
          · exact absurd h (by decide)
          · exact h
        go_wp2_with (first | (go_at_call 31; refine (HD1.out _ (T6.out)).mono ?_; rintro e w9 ⟨vb, vm, vd, rfl, q⟩; have T7 := Lib.hid q; clear q T6) | (go_at_call 40; refine (HE.out _ (T7.out.alloc _)).mono ?_; rintro e w9 ⟨rfl, q⟩; have T8 := Lib.hid q; clear q T7) | (go_at_call 36; refine (HW1.out _ T8.out).mono ?_; rintro e w9 ⟨rb, ro, rc, rfl, q, qc⟩; have T9 := Lib.hid q; clear q T8) | (go_at_call 29; refine (HP.out _ T9.out).mono ?_; rintro e w10 ⟨av, acap, rfl, q1, q⟩; have T10 := Lib.hid q; have R10 := Lib.hid (own_row q1); clear q q1 T9) | (go_at_call 41; refine (same_pairs _ _ [(3, 40)] _ _ _ (Row.alloc' R10.out _) (row_new _ (pairCs [(3, 40)]) _ 1 2 rfl (by decide))).mono ?_; rintro e w11 ⟨rfl, q⟩; have T11 := Lib.hid ((T10.out.alloc _).below q); clear q T10) | (go_at_call 22; refine (HAW.out _).mono ?_; rintro e w12 ⟨rfl, q⟩; have T12 := Lib.hid (T11.out.below q); clear q T11))
        go_ret
        exact ⟨rfl, T12.out.toBelow⟩
    · go_upto_region 20 with (first | (go_at_call 17; refine (HIS.out _ (T4.out.alloc _)).mono ?_; rintro e w9 ⟨rfl, q⟩; have T4b := Lib.hid q; clear q T4) | (go_at_call 39; refine (HPP.out _ (T4b.out)).mono ?_; rintro e w9 ⟨rfl, q⟩; have T5 := Lib.hid q; clear q T4b))
      clear HIS HPP
      go_loopw [17] (fun i wr => ∃ (j f : Nat) (σ : St), i = .int .i64 (j : Int) ∧ j + f = 1000 ∧ MidOk 2 f σ σ5 ∧ EAt b w σ wr) (fun i _ => 1000 - (intOf i).toNat)
      case atStart => exact ⟨0, 1000, _, rfl, rfl, HM.out, T5.out⟩
      case round =>
        clear HM T5
        obtain ⟨j, f, σ, rfl, hjf, hm, T6⟩ := hrel
        have T6 := Lib.hid T6
        have j1 : ((j : Int) < 20000) = True := by simp; omega
        have j2 : decide ((j : Int) < 20000) = true := by simp; omega
        have hm : runLive 0 f σ = some σ5 := by
          rcases hm with ⟨_, h⟩ | ⟨h, _⟩
          · exact h
          · exact absurd rfl h
        cases f with
        | zero => cases hm
        | succ f =>
        have hst := stLive_at (b := b) (w0 := w) (σ := σ) 0 (by decide)
        rcases runLive_ok hm with ⟨hl, e1⟩ | ⟨hl, σ', kd, r, hstep, hnext⟩
        · rw [hl] at hst
          have HST := Lib.hid hst
          have HD1' : Hid (EAt b w σ wr → EAt b w σ5 wr) := by rw [e1]; exact fun h => h
          clear hst hm hl
          subst e1
          go_wp2_with (first | (go_at_call 18; refine (HST.out _ T6.out).mono ?_; rintro e w9 ⟨y1, y2, y3, y4, y5, y6, y7, y8, rfl, q⟩; have hf := fld_live (.bool false) y1 y2 y3 y4 y5 y6 y7 y8; have T6b := Lib.hid q; clear q T6) | (go_at_call 31; refine (HD1.out _ (T6b.out)).mono ?_; rintro e w9 ⟨vb, vm, vd, rfl, q⟩; have T7 := Lib.hid q; clear q T6b) | (go_at_call 40; refine (HE.out _ (T7.out.alloc _)).mono ?_; rintro e w9 ⟨rfl, q⟩; have T8 := Lib.hid q; clear q T7) | (go_at_call 36; refine (HW1.out _ T8.out).mono ?_; rintro e w9 ⟨rb, ro, rc, rfl, q, qc⟩; have T9 := Lib.hid q; clear q T8) | (go_at_call 29; refine (HP.out _ T9.out).mono ?_; rintro e w10 ⟨av, acap, rfl, q1, q⟩; have T10 := Lib.hid q; have R10 := Lib.hid (own_row q1); clear q q1 T9) | (go_at_call 41; refine (same_pairs _ _ [(3, 40)] _ _ _ (Row.alloc' R10.out _) (row_new _ (pairCs [(3, 40)]) _ 1 2 rfl (by decide))).mono ?_; rintro e w11 ⟨rfl, q⟩; have T11 := Lib.hid ((T10.out.alloc _).below q); clear q T10) | (go_at_call 22; refine (HAW.out _).mono ?_; rintro e w12 ⟨rfl, q⟩; have T12 := Lib.hid (T11.out.below q); clear q T11))
          go_ret
          exact ⟨rfl, T12.out.toBelow⟩
        · rw [hl] at hst
          have HST := Lib.hid hst
          have HSP : Hid (∀ w1, EAt b w σ w1 → Calls Tryz.prog 19 #[.pointer (some ⟨b, 0, none⟩), .int .i64 0] w1 fun e w' => ∃ va vn vc, e = .returned (.tuple #[.agg #[.int .i64 (kd : Int), .int .i64 (r.e : Int), .int .i64 (r.value : Int), .slice va vn vc, .int .i64 (r.over : Int), .int .i64 (r.reason : Int)], .int .i64 0]) ∧ EAt b w σ' w') := fun w1 h => by
            refine (step_at (s := 0) h (by decide) hstep).mono ?_
            rintro e w' ⟨A, va, vn, vc, rfl, _, e1, e2, e3⟩
            exact ⟨va, vn, vc, rfl, A, e1, e2, e3⟩
          have HX := Lib.hid (And.intro hjf hnext)
          have x4 : IntKind.i64.wrap ((j : Int) + 1) = (j : Int) + 1 := by rw [IntKind.wrap_i64]; omega
          clear hst hm hl hstep hnext
          go_wp2_with (first | (go_at_call 18; refine (HST.out _ T6.out).mono ?_; rintro e w9 ⟨y1, y2, y3, y4, y5, y6, y7, y8, rfl, q⟩; have hf := fld_live (.bool true) y1 y2 y3 y4 y5 y6 y7 y8; have T6b := Lib.hid q; clear q T6) | (go_at_call 19; refine (HSP.out _ T6b.out).mono ?_; rintro e w9 ⟨ua, un, uc, rfl, q⟩; have T7 := Lib.hid q; clear q T6b))
          exact ⟨⟨j + 1, f, σ', rfl, by have := HX.out.1; omega, .inl ⟨rfl, HX.out.2⟩, T7.out⟩, by have := HX.out.1; simp [intOf]; omega⟩
end Go.Proofs.YtdgombgcjeelpaaGreat.Em
