/- Texts of this claim, laid together: Pap, Paa, Paw0, Paw1, Paw2, Paw. -/
import Derived.Test.YtdgombgcjeelpaaGreatBase20
import Derived.Test.YtdgombgcjeelpaaGreatBase21
import Derived.Deep.RegionWith
namespace Go.Proofs.YtdgombgcjeelpaaGreat.Em
open Go.ChangeShapes Go.WideShapes Go.ChangeAt Go.RowKit En
set_option linter.unusedVariables false
set_option linter.unusedSimpArgs false
set_option maxRecDepth 100000
set_option maxHeartbeats 1600000

def wayOf (how : Nat) : En.Op := if how = 0 then ⟨3, 3, 0, 20⟩ else if how = 1 then ⟨4, 3, 0, 0⟩ else ⟨2, 4, 0, 40⟩
def passEnd (how : Nat) (σ : St) : Bool :=
  thn (issueOk σ 1 ⟨5, 0, 63, 0⟩) fun σ1 => thn (runDo 1000 σ1 1) fun x => (x.2.2 == 0 && x.2.1.pairs == [(3, 10)]) &&
  thn (issueOk x.1 1 ⟨6, 0, 0, 0⟩) fun σ2 => thn (runDo 1000 σ2 1) fun y => (y.2.2 == 0 && y.2.1.over == 3) &&
  thn (runEnd (List.range 8) (mostOf y.1.live.length) 1000 y.1 0) fun z => z.2.2 && (okPairs z.1 && z.1.pairs.length == (if how = 0 then 1 else if how = 1 then 0 else 2))
def passRun (how level : Nat) : Bool :=
  thn (runWhole 1000 (new 40 1000) 7 1 [⟨2, 3, 0, 10⟩]) fun x => (x.2.2 == 0 && decide (0 < x.2.1.length)) && thn (beginOk x.1 1 1) fun y => thn (beginOk y.1 0 level) fun z => thn (issueOk z.1 0 (wayOf how)) fun σ1 => thn (runDo 1000 σ1 0) fun u => (u.2.2 == 0 && u.2.1.e == 0) && thn (issueOk u.1 0 ⟨6, 0, 0, 0⟩) fun σ2 => thn (runPrep 1000 σ2 0) fun v => v.2 && passEnd how v.1
theorem pass_0_1 : passRun 0 1 = true := by decide +kernel
theorem pass_0_2 : passRun 0 2 = true := by decide +kernel
theorem pass_0_3 : passRun 0 3 = true := by decide +kernel
theorem pass_1_1 : passRun 1 1 = true := by decide +kernel
theorem pass_1_2 : passRun 1 2 = true := by decide +kernel
theorem pass_1_3 : passRun 1 3 = true := by decide +kernel
theorem pass_2_1 : passRun 2 1 = true := by decide +kernel
theorem pass_2_2 : passRun 2 2 = true := by decide +kernel
theorem pass_2_3 : passRun 2 3 = true := by decide +kernel
theorem pass_all (how level : Nat) (h1 : how ≤ 2) (h3 : 1 ≤ level) (h4 : level ≤ 3) : passRun how level = true := by
  have ha : how = 0 ∨ how = 1 ∨ how = 2 := by omega
  have hb : level = 1 ∨ level = 2 ∨ level = 3 := by omega
  rcases ha with rfl | rfl | rfl <;> rcases hb with rfl | rfl | rfl
  · exact pass_0_1
  · exact pass_0_2
  · exact pass_0_3
  · exact pass_1_1
  · exact pass_1_2
  · exact pass_1_3
  · exact pass_2_1
  · exact pass_2_2
  · exact pass_2_3
end Go.Proofs.YtdgombgcjeelpaaGreat.Em

namespace Go.Proofs.YtdgombgcjeelpaaGreat.Em
open Go.ChangeShapes Go.WideShapes Go.ChangeAt Go.RowKit En
set_option linter.unusedVariables false
set_option linter.unusedSimpArgs false
set_option maxRecDepth 100000
set_option maxHeartbeats 1600000

theorem passRun_ok {how level : Nat} (h : passRun how level = true) : ∃ σ0 rs σ1 i1 σ2 i2 σ3 σ4 r σ5 σ6, runWhole 1000 (new 40 1000) 7 1 [⟨2, 3, 0, 10⟩] = some (σ0, rs, 0) ∧ 0 < rs.length ∧ beginOk σ0 1 1 = some (σ1, i1) ∧ beginOk σ1 0 level = some (σ2, i2) ∧ issueOk σ2 0 (wayOf how) = some σ3 ∧ runDo 1000 σ3 0 = some (σ4, r, 0) ∧ r.e = 0 ∧ issueOk σ4 0 ⟨6, 0, 0, 0⟩ = some σ5 ∧ runPrep 1000 σ5 0 = some (σ6, true) ∧ passEnd how σ6 = true := by
  unfold passRun at h
  obtain ⟨⟨σ0, rs, x⟩, h0, h⟩ := thn_ok h
  obtain ⟨g0, h⟩ := and_ok h
  obtain ⟨⟨σ1, i1⟩, h1, h⟩ := thn_ok h
  obtain ⟨⟨σ2, i2⟩, h2, h⟩ := thn_ok h
  obtain ⟨σ3, h3, h⟩ := thn_ok h
  obtain ⟨⟨σ4, r, y⟩, h4, h⟩ := thn_ok h
  obtain ⟨g4, h⟩ := and_ok h
  obtain ⟨σ5, h5, h⟩ := thn_ok h
  obtain ⟨⟨σ6, z⟩, h6, h⟩ := thn_ok h
  obtain ⟨g6, hZ⟩ := and_ok h
  simp only [Bool.and_eq_true, beq_iff_eq, decide_eq_true_eq] at g0 g4 g6
  obtain ⟨rfl, g0⟩ := g0
  obtain ⟨rfl, g4⟩ := g4
  subst g6
  exact ⟨σ0, rs, σ1, i1, σ2, i2, σ3, σ4, r, σ5, σ6, h0, g0, h1, h2, h3, h4, g4, h5, h6, hZ⟩
theorem passEnd_ok {how : Nat} {σ : St} (h : passEnd how σ = true) : ∃ σ1 σ2 r σ3 σ4 r4 σ5 n, issueOk σ 1 ⟨5, 0, 63, 0⟩ = some σ1 ∧ runDo 1000 σ1 1 = some (σ2, r, 0) ∧ r.pairs = [(3, 10)] ∧ issueOk σ2 1 ⟨6, 0, 0, 0⟩ = some σ3 ∧ runDo 1000 σ3 1 = some (σ4, r4, 0) ∧ r4.over = 3 ∧ runEnd (List.range 8) (mostOf σ4.live.length) 1000 σ4 0 = some (σ5, n, true) ∧ okPairs σ5 = true ∧ σ5.pairs.length = (if how = 0 then 1 else if how = 1 then 0 else 2) := by
  unfold passEnd at h
  obtain ⟨σ1, h1, h⟩ := thn_ok h
  obtain ⟨⟨σ2, r, x⟩, h2, h⟩ := thn_ok h
  obtain ⟨g2, h⟩ := and_ok h
  obtain ⟨σ3, h3, h⟩ := thn_ok h
  obtain ⟨⟨σ4, r4, y⟩, h4, h⟩ := thn_ok h
  obtain ⟨g4, h⟩ := and_ok h
  obtain ⟨⟨σ5, n, z⟩, h5, h⟩ := thn_ok h
  obtain ⟨g5, hZ⟩ := and_ok h
  simp only [Bool.and_eq_true, beq_iff_eq] at g2 g4 g5 hZ
  obtain ⟨rfl, g2⟩ := g2
  obtain ⟨rfl, g4⟩ := g4
  subst g5
  exact ⟨σ1, σ2, r, σ3, σ4, r4, σ5, n, h1, h2, g2, h3, h4, g4, h5, hZ.1, hZ.2⟩
end Go.Proofs.YtdgombgcjeelpaaGreat.Em

namespace Go.Proofs.YtdgombgcjeelpaaGreat.Em
open Go.ChangeShapes Go.WideShapes Go.ChangeAt Go.RowKit En
set_option linter.unusedVariables false
set_option linter.unusedSimpArgs false
set_option maxRecDepth 100000
set_option maxHeartbeats 1600000

theorem pass_law0 (how' level' : Int) (w : World) (hw0 : (bits .and .i64 how' 255).tmod 3 = 0) : Calls Tryz.prog 11 #[.int .i64 how', .int .i64 level'] w fun e w' => e = .returned (.bool true) ∧ Below w.heap.size w w' := by
  have hws := hw0
  obtain ⟨c, hc, hcs⟩ := mask_to level' 3 (by decide)
  rw [show ((3 : Nat) : Int) = 3 from rfl] at hcs
  have hall := pass_all 0 (c + 1) (by omega) (by omega) (by omega)
  obtain ⟨σ0, rs0, σ1, i1, σ2, i2, σ3, σ4, r4, σ5, σ6, h0, h0l, h1, h2, h3, h4, h4e, h5, h6, hend⟩ := passRun_ok hall
  obtain ⟨τ1, τ2, s2, τ3, τ4, s4, τ5, n5, k1, k2, k2p, k3, k4, k4o, k5, k6, k7⟩ := passEnd_ok hend
  clear hall hend
  have n2 : IntKind.i64.wrap ((c : Int) + 1) = (c : Int) + 1 := by rw [IntKind.wrap_i64]; omega
  have HN : Hid (∀ w, Calls Tryz.prog 23 #[.agg #[.int .i64 40, .int .u64 1000]] w fun e w' => ∃ b, e = .returned (.tuple #[.pointer (some ⟨b, 0, none⟩), .int .i64 0]) ∧ EKt b w [] (new 40 1000) w') := fun w => (new_at 40 1000 (by omega) (by omega) (by omega) (by omega) w).mono fun e w' ⟨b, h, q⟩ => ⟨b, h, q.kt⟩
  have HAW := Lib.hid awake24
  replace k7 : τ5.pairs.length = 1 := k7
  rw [show wayOf 0 = ⟨3, 3, 0, 20⟩ from rfl] at h3
  go_enter Tryz.func11, Tryz.ntmps11
  go_upto_region 2 with fail
  generalize hcc : (c : Int) + 1 = cc at *
  clear hws hw0 hcs n2
  go_upto_region 4 with (go_at_call 23; refine (HN.out _).mono ?_; rintro e w1 ⟨b, rfl, q⟩; have T0 := Lib.hid q; clear q)
  clear HN
  have HW0 : Hid (∀ ks w1, EKt b w ks (new 40 1000) w1 → Calls Tryz.prog 36 #[.pointer (some ⟨b, 0, none⟩), .int .i64 7, .int .i64 1, .slice (some ⟨w1.heap.size, 0, none⟩) 1 1] (w1.alloc (.cells #[.int .i64 2, .int .i64 3, .int .i64 0, .int .i64 10] 31)) fun e w' => ∃ rb ro rc, e = .returned (.tuple #[.slice (some ⟨rb, ro, none⟩) rs0.length rc, .int .i64 0]) ∧ EKt b w ks σ0 w') := fun ks w1 h => by
    refine (whole_kt h (ops := [⟨2, 3, 0, 10⟩]) (level := 1) (s := 7) (#[.int .i64 2, .int .i64 3, .int .i64 0, .int .i64 10]) 1 (by decide) (by decide : (1000 : Nat) ≤ _) h0 rfl rfl (by decide) (by first | assumption | simp)).mono ?_
    rintro e w' ⟨rb, ro, rc, rfl, q1, q2⟩

    exact ⟨rb, ro, rc, rfl, q1⟩
  have HB1 : Hid (∀ ks w1, EKt b w ks σ0 w1 → Calls Tryz.prog 35 #[.pointer (some ⟨b, 0, none⟩), .int .i64 1, .int .i64 1] w1 (EV b w ks σ1 (.tuple #[.int .i64 (i1 : Int), .int .i64 0]))) := fun ks w1 h => by
    exact begin_kt (s := 1) h (by decide) h1
  have HB0 : Hid (∀ ks w1, EKt b w ks σ1 w1 → Calls Tryz.prog 35 #[.pointer (some ⟨b, 0, none⟩), .int .i64 0, .int .i64 cc] w1 (EV b w ks σ2 (.tuple #[.int .i64 (i2 : Int), .int .i64 0]))) := fun ks w1 h => by
    rw [← hcc]
    exact begin_kt (s := 0) h (by decide) h2
  have HD0 : Hid (∀ ks w1, EKt b w ks σ2 w1 → Calls Tryz.prog 31 #[.pointer (some ⟨b, 0, none⟩), .int .i64 0, .agg #[.int .i64 3, .int .i64 3, .int .i64 0, .int .i64 20]] w1 (fun e w' => ∃ va vc, e = .returned (.tuple #[.agg #[.int .i64 0, .int .i64 (r4.value : Int), .slice va r4.pairs.length vc, .int .i64 (r4.over : Int), .int .i64 (r4.reason : Int)], .int .i64 0]) ∧ EKt b w (.row 2 (.slice va r4.pairs.length vc) (pairCs r4.pairs) :: ks) σ4 w')) := fun ks w1 h => by
    refine (do_kt (s := 0) h (o := ⟨3, 3, 0, 20⟩) (by decide) h3 (by decide : (1000 : Nat) ≤ _) h4).mono ?_
    rintro e w' ⟨va, vn, vc, rfl, hvn, q⟩
    rw [h4e]
    subst hvn
    exact ⟨va, vc, rfl, q⟩
  have HI : Hid (∀ ks w1, EKt b w ks σ4 w1 → Calls Tryz.prog 17 #[.pointer (some ⟨b, 0, none⟩), .int .i64 0, .agg #[.int .i64 6, .int .i64 0, .int .i64 0, .int .i64 0]] w1 (EV b w ks σ5 (.int .i64 0))) := fun ks w1 h => by
    exact issue_kt (s := 0) (o := ⟨6, 0, 0, 0⟩) h (by decide) h5
  have HP : Hid (∀ ks w1, EKt b w ks σ5 w1 → Calls Tryz.prog 39 #[.pointer (some ⟨b, 0, none⟩), .int .i64 0] w1 (EV b w ks σ6 (.bool true))) := fun ks w1 h => by
    exact prep_kt (s := 0) h (by decide) (by decide : (1000 : Nat) ≤ _) h6
  have HD1 : Hid (∀ ks w1, EKt b w ks σ6 w1 → Calls Tryz.prog 31 #[.pointer (some ⟨b, 0, none⟩), .int .i64 1, .agg #[.int .i64 5, .int .i64 0, .int .i64 63, .int .i64 0]] w1 (fun e w' => ∃ va vc, e = .returned (.tuple #[.agg #[.int .i64 (s2.e : Int), .int .i64 (s2.value : Int), .slice va 1 vc, .int .i64 (s2.over : Int), .int .i64 (s2.reason : Int)], .int .i64 0]) ∧ EKt b w (.row 2 (.slice va 1 vc) (pairCs [(3, 10)]) :: ks) τ2 w')) := fun ks w1 h => by
    refine (do_kt (s := 1) h (o := ⟨5, 0, 63, 0⟩) (by decide) k1 (by decide : (1000 : Nat) ≤ _) k2).mono ?_
    rintro e w' ⟨va, vn, vc, rfl, hvn, q⟩
    rw [k2p] at hvn q
    subst hvn
    exact ⟨va, vc, rfl, q⟩
  have HD2 : Hid (∀ ks w1, EKt b w ks τ2 w1 → Calls Tryz.prog 31 #[.pointer (some ⟨b, 0, none⟩), .int .i64 1, .agg #[.int .i64 6, .int .i64 0, .int .i64 0, .int .i64 0]] w1 (fun e w' => ∃ va vc, e = .returned (.tuple #[.agg #[.int .i64 (s4.e : Int), .int .i64 (s4.value : Int), .slice va s4.pairs.length vc, .int .i64 3, .int .i64 (s4.reason : Int)], .int .i64 0]) ∧ EKt b w (.row 2 (.slice va s4.pairs.length vc) (pairCs s4.pairs) :: ks) τ4 w')) := fun ks w1 h => by
    refine (do_kt (s := 1) h (o := ⟨6, 0, 0, 0⟩) (by decide) k3 (by decide : (1000 : Nat) ≤ _) k4).mono ?_
    rintro e w' ⟨va, vn, vc, rfl, hvn, q⟩
    rw [k4o]
    subst hvn
    exact ⟨va, vc, rfl, q⟩
  have HE : Hid (∀ ks w1, EKt b w ks τ4 w1 → Calls Tryz.prog 40 #[.pointer (some ⟨b, 0, none⟩), .slice none 0 0] w1 (EV b w ks τ5 (.tuple #[.int .i64 (n5 : Int), .bool true]))) := fun ks w1 h => by
    exact end_kt h k5
  have HPS : Hid (∀ ks w1, EKt b w ks τ5 w1 → Calls Tryz.prog 29 #[.pointer (some ⟨b, 0, none⟩)] w1 (fun e w' => ∃ av ac, e = .returned (.slice av 1 ac) ∧ EKt b w (.row 2 (.slice av 1 ac) (pairCs τ5.pairs) :: ks) τ5 w')) := fun ks w1 h => by
    have hh := pairs_kt h k6
    rw [k7] at hh
    exact hh
  clear h0 h0l h1 h2 h3 h4 h4e h5 h6 k1 k2 k2p k3 k4 k4o k5 k6 k7
  go_upto_region 14 with (first | (go_at_call 36; refine (HW0.out _ _ T0.out).mono ?_; rintro e w9 ⟨rb, ro, rc, rfl, q⟩; have T1 := Lib.hid q; clear q T0) | (go_at_call 35; refine (HB1.out _ _ (T1.out)).mono ?_; rintro e w9 ⟨rfl, q⟩; have T2 := Lib.hid q; clear q T1) | (go_at_call 35; refine (HB0.out _ _ (T2.out)).mono ?_; rintro e w9 ⟨rfl, q⟩; have T3 := Lib.hid q; clear q T2))
  go_upto_region 23 with (first | (go_at_call 31; refine (HD0.out _ _ (T3.out.alloc _ |>.alloc _)).mono ?_; rintro e w9 ⟨va, vc, rfl, q⟩; have T4 := Lib.hid q; clear q T3) | (go_at_call 17; refine (HI.out _ _ (T4.out.alloc _)).mono ?_; rintro e w9 ⟨rfl, q⟩; have T5 := Lib.hid q; clear q T4) | (go_at_call 39; refine (HP.out _ _ (T5.out)).mono ?_; rintro e w9 ⟨rfl, q⟩; have T6 := Lib.hid q; clear q T5) | (go_at_call 31; refine (HD1.out _ _ (T6.out)).mono ?_; rintro e wd ⟨vb, vd, rfl, q⟩; have T7 := Lib.hid q; clear q T6) | (go_at_call 31; refine (HD2.out _ _ (T7.out.alloc _)).mono ?_; rintro e w8 ⟨ve, vf, rfl, q⟩; have hf := q.obj (List.mem_cons_of_mem _ (List.mem_cons_self ..)); have c16 : (w8.alloc (.cells #[.int .i64 (s4.e : Int), .int .i64 (s4.value : Int), .slice ve s4.pairs.length vf, .int .i64 3, .int .i64 (s4.reason : Int)] 42)).cell? ⟨wd.heap.size, 2, none⟩ = some (.slice vb 1 vd) := (by have hlt := lt_of hf; rw [cell_alloc_old _ _ hlt]; simp [World.cell?, hf]); clear hf; have T8 := Lib.hid q; clear q T7) | (go_at_call 41; refine (same_pairs _ _ [(3, 10)] _ _ _ (Row.alloc' (Row.alloc' (T8.out.row (List.mem_cons_of_mem _ (List.mem_cons_of_mem _ (List.mem_cons_self ..)))) _) _) (row_new' _ (pairCs [(3, 10)]) _ 1 2 (w8.heap.size + 1) (by simp) rfl (by decide))).mono ?_; rintro e w10 ⟨rfl, q⟩; have T9 := Lib.hid (((T8.out.alloc _).alloc _).below q); have hf := T9.out.obj (List.mem_cons_of_mem _ (List.mem_cons_self ..)); have c18 : w10.cell? ⟨w8.heap.size, 3, none⟩ = some (.int .i64 3) := (by simp [World.cell?, hf]); clear q hf T8) | (go_at_call 40; refine (HE.out _ _ (T9.out)).mono ?_; rintro e w11 ⟨rfl, q⟩; have T10 := Lib.hid q; clear q T9))
  go_region_with (first | (go_at_call 29; refine (HPS.out _ _ T10.out.drew1).mono ?_; rintro e w12 ⟨pv, pc, rfl, q⟩; have T11 := Lib.hid q; clear q) | (go_at_call 29; refine (HPS.out _ _ (T10.out.drew1.alloc _)).mono ?_; rintro e w12 ⟨pv, pc, rfl, q⟩; have hf := q.obj (List.mem_cons_of_mem _ (List.mem_cons_self ..)); have c19 : w12.cell? ⟨w11.heap.size, 0, none⟩ = some (.int .i64 1) := (by simp at hf; simp [World.cell?, hf]); have T11 := Lib.hid q; clear q hf) | (go_at_call 22; refine (HAW.out _).mono ?_; rintro e w13 ⟨rfl, q⟩; have HB13 := Lib.hid q; clear q))
  all_goals (go_wp2_with fail; go_ret; exact ⟨rfl, by first | exact (T11.out.below HB13.out).toBelow | exact ((T11.out.alloc _).below HB13.out).toBelow⟩)
end Go.Proofs.YtdgombgcjeelpaaGreat.Em

namespace Go.Proofs.YtdgombgcjeelpaaGreat.Em
open Go.ChangeShapes Go.WideShapes Go.ChangeAt Go.RowKit En
set_option linter.unusedVariables false
set_option linter.unusedSimpArgs false
set_option maxRecDepth 100000
set_option maxHeartbeats 1600000

theorem pass_law1 (how' level' : Int) (w : World) (hw0 : (bits .and .i64 how' 255).tmod 3 = 1) : Calls Tryz.prog 11 #[.int .i64 how', .int .i64 level'] w fun e w' => e = .returned (.bool true) ∧ Below w.heap.size w w' := by
  have hws := hw0
  obtain ⟨c, hc, hcs⟩ := mask_to level' 3 (by decide)
  rw [show ((3 : Nat) : Int) = 3 from rfl] at hcs
  have hall := pass_all 1 (c + 1) (by omega) (by omega) (by omega)
  obtain ⟨σ0, rs0, σ1, i1, σ2, i2, σ3, σ4, r4, σ5, σ6, h0, h0l, h1, h2, h3, h4, h4e, h5, h6, hend⟩ := passRun_ok hall
  obtain ⟨τ1, τ2, s2, τ3, τ4, s4, τ5, n5, k1, k2, k2p, k3, k4, k4o, k5, k6, k7⟩ := passEnd_ok hend
  clear hall hend
  have n2 : IntKind.i64.wrap ((c : Int) + 1) = (c : Int) + 1 := by rw [IntKind.wrap_i64]; omega
  have HN : Hid (∀ w, Calls Tryz.prog 23 #[.agg #[.int .i64 40, .int .u64 1000]] w fun e w' => ∃ b, e = .returned (.tuple #[.pointer (some ⟨b, 0, none⟩), .int .i64 0]) ∧ EKt b w [] (new 40 1000) w') := fun w => (new_at 40 1000 (by omega) (by omega) (by omega) (by omega) w).mono fun e w' ⟨b, h, q⟩ => ⟨b, h, q.kt⟩
  have HAW := Lib.hid awake24
  replace k7 : τ5.pairs.length = 0 := k7
  rw [show wayOf 1 = ⟨4, 3, 0, 0⟩ from rfl] at h3
  go_enter Tryz.func11, Tryz.ntmps11
  go_upto_region 2 with fail
  generalize hcc : (c : Int) + 1 = cc at *
  clear hws hw0 hcs n2
  go_upto_region 4 with (go_at_call 23; refine (HN.out _).mono ?_; rintro e w1 ⟨b, rfl, q⟩; have T0 := Lib.hid q; clear q)
  clear HN
  have HW0 : Hid (∀ ks w1, EKt b w ks (new 40 1000) w1 → Calls Tryz.prog 36 #[.pointer (some ⟨b, 0, none⟩), .int .i64 7, .int .i64 1, .slice (some ⟨w1.heap.size, 0, none⟩) 1 1] (w1.alloc (.cells #[.int .i64 2, .int .i64 3, .int .i64 0, .int .i64 10] 31)) fun e w' => ∃ rb ro rc, e = .returned (.tuple #[.slice (some ⟨rb, ro, none⟩) rs0.length rc, .int .i64 0]) ∧ EKt b w ks σ0 w') := fun ks w1 h => by
    refine (whole_kt h (ops := [⟨2, 3, 0, 10⟩]) (level := 1) (s := 7) (#[.int .i64 2, .int .i64 3, .int .i64 0, .int .i64 10]) 1 (by decide) (by decide : (1000 : Nat) ≤ _) h0 rfl rfl (by decide) (by first | assumption | simp)).mono ?_
    rintro e w' ⟨rb, ro, rc, rfl, q1, q2⟩

    exact ⟨rb, ro, rc, rfl, q1⟩
  have HB1 : Hid (∀ ks w1, EKt b w ks σ0 w1 → Calls Tryz.prog 35 #[.pointer (some ⟨b, 0, none⟩), .int .i64 1, .int .i64 1] w1 (EV b w ks σ1 (.tuple #[.int .i64 (i1 : Int), .int .i64 0]))) := fun ks w1 h => by
    exact begin_kt (s := 1) h (by decide) h1
  have HB0 : Hid (∀ ks w1, EKt b w ks σ1 w1 → Calls Tryz.prog 35 #[.pointer (some ⟨b, 0, none⟩), .int .i64 0, .int .i64 cc] w1 (EV b w ks σ2 (.tuple #[.int .i64 (i2 : Int), .int .i64 0]))) := fun ks w1 h => by
    rw [← hcc]
    exact begin_kt (s := 0) h (by decide) h2
  have HD0 : Hid (∀ ks w1, EKt b w ks σ2 w1 → Calls Tryz.prog 31 #[.pointer (some ⟨b, 0, none⟩), .int .i64 0, .agg #[.int .i64 4, .int .i64 3, .int .i64 0, .int .i64 0]] w1 (fun e w' => ∃ va vc, e = .returned (.tuple #[.agg #[.int .i64 0, .int .i64 (r4.value : Int), .slice va r4.pairs.length vc, .int .i64 (r4.over : Int), .int .i64 (r4.reason : Int)], .int .i64 0]) ∧ EKt b w (.row 2 (.slice va r4.pairs.length vc) (pairCs r4.pairs) :: ks) σ4 w')) := fun ks w1 h => by
    refine (do_kt (s := 0) h (o := ⟨4, 3, 0, 0⟩) (by decide) h3 (by decide : (1000 : Nat) ≤ _) h4).mono ?_
    rintro e w' ⟨va, vn, vc, rfl, hvn, q⟩
    rw [h4e]
    subst hvn
    exact ⟨va, vc, rfl, q⟩
  have HI : Hid (∀ ks w1, EKt b w ks σ4 w1 → Calls Tryz.prog 17 #[.pointer (some ⟨b, 0, none⟩), .int .i64 0, .agg #[.int .i64 6, .int .i64 0, .int .i64 0, .int .i64 0]] w1 (EV b w ks σ5 (.int .i64 0))) := fun ks w1 h => by
    exact issue_kt (s := 0) (o := ⟨6, 0, 0, 0⟩) h (by decide) h5
  have HP : Hid (∀ ks w1, EKt b w ks σ5 w1 → Calls Tryz.prog 39 #[.pointer (some ⟨b, 0, none⟩), .int .i64 0] w1 (EV b w ks σ6 (.bool true))) := fun ks w1 h => by
    exact prep_kt (s := 0) h (by decide) (by decide : (1000 : Nat) ≤ _) h6
  have HD1 : Hid (∀ ks w1, EKt b w ks σ6 w1 → Calls Tryz.prog 31 #[.pointer (some ⟨b, 0, none⟩), .int .i64 1, .agg #[.int .i64 5, .int .i64 0, .int .i64 63, .int .i64 0]] w1 (fun e w' => ∃ va vc, e = .returned (.tuple #[.agg #[.int .i64 (s2.e : Int), .int .i64 (s2.value : Int), .slice va 1 vc, .int .i64 (s2.over : Int), .int .i64 (s2.reason : Int)], .int .i64 0]) ∧ EKt b w (.row 2 (.slice va 1 vc) (pairCs [(3, 10)]) :: ks) τ2 w')) := fun ks w1 h => by
    refine (do_kt (s := 1) h (o := ⟨5, 0, 63, 0⟩) (by decide) k1 (by decide : (1000 : Nat) ≤ _) k2).mono ?_
    rintro e w' ⟨va, vn, vc, rfl, hvn, q⟩
    rw [k2p] at hvn q
    subst hvn
    exact ⟨va, vc, rfl, q⟩
  have HD2 : Hid (∀ ks w1, EKt b w ks τ2 w1 → Calls Tryz.prog 31 #[.pointer (some ⟨b, 0, none⟩), .int .i64 1, .agg #[.int .i64 6, .int .i64 0, .int .i64 0, .int .i64 0]] w1 (fun e w' => ∃ va vc, e = .returned (.tuple #[.agg #[.int .i64 (s4.e : Int), .int .i64 (s4.value : Int), .slice va s4.pairs.length vc, .int .i64 3, .int .i64 (s4.reason : Int)], .int .i64 0]) ∧ EKt b w (.row 2 (.slice va s4.pairs.length vc) (pairCs s4.pairs) :: ks) τ4 w')) := fun ks w1 h => by
    refine (do_kt (s := 1) h (o := ⟨6, 0, 0, 0⟩) (by decide) k3 (by decide : (1000 : Nat) ≤ _) k4).mono ?_
    rintro e w' ⟨va, vn, vc, rfl, hvn, q⟩
    rw [k4o]
    subst hvn
    exact ⟨va, vc, rfl, q⟩
  have HE : Hid (∀ ks w1, EKt b w ks τ4 w1 → Calls Tryz.prog 40 #[.pointer (some ⟨b, 0, none⟩), .slice none 0 0] w1 (EV b w ks τ5 (.tuple #[.int .i64 (n5 : Int), .bool true]))) := fun ks w1 h => by
    exact end_kt h k5
  have HPS : Hid (∀ ks w1, EKt b w ks τ5 w1 → Calls Tryz.prog 29 #[.pointer (some ⟨b, 0, none⟩)] w1 (fun e w' => ∃ av ac, e = .returned (.slice av 0 ac) ∧ EKt b w (.row 2 (.slice av 0 ac) (pairCs τ5.pairs) :: ks) τ5 w')) := fun ks w1 h => by
    have hh := pairs_kt h k6
    rw [k7] at hh
    exact hh
  clear h0 h0l h1 h2 h3 h4 h4e h5 h6 k1 k2 k2p k3 k4 k4o k5 k6 k7
  go_upto_region 14 with (first | (go_at_call 36; refine (HW0.out _ _ T0.out).mono ?_; rintro e w9 ⟨rb, ro, rc, rfl, q⟩; have T1 := Lib.hid q; clear q T0) | (go_at_call 35; refine (HB1.out _ _ (T1.out)).mono ?_; rintro e w9 ⟨rfl, q⟩; have T2 := Lib.hid q; clear q T1) | (go_at_call 35; refine (HB0.out _ _ (T2.out)).mono ?_; rintro e w9 ⟨rfl, q⟩; have T3 := Lib.hid q; clear q T2))
  go_upto_region 23 with (first | (go_at_call 31; refine (HD0.out _ _ (T3.out.alloc _ |>.alloc _)).mono ?_; rintro e w9 ⟨va, vc, rfl, q⟩; have T4 := Lib.hid q; clear q T3) | (go_at_call 17; refine (HI.out _ _ (T4.out.alloc _)).mono ?_; rintro e w9 ⟨rfl, q⟩; have T5 := Lib.hid q; clear q T4) | (go_at_call 39; refine (HP.out _ _ (T5.out)).mono ?_; rintro e w9 ⟨rfl, q⟩; have T6 := Lib.hid q; clear q T5) | (go_at_call 31; refine (HD1.out _ _ (T6.out)).mono ?_; rintro e wd ⟨vb, vd, rfl, q⟩; have T7 := Lib.hid q; clear q T6) | (go_at_call 31; refine (HD2.out _ _ (T7.out.alloc _)).mono ?_; rintro e w8 ⟨ve, vf, rfl, q⟩; have hf := q.obj (List.mem_cons_of_mem _ (List.mem_cons_self ..)); have c16 : (w8.alloc (.cells #[.int .i64 (s4.e : Int), .int .i64 (s4.value : Int), .slice ve s4.pairs.length vf, .int .i64 3, .int .i64 (s4.reason : Int)] 42)).cell? ⟨wd.heap.size, 2, none⟩ = some (.slice vb 1 vd) := (by have hlt := lt_of hf; rw [cell_alloc_old _ _ hlt]; simp [World.cell?, hf]); clear hf; have T8 := Lib.hid q; clear q T7) | (go_at_call 41; refine (same_pairs _ _ [(3, 10)] _ _ _ (Row.alloc' (Row.alloc' (T8.out.row (List.mem_cons_of_mem _ (List.mem_cons_of_mem _ (List.mem_cons_self ..)))) _) _) (row_new' _ (pairCs [(3, 10)]) _ 1 2 (w8.heap.size + 1) (by simp) rfl (by decide))).mono ?_; rintro e w10 ⟨rfl, q⟩; have T9 := Lib.hid (((T8.out.alloc _).alloc _).below q); have hf := T9.out.obj (List.mem_cons_of_mem _ (List.mem_cons_self ..)); have c18 : w10.cell? ⟨w8.heap.size, 3, none⟩ = some (.int .i64 3) := (by simp [World.cell?, hf]); clear q hf T8) | (go_at_call 40; refine (HE.out _ _ (T9.out)).mono ?_; rintro e w11 ⟨rfl, q⟩; have T10 := Lib.hid q; clear q T9))
  go_region_with (first | (go_at_call 29; refine (HPS.out _ _ T10.out.drew1).mono ?_; rintro e w12 ⟨pv, pc, rfl, q⟩; have T11 := Lib.hid q; clear q) | (go_at_call 29; refine (HPS.out _ _ (T10.out.drew1.alloc _)).mono ?_; rintro e w12 ⟨pv, pc, rfl, q⟩; have hf := q.obj (List.mem_cons_of_mem _ (List.mem_cons_self ..)); have c19 : w12.cell? ⟨w11.heap.size, 1, none⟩ = some (.int .i64 0) := (by simp at hf; simp [World.cell?, hf]); have T11 := Lib.hid q; clear q hf) | (go_at_call 22; refine (HAW.out _).mono ?_; rintro e w13 ⟨rfl, q⟩; have HB13 := Lib.hid q; clear q))
  all_goals (go_wp2_with fail; go_ret; exact ⟨rfl, by first | exact (T11.out.below HB13.out).toBelow | exact ((T11.out.alloc _).below HB13.out).toBelow⟩)
end Go.Proofs.YtdgombgcjeelpaaGreat.Em

namespace Go.Proofs.YtdgombgcjeelpaaGreat.Em
open Go.ChangeShapes Go.WideShapes Go.ChangeAt Go.RowKit En
set_option linter.unusedVariables false
set_option linter.unusedSimpArgs false
set_option maxRecDepth 100000
set_option maxHeartbeats 1600000

theorem pass_law2 (how' level' : Int) (w : World) (hw0 : (bits .and .i64 how' 255).tmod 3 = 2) : Calls Tryz.prog 11 #[.int .i64 how', .int .i64 level'] w fun e w' => e = .returned (.bool true) ∧ Below w.heap.size w w' := by
  have hws := hw0
  obtain ⟨c, hc, hcs⟩ := mask_to level' 3 (by decide)
  rw [show ((3 : Nat) : Int) = 3 from rfl] at hcs
  have hall := pass_all 2 (c + 1) (by omega) (by omega) (by omega)
  obtain ⟨σ0, rs0, σ1, i1, σ2, i2, σ3, σ4, r4, σ5, σ6, h0, h0l, h1, h2, h3, h4, h4e, h5, h6, hend⟩ := passRun_ok hall
  obtain ⟨τ1, τ2, s2, τ3, τ4, s4, τ5, n5, k1, k2, k2p, k3, k4, k4o, k5, k6, k7⟩ := passEnd_ok hend
  clear hall hend
  have n2 : IntKind.i64.wrap ((c : Int) + 1) = (c : Int) + 1 := by rw [IntKind.wrap_i64]; omega
  have HN : Hid (∀ w, Calls Tryz.prog 23 #[.agg #[.int .i64 40, .int .u64 1000]] w fun e w' => ∃ b, e = .returned (.tuple #[.pointer (some ⟨b, 0, none⟩), .int .i64 0]) ∧ EKt b w [] (new 40 1000) w') := fun w => (new_at 40 1000 (by omega) (by omega) (by omega) (by omega) w).mono fun e w' ⟨b, h, q⟩ => ⟨b, h, q.kt⟩
  have HAW := Lib.hid awake24
  replace k7 : τ5.pairs.length = 2 := k7
  rw [show wayOf 2 = ⟨2, 4, 0, 40⟩ from rfl] at h3
  go_enter Tryz.func11, Tryz.ntmps11
  go_upto_region 2 with fail
  generalize hcc : (c : Int) + 1 = cc at *
  clear hws hw0 hcs n2
  go_upto_region 4 with (go_at_call 23; refine (HN.out _).mono ?_; rintro e w1 ⟨b, rfl, q⟩; have T0 := Lib.hid q; clear q)
  clear HN
  have HW0 : Hid (∀ ks w1, EKt b w ks (new 40 1000) w1 → Calls Tryz.prog 36 #[.pointer (some ⟨b, 0, none⟩), .int .i64 7, .int .i64 1, .slice (some ⟨w1.heap.size, 0, none⟩) 1 1] (w1.alloc (.cells #[.int .i64 2, .int .i64 3, .int .i64 0, .int .i64 10] 31)) fun e w' => ∃ rb ro rc, e = .returned (.tuple #[.slice (some ⟨rb, ro, none⟩) rs0.length rc, .int .i64 0]) ∧ EKt b w ks σ0 w') := fun ks w1 h => by
    refine (whole_kt h (ops := [⟨2, 3, 0, 10⟩]) (level := 1) (s := 7) (#[.int .i64 2, .int .i64 3, .int .i64 0, .int .i64 10]) 1 (by decide) (by decide : (1000 : Nat) ≤ _) h0 rfl rfl (by decide) (by first | assumption | simp)).mono ?_
    rintro e w' ⟨rb, ro, rc, rfl, q1, q2⟩

    exact ⟨rb, ro, rc, rfl, q1⟩
  have HB1 : Hid (∀ ks w1, EKt b w ks σ0 w1 → Calls Tryz.prog 35 #[.pointer (some ⟨b, 0, none⟩), .int .i64 1, .int .i64 1] w1 (EV b w ks σ1 (.tuple #[.int .i64 (i1 : Int), .int .i64 0]))) := fun ks w1 h => by
    exact begin_kt (s := 1) h (by decide) h1
  have HB0 : Hid (∀ ks w1, EKt b w ks σ1 w1 → Calls Tryz.prog 35 #[.pointer (some ⟨b, 0, none⟩), .int .i64 0, .int .i64 cc] w1 (EV b w ks σ2 (.tuple #[.int .i64 (i2 : Int), .int .i64 0]))) := fun ks w1 h => by
    rw [← hcc]
    exact begin_kt (s := 0) h (by decide) h2
  have HD0 : Hid (∀ ks w1, EKt b w ks σ2 w1 → Calls Tryz.prog 31 #[.pointer (some ⟨b, 0, none⟩), .int .i64 0, .agg #[.int .i64 2, .int .i64 4, .int .i64 0, .int .i64 40]] w1 (fun e w' => ∃ va vc, e = .returned (.tuple #[.agg #[.int .i64 0, .int .i64 (r4.value : Int), .slice va r4.pairs.length vc, .int .i64 (r4.over : Int), .int .i64 (r4.reason : Int)], .int .i64 0]) ∧ EKt b w (.row 2 (.slice va r4.pairs.length vc) (pairCs r4.pairs) :: ks) σ4 w')) := fun ks w1 h => by
    refine (do_kt (s := 0) h (o := ⟨2, 4, 0, 40⟩) (by decide) h3 (by decide : (1000 : Nat) ≤ _) h4).mono ?_
    rintro e w' ⟨va, vn, vc, rfl, hvn, q⟩
    rw [h4e]
    subst hvn
    exact ⟨va, vc, rfl, q⟩
  have HI : Hid (∀ ks w1, EKt b w ks σ4 w1 → Calls Tryz.prog 17 #[.pointer (some ⟨b, 0, none⟩), .int .i64 0, .agg #[.int .i64 6, .int .i64 0, .int .i64 0, .int .i64 0]] w1 (EV b w ks σ5 (.int .i64 0))) := fun ks w1 h => by
    exact issue_kt (s := 0) (o := ⟨6, 0, 0, 0⟩) h (by decide) h5
  have HP : Hid (∀ ks w1, EKt b w ks σ5 w1 → Calls Tryz.prog 39 #[.pointer (some ⟨b, 0, none⟩), .int .i64 0] w1 (EV b w ks σ6 (.bool true))) := fun ks w1 h => by
    exact prep_kt (s := 0) h (by decide) (by decide : (1000 : Nat) ≤ _) h6
  have HD1 : Hid (∀ ks w1, EKt b w ks σ6 w1 → Calls Tryz.prog 31 #[.pointer (some ⟨b, 0, none⟩), .int .i64 1, .agg #[.int .i64 5, .int .i64 0, .int .i64 63, .int .i64 0]] w1 (fun e w' => ∃ va vc, e = .returned (.tuple #[.agg #[.int .i64 (s2.e : Int), .int .i64 (s2.value : Int), .slice va 1 vc, .int .i64 (s2.over : Int), .int .i64 (s2.reason : Int)], .int .i64 0]) ∧ EKt b w (.row 2 (.slice va 1 vc) (pairCs [(3, 10)]) :: ks) τ2 w')) := fun ks w1 h => by
    refine (do_kt (s := 1) h (o := ⟨5, 0, 63, 0⟩) (by decide) k1 (by decide : (1000 : Nat) ≤ _) k2).mono ?_
    rintro e w' ⟨va, vn, vc, rfl, hvn, q⟩
    rw [k2p] at hvn q
    subst hvn
    exact ⟨va, vc, rfl, q⟩
  have HD2 : Hid (∀ ks w1, EKt b w ks τ2 w1 → Calls Tryz.prog 31 #[.pointer (some ⟨b, 0, none⟩), .int .i64 1, .agg #[.int .i64 6, .int .i64 0, .int .i64 0, .int .i64 0]] w1 (fun e w' => ∃ va vc, e = .returned (.tuple #[.agg #[.int .i64 (s4.e : Int), .int .i64 (s4.value : Int), .slice va s4.pairs.length vc, .int .i64 3, .int .i64 (s4.reason : Int)], .int .i64 0]) ∧ EKt b w (.row 2 (.slice va s4.pairs.length vc) (pairCs s4.pairs) :: ks) τ4 w')) := fun ks w1 h => by
    refine (do_kt (s := 1) h (o := ⟨6, 0, 0, 0⟩) (by decide) k3 (by decide : (1000 : Nat) ≤ _) k4).mono ?_
    rintro e w' ⟨va, vn, vc, rfl, hvn, q⟩
    rw [k4o]
    subst hvn
    exact ⟨va, vc, rfl, q⟩
  have HE : Hid (∀ ks w1, EKt b w ks τ4 w1 → Calls Tryz.prog 40 #[.pointer (some ⟨b, 0, none⟩), .slice none 0 0] w1 (EV b w ks τ5 (.tuple #[.int .i64 (n5 : Int), .bool true]))) := fun ks w1 h => by
    exact end_kt h k5
  have HPS : Hid (∀ ks w1, EKt b w ks τ5 w1 → Calls Tryz.prog 29 #[.pointer (some ⟨b, 0, none⟩)] w1 (fun e w' => ∃ av ac, e = .returned (.slice av 2 ac) ∧ EKt b w (.row 2 (.slice av 2 ac) (pairCs τ5.pairs) :: ks) τ5 w')) := fun ks w1 h => by
    have hh := pairs_kt h k6
    rw [k7] at hh
    exact hh
  clear h0 h0l h1 h2 h3 h4 h4e h5 h6 k1 k2 k2p k3 k4 k4o k5 k6 k7
  go_upto_region 14 with (first | (go_at_call 36; refine (HW0.out _ _ T0.out).mono ?_; rintro e w9 ⟨rb, ro, rc, rfl, q⟩; have T1 := Lib.hid q; clear q T0) | (go_at_call 35; refine (HB1.out _ _ (T1.out)).mono ?_; rintro e w9 ⟨rfl, q⟩; have T2 := Lib.hid q; clear q T1) | (go_at_call 35; refine (HB0.out _ _ (T2.out)).mono ?_; rintro e w9 ⟨rfl, q⟩; have T3 := Lib.hid q; clear q T2))
  go_upto_region 23 with (first | (go_at_call 31; refine (HD0.out _ _ (T3.out.alloc _ |>.alloc _)).mono ?_; rintro e w9 ⟨va, vc, rfl, q⟩; have T4 := Lib.hid q; clear q T3) | (go_at_call 17; refine (HI.out _ _ (T4.out.alloc _)).mono ?_; rintro e w9 ⟨rfl, q⟩; have T5 := Lib.hid q; clear q T4) | (go_at_call 39; refine (HP.out _ _ (T5.out)).mono ?_; rintro e w9 ⟨rfl, q⟩; have T6 := Lib.hid q; clear q T5) | (go_at_call 31; refine (HD1.out _ _ (T6.out)).mono ?_; rintro e wd ⟨vb, vd, rfl, q⟩; have T7 := Lib.hid q; clear q T6) | (go_at_call 31; refine (HD2.out _ _ (T7.out.alloc _)).mono ?_; rintro e w8 ⟨ve, vf, rfl, q⟩; have hf := q.obj (List.mem_cons_of_mem _ (List.mem_cons_self ..)); have c16 : (w8.alloc (.cells #[.int .i64 (s4.e : Int), .int .i64 (s4.value : Int), .slice ve s4.pairs.length vf, .int .i64 3, .int .i64 (s4.reason : Int)] 42)).cell? ⟨wd.heap.size, 2, none⟩ = some (.slice vb 1 vd) := (by have hlt := lt_of hf; rw [cell_alloc_old _ _ hlt]; simp [World.cell?, hf]); clear hf; have T8 := Lib.hid q; clear q T7) | (go_at_call 41; refine (same_pairs _ _ [(3, 10)] _ _ _ (Row.alloc' (Row.alloc' (T8.out.row (List.mem_cons_of_mem _ (List.mem_cons_of_mem _ (List.mem_cons_self ..)))) _) _) (row_new' _ (pairCs [(3, 10)]) _ 1 2 (w8.heap.size + 1) (by simp) rfl (by decide))).mono ?_; rintro e w10 ⟨rfl, q⟩; have T9 := Lib.hid (((T8.out.alloc _).alloc _).below q); have hf := T9.out.obj (List.mem_cons_of_mem _ (List.mem_cons_self ..)); have c18 : w10.cell? ⟨w8.heap.size, 3, none⟩ = some (.int .i64 3) := (by simp [World.cell?, hf]); clear q hf T8) | (go_at_call 40; refine (HE.out _ _ (T9.out)).mono ?_; rintro e w11 ⟨rfl, q⟩; have T10 := Lib.hid q; clear q T9))
  go_region_with (first | (go_at_call 29; refine (HPS.out _ _ T10.out.drew1).mono ?_; rintro e w12 ⟨pv, pc, rfl, q⟩; have T11 := Lib.hid q; clear q) | (go_at_call 29; refine (HPS.out _ _ (T10.out.drew1.alloc _)).mono ?_; rintro e w12 ⟨pv, pc, rfl, q⟩; have hf := q.obj (List.mem_cons_of_mem _ (List.mem_cons_self ..)); have c19 : w12.cell? ⟨w11.heap.size, 2, none⟩ = some (.int .i64 2) := (by simp at hf; simp [World.cell?, hf]); have T11 := Lib.hid q; clear q hf) | (go_at_call 22; refine (HAW.out _).mono ?_; rintro e w13 ⟨rfl, q⟩; have HB13 := Lib.hid q; clear q))
  all_goals (go_wp2_with fail; go_ret; exact ⟨rfl, by first | exact (T11.out.below HB13.out).toBelow | exact ((T11.out.alloc _).below HB13.out).toBelow⟩)
end Go.Proofs.YtdgombgcjeelpaaGreat.Em

namespace Go.Proofs.YtdgombgcjeelpaaGreat.Em
open Go.ChangeShapes Go.WideShapes Go.ChangeAt Go.RowKit En
set_option linter.unusedVariables false
set_option linter.unusedSimpArgs false
set_option maxRecDepth 100000
set_option maxHeartbeats 1600000

theorem pass_law (how' level' : Int) (w : World) : Calls Tryz.prog 11 #[.int .i64 how', .int .i64 level'] w fun e w' => e = .returned (.bool true) ∧ Below w.heap.size w w' := by
  obtain ⟨hw, hhw, hws⟩ := mask_to how' 3 (by decide)
  rw [show ((3 : Nat) : Int) = 3 from rfl] at hws
  have hw3 : hw = 0 ∨ hw = 1 ∨ hw = 2 := by omega
  rcases hw3 with rfl | rfl | rfl
  · exact pass_law0 how' level' w hws
  · exact pass_law1 how' level' w hws
  · exact pass_law2 how' level' w hws
end Go.Proofs.YtdgombgcjeelpaaGreat.Em
