/- Texts of this claim, laid together: Phw. -/
import Derived.Test.YtbefcdjcefmicaaGreatGom10
import Derived.Test.YtbefcdjcefmicaaGreatGom11
import Derived.Test.YtbefcdjcefmicaaGreatBase18
import Derived.Deep.RegionWith
namespace Go.Proofs.YtbefcdjcefmicaaGreat.Em
open Go.ChangeShapes Go.WideShapes Go.ChangeAt Go.RowKit En
set_option linter.unusedVariables false
set_option linter.unusedSimpArgs false
set_option maxRecDepth 100000
set_option maxHeartbeats 1600000
theorem objh {w : World} {g : Nat} {cs : Array Value} {T : TypeId} (h : w.heap[g]? = some (.cells cs T)) (i : Nat) {v : Value} (hv : cs[i]? = some v) : w.cell? ⟨g, i, none⟩ = some v := by
 rw [cell_of_row w g i _ _ _ h]; exact hv
theorem phEnd_two {Y : Cx.Ys} (h : phEnd 2 Y = true) : Y.x = 3 ∧ Y.y = 3 := by
 unfold phEnd at h
 cases h1 : Nat.beq Y.x 3 <;> cases h2 : Nat.beq Y.y 3 <;> simp [h1, h2, Nat.beq] at h
 exact ⟨Nat.eq_of_beq_eq_true h1, Nat.eq_of_beq_eq_true h2⟩
theorem phEnd_three {Y : Cx.Ys} (h : phEnd 3 Y = true) : Y.x ≠ 3 ∨ (Y.x = 3 ∧ Y.y ≠ 3) := by
 unfold phEnd at h
 by_cases h1 : Y.x = 3
 · refine .inr ⟨h1, fun h2 => ?_⟩
   rw [h1, h2] at h
   simp [Nat.beq] at h
 · exact .inl h1
theorem phan_2 (z p' q' : Int) (w : World) : Calls Tryz.prog 7 #[.bool false, .int .u64 z, .int .i64 p', .int .i64 q'] w fun e w' => e = .returned (.bool true) ∧ Below w.heap.size w w' := by
 obtain ⟨m, hm, hmp⟩ : ∃ m : Nat, m < 8 ∧ bits .and .i64 p' 7 = (m : Int) := ⟨(p' % 8).toNat, by omega, by rw [Bt.i64_and7]; omega⟩
 obtain ⟨n, hn, hnq⟩ : ∃ n : Nat, n < 8 ∧ bits .and .i64 q' 7 = (n : Int) := ⟨(q' % 8).toNat, by omega, by rw [Bt.i64_and7]; omega⟩
 obtain ⟨pp, hpp⟩ : ∃ pp, pp = (((10 + m : Nat)) : Int) := ⟨_, rfl⟩
 obtain ⟨qq, hqq⟩ : ∃ qq, qq = (((30 + n : Nat)) : Int) := ⟨_, rfl⟩
 have n1 : IntKind.i64.wrap (10 + (m : Int)) = pp := by rw [IntKind.wrap_i64, hpp]; omega
 have n2 : IntKind.i64.wrap (30 + (n : Int)) = qq := by rw [IntKind.wrap_i64, hqq]; omega
 obtain ⟨σ0, a1, σ1, r1, a2, σ2, r2, a3, σ3, r3, a4, σ4, r4, σ5, σ6, h0, h1, h2, h3, h4, h5, h6, e3, h7, h8, e4, h9, h10, hC⟩ := phRun_ok (ph_all 2 (10 + m) (30 + n) (by omega) (by omega) (by omega) (by omega) (by omega))
 have HTW : Hid (∀ w, Calls Tryz.prog 36 #[.int .i64 2, .int .i64 2] w fun e w' => ∃ b, e = .returned (.pointer (some ⟨b, 0, none⟩)) ∧ EKt b w [] σ0 w') := twoSt_ok h0
 have HAW := Lib.hid awake24
 have HPP := Lib.hid hpp
 have HQQ := Lib.hid hqq
 clear h0 hm hn hpp hqq
 go_enter Tryz.func7, Tryz.ntmps7
 go_upto_region 8 with (go_at_call 36; refine (HTW.out _).mono ?_; rintro e w1 ⟨b, rfl, q⟩; have T0 := Lib.hid q; clear q)
 clear HTW
 have HD1 : Hid (∀ ks w1, EKt b w ks σ0 w1 → Calls Tryz.prog 37 #[.pointer (some ⟨b, 0, none⟩), .int .i64 0, .agg #[.int .i64 5, .int .i64 30, .int .i64 40, .int .i64 0]] w1 (fun e w' => ∃ va vc, e = .returned (.tuple #[.agg #[.int .i64 (r1.e : Int), .int .i64 (r1.value : Int), .slice va r1.pairs.length vc, .int .i64 (r1.over : Int), .int .i64 (r1.reason : Int)], .int .i64 0]) ∧ EKt b w (.row 2 (.slice va r1.pairs.length vc) (pairCs r1.pairs) :: ks) σ1 w')) := fun ks w1 h => by
  refine (do_kt (s := 0) h (o := ⟨5, 30, 40, 0⟩) (by decide) h1 (by decide : (1000 : Nat) ≤ _) h2).mono ?_
  rintro e w' ⟨va, vn, vc, rfl, hvn, q⟩
  subst hvn
  exact ⟨va, vc, rfl, q⟩
 have HD2 : Hid (∀ ks w1, EKt b w ks σ1 w1 → Calls Tryz.prog 37 #[.pointer (some ⟨b, 0, none⟩), .int .i64 1, .agg #[.int .i64 5, .int .i64 10, .int .i64 20, .int .i64 0]] w1 (fun e w' => ∃ va vc, e = .returned (.tuple #[.agg #[.int .i64 (r2.e : Int), .int .i64 (r2.value : Int), .slice va r2.pairs.length vc, .int .i64 (r2.over : Int), .int .i64 (r2.reason : Int)], .int .i64 0]) ∧ EKt b w (.row 2 (.slice va r2.pairs.length vc) (pairCs r2.pairs) :: ks) σ2 w')) := fun ks w1 h => by
  refine (do_kt (s := 1) h (o := ⟨5, 10, 20, 0⟩) (by decide) h3 (by decide : (1000 : Nat) ≤ _) h4).mono ?_
  rintro e w' ⟨va, vn, vc, rfl, hvn, q⟩
  subst hvn
  exact ⟨va, vc, rfl, q⟩
 have HD3 : Hid (∀ ks w1, EKt b w ks σ2 w1 → Calls Tryz.prog 37 #[.pointer (some ⟨b, 0, none⟩), .int .i64 0, .agg #[.int .i64 2, .int .i64 pp, .int .i64 0, .int .i64 1]] w1 (fun e w' => ∃ va vc, e = .returned (.tuple #[.agg #[.int .i64 0, .int .i64 (r3.value : Int), .slice va r3.pairs.length vc, .int .i64 (r3.over : Int), .int .i64 (r3.reason : Int)], .int .i64 0]) ∧ EKt b w (.row 2 (.slice va r3.pairs.length vc) (pairCs r3.pairs) :: ks) σ3 w')) := fun ks w1 h => by
  rw [HPP.out]
  refine (do_kt (s := 0) h (o := ⟨2, 10 + m, 0, 1⟩) (by decide) h5 (by decide : (1000 : Nat) ≤ _) h6).mono ?_
  rintro e w' ⟨va, vn, vc, rfl, hvn, q⟩
  rw [e3]
  subst hvn
  exact ⟨va, vc, rfl, q⟩
 have HD4 : Hid (∀ ks w1, EKt b w ks σ3 w1 → Calls Tryz.prog 37 #[.pointer (some ⟨b, 0, none⟩), .int .i64 1, .agg #[.int .i64 2, .int .i64 qq, .int .i64 0, .int .i64 2]] w1 (fun e w' => ∃ va vc, e = .returned (.tuple #[.agg #[.int .i64 0, .int .i64 (r4.value : Int), .slice va r4.pairs.length vc, .int .i64 (r4.over : Int), .int .i64 (r4.reason : Int)], .int .i64 0]) ∧ EKt b w (.row 2 (.slice va r4.pairs.length vc) (pairCs r4.pairs) :: ks) σ4 w')) := fun ks w1 h => by
  rw [HQQ.out]
  refine (do_kt (s := 1) h (o := ⟨2, 30 + n, 0, 2⟩) (by decide) h7 (by decide : (1000 : Nat) ≤ _) h8).mono ?_
  rintro e w' ⟨va, vn, vc, rfl, hvn, q⟩
  rw [e4]
  subst hvn
  exact ⟨va, vc, rfl, q⟩
 have HST : Hid (∀ ks w1, EKt b w ks σ4 w1 → Calls Tryz.prog 38 #[.pointer (some ⟨b, 0, none⟩), .int .u64 z] w1 fun e w' => ∃ (xe xv xr ye yv yr : Int) (xa ya : Option Addr) (xn xc yn yc : Nat) (xo yo : Int), e = .returned (.tuple #[.agg #[.int .i64 xe, .int .i64 xv, .slice xa xn xc, .int .i64 3, .int .i64 xr], .agg #[.int .i64 ye, .int .i64 yv, .slice ya yn yc, .int .i64 3, .int .i64 yr], .bool true]) ∧ (∃ τ, EKt b w [] τ w') ∧ True) := fun ks w1 h => by
  refine (steps_any h h9 h10 hC z).mono ?_
  rintro e w' ⟨x, y, σ7, Y, rfl, q, hf, hx, hy, _⟩
  obtain ⟨o1, o2⟩ := phEnd_two hf
  rw [← hx] at o1
  rw [← hy] at o2
  refine ⟨(x.e : Int), (x.v : Int), (x.r : Int), (y.e : Int), (y.v : Int), (y.r : Int), x.pa, y.pa, x.pn, x.pc, y.pn, y.pc, 0, 0, ?_, ⟨_, q⟩, trivial⟩
  unfold Rc.cs
  rw [o1, o2]
  rfl
 clear h1 h2 h3 h4 h5 h6 e3 h7 h8 e4 h9 h10 hC
 go_upto_region 9 with (go_at_call 37; refine (HD1.out _ _ T0.out).mono ?_; clear T0; rintro e wA ⟨_, _, rfl, q⟩; have T1 := Lib.hid q; clear q)
 go_upto_region 10 with (go_at_call 37; refine (HD2.out _ _ T1.out).mono ?_; clear T1; rintro e wB ⟨_, _, rfl, q⟩; have T2 := Lib.hid q; clear q)
 go_upto_region 11 with (go_at_call 37; refine (HD3.out _ _ T2.out).mono ?_; clear T2; rintro e wC ⟨va, vc, rfl, q⟩; have T3 := Lib.hid (q.alloc (.cells #[.int .i64 0, .int .i64 (r3.value : Int), .slice va r3.pairs.length vc, .int .i64 (r3.over : Int), .int .i64 (r3.reason : Int)] 42)); clear q)
 go_upto_region 12 with (go_at_call 37; refine (HD4.out _ _ T3.out).mono ?_; clear T3; rintro e wD ⟨vb, vd, rfl, q⟩; have T4 := Lib.hid (q.alloc (.cells #[.int .i64 0, .int .i64 (r4.value : Int), .slice vb r4.pairs.length vd, .int .i64 (r4.over : Int), .int .i64 (r4.reason : Int)] 42)); have zb := objh (T4.out.obj List.mem_cons_self) 0 rfl; have za := objh (T4.out.obj (List.mem_cons_of_mem _ (List.mem_cons_of_mem _ List.mem_cons_self))) 0 rfl; clear q)
 go_upto_region 14 with fail
 clear za zb
 generalize wD.alloc _ = wD2 at *
 generalize wD.heap.size = gd at *
 go_upto_region 15 with (go_at_call 38; refine (HST.out _ _ T4.out).mono ?_; clear T4; rintro e wE ⟨xe, xv, xr, ye, yv, yr, xa, ya, xn, xc, yn, yc, xo, yo, rfl, ⟨τ, q⟩, hc⟩; have T5 := Lib.hid ((q.alloc (.cells #[.int .i64 xe, .int .i64 xv, .slice xa xn xc, .int .i64 3, .int .i64 xr] 42)).alloc (.cells #[.int .i64 ye, .int .i64 yv, .slice ya yn yc, .int .i64 3, .int .i64 yr] 42)); have zb := objh (T5.out.obj List.mem_cons_self) 3 rfl; rw [show ∀ o, (wE.alloc o).heap.size = wE.heap.size + 1 from fun o => by simp] at zb; have za := objh (T5.out.obj (List.mem_cons_of_mem _ List.mem_cons_self)) 3 rfl; have HCO := Lib.hid hc; clear q hc)
 generalize (wE.alloc _).alloc _ = wF at *
 go_wp2_with (go_at_call 35; refine (HAW.out _).mono ?_; rintro e wM ⟨rfl, hb⟩; have T6 := Lib.hid (T5.out.below hb); clear hb)
 go_ret
 exact ⟨rfl, T6.out.toBelow⟩
theorem phan_3 (z p' q' : Int) (w : World) : Calls Tryz.prog 7 #[.bool true, .int .u64 z, .int .i64 p', .int .i64 q'] w fun e w' => e = .returned (.bool true) ∧ Below w.heap.size w w' := by
 obtain ⟨m, hm, hmp⟩ : ∃ m : Nat, m < 8 ∧ bits .and .i64 p' 7 = (m : Int) := ⟨(p' % 8).toNat, by omega, by rw [Bt.i64_and7]; omega⟩
 obtain ⟨n, hn, hnq⟩ : ∃ n : Nat, n < 8 ∧ bits .and .i64 q' 7 = (n : Int) := ⟨(q' % 8).toNat, by omega, by rw [Bt.i64_and7]; omega⟩
 obtain ⟨pp, hpp⟩ : ∃ pp, pp = (((10 + m : Nat)) : Int) := ⟨_, rfl⟩
 obtain ⟨qq, hqq⟩ : ∃ qq, qq = (((30 + n : Nat)) : Int) := ⟨_, rfl⟩
 have n1 : IntKind.i64.wrap (10 + (m : Int)) = pp := by rw [IntKind.wrap_i64, hpp]; omega
 have n2 : IntKind.i64.wrap (30 + (n : Int)) = qq := by rw [IntKind.wrap_i64, hqq]; omega
 obtain ⟨σ0, a1, σ1, r1, a2, σ2, r2, a3, σ3, r3, a4, σ4, r4, σ5, σ6, h0, h1, h2, h3, h4, h5, h6, e3, h7, h8, e4, h9, h10, hC⟩ := phRun_ok (ph_all 3 (10 + m) (30 + n) (by omega) (by omega) (by omega) (by omega) (by omega))
 have HTW : Hid (∀ w, Calls Tryz.prog 36 #[.int .i64 3, .int .i64 3] w fun e w' => ∃ b, e = .returned (.pointer (some ⟨b, 0, none⟩)) ∧ EKt b w [] σ0 w') := twoSt_ok h0
 have HAW := Lib.hid awake24
 have HPP := Lib.hid hpp
 have HQQ := Lib.hid hqq
 clear h0 hm hn hpp hqq
 go_enter Tryz.func7, Tryz.ntmps7
 go_upto_region 8 with (go_at_call 36; refine (HTW.out _).mono ?_; rintro e w1 ⟨b, rfl, q⟩; have T0 := Lib.hid q; clear q)
 clear HTW
 have HD1 : Hid (∀ ks w1, EKt b w ks σ0 w1 → Calls Tryz.prog 37 #[.pointer (some ⟨b, 0, none⟩), .int .i64 0, .agg #[.int .i64 5, .int .i64 30, .int .i64 40, .int .i64 0]] w1 (fun e w' => ∃ va vc, e = .returned (.tuple #[.agg #[.int .i64 (r1.e : Int), .int .i64 (r1.value : Int), .slice va r1.pairs.length vc, .int .i64 (r1.over : Int), .int .i64 (r1.reason : Int)], .int .i64 0]) ∧ EKt b w (.row 2 (.slice va r1.pairs.length vc) (pairCs r1.pairs) :: ks) σ1 w')) := fun ks w1 h => by
  refine (do_kt (s := 0) h (o := ⟨5, 30, 40, 0⟩) (by decide) h1 (by decide : (1000 : Nat) ≤ _) h2).mono ?_
  rintro e w' ⟨va, vn, vc, rfl, hvn, q⟩
  subst hvn
  exact ⟨va, vc, rfl, q⟩
 have HD2 : Hid (∀ ks w1, EKt b w ks σ1 w1 → Calls Tryz.prog 37 #[.pointer (some ⟨b, 0, none⟩), .int .i64 1, .agg #[.int .i64 5, .int .i64 10, .int .i64 20, .int .i64 0]] w1 (fun e w' => ∃ va vc, e = .returned (.tuple #[.agg #[.int .i64 (r2.e : Int), .int .i64 (r2.value : Int), .slice va r2.pairs.length vc, .int .i64 (r2.over : Int), .int .i64 (r2.reason : Int)], .int .i64 0]) ∧ EKt b w (.row 2 (.slice va r2.pairs.length vc) (pairCs r2.pairs) :: ks) σ2 w')) := fun ks w1 h => by
  refine (do_kt (s := 1) h (o := ⟨5, 10, 20, 0⟩) (by decide) h3 (by decide : (1000 : Nat) ≤ _) h4).mono ?_
  rintro e w' ⟨va, vn, vc, rfl, hvn, q⟩
  subst hvn
  exact ⟨va, vc, rfl, q⟩
 have HD3 : Hid (∀ ks w1, EKt b w ks σ2 w1 → Calls Tryz.prog 37 #[.pointer (some ⟨b, 0, none⟩), .int .i64 0, .agg #[.int .i64 2, .int .i64 pp, .int .i64 0, .int .i64 1]] w1 (fun e w' => ∃ va vc, e = .returned (.tuple #[.agg #[.int .i64 0, .int .i64 (r3.value : Int), .slice va r3.pairs.length vc, .int .i64 (r3.over : Int), .int .i64 (r3.reason : Int)], .int .i64 0]) ∧ EKt b w (.row 2 (.slice va r3.pairs.length vc) (pairCs r3.pairs) :: ks) σ3 w')) := fun ks w1 h => by
  rw [HPP.out]
  refine (do_kt (s := 0) h (o := ⟨2, 10 + m, 0, 1⟩) (by decide) h5 (by decide : (1000 : Nat) ≤ _) h6).mono ?_
  rintro e w' ⟨va, vn, vc, rfl, hvn, q⟩
  rw [e3]
  subst hvn
  exact ⟨va, vc, rfl, q⟩
 have HD4 : Hid (∀ ks w1, EKt b w ks σ3 w1 → Calls Tryz.prog 37 #[.pointer (some ⟨b, 0, none⟩), .int .i64 1, .agg #[.int .i64 2, .int .i64 qq, .int .i64 0, .int .i64 2]] w1 (fun e w' => ∃ va vc, e = .returned (.tuple #[.agg #[.int .i64 0, .int .i64 (r4.value : Int), .slice va r4.pairs.length vc, .int .i64 (r4.over : Int), .int .i64 (r4.reason : Int)], .int .i64 0]) ∧ EKt b w (.row 2 (.slice va r4.pairs.length vc) (pairCs r4.pairs) :: ks) σ4 w')) := fun ks w1 h => by
  rw [HQQ.out]
  refine (do_kt (s := 1) h (o := ⟨2, 30 + n, 0, 2⟩) (by decide) h7 (by decide : (1000 : Nat) ≤ _) h8).mono ?_
  rintro e w' ⟨va, vn, vc, rfl, hvn, q⟩
  rw [e4]
  subst hvn
  exact ⟨va, vc, rfl, q⟩
 have HST : Hid (∀ ks w1, EKt b w ks σ4 w1 → Calls Tryz.prog 38 #[.pointer (some ⟨b, 0, none⟩), .int .u64 z] w1 fun e w' => ∃ (xe xv xr ye yv yr : Int) (xa ya : Option Addr) (xn xc yn yc : Nat) (xo yo : Int), e = .returned (.tuple #[.agg #[.int .i64 xe, .int .i64 xv, .slice xa xn xc, .int .i64 xo, .int .i64 xr], .agg #[.int .i64 ye, .int .i64 yv, .slice ya yn yc, .int .i64 yo, .int .i64 yr], .bool true]) ∧ (∃ τ, EKt b w [] τ w') ∧ (xo ≠ 3 ∨ (xo = 3 ∧ yo ≠ 3))) := fun ks w1 h => by
  refine (steps_any h h9 h10 hC z).mono ?_
  rintro e w' ⟨x, y, σ7, Y, rfl, q, hf, hx, hy, _⟩
  have o1 := phEnd_three hf
  rw [← hx, ← hy] at o1
  refine ⟨_, _, _, _, _, _, _, _, _, _, _, _, (x.o : Int), (y.o : Int), rfl, ⟨_, q⟩, ?_⟩
  omega
 clear h1 h2 h3 h4 h5 h6 e3 h7 h8 e4 h9 h10 hC
 go_upto_region 9 with (go_at_call 37; refine (HD1.out _ _ T0.out).mono ?_; clear T0; rintro e wA ⟨_, _, rfl, q⟩; have T1 := Lib.hid q; clear q)
 go_upto_region 10 with (go_at_call 37; refine (HD2.out _ _ T1.out).mono ?_; clear T1; rintro e wB ⟨_, _, rfl, q⟩; have T2 := Lib.hid q; clear q)
 go_upto_region 11 with (go_at_call 37; refine (HD3.out _ _ T2.out).mono ?_; clear T2; rintro e wC ⟨va, vc, rfl, q⟩; have T3 := Lib.hid (q.alloc (.cells #[.int .i64 0, .int .i64 (r3.value : Int), .slice va r3.pairs.length vc, .int .i64 (r3.over : Int), .int .i64 (r3.reason : Int)] 42)); clear q)
 go_upto_region 12 with (go_at_call 37; refine (HD4.out _ _ T3.out).mono ?_; clear T3; rintro e wD ⟨vb, vd, rfl, q⟩; have T4 := Lib.hid (q.alloc (.cells #[.int .i64 0, .int .i64 (r4.value : Int), .slice vb r4.pairs.length vd, .int .i64 (r4.over : Int), .int .i64 (r4.reason : Int)] 42)); have zb := objh (T4.out.obj List.mem_cons_self) 0 rfl; have za := objh (T4.out.obj (List.mem_cons_of_mem _ (List.mem_cons_of_mem _ List.mem_cons_self))) 0 rfl; clear q)
 go_upto_region 14 with fail
 clear za zb
 generalize wD.alloc _ = wD2 at *
 generalize wD.heap.size = gd at *
 go_upto_region 15 with (go_at_call 38; refine (HST.out _ _ T4.out).mono ?_; clear T4; rintro e wE ⟨xe, xv, xr, ye, yv, yr, xa, ya, xn, xc, yn, yc, xo, yo, rfl, ⟨τ, q⟩, hc⟩; have T5 := Lib.hid ((q.alloc (.cells #[.int .i64 xe, .int .i64 xv, .slice xa xn xc, .int .i64 xo, .int .i64 xr] 42)).alloc (.cells #[.int .i64 ye, .int .i64 yv, .slice ya yn yc, .int .i64 yo, .int .i64 yr] 42)); have zb := objh (T5.out.obj List.mem_cons_self) 3 rfl; rw [show ∀ o, (wE.alloc o).heap.size = wE.heap.size + 1 from fun o => by simp] at zb; have za := objh (T5.out.obj (List.mem_cons_of_mem _ List.mem_cons_self)) 3 rfl; have HCO := Lib.hid hc; clear q hc)
 generalize (wE.alloc _).alloc _ = wF at *
 rcases HCO.out with hx | ⟨rfl, hy⟩
 · have c1 : (xo = 3) = False := by simp [hx]
   have c2 : decide (xo = 3) = false := by simp [hx]
   clear hx
   go_wp2_with (go_at_call 35; refine (HAW.out _).mono ?_; rintro e wM ⟨rfl, hb⟩; have T6 := Lib.hid (T5.out.below hb); clear hb)
   go_ret
   exact ⟨rfl, T6.out.toBelow⟩
 · have c1 : (yo = 3) = False := by simp [hy]
   have c2 : decide (yo = 3) = false := by simp [hy]
   clear hy
   go_wp2_with (go_at_call 35; refine (HAW.out _).mono ?_; rintro e wM ⟨rfl, hb⟩; have T6 := Lib.hid (T5.out.below hb); clear hb)
   go_ret
   exact ⟨by first | rfl | (simp [c1]; done), T6.out.toBelow⟩
theorem phan_law (s : Bool) (z p q : Int) (w : World) : Calls Tryz.prog 7 #[.bool s, .int .u64 z, .int .i64 p, .int .i64 q] w fun e w' => e = .returned (.bool true) ∧ Below w.heap.size w w' := by
 cases s with
 | false => exact phan_2 z p q w
 | true => exact phan_3 z p q w
end Go.Proofs.YtbefcdjcefmicaaGreat.Em