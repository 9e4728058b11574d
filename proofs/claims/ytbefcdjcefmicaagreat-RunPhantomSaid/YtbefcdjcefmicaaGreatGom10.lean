/- Texts of this claim, laid together: Pha, Sr, Lt. -/
import Derived.Test.YtbefcdjcefmicaaGreatGom2
import Derived.Test.YtbefcdjcefmicaaGreatGom3
import Derived.Test.YtbefcdjcefmicaaGreatGom4
import Derived.Test.YtbefcdjcefmicaaGreatGom5
import Derived.Test.YtbefcdjcefmicaaGreatGom6
import Derived.Test.YtbefcdjcefmicaaGreatGom7
import Derived.Test.YtbefcdjcefmicaaGreatGom8
import Derived.Test.YtbefcdjcefmicaaGreatGom9
import Derived.Test.YtbefcdjcefmicaaGreatBase21
import Derived.Test.YtbefcdjcefmicaaGreatBase15
namespace Go.Proofs.YtbefcdjcefmicaaGreat.Em
open Go.ChangeShapes Go.WideShapes Go.ChangeAt Go.RowKit En
set_option linter.unusedVariables false
set_option linter.unusedSimpArgs false
set_option maxRecDepth 100000
set_option maxHeartbeats 1600000
theorem ph_at0 (L q : Nat) (h1 : L = 2 ∨ L = 3) (h2 : 30 ≤ q) (h3 : q ≤ 37) : phRun L 10 q = true := by
 rcases h1 with rfl | rfl
 · obtain rfl | rfl | rfl | rfl | rfl | rfl | rfl | rfl : q = 30 ∨ q = 31 ∨ q = 32 ∨ q = 33 ∨ q = 34 ∨ q = 35 ∨ q = 36 ∨ q = 37 := by omega
   · exact ph_2_10_30
   · exact ph_2_10_31
   · exact ph_2_10_32
   · exact ph_2_10_33
   · exact ph_2_10_34
   · exact ph_2_10_35
   · exact ph_2_10_36
   · exact ph_2_10_37
 · obtain rfl | rfl | rfl | rfl | rfl | rfl | rfl | rfl : q = 30 ∨ q = 31 ∨ q = 32 ∨ q = 33 ∨ q = 34 ∨ q = 35 ∨ q = 36 ∨ q = 37 := by omega
   · exact ph_3_10_30
   · exact ph_3_10_31
   · exact ph_3_10_32
   · exact ph_3_10_33
   · exact ph_3_10_34
   · exact ph_3_10_35
   · exact ph_3_10_36
   · exact ph_3_10_37
theorem ph_at1 (L q : Nat) (h1 : L = 2 ∨ L = 3) (h2 : 30 ≤ q) (h3 : q ≤ 37) : phRun L 11 q = true := by
 rcases h1 with rfl | rfl
 · obtain rfl | rfl | rfl | rfl | rfl | rfl | rfl | rfl : q = 30 ∨ q = 31 ∨ q = 32 ∨ q = 33 ∨ q = 34 ∨ q = 35 ∨ q = 36 ∨ q = 37 := by omega
   · exact ph_2_11_30
   · exact ph_2_11_31
   · exact ph_2_11_32
   · exact ph_2_11_33
   · exact ph_2_11_34
   · exact ph_2_11_35
   · exact ph_2_11_36
   · exact ph_2_11_37
 · obtain rfl | rfl | rfl | rfl | rfl | rfl | rfl | rfl : q = 30 ∨ q = 31 ∨ q = 32 ∨ q = 33 ∨ q = 34 ∨ q = 35 ∨ q = 36 ∨ q = 37 := by omega
   · exact ph_3_11_30
   · exact ph_3_11_31
   · exact ph_3_11_32
   · exact ph_3_11_33
   · exact ph_3_11_34
   · exact ph_3_11_35
   · exact ph_3_11_36
   · exact ph_3_11_37
theorem ph_at2 (L q : Nat) (h1 : L = 2 ∨ L = 3) (h2 : 30 ≤ q) (h3 : q ≤ 37) : phRun L 12 q = true := by
 rcases h1 with rfl | rfl
 · obtain rfl | rfl | rfl | rfl | rfl | rfl | rfl | rfl : q = 30 ∨ q = 31 ∨ q = 32 ∨ q = 33 ∨ q = 34 ∨ q = 35 ∨ q = 36 ∨ q = 37 := by omega
   · exact ph_2_12_30
   · exact ph_2_12_31
   · exact ph_2_12_32
   · exact ph_2_12_33
   · exact ph_2_12_34
   · exact ph_2_12_35
   · exact ph_2_12_36
   · exact ph_2_12_37
 · obtain rfl | rfl | rfl | rfl | rfl | rfl | rfl | rfl : q = 30 ∨ q = 31 ∨ q = 32 ∨ q = 33 ∨ q = 34 ∨ q = 35 ∨ q = 36 ∨ q = 37 := by omega
   · exact ph_3_12_30
   · exact ph_3_12_31
   · exact ph_3_12_32
   · exact ph_3_12_33
   · exact ph_3_12_34
   · exact ph_3_12_35
   · exact ph_3_12_36
   · exact ph_3_12_37
theorem ph_at3 (L q : Nat) (h1 : L = 2 ∨ L = 3) (h2 : 30 ≤ q) (h3 : q ≤ 37) : phRun L 13 q = true := by
 rcases h1 with rfl | rfl
 · obtain rfl | rfl | rfl | rfl | rfl | rfl | rfl | rfl : q = 30 ∨ q = 31 ∨ q = 32 ∨ q = 33 ∨ q = 34 ∨ q = 35 ∨ q = 36 ∨ q = 37 := by omega
   · exact ph_2_13_30
   · exact ph_2_13_31
   · exact ph_2_13_32
   · exact ph_2_13_33
   · exact ph_2_13_34
   · exact ph_2_13_35
   · exact ph_2_13_36
   · exact ph_2_13_37
 · obtain rfl | rfl | rfl | rfl | rfl | rfl | rfl | rfl : q = 30 ∨ q = 31 ∨ q = 32 ∨ q = 33 ∨ q = 34 ∨ q = 35 ∨ q = 36 ∨ q = 37 := by omega
   · exact ph_3_13_30
   · exact ph_3_13_31
   · exact ph_3_13_32
   · exact ph_3_13_33
   · exact ph_3_13_34
   · exact ph_3_13_35
   · exact ph_3_13_36
   · exact ph_3_13_37
theorem ph_at4 (L q : Nat) (h1 : L = 2 ∨ L = 3) (h2 : 30 ≤ q) (h3 : q ≤ 37) : phRun L 14 q = true := by
 rcases h1 with rfl | rfl
 · obtain rfl | rfl | rfl | rfl | rfl | rfl | rfl | rfl : q = 30 ∨ q = 31 ∨ q = 32 ∨ q = 33 ∨ q = 34 ∨ q = 35 ∨ q = 36 ∨ q = 37 := by omega
   · exact ph_2_14_30
   · exact ph_2_14_31
   · exact ph_2_14_32
   · exact ph_2_14_33
   · exact ph_2_14_34
   · exact ph_2_14_35
   · exact ph_2_14_36
   · exact ph_2_14_37
 · obtain rfl | rfl | rfl | rfl | rfl | rfl | rfl | rfl : q = 30 ∨ q = 31 ∨ q = 32 ∨ q = 33 ∨ q = 34 ∨ q = 35 ∨ q = 36 ∨ q = 37 := by omega
   · exact ph_3_14_30
   · exact ph_3_14_31
   · exact ph_3_14_32
   · exact ph_3_14_33
   · exact ph_3_14_34
   · exact ph_3_14_35
   · exact ph_3_14_36
   · exact ph_3_14_37
theorem ph_at5 (L q : Nat) (h1 : L = 2 ∨ L = 3) (h2 : 30 ≤ q) (h3 : q ≤ 37) : phRun L 15 q = true := by
 rcases h1 with rfl | rfl
 · obtain rfl | rfl | rfl | rfl | rfl | rfl | rfl | rfl : q = 30 ∨ q = 31 ∨ q = 32 ∨ q = 33 ∨ q = 34 ∨ q = 35 ∨ q = 36 ∨ q = 37 := by omega
   · exact ph_2_15_30
   · exact ph_2_15_31
   · exact ph_2_15_32
   · exact ph_2_15_33
   · exact ph_2_15_34
   · exact ph_2_15_35
   · exact ph_2_15_36
   · exact ph_2_15_37
 · obtain rfl | rfl | rfl | rfl | rfl | rfl | rfl | rfl : q = 30 ∨ q = 31 ∨ q = 32 ∨ q = 33 ∨ q = 34 ∨ q = 35 ∨ q = 36 ∨ q = 37 := by omega
   · exact ph_3_15_30
   · exact ph_3_15_31
   · exact ph_3_15_32
   · exact ph_3_15_33
   · exact ph_3_15_34
   · exact ph_3_15_35
   · exact ph_3_15_36
   · exact ph_3_15_37
theorem ph_at6 (L q : Nat) (h1 : L = 2 ∨ L = 3) (h2 : 30 ≤ q) (h3 : q ≤ 37) : phRun L 16 q = true := by
 rcases h1 with rfl | rfl
 · obtain rfl | rfl | rfl | rfl | rfl | rfl | rfl | rfl : q = 30 ∨ q = 31 ∨ q = 32 ∨ q = 33 ∨ q = 34 ∨ q = 35 ∨ q = 36 ∨ q = 37 := by omega
   · exact ph_2_16_30
   · exact ph_2_16_31
   · exact ph_2_16_32
   · exact ph_2_16_33
   · exact ph_2_16_34
   · exact ph_2_16_35
   · exact ph_2_16_36
   · exact ph_2_16_37
 · obtain rfl | rfl | rfl | rfl | rfl | rfl | rfl | rfl : q = 30 ∨ q = 31 ∨ q = 32 ∨ q = 33 ∨ q = 34 ∨ q = 35 ∨ q = 36 ∨ q = 37 := by omega
   · exact ph_3_16_30
   · exact ph_3_16_31
   · exact ph_3_16_32
   · exact ph_3_16_33
   · exact ph_3_16_34
   · exact ph_3_16_35
   · exact ph_3_16_36
   · exact ph_3_16_37
theorem ph_at7 (L q : Nat) (h1 : L = 2 ∨ L = 3) (h2 : 30 ≤ q) (h3 : q ≤ 37) : phRun L 17 q = true := by
 rcases h1 with rfl | rfl
 · obtain rfl | rfl | rfl | rfl | rfl | rfl | rfl | rfl : q = 30 ∨ q = 31 ∨ q = 32 ∨ q = 33 ∨ q = 34 ∨ q = 35 ∨ q = 36 ∨ q = 37 := by omega
   · exact ph_2_17_30
   · exact ph_2_17_31
   · exact ph_2_17_32
   · exact ph_2_17_33
   · exact ph_2_17_34
   · exact ph_2_17_35
   · exact ph_2_17_36
   · exact ph_2_17_37
 · obtain rfl | rfl | rfl | rfl | rfl | rfl | rfl | rfl : q = 30 ∨ q = 31 ∨ q = 32 ∨ q = 33 ∨ q = 34 ∨ q = 35 ∨ q = 36 ∨ q = 37 := by omega
   · exact ph_3_17_30
   · exact ph_3_17_31
   · exact ph_3_17_32
   · exact ph_3_17_33
   · exact ph_3_17_34
   · exact ph_3_17_35
   · exact ph_3_17_36
   · exact ph_3_17_37
theorem ph_all (L p q : Nat) (h1 : L = 2 ∨ L = 3) (h2 : 10 ≤ p) (h3 : p ≤ 17) (h4 : 30 ≤ q) (h5 : q ≤ 37) : phRun L p q = true := by
 obtain rfl | rfl | rfl | rfl | rfl | rfl | rfl | rfl : p = 10 ∨ p = 11 ∨ p = 12 ∨ p = 13 ∨ p = 14 ∨ p = 15 ∨ p = 16 ∨ p = 17 := by omega
 · exact ph_at0 L q h1 h4 h5
 · exact ph_at1 L q h1 h4 h5
 · exact ph_at2 L q h1 h4 h5
 · exact ph_at3 L q h1 h4 h5
 · exact ph_at4 L q h1 h4 h5
 · exact ph_at5 L q h1 h4 h5
 · exact ph_at6 L q h1 h4 h5
 · exact ph_at7 L q h1 h4 h5
end Go.Proofs.YtbefcdjcefmicaaGreat.Em
namespace Go.Proofs.YtbefcdjcefmicaaGreat.Em
open Go.ChangeShapes Go.WideShapes Go.ChangeAt Go.RowKit En
set_option linter.unusedVariables false
set_option linter.unusedSimpArgs false
set_option maxRecDepth 100000
set_option maxHeartbeats 1600000
theorem same_result (e v x y : Int) (a1 a2 : Option Addr) (n c1 c2 : Nat) (ps : List (Nat × Nat)) (w : World) (h1 : Ow.Row w 0 2 (.slice a1 n c1) (pairCs ps)) (h2 : Ow.Row w 0 2 (.slice a2 n c2) (pairCs ps)) :
 Calls Tryz.prog 24 #[.agg #[.int .i64 e, .int .i64 v, .slice a1 n c1, .int .i64 x, .int .i64 y], .agg #[.int .i64 e, .int .i64 v, .slice a2 n c2, .int .i64 x, .int .i64 y]] w fun e w' => e = .returned (.bool true) ∧ Below w.heap.size w w' := by
 have H1 := Lib.hid h1
 have H2 := Lib.hid h2
 clear h1 h2
 go_enter Tryz.func24, Tryz.ntmps24
 go_wp2_with (go_at_call 46; refine (same_pairs _ _ ps _ _ _ (Row.alloc' (Row.alloc' H1.out _) _) (Row.alloc' (Row.alloc' H2.out _) _)).mono ?_; rintro e w9 ⟨rfl, q⟩; have HB := Lib.hid q; clear q)
 go_ret
 refine ⟨rfl, ?_⟩
 have hb := HB.out
 have h2 : Below w.heap.size w ((w.alloc (.cells #[.int .i64 e, .int .i64 v, .slice a1 n c1, .int .i64 x, .int .i64 y] 42)).alloc (.cells #[.int .i64 e, .int .i64 v, .slice a2 n c2, .int .i64 x, .int .i64 y] 42)) := (((Below.refl _ _).alloc (Nat.le_refl _) _)).alloc (by simp) _
 exact h2.trans (hb.mono h2.size)
end Go.Proofs.YtbefcdjcefmicaaGreat.Em
namespace Go.Proofs.YtbefcdjcefmicaaGreat.Em
open Go.ChangeShapes Go.WideShapes Go.ChangeAt Go.RowKit En
set_option linter.unusedVariables false
set_option linter.unusedSimpArgs false
set_option maxRecDepth 100000
set_option maxHeartbeats 1600000
theorem EKt.drop {b : Nat} {w0 w : World} {σ : St} {ks : List Kept} (h : EKt b w0 ks σ w) : EKt b w0 [] σ w := let ⟨A, e, l, g, _⟩ := h.ex; ⟨A, e, l, g, trivial⟩
theorem EKt.allocg {b : Nat} {w0 w : World} {σ : St} {ks : List Kept} (h : EKt b w0 ks σ w) (g : Nat) (hg : g = w.heap.size) (o : Obj) : EKt b w0 (.obj g o :: ks) σ (w.alloc o) := by
 subst hg
 exact h.alloc o
theorem row_of_obj {w : World} {g : Nat} {T : TypeId} (xs : List Value) (n size : Nat) (h : w.heap[g]? = some (.cells xs.toArray T)) (hl : xs.length = n * size) (hn : n ≤ 1000000) : Ow.Row w 0 size (.slice (some ⟨g, 0, none⟩) n n) xs := by
 refine ⟨_, n, n, rfl, hl, Nat.le_refl _, by unfold maxLen; omega, .inr ⟨g, 0, rfl, Nat.zero_le _, lt_of h, fun j hj => ?_⟩⟩
 rw [Nat.zero_add]
 have hj' : j < xs.length := by omega
 rw [List.getElem?_eq_getElem hj']
 simp [World.cell?, h, hj']
theorem row_nil (w : World) (size : Nat) : Ow.Row w 0 size (.slice none 0 0) [] := ⟨none, 0, 0, rfl, by simp, Nat.le_refl _, by unfold maxLen; omega, .inl rfl⟩
structure ETm (b : Nat) (w0 : World) (g : Nat) (o : Obj) (σ : St) (w : World) : Prop where
 ex : ∃ A : Book, A.be = b ∧ Live A σ w ∧ Grow (fun _ => none) w0 A.L w ∧ A.L g = some .tmp ∧ w.heap[g]? = some o ∧ w0.heap.size ≤ g
theorem EKt.tm {b : Nat} {w0 w : World} {σ : St} {ks : List Kept} (h : EKt b w0 ks σ w) (o : Obj) : ETm b w0 w.heap.size o σ (w.alloc o) := by
 obtain ⟨A, e, l, g, _⟩ := h.ex
 obtain ⟨_, g1, t1, t2⟩ := l.rep.newTmp o
 exact ⟨A.tmp w.heap.size, e, l.newTmp o, g.trans g1, t1, t2, g.size⟩
theorem ETm.below {b : Nat} {w0 w w' : World} {g : Nat} {o : Obj} {σ : St} (h : ETm b w0 g o σ w) (hb : Below w.heap.size w w') : ETm b w0 g o σ w' := by
 obtain ⟨A, e, l, gr, t1, t2, t3⟩ := h.ex
 exact ⟨A, e, l.below hb, gr.trans (Grow.below hb), t1, (hb.block g (lt_of t2)).trans t2, t3⟩
theorem ETm.alloc {b : Nat} {w0 w : World} {g : Nat} {o : Obj} {σ : St} (h : ETm b w0 g o σ w) (o' : Obj) : ETm b w0 g o σ (w.alloc o') := h.below ((Below.refl _ w).alloc (Nat.le_refl _) o')
theorem ETm.obj {b : Nat} {w0 w : World} {g : Nat} {o : Obj} {σ : St} (h : ETm b w0 g o σ w) : w.heap[g]? = some o := let ⟨_, _, _, _, _, t, _⟩ := h.ex; t
theorem ETm.at {b : Nat} {w0 w : World} {g : Nat} {o : Obj} {σ : St} (h : ETm b w0 g o σ w) : EAt b w0 σ w := let ⟨A, e, l, gr, _⟩ := h.ex; ⟨A, e, l, gr⟩
theorem ETm.put {b : Nat} {w0 w w' : World} {g : Nat} {o o' : Obj} {σ : St} (h : ETm b w0 g o σ w) (hb : But g w w') (ho : w'.heap[g]? = some o') : ETm b w0 g o' σ w' := by
 obtain ⟨A, e, l, gr, t1, t2, t3⟩ := h.ex
 exact ⟨A, e, l.but t1 hb, gr.but t3 hb, t1, ho, t3⟩
theorem stLive_tm {b : Nat} {w0 w : World} {g : Nat} {o : Obj} {σ : St} (h : ETm b w0 g o σ w) (s : Nat) (hs : s < 8) :
 Calls Tryz.prog 18 #[.pointer (some ⟨b, 0, none⟩), .int .i64 (s : Int)] w fun e w' => ∃ y1 y2 y3 y4 y5 y6 y7 y8, e = .returned (.agg #[.bool (σ.status s).live, y1, y2, y3, y4, y5, y6, y7, y8]) ∧ ETm b w0 g o σ w' := by
 obtain ⟨A, rfl, hL, gr, t1, t2, t3⟩ := h.ex
 refine (status_any hL s hs).mono ?_
 rintro e w' ⟨rfl, hb⟩
 exact ⟨_, _, _, _, _, _, _, _, rfl, ETm.below ⟨A, rfl, hL, gr, t1, t2, t3⟩ hb⟩
theorem step_tm {b : Nat} {w0 w : World} {g : Nat} {o : Obj} {σ σ1 : St} (h : ETm b w0 g o σ w) {s kd : Nat} {r : Res} (hs : s < 8) (hr : oneStep σ s = some (σ1, kd, r)) :
 Calls Tryz.prog 19 #[.pointer (some ⟨b, 0, none⟩), .int .i64 (s : Int)] w fun e w' => ∃ va vn vc, e = .returned (.tuple #[.agg #[.int .i64 (kd : Int), .int .i64 (r.e : Int), .int .i64 (r.value : Int), .slice va vn vc, .int .i64 (r.over : Int), .int .i64 (r.reason : Int)], .int .i64 0]) ∧ ETm b w0 g o σ1 w' := by
 obtain ⟨A, rfl, hL, gr, t1, t2, t3⟩ := h.ex
 refine (step_calls hL hs hr).mono ?_
 rintro e w' ⟨A', vp, rfl, hf, hL', g', e'⟩
 obtain ⟨va, vn, vc, rfl⟩ := frow_form hf
 obtain ⟨t4, t5⟩ := tmp_grow ⟨t1, t2⟩ g'
 exact ⟨va, vn, vc, rfl, A', e', hL', gr.trans g', t4, t5, t3⟩
theorem pairs_tm {b : Nat} {w0 w : World} {g : Nat} {o : Obj} {σ : St} (h : ETm b w0 g o σ w) (hok : okPairs σ = true) :
 Calls Tryz.prog 32 #[.pointer (some ⟨b, 0, none⟩)] w fun e w' => ∃ av cap, e = .returned (.slice av σ.pairs.length cap) ∧ Ow.Row w' 0 2 (.slice av σ.pairs.length cap) (pairCs σ.pairs) ∧ ETm b w0 g o σ w' := by
 obtain ⟨A, rfl, hL, gr, t1, t2, t3⟩ := h.ex
 refine (pairs_any hL.rep hok).mono ?_
 rintro e w' ⟨av, cap, rfl, ho, hb⟩
 obtain ⟨a, n, c, k1, k2, k3, k4, k5⟩ := own_row ho
 refine ⟨av, cap, rfl, ⟨a, n, c, k1, k2, k3, k4, ?_⟩, ETm.below ⟨A, rfl, hL, gr, t1, t2, t3⟩ hb⟩
 rcases k5 with k5 | ⟨g', off, e1, e2, e3⟩
 · exact .inl k5
 · exact .inr ⟨g', off, e1, Nat.zero_le _, e3⟩
end Go.Proofs.YtbefcdjcefmicaaGreat.Em