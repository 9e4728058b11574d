/- Texts of this claim, laid together: Stp. -/
import Derived.Test.YtbefcdjcefmicaaGreatGom1
import Derived.Test.YtbefcdjcefmicaaGreatGom10
import Derived.Test.YtbefcdjcefmicaaGreatBase21
import Derived.Deep.RegionWith
import Derived.Deep.MidRow
namespace Go.Proofs.YtbefcdjcefmicaaGreat.Em
open Go.ChangeShapes Go.WideShapes Go.ChangeAt Go.RowKit En
set_option linter.unusedVariables false
set_option linter.unusedSimpArgs false
set_option maxRecDepth 100000
set_option maxHeartbeats 1600000
theorem objc9 {w : World} {g : Nat} {cs : Array Value} {T : TypeId} (h : w.heap[g]? = some (.cells cs T)) (i : Nat) {v : Value} (hv : cs[i]? = some v) : w.cell? ⟨g, i, none⟩ = some v := by
 rw [cell_of_row w g i _ _ _ h]; exact hv
structure ETs (b : Nat) (w0 : World) (gs : List (Nat × Obj)) (σ : St) (w : World) : Prop where
 ex : ∃ A : Book, A.be = b ∧ Live A σ w ∧ Grow (fun _ => none) w0 A.L w ∧ ∀ p ∈ gs, (A.L p.1 = some .tmp ∧ w.heap[p.1]? = some p.2) ∧ w0.heap.size ≤ p.1
theorem EKt.ts {b : Nat} {w0 w : World} {σ : St} {ks : List Kept} (h : EKt b w0 ks σ w) : ETs b w0 [] σ w := let ⟨A, e, l, g, _⟩ := h.ex; ⟨A, e, l, g, fun p hp => by cases hp⟩
theorem ETs.kt {b : Nat} {w0 w : World} {σ : St} {gs : List (Nat × Obj)} (h : ETs b w0 gs σ w) : EKt b w0 [] σ w := let ⟨A, e, l, g, _⟩ := h.ex; ⟨A, e, l, g, trivial⟩
theorem ETs.size {b : Nat} {w0 w : World} {σ : St} {gs : List (Nat × Obj)} (h : ETs b w0 gs σ w) : w0.heap.size ≤ w.heap.size := let ⟨_, _, _, g, _⟩ := h.ex; g.size
theorem ETs.new {b : Nat} {w0 w : World} {σ : St} {gs : List (Nat × Obj)} (h : ETs b w0 gs σ w) (o : Obj) : ETs b w0 ((w.heap.size, o) :: gs) σ (w.alloc o) := by
 obtain ⟨A, e, l, g, t⟩ := h.ex
 obtain ⟨_, g1, t1, t2⟩ := l.rep.newTmp o
 refine ⟨A.tmp w.heap.size, e, l.newTmp o, g.trans g1, fun p hp => ?_⟩
 rcases List.mem_cons.1 hp with rfl | hp
 · exact ⟨⟨t1, t2⟩, g.size⟩
 · exact ⟨tmp_grow (t p hp).1 g1, (t p hp).2⟩
theorem ETs.below {b : Nat} {w0 w w' : World} {σ : St} {gs : List (Nat × Obj)} (h : ETs b w0 gs σ w) (hb : Below w.heap.size w w') : ETs b w0 gs σ w' := by
 obtain ⟨A, e, l, g, t⟩ := h.ex
 exact ⟨A, e, l.below hb, g.trans (Grow.below hb), fun p hp => ⟨⟨(t p hp).1.1, (hb.block p.1 (lt_of (t p hp).1.2)).trans (t p hp).1.2⟩, (t p hp).2⟩⟩
theorem ETs.drew {b : Nat} {w0 w : World} {σ : St} {gs : List (Nat × Obj)} (h : ETs b w0 gs σ w) : ETs b w0 gs σ w.drew := h.below (Below.refl _ _).drew
theorem ETs.alloc {b : Nat} {w0 w : World} {σ : St} {gs : List (Nat × Obj)} (h : ETs b w0 gs σ w) (o : Obj) : ETs b w0 gs σ (w.alloc o) := h.below ((Below.refl _ _).alloc (Nat.le_refl _) o)
theorem ETs.obj {b : Nat} {w0 w : World} {σ : St} {gs : List (Nat × Obj)} (h : ETs b w0 gs σ w) {g : Nat} {o : Obj} (hm : (g, o) ∈ gs) : w.heap[g]? = some o := let ⟨_, _, _, _, t⟩ := h.ex; (t _ hm).1.2
theorem ETs.put {b : Nat} {w0 w w' : World} {σ : St} {gs gs' : List (Nat × Obj)} (h : ETs b w0 gs σ w) {g : Nat} {o o' : Obj} (hm : (g, o) ∈ gs) (hb : But g w w') (ho : w'.heap[g]? = some o') (hgs : ∀ p ∈ gs', p = (g, o') ∨ (p.1 ≠ g ∧ p ∈ gs)) : ETs b w0 gs' σ w' := by
 obtain ⟨A, e, l, gr, t⟩ := h.ex
 have tg := t _ hm
 refine ⟨A, e, l.but tg.1.1 hb, gr.but tg.2 hb, fun p hp => ?_⟩
 rcases hgs p hp with rfl | ⟨hne, hp⟩
 · exact ⟨⟨tg.1.1, ho⟩, tg.2⟩
 · exact ⟨⟨(t p hp).1.1, (hb.block p.1 hne).trans (t p hp).1.2⟩, (t p hp).2⟩
theorem issue_ts {b : Nat} {w0 w : World} {gs : List (Nat × Obj)} {σ σ1 : St} (h : ETs b w0 gs σ w) {s : Nat} {o : En.Op} (hs : s < 8) (hr : issueOk σ s o = some σ1) :
 Calls Tryz.prog 17 #[.pointer (some ⟨b, 0, none⟩), .int .i64 (s : Int), .agg #[.int .i64 (o.kind : Int), .int .i64 (o.key : Int), .int .i64 (o.hi : Int), .int .i64 (o.value : Int)]] w fun e w' => e = .returned (.int .i64 0) ∧ ETs b w0 gs σ1 w' := by
 obtain ⟨A, rfl, hL, g, t⟩ := h.ex
 refine (issue_to hs hr A w hL).mono ?_
 rintro e w' ⟨A', rfl, hL', g', e'⟩
 exact ⟨rfl, A', e', hL', g.trans g', fun p hp => ⟨tmp_grow (t p hp).1 g', (t p hp).2⟩⟩
theorem live_ts {b : Nat} {w0 w : World} {gs : List (Nat × Obj)} {σ : St} (h : ETs b w0 gs σ w) :
 Calls Tryz.prog 30 #[.pointer (some ⟨b, 0, none⟩)] w fun e w' => ∃ av cap, e = .returned (.slice av σ.live.length cap) ∧ ETs b w0 gs σ w' := by
 obtain ⟨A, rfl, hL, g, t⟩ := h.ex
 refine (liveRow_any hL.rep).mono ?_
 rintro e w' ⟨av, cap, rfl, _, hb⟩
 exact ⟨av, cap, rfl, ETs.below ⟨A, rfl, hL, g, t⟩ hb⟩
theorem stLive_ts {b : Nat} {w0 w : World} {gs : List (Nat × Obj)} {σ : St} (h : ETs b w0 gs σ w) (s : Nat) (hs : s < 8) :
 Calls Tryz.prog 18 #[.pointer (some ⟨b, 0, none⟩), .int .i64 (s : Int)] w fun e w' => ∃ y1 y2 y3 y4 y5 y6 y7 y8, e = .returned (.agg #[.bool (σ.status s).live, y1, y2, y3, y4, y5, y6, y7, y8]) ∧ ETs b w0 gs σ w' := by
 obtain ⟨A, rfl, hL, g, t⟩ := h.ex
 refine (status_any hL s hs).mono ?_
 rintro e w' ⟨rfl, hb⟩
 exact ⟨_, _, _, _, _, _, _, _, rfl, ETs.below ⟨A, rfl, hL, g, t⟩ hb⟩
theorem step_ts {b : Nat} {w0 w : World} {gs : List (Nat × Obj)} {σ σ1 : St} (h : ETs b w0 gs σ w) {s kd : Nat} {r : Res} (hs : s < 8) (hr : oneStep σ s = some (σ1, kd, r)) :
 Calls Tryz.prog 19 #[.pointer (some ⟨b, 0, none⟩), .int .i64 (s : Int)] w fun e w' => ∃ va vn vc, e = .returned (.tuple #[.agg #[.int .i64 (kd : Int), .int .i64 (r.e : Int), .int .i64 (r.value : Int), .slice va vn vc, .int .i64 (r.over : Int), .int .i64 (r.reason : Int)], .int .i64 0]) ∧ ETs b w0 gs σ1 w' := by
 obtain ⟨A, rfl, hL, g, t⟩ := h.ex
 refine (step_calls hL hs hr).mono ?_
 rintro e w' ⟨A', vp, rfl, hf, hL', g', e'⟩
 obtain ⟨va, vn, vc, rfl⟩ := frow_form hf
 exact ⟨va, vn, vc, rfl, A', e', hL', g.trans g', fun p hp => ⟨tmp_grow (t p hp).1 g', (t p hp).2⟩⟩
structure Rc where
 e : Nat
 v : Nat
 pa : Option Addr
 pn : Nat
 pc : Nat
 o : Nat
 r : Nat
def Rc.cs (r : Rc) : List Value := [.int .i64 (r.e : Int), .int .i64 (r.v : Int), .slice r.pa r.pn r.pc, .int .i64 (r.o : Int), .int .i64 (r.r : Int)]
theorem pick3 {x y z : Nat} {ox oy oz o : Obj} {p : Nat × Obj} (h1 : x ≠ z) (h2 : y ≠ z) (h : p ∈ [(z, o), (x, ox), (y, oy)]) : p = (z, o) ∨ (p.1 ≠ z ∧ p ∈ [(x, ox), (y, oy), (z, oz)]) := by
 simp only [List.mem_cons, List.not_mem_nil, or_false] at h ⊢
 rcases h with rfl | rfl | rfl
 · exact .inl rfl
 · exact .inr ⟨h1, .inl rfl⟩
 · exact .inr ⟨h2, .inr (.inl rfl)⟩
theorem pick3' {x y z : Nat} {ox oy oz o : Obj} {p : Nat × Obj} (h1 : y ≠ z) (h2 : z ≠ x) (h : p ∈ [(z, o), (x, ox), (y, oy)]) : p = (z, o) ∨ (p.1 ≠ z ∧ p ∈ [(x, ox), (y, oy), (z, oz)]) := by
 simp only [List.mem_cons, List.not_mem_nil, or_false] at h ⊢
 rcases h with rfl | rfl | rfl
 · exact .inl rfl
 · exact .inr ⟨Ne.symm h2, .inl rfl⟩
 · exact .inr ⟨h1, .inr (.inl rfl)⟩
theorem results_cell2 {P : Program} {fn : Func} {p q u : Tmp} {ty ty' : TypeId} (h : fn.results = #[.cell p ty, .cell q ty', .tmp u]) (tmps : Array Value) (w : World) (g g' : Nat) (t t' : TypeId) (cs cs' : Array Value) (fr fr' : Nat × Nat) (d : TypeDesc)
 (hp : tmps.getD p undef = .pointer (some ⟨g, 0, none⟩)) (hq : tmps.getD q undef = .pointer (some ⟨g', 0, none⟩)) (hg : w.heap[g]? = some (.cells cs t fr)) (hg' : w.heap[g']? = some (.cells cs' t' fr'))
 (hu : P.underlying ty = some d) (hd : (match d with | .struct _ | .array _ _ => true | _ => false) = true) (hi : (P.info? ty).map (·.size) = some cs.size) (hi' : (P.info? ty).map (·.size) = some cs'.size) (e : ty' = ty) :
 (results fn tmps).run P w = .ok (.tuple #[.agg cs, .agg cs', tmps.getD u undef]) w := by
 subst e
 have hp' : tmps[p]?.getD undef = .pointer (some ⟨g, 0, none⟩) := by simpa using hp
 have hq' : tmps[q]?.getD undef = .pointer (some ⟨g', 0, none⟩) := by simpa using hq
 simp [results, h, hp', hq', asAddr, run_loadVar_row w g t _ cs fr d hg hu hd hi, run_loadVar_row w g' t' _ cs' fr' d hg' hu hd hi', Result.andThen]
def rcs (x y : Rc) : Obj := .cells (x.cs ++ y.cs).toArray 159
structure Sts (b g4 g5 g7 : Nat) (w0 : World) (tb : List Ev) (t0 t1 : Txn) (fin : Cx.Ys → Bool) (k : Nat) (σ : St) (Y : Cx.Ys) (x y : Rc) (w : World) : Prop where
 low : k ≤ 100
 good : Cx.Good t0 t1 fin (100 - k) Y
 on : Cx.On tb t0 t1 σ Y
 c1 : σ.count < 1000000 + k
 c2 : σ.looks < 1000000 + k
 mem : ETs b w0 [(g7, rcs x y), (g5, .cells #[.int .i64 0, .int .i64 0, .slice none 0 0, .int .i64 0, .int .i64 0] 42), (g4, .cells #[.int .i64 0, .int .i64 0, .slice none 0 0, .int .i64 0, .int .i64 0] 42)] σ w
 ex : x.o = Y.x
 ey : y.o = Y.y
theorem Sts.lt {b g4 g5 g7 : Nat} {w0 w : World} {tb : List Ev} {t0 t1 : Txn} {fin : Cx.Ys → Bool} {k : Nat} {σ : St} {Y : Cx.Ys} {x y : Rc} (h : Sts b g4 g5 g7 w0 tb t0 t1 fin k σ Y x y w) : k < 100 := by
 have h1 := h.low
 have h2 := h.good
 by_cases e : k = 100
 · subst e; exact h2.elim
 · omega
def Rc.of (r : Res) (va : Option Addr) (vn vc : Nat) : Rc := ⟨r.e, r.value, va, vn, vc, r.over, r.reason⟩
theorem Sts.stepA {b g4 g5 g7 : Nat} {w0 w : World} {tb : List Ev} {t0 t1 : Txn} {fin : Cx.Ys → Bool} {k : Nat} {σ : St} {Y : Cx.Ys} {x y : Rc} (h : Sts b g4 g5 g7 w0 tb t0 t1 fin k σ Y x y w) (ha : Y.a ≠ none) :
 ∃ σ' kd r Z, oneStep σ 0 = some (σ', kd, r) ∧ ((kd = 1 ∧ r = {} ∧ Z.x = Y.x) ∨ (kd = 3 ∧ Z.x = r.over)) ∧ Z.y = Y.y ∧ Cx.On tb t0 t1 σ' Z ∧ Cx.Good t0 t1 fin (100 - (k + 1)) Z ∧ σ'.count < 1000000 + (k + 1) ∧ σ'.looks < 1000000 + (k + 1) := by
 have hk := h.lt
 obtain ⟨v, hv⟩ := Option.ne_none_iff_exists'.1 ha
 have hg := h.good
 rw [show 100 - k = (100 - (k + 1)) + 1 by omega] at hg
 obtain ⟨Z, e1, e2⟩ := hg.2.1 v hv
 have := h.c1
 have := h.c2
 obtain ⟨σ', kd, r, q1, q2, q3, q4, q5, q6⟩ := h.on.stepA e1 (by omega) (by omega)
 exact ⟨σ', kd, r, Z, q1, q2, q3, q4, e2, by omega, by omega⟩
theorem Sts.stepB {b g4 g5 g7 : Nat} {w0 w : World} {tb : List Ev} {t0 t1 : Txn} {fin : Cx.Ys → Bool} {k : Nat} {σ : St} {Y : Cx.Ys} {x y : Rc} (h : Sts b g4 g5 g7 w0 tb t0 t1 fin k σ Y x y w) (hb : Y.b ≠ none) :
 ∃ σ' kd r Z, oneStep σ 1 = some (σ', kd, r) ∧ ((kd = 1 ∧ r = {} ∧ Z.y = Y.y) ∨ (kd = 3 ∧ Z.y = r.over)) ∧ Z.x = Y.x ∧ Cx.On tb t0 t1 σ' Z ∧ Cx.Good t0 t1 fin (100 - (k + 1)) Z ∧ σ'.count < 1000000 + (k + 1) ∧ σ'.looks < 1000000 + (k + 1) := by
 have hk := h.lt
 obtain ⟨v, hv⟩ := Option.ne_none_iff_exists'.1 hb
 have hg := h.good
 rw [show 100 - k = (100 - (k + 1)) + 1 by omega] at hg
 obtain ⟨Z, e1, e2⟩ := hg.2.2 v hv
 have := h.c1
 have := h.c2
 obtain ⟨σ', kd, r, q1, q2, q3, q4, q5, q6⟩ := h.on.stepB e1 (by omega) (by omega)
 exact ⟨σ', kd, r, Z, q1, q2, q3, q4, e2, by omega, by omega⟩
set_option maxHeartbeats 20000000 in
theorem steps_any {b : Nat} {w w1 : World} {ks : List Kept} {σ σ5 σ6 : St} {fin : Cx.Ys → Bool} (h : EKt b w ks σ w1) (h1 : issueOk σ 0 ⟨6, 0, 0, 0⟩ = some σ5) (h2 : issueOk σ5 1 ⟨6, 0, 0, 0⟩ = some σ6) (hC : Comes σ6 fin) (z : Int) :
 Calls Tryz.prog 38 #[.pointer (some ⟨b, 0, none⟩), .int .u64 z] w1 fun e w' => ∃ (x y : Rc) (σ7 : St) (Y : Cx.Ys), e = .returned (.tuple #[.agg x.cs.toArray, .agg y.cs.toArray, .bool true]) ∧ EKt b w [] σ7 w' ∧ fin Y = true ∧ x.o = Y.x ∧ y.o = Y.y ∧ σ7.tale = σ6.tale ++ Y.tl := by
 have HI1 : Hid (∀ gs w1, ETs b w gs σ w1 → Calls Tryz.prog 17 #[.pointer (some ⟨b, 0, none⟩), .int .i64 0, .agg #[.int .i64 6, .int .i64 0, .int .i64 0, .int .i64 0]] w1 fun e w' => e = .returned (.int .i64 0) ∧ ETs b w gs σ5 w') := fun gs w1 h => issue_ts (s := 0) (o := ⟨6, 0, 0, 0⟩) h (by decide) h1
 have HI2 : Hid (∀ gs w1, ETs b w gs σ5 w1 → Calls Tryz.prog 17 #[.pointer (some ⟨b, 0, none⟩), .int .i64 1, .agg #[.int .i64 6, .int .i64 0, .int .i64 0, .int .i64 0]] w1 fun e w' => e = .returned (.int .i64 0) ∧ ETs b w gs σ6 w') := fun gs w1 h => issue_ts (s := 1) (o := ⟨6, 0, 0, 0⟩) h (by decide) h2
 obtain ⟨t0, t1, Y0, hg, hon, hx0, hy0, hc1, hc2⟩ := hC
 have HC := Lib.hid (And.intro hg (And.intro hon (And.intro hx0 (And.intro hy0 (And.intro hc1 hc2)))))
 have T0 := Lib.hid h.ts
 clear h h1 h2 hg hon hx0 hy0 hc1 hc2
 go_enter Tryz.func38, Tryz.ntmps38
 go_upto_region 2 with fail
 have T1 : Hid (ETs b w [(w1.heap.size + 1 + 1, rcs ⟨0, 0, none, 0, 0, 0, 0⟩ ⟨0, 0, none, 0, 0, 0, 0⟩), (w1.heap.size + 1, .cells #[.int .i64 0, .int .i64 0, .slice none 0 0, .int .i64 0, .int .i64 0] 42), (w1.heap.size, .cells #[.int .i64 0, .int .i64 0, .slice none 0 0, .int .i64 0, .int .i64 0] 42)] σ (((w1.alloc (.cells #[.int .i64 0, .int .i64 0, .slice none 0 0, .int .i64 0, .int .i64 0] 42)).alloc (.cells #[.int .i64 0, .int .i64 0, .slice none 0 0, .int .i64 0, .int .i64 0] 42)).alloc (rcs ⟨0, 0, none, 0, 0, 0, 0⟩ ⟨0, 0, none, 0, 0, 0, 0⟩))) := by
  have h := ((T0.out.new (.cells #[.int .i64 0, .int .i64 0, .slice none 0 0, .int .i64 0, .int .i64 0] 42)).new (.cells #[.int .i64 0, .int .i64 0, .slice none 0 0, .int .i64 0, .int .i64 0] 42)).new (rcs ⟨0, 0, none, 0, 0, 0, 0⟩ ⟨0, 0, none, 0, 0, 0, 0⟩)
  have e1 : ∀ (v : World) (o : Obj), (v.alloc o).heap.size = v.heap.size + 1 := fun v o => by simp
  rw [e1, e1] at h
  exact h
 have HNE := Lib.hid (show (w1.heap.size + 1 + 1 ≠ w1.heap.size + 1 ∧ w1.heap.size + 1 + 1 ≠ w1.heap.size ∧ w1.heap.size + 1 ≠ w1.heap.size) by omega)
 have HSZ := Lib.hid T0.out.size
 clear T0
 change Code.wp _ _ _ _ (((w1.alloc (.cells #[.int .i64 0, .int .i64 0, .slice none 0 0, .int .i64 0, .int .i64 0] 42)).alloc (.cells #[.int .i64 0, .int .i64 0, .slice none 0 0, .int .i64 0, .int .i64 0] 42)).alloc (rcs ⟨0, 0, none, 0, 0, 0, 0⟩ ⟨0, 0, none, 0, 0, 0, 0⟩))
 generalize ((w1.alloc _).alloc _).alloc _ = wA at *
 generalize w1.heap.size + 1 + 1 = g7 at *
 generalize w1.heap.size + 1 = g5 at *
 generalize w1.heap.size = g4 at *
 go_upto_region 4 with (first | (go_at_call 17; refine (HI1.out _ _ T1.out).mono ?_; clear T1; rintro e wB ⟨rfl, q⟩; have T2 := Lib.hid q; clear q) | (go_at_call 17; refine (HI2.out _ _ T2.out).mono ?_; clear T2; rintro e wC ⟨rfl, q⟩; have T3 := Lib.hid q; clear q))
 clear HI1 HI2
 obtain ⟨hg, hon, hx0, hy0, hc1, hc2⟩ := HC.out
 have TS : Sts b g4 g5 g7 w σ6.tale t0 t1 fin 0 σ6 Y0 ⟨0, 0, none, 0, 0, 0, 0⟩ ⟨0, 0, none, 0, 0, 0, 0⟩ wC := ⟨Nat.zero_le _, hg, hon, by omega, by omega, T3.out, hx0.symm, hy0.symm⟩
 have HTS := Lib.hid TS
 clear TS hg hon hx0 hy0 hc1 hc2 T3 HC
 generalize hta : σ6.tale = tb at *
 have HTA := Lib.hid hta
 clear hta
 go_wp2
 go_loopw [8] (fun i wr => ∃ (k : Nat) (σ : St) (Y : Cx.Ys) (x y : Rc), i = .int .i64 (k : Int) ∧ Sts b g4 g5 g7 w tb t0 t1 fin k σ Y x y wr) (fun i _ => 100 - (intOf i).toNat)
 case atStart => exact ⟨0, σ6, Y0, _, _, rfl, HTS.out⟩
 case round =>
  clear HTS
  obtain ⟨k, τ, Y, x, y, rfl, hS⟩ := hrel
  have hk := hS.lt
  have b0 : ((k : Int) < 400000) = True := by simp; omega
  have b1 : decide ((k : Int) < 400000) = true := by simp; omega
  have b2 : ((200 : Int) < (k : Int)) = False := by simp; omega
  have b3 : decide ((200 : Int) < (k : Int)) = false := by simp; omega
  have n3 : IntKind.i64.wrap ((k : Int) + 1) = (k : Int) + 1 := by rw [IntKind.wrap_i64]; omega
  obtain ⟨l0, l1, l2⟩ := hS.on.live
  obtain ⟨nl, hnl⟩ : ∃ nl, nl = τ.live.length := ⟨_, rfl⟩
  rw [← hnl] at l2
  have HLV : Hid (∀ gs w1, ETs b w gs τ w1 → Calls Tryz.prog 30 #[.pointer (some ⟨b, 0, none⟩)] w1 fun e w' => ∃ av cap, e = .returned (.slice av nl cap) ∧ ETs b w gs τ w') := fun gs w1 h => by rw [hnl]; exact live_ts h
  have HX := Lib.hid hS
  have T1 := Lib.hid hS.mem
  by_cases hE : Y.a = none ∧ Y.b = none
  · have hz : (0 < nl) = False := by have := l2.2 hE; simp; omega
    have hz2 : ((0 : Int) < (nl : Int)) = False := by have := l2.2 hE; simp; omega
    have hz3 : decide ((0 : Int) < (nl : Int)) = false := by have := l2.2 hE; simp; omega
    have hz4 : ((nl : Int) = 0) = True := by have := l2.2 hE; simp; omega
    have hz5 : decide ((nl : Int) = 0) = true := by have := l2.2 hE; simp; omega
    have hz6 : (nl = 0) = True := by have := l2.2 hE; simp; omega
    have hz7 : nl = 0 := l2.2 hE
    have hfin : fin Y = true := by
     have hg := hS.good
     rw [show 100 - k = (99 - k) + 1 by omega] at hg
     exact hg.1 hE.1 hE.2
    have htl := hS.on.z.tl
    have HF := Lib.hid (And.intro hfin (And.intro hS.ex (And.intro hS.ey htl)))
    clear hnl l2 hS hk l0 l1 hE hfin htl HX
    subst hz7
    go_upto_region 17 with (go_at_call 30; refine (HLV.out _ _ T1.out).mono ?_; clear T1; rintro e wD ⟨av, cap, rfl, q⟩; have T2 := Lib.hid q; clear q)
    have T3 := Lib.hid T2.out.drew
    have S0 : wD.drew.cell? ⟨g7, 0, none⟩ = some (.int .i64 (x.e : Int)) ∧ wD.drew.cell? ⟨g7, 1, none⟩ = some (.int .i64 (x.v : Int)) ∧ wD.drew.cell? ⟨g7, 2, none⟩ = some (.slice x.pa x.pn x.pc) ∧ wD.drew.cell? ⟨g7, 3, none⟩ = some (.int .i64 (x.o : Int)) ∧ wD.drew.cell? ⟨g7, 4, none⟩ = some (.int .i64 (x.r : Int)) ∧ wD.drew.cell? ⟨g7, 5, none⟩ = some (.int .i64 (y.e : Int)) ∧ wD.drew.cell? ⟨g7, 6, none⟩ = some (.int .i64 (y.v : Int)) ∧ wD.drew.cell? ⟨g7, 7, none⟩ = some (.slice y.pa y.pn y.pc) ∧ wD.drew.cell? ⟨g7, 8, none⟩ = some (.int .i64 (y.o : Int)) ∧ wD.drew.cell? ⟨g7, 9, none⟩ = some (.int .i64 (y.r : Int)) := ⟨objc9 (T3.out.obj List.mem_cons_self) 0 rfl, objc9 (T3.out.obj List.mem_cons_self) 1 rfl, objc9 (T3.out.obj List.mem_cons_self) 2 rfl, objc9 (T3.out.obj List.mem_cons_self) 3 rfl, objc9 (T3.out.obj List.mem_cons_self) 4 rfl, objc9 (T3.out.obj List.mem_cons_self) 5 rfl, objc9 (T3.out.obj List.mem_cons_self) 6 rfl, objc9 (T3.out.obj List.mem_cons_self) 7 rfl, objc9 (T3.out.obj List.mem_cons_self) 8 rfl, objc9 (T3.out.obj List.mem_cons_self) 9 rfl⟩
    clear T2
    refine wp_region_held_drew (S := fun w' => w'.cell? ⟨g7, 0, none⟩ = some (.int .i64 (x.e : Int)) ∧ w'.cell? ⟨g7, 1, none⟩ = some (.int .i64 (x.v : Int)) ∧ w'.cell? ⟨g7, 2, none⟩ = some (.slice x.pa x.pn x.pc) ∧ w'.cell? ⟨g7, 3, none⟩ = some (.int .i64 (x.o : Int)) ∧ w'.cell? ⟨g7, 4, none⟩ = some (.int .i64 (x.r : Int)) ∧ w'.cell? ⟨g7, 5, none⟩ = some (.int .i64 (y.e : Int)) ∧ w'.cell? ⟨g7, 6, none⟩ = some (.int .i64 (y.v : Int)) ∧ w'.cell? ⟨g7, 7, none⟩ = some (.slice y.pa y.pn y.pc) ∧ w'.cell? ⟨g7, 8, none⟩ = some (.int .i64 (y.o : Int)) ∧ w'.cell? ⟨g7, 9, none⟩ = some (.int .i64 (y.r : Int))) (by kernel_rfl) ?_ (fun hHeld => ?_)
    · (try dsimp only); exact S0
    generalize wD.drew = vd at *
    refine wpAnyH_take (i := 0) (v := ?_) rfl (by kernel_rfl) (by kernel_rfl) (by kernel_rfl) (fun _ _ _ h => h) (Or.inl ⟨by rfl, ?_⟩) hHeld ?_
    rotate_left
    · (intro w hSw; (try dsimp only at hSw); go_simp; (try with_reducible rfl))
    (try simp only [List.getElem_toArray, List.getElem_cons_succ, List.getElem_cons_zero, Act.put, List.setIfInBounds_toArray, List.set_cons_zero, List.set_cons_succ])
    refine wpAnyH_take (i := 1) (v := ?_) rfl (by kernel_rfl) (by kernel_rfl) (by kernel_rfl) (fun _ _ _ h => h) (Or.inl ⟨by rfl, ?_⟩) hHeld ?_
    rotate_left
    · (intro w hSw; (try dsimp only at hSw); go_simp; (try with_reducible rfl))
    (try simp only [List.getElem_toArray, List.getElem_cons_succ, List.getElem_cons_zero, Act.put, List.setIfInBounds_toArray, List.set_cons_zero, List.set_cons_succ])
    refine wpAnyH_take (i := 2) (v := ?_) rfl (by kernel_rfl) (by kernel_rfl) (by kernel_rfl) (fun _ _ _ h => h) (Or.inl ⟨by rfl, ?_⟩) hHeld ?_
    rotate_left
    · (intro w hSw; (try dsimp only at hSw); go_simp; (try with_reducible rfl))
    (try simp only [List.getElem_toArray, List.getElem_cons_succ, List.getElem_cons_zero, Act.put, List.setIfInBounds_toArray, List.set_cons_zero, List.set_cons_succ])
    refine wpAnyH_take (i := 3) (v := ?_) rfl (by kernel_rfl) (by kernel_rfl) (by kernel_rfl) (fun _ _ _ h => h) (Or.inl ⟨by rfl, ?_⟩) hHeld ?_
    rotate_left
    · (intro w hSw; (try dsimp only at hSw); go_simp; (try with_reducible rfl))
    (try simp only [List.getElem_toArray, List.getElem_cons_succ, List.getElem_cons_zero, Act.put, List.setIfInBounds_toArray, List.set_cons_zero, List.set_cons_succ])
    refine wpAnyH_take (i := 4) (v := ?_) rfl (by kernel_rfl) (by kernel_rfl) (by kernel_rfl) (fun _ _ _ h => h) (Or.inl ⟨by rfl, ?_⟩) hHeld ?_
    rotate_left
    · (intro w hSw; (try dsimp only at hSw); go_simp; (try with_reducible rfl))
    (try simp only [List.getElem_toArray, List.getElem_cons_succ, List.getElem_cons_zero, Act.put, List.setIfInBounds_toArray, List.set_cons_zero, List.set_cons_succ])
    refine wpAnyH_ready (rs := [5]) (by kernel_rfl) (by simp) ?_
    refine AllReadyH.cons (o := _) rfl (fun K hK => ?_) AllReadyH.nil
    go_simp
    (go_at_call 30; refine (HLV.out _ _ T3.out).mono ?_; clear T3; rintro e wG ⟨av2, cap2, rfl, q⟩; have T4 := Lib.hid q; clear q)
    refine hK.out _ _ ?_ (fun hHeld => ?_)
    · (try dsimp only); exact ⟨objc9 (T4.out.obj List.mem_cons_self) 0 rfl, objc9 (T4.out.obj List.mem_cons_self) 1 rfl, objc9 (T4.out.obj List.mem_cons_self) 2 rfl, objc9 (T4.out.obj List.mem_cons_self) 3 rfl, objc9 (T4.out.obj List.mem_cons_self) 4 rfl, objc9 (T4.out.obj List.mem_cons_self) 5 rfl, objc9 (T4.out.obj List.mem_cons_self) 6 rfl, objc9 (T4.out.obj List.mem_cons_self) 7 rfl, objc9 (T4.out.obj List.mem_cons_self) 8 rfl, objc9 (T4.out.obj List.mem_cons_self) 9 rfl⟩
    clear hK K
    (try simp only [List.getElem_toArray, List.getElem_cons_succ, List.getElem_cons_zero, Act.put, List.setIfInBounds_toArray, List.set_cons_zero, List.set_cons_succ])
    refine wpAnyH_take (i := 6) (v := ?_) rfl (by kernel_rfl) (by kernel_rfl) (by kernel_rfl) (fun _ _ _ h => h) (Or.inl ⟨by rfl, ?_⟩) hHeld ?_
    rotate_left
    · (intro w hSw; (try dsimp only at hSw); go_simp; (try with_reducible rfl))
    (try simp only [List.getElem_toArray, List.getElem_cons_succ, List.getElem_cons_zero, Act.put, List.setIfInBounds_toArray, List.set_cons_zero, List.set_cons_succ])
    refine wpAnyH_take (i := 7) (v := ?_) rfl (by kernel_rfl) (by kernel_rfl) (by kernel_rfl) (fun _ _ _ h => h) (Or.inl ⟨by rfl, ?_⟩) hHeld ?_
    rotate_left
    · (intro w hSw; (try dsimp only at hSw); go_simp; (try with_reducible rfl))
    (try simp only [List.getElem_toArray, List.getElem_cons_succ, List.getElem_cons_zero, Act.put, List.setIfInBounds_toArray, List.set_cons_zero, List.set_cons_succ])
    refine wpAnyH_ready (rs := [8]) (by kernel_rfl) (by simp) ?_
    refine AllReadyH.cons (o := _) rfl (fun K hK => ?_) AllReadyH.nil
    rw [if_pos (by rfl)]
    refine wp_store_mid 42 (.tmp 4) (.tmp 73) rfl g4 0 #[.int .i64 (x.e : Int), .int .i64 (x.v : Int), .slice x.pa x.pn x.pc, .int .i64 (x.o : Int), .int .i64 (x.r : Int)] rfl rfl (by have h := there_of (T4.out.obj (List.mem_cons_of_mem _ (List.mem_cons_of_mem _ List.mem_cons_self))); exact h) (by kernel_rfl) (by simp [Value.oneCell']) ?_; have ho4 := heap_setCells5 (T4.out.obj (List.mem_cons_of_mem _ (List.mem_cons_of_mem _ List.mem_cons_self))) (.int .i64 (x.e : Int)) (.int .i64 (x.v : Int)) (.slice x.pa x.pn x.pc) (.int .i64 (x.o : Int)) (.int .i64 (x.r : Int)); have hb4 := But.setCells g4 [.int .i64 (x.e : Int), .int .i64 (x.v : Int), .slice x.pa x.pn x.pc, .int .i64 (x.o : Int), .int .i64 (x.r : Int)] 0 wG; have T5 : Hid (ETs b w [(g4, .cells #[.int .i64 (x.e : Int), .int .i64 (x.v : Int), .slice x.pa x.pn x.pc, .int .i64 (x.o : Int), .int .i64 (x.r : Int)] 42), (g7, rcs x y), (g5, .cells #[.int .i64 0, .int .i64 0, .slice none 0 0, .int .i64 0, .int .i64 0] 42)] τ (wG.setCells g4 0 [.int .i64 (x.e : Int), .int .i64 (x.v : Int), .slice x.pa x.pn x.pc, .int .i64 (x.o : Int), .int .i64 (x.r : Int)])) := Lib.hid (T4.out.put (List.mem_cons_of_mem _ (List.mem_cons_of_mem _ List.mem_cons_self)) hb4 ho4 (fun p hp => pick3 HNE.out.2.1 HNE.out.2.2 hp)); clear T4 ho4 hb4; generalize wG.setCells _ _ _ = w5 at *
    refine hK.out _ _ ?_ (fun hHeld => ?_)
    · (try dsimp only); exact ⟨objc9 (T5.out.obj (List.mem_cons_of_mem _ List.mem_cons_self)) 0 rfl, objc9 (T5.out.obj (List.mem_cons_of_mem _ List.mem_cons_self)) 1 rfl, objc9 (T5.out.obj (List.mem_cons_of_mem _ List.mem_cons_self)) 2 rfl, objc9 (T5.out.obj (List.mem_cons_of_mem _ List.mem_cons_self)) 3 rfl, objc9 (T5.out.obj (List.mem_cons_of_mem _ List.mem_cons_self)) 4 rfl, objc9 (T5.out.obj (List.mem_cons_of_mem _ List.mem_cons_self)) 5 rfl, objc9 (T5.out.obj (List.mem_cons_of_mem _ List.mem_cons_self)) 6 rfl, objc9 (T5.out.obj (List.mem_cons_of_mem _ List.mem_cons_self)) 7 rfl, objc9 (T5.out.obj (List.mem_cons_of_mem _ List.mem_cons_self)) 8 rfl, objc9 (T5.out.obj (List.mem_cons_of_mem _ List.mem_cons_self)) 9 rfl⟩
    clear hK K
    (try simp only [List.getElem_toArray, List.getElem_cons_succ, List.getElem_cons_zero, Act.put, List.setIfInBounds_toArray, List.set_cons_zero, List.set_cons_succ])
    refine wpAnyH_ready (rs := [9]) (by kernel_rfl) (by simp) ?_
    refine AllReadyH.cons (o := _) rfl (fun K hK => ?_) AllReadyH.nil
    rw [if_pos (by rfl)]
    refine wp_store_mid 42 (.tmp 5) (.tmp 75) rfl g5 0 #[.int .i64 (y.e : Int), .int .i64 (y.v : Int), .slice y.pa y.pn y.pc, .int .i64 (y.o : Int), .int .i64 (y.r : Int)] rfl rfl (by have h := there_of (T5.out.obj (List.mem_cons_of_mem _ (List.mem_cons_of_mem _ List.mem_cons_self))); exact h) (by kernel_rfl) (by simp [Value.oneCell']) ?_; have ho5 := heap_setCells5 (T5.out.obj (List.mem_cons_of_mem _ (List.mem_cons_of_mem _ List.mem_cons_self))) (.int .i64 (y.e : Int)) (.int .i64 (y.v : Int)) (.slice y.pa y.pn y.pc) (.int .i64 (y.o : Int)) (.int .i64 (y.r : Int)); have hb5 := But.setCells g5 [.int .i64 (y.e : Int), .int .i64 (y.v : Int), .slice y.pa y.pn y.pc, .int .i64 (y.o : Int), .int .i64 (y.r : Int)] 0 w5; have T6 : Hid (ETs b w [(g5, .cells #[.int .i64 (y.e : Int), .int .i64 (y.v : Int), .slice y.pa y.pn y.pc, .int .i64 (y.o : Int), .int .i64 (y.r : Int)] 42), (g4, .cells #[.int .i64 (x.e : Int), .int .i64 (x.v : Int), .slice x.pa x.pn x.pc, .int .i64 (x.o : Int), .int .i64 (x.r : Int)] 42), (g7, rcs x y)] τ (w5.setCells g5 0 [.int .i64 (y.e : Int), .int .i64 (y.v : Int), .slice y.pa y.pn y.pc, .int .i64 (y.o : Int), .int .i64 (y.r : Int)])) := Lib.hid (T5.out.put (List.mem_cons_of_mem _ (List.mem_cons_of_mem _ List.mem_cons_self)) hb5 ho5 (fun p hp => pick3' HNE.out.1 HNE.out.2.2 hp)); clear T5 ho5 hb5; generalize w5.setCells _ _ _ = w6 at *
    refine hK.out _ _ ?_ (fun hHeld => ?_)
    · (try dsimp only); exact ⟨objc9 (T6.out.obj (List.mem_cons_of_mem _ (List.mem_cons_of_mem _ List.mem_cons_self))) 0 rfl, objc9 (T6.out.obj (List.mem_cons_of_mem _ (List.mem_cons_of_mem _ List.mem_cons_self))) 1 rfl, objc9 (T6.out.obj (List.mem_cons_of_mem _ (List.mem_cons_of_mem _ List.mem_cons_self))) 2 rfl, objc9 (T6.out.obj (List.mem_cons_of_mem _ (List.mem_cons_of_mem _ List.mem_cons_self))) 3 rfl, objc9 (T6.out.obj (List.mem_cons_of_mem _ (List.mem_cons_of_mem _ List.mem_cons_self))) 4 rfl, objc9 (T6.out.obj (List.mem_cons_of_mem _ (List.mem_cons_of_mem _ List.mem_cons_self))) 5 rfl, objc9 (T6.out.obj (List.mem_cons_of_mem _ (List.mem_cons_of_mem _ List.mem_cons_self))) 6 rfl, objc9 (T6.out.obj (List.mem_cons_of_mem _ (List.mem_cons_of_mem _ List.mem_cons_self))) 7 rfl, objc9 (T6.out.obj (List.mem_cons_of_mem _ (List.mem_cons_of_mem _ List.mem_cons_self))) 8 rfl, objc9 (T6.out.obj (List.mem_cons_of_mem _ (List.mem_cons_of_mem _ List.mem_cons_self))) 9 rfl⟩
    clear hK K
    (try simp only [List.getElem_toArray, List.getElem_cons_succ, List.getElem_cons_zero, Act.put, List.setIfInBounds_toArray, List.set_cons_zero, List.set_cons_succ])
    refine wpAnyH_take (i := 10) (v := ?_) rfl (by kernel_rfl) (by kernel_rfl) (by kernel_rfl) (fun _ _ _ h => h) (Or.inl ⟨by rfl, ?_⟩) hHeld ?_
    rotate_left
    · (intro w hSw; (try dsimp only at hSw); go_simp; (try with_reducible rfl))
    (try simp only [List.getElem_toArray, List.getElem_cons_succ, List.getElem_cons_zero, Act.put, List.setIfInBounds_toArray, List.set_cons_zero, List.set_cons_succ])
    refine wpAnyH_done (by kernel_rfl) ?_ _
    clear hHeld S0
    go_wp2
    refine bodyPost_ret (results_cell2 rfl _ _ g4 g5 42 42 #[.int .i64 (x.e : Int), .int .i64 (x.v : Int), .slice x.pa x.pn x.pc, .int .i64 (x.o : Int), .int .i64 (x.r : Int)] #[.int .i64 (y.e : Int), .int .i64 (y.v : Int), .slice y.pa y.pn y.pc, .int .i64 (y.o : Int), .int .i64 (y.r : Int)] _ _ _ rfl rfl (T6.out.obj (List.mem_cons_of_mem _ List.mem_cons_self)) (T6.out.obj List.mem_cons_self) Tryz.underlying42 rfl (by kernel_rfl) (by kernel_rfl) rfl) rfl ?_
    exact ⟨x, y, τ, Y, rfl, T6.out.kt, HF.out.1, HF.out.2.1, HF.out.2.2.1, by rw [HTA.out]; exact HF.out.2.2.2⟩
  · have hz : (0 < nl) = True := by have := mt l2.1 hE; simp; omega
    have hz2 : ((0 : Int) < (nl : Int)) = True := by have := mt l2.1 hE; simp; omega
    have hz3 : decide ((0 : Int) < (nl : Int)) = true := by have := mt l2.1 hE; simp; omega
    clear hnl l2 hS hk
    obtain ⟨m, hm, hmk⟩ : ∃ m : Nat, m < 64 ∧ bits .and .i64 (k : Int) 63 = (m : Int) := ⟨k % 64, by omega, by rw [Bt.i64_and63]; omega⟩
    have hcc : bits .and .u64 (z / 2 ^ min m 64) 1 = 0 ∨ bits .and .u64 (z / 2 ^ min m 64) 1 = 1 := by
     have h := Bt.and_mask_u64 (z / 2 ^ min m 64) 1 (by omega)
     have h2 : bits .and .u64 (z / 2 ^ min m 64) 1 = (z / 2 ^ min m 64) % 2 := h
     omega
    have w0 : wrap64 0 = 0 := by decide +kernel
    have w1' : wrap64 1 = 1 := by decide +kernel
    clear hm
    rcases hcc with hzc | hzc
    · by_cases ha : Y.a = none
      · have hne : Y.b ≠ none := fun h => hE ⟨ha, h⟩
        have lvv : Y.a.isSome = false := by rw [ha]; rfl
        clear ha hE
        obtain ⟨τ', kd, r, Z, e1, e2, e3, e4, e5, e6, e7⟩ := HX.out.stepB hne
        have LV := lvv
        rcases e2 with ⟨rfl, rfl, e2⟩ | ⟨rfl, e2⟩
        · have HST : Hid (∀ gs w1, ETs b w gs τ w1 → Calls Tryz.prog 18 #[.pointer (some ⟨b, 0, none⟩), .int .i64 0] w1 fun e w' => ∃ y1 y2 y3 y4 y5 y6 y7 y8, e = .returned (.agg #[.bool false, y1, y2, y3, y4, y5, y6, y7, y8]) ∧ ETs b w gs τ w') := fun gs w1 h => by
           have hh := stLive_ts h 0 (by decide)
           rw [l0, LV] at hh
           exact hh
          have HSP : Hid (∀ gs w1, ETs b w gs τ w1 → Calls Tryz.prog 19 #[.pointer (some ⟨b, 0, none⟩), .int .i64 1] w1 fun e w' => ∃ va vn vc, e = .returned (.tuple #[.agg #[.int .i64 1, .int .i64 0, .int .i64 0, .slice va vn vc, .int .i64 0, .int .i64 0], .int .i64 0]) ∧ ETs b w gs τ' w') := fun gs w1 h => step_ts h (s := 1) (by decide) e1
          have HE := Lib.hid (And.intro e2 (And.intro e3 (And.intro e4 (And.intro e5 (And.intro e6 e7)))))
          clear e1 e2 e3 e4 e5 e6 e7 LV lvv hne l0 l1
          go_wp2_with (first | (go_at_call 30; refine (HLV.out _ _ T1.out).mono ?_; clear T1; rintro e wD ⟨av, cap, rfl, q⟩; have T2 := Lib.hid q; clear q) | (go_at_call 18; refine (HST.out _ _ T2.out).mono ?_; clear T2; rintro e wE ⟨y1, y2, y3, y4, y5, y6, y7, y8, rfl, q⟩; have hf := fld_live (.bool false) y1 y2 y3 y4 y5 y6 y7 y8; have T3 := Lib.hid q; clear q) | (go_at_call 19; refine (HSP.out _ _ T3.out).mono ?_; clear T3; rintro e wF ⟨va, vn, vc, rfl, q⟩; have T4 := Lib.hid (q.alloc (.cells #[.int .i64 1, .int .i64 0, .int .i64 0, .slice va vn vc, .int .i64 0, .int .i64 0] 44)); have d0 := objc9 (heap_alloc_new wF (.cells #[.int .i64 1, .int .i64 0, .int .i64 0, .slice va vn vc, .int .i64 0, .int .i64 0] 44)) 0 rfl; clear q))
          go_roundw
          case rel =>
           obtain ⟨e2, e3, e4, e5, e6, e7⟩ := HE.out
           exact ⟨k + 1, τ', Z, x, y, rfl, ⟨by have := HX.out.lt; omega, e5, e4, e6, e7, T4.out, HX.out.ex.trans e3.symm, HX.out.ey.trans e2.symm⟩⟩
          case measure => have := HX.out.lt; simp [intOf]; omega
        · have HST : Hid (∀ gs w1, ETs b w gs τ w1 → Calls Tryz.prog 18 #[.pointer (some ⟨b, 0, none⟩), .int .i64 0] w1 fun e w' => ∃ y1 y2 y3 y4 y5 y6 y7 y8, e = .returned (.agg #[.bool false, y1, y2, y3, y4, y5, y6, y7, y8]) ∧ ETs b w gs τ w') := fun gs w1 h => by
           have hh := stLive_ts h 0 (by decide)
           rw [l0, LV] at hh
           exact hh
          have HSP : Hid (∀ gs w1, ETs b w gs τ w1 → Calls Tryz.prog 19 #[.pointer (some ⟨b, 0, none⟩), .int .i64 1] w1 fun e w' => ∃ va vn vc, e = .returned (.tuple #[.agg #[.int .i64 3, .int .i64 (r.e : Int), .int .i64 (r.value : Int), .slice va vn vc, .int .i64 (r.over : Int), .int .i64 (r.reason : Int)], .int .i64 0]) ∧ ETs b w gs τ' w') := fun gs w1 h => step_ts h (s := 1) (by decide) e1
          have HE := Lib.hid (And.intro e2 (And.intro e3 (And.intro e4 (And.intro e5 (And.intro e6 e7)))))
          clear e1 e2 e3 e4 e5 e6 e7 LV lvv hne l0 l1
          go_upto_region 16 with (first | (go_at_call 30; refine (HLV.out _ _ T1.out).mono ?_; clear T1; rintro e wD ⟨av, cap, rfl, q⟩; have T2 := Lib.hid q; clear q) | (go_at_call 18; refine (HST.out _ _ T2.out).mono ?_; clear T2; rintro e wE ⟨y1, y2, y3, y4, y5, y6, y7, y8, rfl, q⟩; have hf := fld_live (.bool false) y1 y2 y3 y4 y5 y6 y7 y8; have T3 := Lib.hid q; clear q) | (go_at_call 19; refine (HSP.out _ _ T3.out).mono ?_; clear T3; rintro e wF ⟨va, vn, vc, rfl, q⟩; have T4 := Lib.hid (q.alloc (.cells #[.int .i64 3, .int .i64 (r.e : Int), .int .i64 (r.value : Int), .slice va vn vc, .int .i64 (r.over : Int), .int .i64 (r.reason : Int)] 44)); have d0 := objc9 (heap_alloc_new wF (.cells #[.int .i64 3, .int .i64 (r.e : Int), .int .i64 (r.value : Int), .slice va vn vc, .int .i64 (r.over : Int), .int .i64 (r.reason : Int)] 44)) 0 rfl; have d1 := objc9 (heap_alloc_new wF (.cells #[.int .i64 3, .int .i64 (r.e : Int), .int .i64 (r.value : Int), .slice va vn vc, .int .i64 (r.over : Int), .int .i64 (r.reason : Int)] 44)) 1 rfl; have d2 := objc9 (heap_alloc_new wF (.cells #[.int .i64 3, .int .i64 (r.e : Int), .int .i64 (r.value : Int), .slice va vn vc, .int .i64 (r.over : Int), .int .i64 (r.reason : Int)] 44)) 2 rfl; have d3 := objc9 (heap_alloc_new wF (.cells #[.int .i64 3, .int .i64 (r.e : Int), .int .i64 (r.value : Int), .slice va vn vc, .int .i64 (r.over : Int), .int .i64 (r.reason : Int)] 44)) 3 rfl; have d4 := objc9 (heap_alloc_new wF (.cells #[.int .i64 3, .int .i64 (r.e : Int), .int .i64 (r.value : Int), .slice va vn vc, .int .i64 (r.over : Int), .int .i64 (r.reason : Int)] 44)) 4 rfl; have d5 := objc9 (heap_alloc_new wF (.cells #[.int .i64 3, .int .i64 (r.e : Int), .int .i64 (r.value : Int), .slice va vn vc, .int .i64 (r.over : Int), .int .i64 (r.reason : Int)] 44)) 5 rfl; clear q))
          have h7 : (wF.alloc (.cells #[.int .i64 3, .int .i64 (r.e : Int), .int .i64 (r.value : Int), .slice va vn vc, .int .i64 (r.over : Int), .int .i64 (r.reason : Int)] 44)).heap[g7]? = some (.cells #[.int .i64 (x.e : Int), .int .i64 (x.v : Int), .slice x.pa x.pn x.pc, .int .i64 (x.o : Int), .int .i64 (x.r : Int), .int .i64 (y.e : Int), .int .i64 (y.v : Int), .slice y.pa y.pn y.pc, .int .i64 (y.o : Int), .int .i64 (y.r : Int)] 159) := T4.out.obj List.mem_cons_self
          have thr := there_of h7
          go_wp2_with (refine wpList_store_mid rfl 42 (.tmp 71) (.tmp 70) rfl g7 5 #[.int .i64 (r.e : Int), .int .i64 (r.value : Int), .slice va vn vc, .int .i64 (r.over : Int), .int .i64 (r.reason : Int)] rfl rfl (by intro j hj; have h := thr (5 + j) (by simp at hj ⊢; omega); simpa [Nat.add_assoc] using h) (by kernel_rfl) (by simp [Value.oneCell']) ?_; generalize hws : World.setCells _ _ _ _ = w9)
          go_roundw
          case rel =>
           obtain ⟨e2, e3, e4, e5, e6, e7⟩ := HE.out
           have g0 := heap_setCell_same h7 5 (.int .i64 (r.e : Int))
           have g1 := heap_setCell_same g0 6 (.int .i64 (r.value : Int))
           have g2 := heap_setCell_same g1 7 (.slice va vn vc)
           have g3 := heap_setCell_same g2 8 (.int .i64 (r.over : Int))
           have g4' := heap_setCell_same g3 9 (.int .i64 (r.reason : Int))
           have ho : w9.heap[g7]? = some (rcs x (Rc.of r va vn vc)) := by rw [← hws]; exact g4'
           have hbut : But g7 (wF.alloc (.cells #[.int .i64 3, .int .i64 (r.e : Int), .int .i64 (r.value : Int), .slice va vn vc, .int .i64 (r.over : Int), .int .i64 (r.reason : Int)] 44)) w9 := by rw [← hws]; exact But.setCells _ _ _ _
           have hne := HNE.out
           refine ⟨k + 1, τ', Z, x, Rc.of r va vn vc, rfl, ⟨by have := HX.out.lt; omega, e5, e4, e6, e7, T4.out.put List.mem_cons_self hbut ho (fun p hp => ?_), HX.out.ex.trans e3.symm, e2.symm⟩⟩
           rcases List.mem_cons.1 hp with rfl | hp
           · exact .inl rfl
           · refine .inr ⟨?_, List.mem_cons_of_mem _ hp⟩
             rcases List.mem_cons.1 hp with rfl | hp
             · exact Ne.symm hne.1
             · rcases List.mem_cons.1 hp with rfl | hp
               · exact Ne.symm hne.2.1
               · cases hp
          case measure => have := HX.out.lt; simp [intOf]; omega
      · have hne : Y.a ≠ none := ha
        have lvv : Y.a.isSome = true := by cases h : Y.a with | none => exact absurd h ha | some v => rfl
        clear ha hE
        obtain ⟨τ', kd, r, Z, e1, e2, e3, e4, e5, e6, e7⟩ := HX.out.stepA hne
        have LV := lvv
        rcases e2 with ⟨rfl, rfl, e2⟩ | ⟨rfl, e2⟩
        · have HST : Hid (∀ gs w1, ETs b w gs τ w1 → Calls Tryz.prog 18 #[.pointer (some ⟨b, 0, none⟩), .int .i64 0] w1 fun e w' => ∃ y1 y2 y3 y4 y5 y6 y7 y8, e = .returned (.agg #[.bool true, y1, y2, y3, y4, y5, y6, y7, y8]) ∧ ETs b w gs τ w') := fun gs w1 h => by
           have hh := stLive_ts h 0 (by decide)
           rw [l0, LV] at hh
           exact hh
          have HSP : Hid (∀ gs w1, ETs b w gs τ w1 → Calls Tryz.prog 19 #[.pointer (some ⟨b, 0, none⟩), .int .i64 0] w1 fun e w' => ∃ va vn vc, e = .returned (.tuple #[.agg #[.int .i64 1, .int .i64 0, .int .i64 0, .slice va vn vc, .int .i64 0, .int .i64 0], .int .i64 0]) ∧ ETs b w gs τ' w') := fun gs w1 h => step_ts h (s := 0) (by decide) e1
          have HE := Lib.hid (And.intro e2 (And.intro e3 (And.intro e4 (And.intro e5 (And.intro e6 e7)))))
          clear e1 e2 e3 e4 e5 e6 e7 LV lvv hne l0 l1
          go_wp2_with (first | (go_at_call 30; refine (HLV.out _ _ T1.out).mono ?_; clear T1; rintro e wD ⟨av, cap, rfl, q⟩; have T2 := Lib.hid q; clear q) | (go_at_call 18; refine (HST.out _ _ T2.out).mono ?_; clear T2; rintro e wE ⟨y1, y2, y3, y4, y5, y6, y7, y8, rfl, q⟩; have hf := fld_live (.bool true) y1 y2 y3 y4 y5 y6 y7 y8; have T3 := Lib.hid q; clear q) | (go_at_call 19; refine (HSP.out _ _ T3.out).mono ?_; clear T3; rintro e wF ⟨va, vn, vc, rfl, q⟩; have T4 := Lib.hid (q.alloc (.cells #[.int .i64 1, .int .i64 0, .int .i64 0, .slice va vn vc, .int .i64 0, .int .i64 0] 44)); have d0 := objc9 (heap_alloc_new wF (.cells #[.int .i64 1, .int .i64 0, .int .i64 0, .slice va vn vc, .int .i64 0, .int .i64 0] 44)) 0 rfl; clear q))
          go_roundw
          case rel =>
           obtain ⟨e2, e3, e4, e5, e6, e7⟩ := HE.out
           exact ⟨k + 1, τ', Z, x, y, rfl, ⟨by have := HX.out.lt; omega, e5, e4, e6, e7, T4.out, HX.out.ex.trans e2.symm, HX.out.ey.trans e3.symm⟩⟩
          case measure => have := HX.out.lt; simp [intOf]; omega
        · have HST : Hid (∀ gs w1, ETs b w gs τ w1 → Calls Tryz.prog 18 #[.pointer (some ⟨b, 0, none⟩), .int .i64 0] w1 fun e w' => ∃ y1 y2 y3 y4 y5 y6 y7 y8, e = .returned (.agg #[.bool true, y1, y2, y3, y4, y5, y6, y7, y8]) ∧ ETs b w gs τ w') := fun gs w1 h => by
           have hh := stLive_ts h 0 (by decide)
           rw [l0, LV] at hh
           exact hh
          have HSP : Hid (∀ gs w1, ETs b w gs τ w1 → Calls Tryz.prog 19 #[.pointer (some ⟨b, 0, none⟩), .int .i64 0] w1 fun e w' => ∃ va vn vc, e = .returned (.tuple #[.agg #[.int .i64 3, .int .i64 (r.e : Int), .int .i64 (r.value : Int), .slice va vn vc, .int .i64 (r.over : Int), .int .i64 (r.reason : Int)], .int .i64 0]) ∧ ETs b w gs τ' w') := fun gs w1 h => step_ts h (s := 0) (by decide) e1
          have HE := Lib.hid (And.intro e2 (And.intro e3 (And.intro e4 (And.intro e5 (And.intro e6 e7)))))
          clear e1 e2 e3 e4 e5 e6 e7 LV lvv hne l0 l1
          go_upto_region 16 with (first | (go_at_call 30; refine (HLV.out _ _ T1.out).mono ?_; clear T1; rintro e wD ⟨av, cap, rfl, q⟩; have T2 := Lib.hid q; clear q) | (go_at_call 18; refine (HST.out _ _ T2.out).mono ?_; clear T2; rintro e wE ⟨y1, y2, y3, y4, y5, y6, y7, y8, rfl, q⟩; have hf := fld_live (.bool true) y1 y2 y3 y4 y5 y6 y7 y8; have T3 := Lib.hid q; clear q) | (go_at_call 19; refine (HSP.out _ _ T3.out).mono ?_; clear T3; rintro e wF ⟨va, vn, vc, rfl, q⟩; have T4 := Lib.hid (q.alloc (.cells #[.int .i64 3, .int .i64 (r.e : Int), .int .i64 (r.value : Int), .slice va vn vc, .int .i64 (r.over : Int), .int .i64 (r.reason : Int)] 44)); have d0 := objc9 (heap_alloc_new wF (.cells #[.int .i64 3, .int .i64 (r.e : Int), .int .i64 (r.value : Int), .slice va vn vc, .int .i64 (r.over : Int), .int .i64 (r.reason : Int)] 44)) 0 rfl; have d1 := objc9 (heap_alloc_new wF (.cells #[.int .i64 3, .int .i64 (r.e : Int), .int .i64 (r.value : Int), .slice va vn vc, .int .i64 (r.over : Int), .int .i64 (r.reason : Int)] 44)) 1 rfl; have d2 := objc9 (heap_alloc_new wF (.cells #[.int .i64 3, .int .i64 (r.e : Int), .int .i64 (r.value : Int), .slice va vn vc, .int .i64 (r.over : Int), .int .i64 (r.reason : Int)] 44)) 2 rfl; have d3 := objc9 (heap_alloc_new wF (.cells #[.int .i64 3, .int .i64 (r.e : Int), .int .i64 (r.value : Int), .slice va vn vc, .int .i64 (r.over : Int), .int .i64 (r.reason : Int)] 44)) 3 rfl; have d4 := objc9 (heap_alloc_new wF (.cells #[.int .i64 3, .int .i64 (r.e : Int), .int .i64 (r.value : Int), .slice va vn vc, .int .i64 (r.over : Int), .int .i64 (r.reason : Int)] 44)) 4 rfl; have d5 := objc9 (heap_alloc_new wF (.cells #[.int .i64 3, .int .i64 (r.e : Int), .int .i64 (r.value : Int), .slice va vn vc, .int .i64 (r.over : Int), .int .i64 (r.reason : Int)] 44)) 5 rfl; clear q))
          have h7 : (wF.alloc (.cells #[.int .i64 3, .int .i64 (r.e : Int), .int .i64 (r.value : Int), .slice va vn vc, .int .i64 (r.over : Int), .int .i64 (r.reason : Int)] 44)).heap[g7]? = some (.cells #[.int .i64 (x.e : Int), .int .i64 (x.v : Int), .slice x.pa x.pn x.pc, .int .i64 (x.o : Int), .int .i64 (x.r : Int), .int .i64 (y.e : Int), .int .i64 (y.v : Int), .slice y.pa y.pn y.pc, .int .i64 (y.o : Int), .int .i64 (y.r : Int)] 159) := T4.out.obj List.mem_cons_self
          have thr := there_of h7
          go_wp2_with (refine wpList_store_mid rfl 42 (.tmp 71) (.tmp 70) rfl g7 0 #[.int .i64 (r.e : Int), .int .i64 (r.value : Int), .slice va vn vc, .int .i64 (r.over : Int), .int .i64 (r.reason : Int)] rfl rfl (by intro j hj; have h := thr (0 + j) (by simp at hj ⊢; omega); simpa [Nat.add_assoc] using h) (by kernel_rfl) (by simp [Value.oneCell']) ?_; generalize hws : World.setCells _ _ _ _ = w9)
          go_roundw
          case rel =>
           obtain ⟨e2, e3, e4, e5, e6, e7⟩ := HE.out
           have g0 := heap_setCell_same h7 0 (.int .i64 (r.e : Int))
           have g1 := heap_setCell_same g0 1 (.int .i64 (r.value : Int))
           have g2 := heap_setCell_same g1 2 (.slice va vn vc)
           have g3 := heap_setCell_same g2 3 (.int .i64 (r.over : Int))
           have g4' := heap_setCell_same g3 4 (.int .i64 (r.reason : Int))
           have ho : w9.heap[g7]? = some (rcs (Rc.of r va vn vc) y) := by rw [← hws]; exact g4'
           have hbut : But g7 (wF.alloc (.cells #[.int .i64 3, .int .i64 (r.e : Int), .int .i64 (r.value : Int), .slice va vn vc, .int .i64 (r.over : Int), .int .i64 (r.reason : Int)] 44)) w9 := by rw [← hws]; exact But.setCells _ _ _ _
           have hne := HNE.out
           refine ⟨k + 1, τ', Z, Rc.of r va vn vc, y, rfl, ⟨by have := HX.out.lt; omega, e5, e4, e6, e7, T4.out.put List.mem_cons_self hbut ho (fun p hp => ?_), e2.symm, HX.out.ey.trans e3.symm⟩⟩
           rcases List.mem_cons.1 hp with rfl | hp
           · exact .inl rfl
           · refine .inr ⟨?_, List.mem_cons_of_mem _ hp⟩
             rcases List.mem_cons.1 hp with rfl | hp
             · exact Ne.symm hne.1
             · rcases List.mem_cons.1 hp with rfl | hp
               · exact Ne.symm hne.2.1
               · cases hp
          case measure => have := HX.out.lt; simp [intOf]; omega
    · by_cases ha : Y.b = none
      · have hne : Y.a ≠ none := fun h => hE ⟨h, ha⟩
        have lvv : Y.b.isSome = false := by rw [ha]; rfl
        clear ha hE
        obtain ⟨τ', kd, r, Z, e1, e2, e3, e4, e5, e6, e7⟩ := HX.out.stepA hne
        have LV := lvv
        rcases e2 with ⟨rfl, rfl, e2⟩ | ⟨rfl, e2⟩
        · have HST : Hid (∀ gs w1, ETs b w gs τ w1 → Calls Tryz.prog 18 #[.pointer (some ⟨b, 0, none⟩), .int .i64 1] w1 fun e w' => ∃ y1 y2 y3 y4 y5 y6 y7 y8, e = .returned (.agg #[.bool false, y1, y2, y3, y4, y5, y6, y7, y8]) ∧ ETs b w gs τ w') := fun gs w1 h => by
           have hh := stLive_ts h 1 (by decide)
           rw [l1, LV] at hh
           exact hh
          have HSP : Hid (∀ gs w1, ETs b w gs τ w1 → Calls Tryz.prog 19 #[.pointer (some ⟨b, 0, none⟩), .int .i64 0] w1 fun e w' => ∃ va vn vc, e = .returned (.tuple #[.agg #[.int .i64 1, .int .i64 0, .int .i64 0, .slice va vn vc, .int .i64 0, .int .i64 0], .int .i64 0]) ∧ ETs b w gs τ' w') := fun gs w1 h => step_ts h (s := 0) (by decide) e1
          have HE := Lib.hid (And.intro e2 (And.intro e3 (And.intro e4 (And.intro e5 (And.intro e6 e7)))))
          clear e1 e2 e3 e4 e5 e6 e7 LV lvv hne l0 l1
          go_wp2_with (first | (go_at_call 30; refine (HLV.out _ _ T1.out).mono ?_; clear T1; rintro e wD ⟨av, cap, rfl, q⟩; have T2 := Lib.hid q; clear q) | (go_at_call 18; refine (HST.out _ _ T2.out).mono ?_; clear T2; rintro e wE ⟨y1, y2, y3, y4, y5, y6, y7, y8, rfl, q⟩; have hf := fld_live (.bool false) y1 y2 y3 y4 y5 y6 y7 y8; have T3 := Lib.hid q; clear q) | (go_at_call 19; refine (HSP.out _ _ T3.out).mono ?_; clear T3; rintro e wF ⟨va, vn, vc, rfl, q⟩; have T4 := Lib.hid (q.alloc (.cells #[.int .i64 1, .int .i64 0, .int .i64 0, .slice va vn vc, .int .i64 0, .int .i64 0] 44)); have d0 := objc9 (heap_alloc_new wF (.cells #[.int .i64 1, .int .i64 0, .int .i64 0, .slice va vn vc, .int .i64 0, .int .i64 0] 44)) 0 rfl; clear q))
          go_roundw
          case rel =>
           obtain ⟨e2, e3, e4, e5, e6, e7⟩ := HE.out
           exact ⟨k + 1, τ', Z, x, y, rfl, ⟨by have := HX.out.lt; omega, e5, e4, e6, e7, T4.out, HX.out.ex.trans e2.symm, HX.out.ey.trans e3.symm⟩⟩
          case measure => have := HX.out.lt; simp [intOf]; omega
        · have HST : Hid (∀ gs w1, ETs b w gs τ w1 → Calls Tryz.prog 18 #[.pointer (some ⟨b, 0, none⟩), .int .i64 1] w1 fun e w' => ∃ y1 y2 y3 y4 y5 y6 y7 y8, e = .returned (.agg #[.bool false, y1, y2, y3, y4, y5, y6, y7, y8]) ∧ ETs b w gs τ w') := fun gs w1 h => by
           have hh := stLive_ts h 1 (by decide)
           rw [l1, LV] at hh
           exact hh
          have HSP : Hid (∀ gs w1, ETs b w gs τ w1 → Calls Tryz.prog 19 #[.pointer (some ⟨b, 0, none⟩), .int .i64 0] w1 fun e w' => ∃ va vn vc, e = .returned (.tuple #[.agg #[.int .i64 3, .int .i64 (r.e : Int), .int .i64 (r.value : Int), .slice va vn vc, .int .i64 (r.over : Int), .int .i64 (r.reason : Int)], .int .i64 0]) ∧ ETs b w gs τ' w') := fun gs w1 h => step_ts h (s := 0) (by decide) e1
          have HE := Lib.hid (And.intro e2 (And.intro e3 (And.intro e4 (And.intro e5 (And.intro e6 e7)))))
          clear e1 e2 e3 e4 e5 e6 e7 LV lvv hne l0 l1
          go_upto_region 16 with (first | (go_at_call 30; refine (HLV.out _ _ T1.out).mono ?_; clear T1; rintro e wD ⟨av, cap, rfl, q⟩; have T2 := Lib.hid q; clear q) | (go_at_call 18; refine (HST.out _ _ T2.out).mono ?_; clear T2; rintro e wE ⟨y1, y2, y3, y4, y5, y6, y7, y8, rfl, q⟩; have hf := fld_live (.bool false) y1 y2 y3 y4 y5 y6 y7 y8; have T3 := Lib.hid q; clear q) | (go_at_call 19; refine (HSP.out _ _ T3.out).mono ?_; clear T3; rintro e wF ⟨va, vn, vc, rfl, q⟩; have T4 := Lib.hid (q.alloc (.cells #[.int .i64 3, .int .i64 (r.e : Int), .int .i64 (r.value : Int), .slice va vn vc, .int .i64 (r.over : Int), .int .i64 (r.reason : Int)] 44)); have d0 := objc9 (heap_alloc_new wF (.cells #[.int .i64 3, .int .i64 (r.e : Int), .int .i64 (r.value : Int), .slice va vn vc, .int .i64 (r.over : Int), .int .i64 (r.reason : Int)] 44)) 0 rfl; have d1 := objc9 (heap_alloc_new wF (.cells #[.int .i64 3, .int .i64 (r.e : Int), .int .i64 (r.value : Int), .slice va vn vc, .int .i64 (r.over : Int), .int .i64 (r.reason : Int)] 44)) 1 rfl; have d2 := objc9 (heap_alloc_new wF (.cells #[.int .i64 3, .int .i64 (r.e : Int), .int .i64 (r.value : Int), .slice va vn vc, .int .i64 (r.over : Int), .int .i64 (r.reason : Int)] 44)) 2 rfl; have d3 := objc9 (heap_alloc_new wF (.cells #[.int .i64 3, .int .i64 (r.e : Int), .int .i64 (r.value : Int), .slice va vn vc, .int .i64 (r.over : Int), .int .i64 (r.reason : Int)] 44)) 3 rfl; have d4 := objc9 (heap_alloc_new wF (.cells #[.int .i64 3, .int .i64 (r.e : Int), .int .i64 (r.value : Int), .slice va vn vc, .int .i64 (r.over : Int), .int .i64 (r.reason : Int)] 44)) 4 rfl; have d5 := objc9 (heap_alloc_new wF (.cells #[.int .i64 3, .int .i64 (r.e : Int), .int .i64 (r.value : Int), .slice va vn vc, .int .i64 (r.over : Int), .int .i64 (r.reason : Int)] 44)) 5 rfl; clear q))
          have h7 : (wF.alloc (.cells #[.int .i64 3, .int .i64 (r.e : Int), .int .i64 (r.value : Int), .slice va vn vc, .int .i64 (r.over : Int), .int .i64 (r.reason : Int)] 44)).heap[g7]? = some (.cells #[.int .i64 (x.e : Int), .int .i64 (x.v : Int), .slice x.pa x.pn x.pc, .int .i64 (x.o : Int), .int .i64 (x.r : Int), .int .i64 (y.e : Int), .int .i64 (y.v : Int), .slice y.pa y.pn y.pc, .int .i64 (y.o : Int), .int .i64 (y.r : Int)] 159) := T4.out.obj List.mem_cons_self
          have thr := there_of h7
          go_wp2_with (refine wpList_store_mid rfl 42 (.tmp 71) (.tmp 70) rfl g7 0 #[.int .i64 (r.e : Int), .int .i64 (r.value : Int), .slice va vn vc, .int .i64 (r.over : Int), .int .i64 (r.reason : Int)] rfl rfl (by intro j hj; have h := thr (0 + j) (by simp at hj ⊢; omega); simpa [Nat.add_assoc] using h) (by kernel_rfl) (by simp [Value.oneCell']) ?_; generalize hws : World.setCells _ _ _ _ = w9)
          go_roundw
          case rel =>
           obtain ⟨e2, e3, e4, e5, e6, e7⟩ := HE.out
           have g0 := heap_setCell_same h7 0 (.int .i64 (r.e : Int))
           have g1 := heap_setCell_same g0 1 (.int .i64 (r.value : Int))
           have g2 := heap_setCell_same g1 2 (.slice va vn vc)
           have g3 := heap_setCell_same g2 3 (.int .i64 (r.over : Int))
           have g4' := heap_setCell_same g3 4 (.int .i64 (r.reason : Int))
           have ho : w9.heap[g7]? = some (rcs (Rc.of r va vn vc) y) := by rw [← hws]; exact g4'
           have hbut : But g7 (wF.alloc (.cells #[.int .i64 3, .int .i64 (r.e : Int), .int .i64 (r.value : Int), .slice va vn vc, .int .i64 (r.over : Int), .int .i64 (r.reason : Int)] 44)) w9 := by rw [← hws]; exact But.setCells _ _ _ _
           have hne := HNE.out
           refine ⟨k + 1, τ', Z, Rc.of r va vn vc, y, rfl, ⟨by have := HX.out.lt; omega, e5, e4, e6, e7, T4.out.put List.mem_cons_self hbut ho (fun p hp => ?_), e2.symm, HX.out.ey.trans e3.symm⟩⟩
           rcases List.mem_cons.1 hp with rfl | hp
           · exact .inl rfl
           · refine .inr ⟨?_, List.mem_cons_of_mem _ hp⟩
             rcases List.mem_cons.1 hp with rfl | hp
             · exact Ne.symm hne.1
             · rcases List.mem_cons.1 hp with rfl | hp
               · exact Ne.symm hne.2.1
               · cases hp
          case measure => have := HX.out.lt; simp [intOf]; omega
      · have hne : Y.b ≠ none := ha
        have lvv : Y.b.isSome = true := by cases h : Y.b with | none => exact absurd h ha | some v => rfl
        clear ha hE
        obtain ⟨τ', kd, r, Z, e1, e2, e3, e4, e5, e6, e7⟩ := HX.out.stepB hne
        have LV := lvv
        rcases e2 with ⟨rfl, rfl, e2⟩ | ⟨rfl, e2⟩
        · have HST : Hid (∀ gs w1, ETs b w gs τ w1 → Calls Tryz.prog 18 #[.pointer (some ⟨b, 0, none⟩), .int .i64 1] w1 fun e w' => ∃ y1 y2 y3 y4 y5 y6 y7 y8, e = .returned (.agg #[.bool true, y1, y2, y3, y4, y5, y6, y7, y8]) ∧ ETs b w gs τ w') := fun gs w1 h => by
           have hh := stLive_ts h 1 (by decide)
           rw [l1, LV] at hh
           exact hh
          have HSP : Hid (∀ gs w1, ETs b w gs τ w1 → Calls Tryz.prog 19 #[.pointer (some ⟨b, 0, none⟩), .int .i64 1] w1 fun e w' => ∃ va vn vc, e = .returned (.tuple #[.agg #[.int .i64 1, .int .i64 0, .int .i64 0, .slice va vn vc, .int .i64 0, .int .i64 0], .int .i64 0]) ∧ ETs b w gs τ' w') := fun gs w1 h => step_ts h (s := 1) (by decide) e1
          have HE := Lib.hid (And.intro e2 (And.intro e3 (And.intro e4 (And.intro e5 (And.intro e6 e7)))))
          clear e1 e2 e3 e4 e5 e6 e7 LV lvv hne l0 l1
          go_wp2_with (first | (go_at_call 30; refine (HLV.out _ _ T1.out).mono ?_; clear T1; rintro e wD ⟨av, cap, rfl, q⟩; have T2 := Lib.hid q; clear q) | (go_at_call 18; refine (HST.out _ _ T2.out).mono ?_; clear T2; rintro e wE ⟨y1, y2, y3, y4, y5, y6, y7, y8, rfl, q⟩; have hf := fld_live (.bool true) y1 y2 y3 y4 y5 y6 y7 y8; have T3 := Lib.hid q; clear q) | (go_at_call 19; refine (HSP.out _ _ T3.out).mono ?_; clear T3; rintro e wF ⟨va, vn, vc, rfl, q⟩; have T4 := Lib.hid (q.alloc (.cells #[.int .i64 1, .int .i64 0, .int .i64 0, .slice va vn vc, .int .i64 0, .int .i64 0] 44)); have d0 := objc9 (heap_alloc_new wF (.cells #[.int .i64 1, .int .i64 0, .int .i64 0, .slice va vn vc, .int .i64 0, .int .i64 0] 44)) 0 rfl; clear q))
          go_roundw
          case rel =>
           obtain ⟨e2, e3, e4, e5, e6, e7⟩ := HE.out
           exact ⟨k + 1, τ', Z, x, y, rfl, ⟨by have := HX.out.lt; omega, e5, e4, e6, e7, T4.out, HX.out.ex.trans e3.symm, HX.out.ey.trans e2.symm⟩⟩
          case measure => have := HX.out.lt; simp [intOf]; omega
        · have HST : Hid (∀ gs w1, ETs b w gs τ w1 → Calls Tryz.prog 18 #[.pointer (some ⟨b, 0, none⟩), .int .i64 1] w1 fun e w' => ∃ y1 y2 y3 y4 y5 y6 y7 y8, e = .returned (.agg #[.bool true, y1, y2, y3, y4, y5, y6, y7, y8]) ∧ ETs b w gs τ w') := fun gs w1 h => by
           have hh := stLive_ts h 1 (by decide)
           rw [l1, LV] at hh
           exact hh
          have HSP : Hid (∀ gs w1, ETs b w gs τ w1 → Calls Tryz.prog 19 #[.pointer (some ⟨b, 0, none⟩), .int .i64 1] w1 fun e w' => ∃ va vn vc, e = .returned (.tuple #[.agg #[.int .i64 3, .int .i64 (r.e : Int), .int .i64 (r.value : Int), .slice va vn vc, .int .i64 (r.over : Int), .int .i64 (r.reason : Int)], .int .i64 0]) ∧ ETs b w gs τ' w') := fun gs w1 h => step_ts h (s := 1) (by decide) e1
          have HE := Lib.hid (And.intro e2 (And.intro e3 (And.intro e4 (And.intro e5 (And.intro e6 e7)))))
          clear e1 e2 e3 e4 e5 e6 e7 LV lvv hne l0 l1
          go_upto_region 16 with (first | (go_at_call 30; refine (HLV.out _ _ T1.out).mono ?_; clear T1; rintro e wD ⟨av, cap, rfl, q⟩; have T2 := Lib.hid q; clear q) | (go_at_call 18; refine (HST.out _ _ T2.out).mono ?_; clear T2; rintro e wE ⟨y1, y2, y3, y4, y5, y6, y7, y8, rfl, q⟩; have hf := fld_live (.bool true) y1 y2 y3 y4 y5 y6 y7 y8; have T3 := Lib.hid q; clear q) | (go_at_call 19; refine (HSP.out _ _ T3.out).mono ?_; clear T3; rintro e wF ⟨va, vn, vc, rfl, q⟩; have T4 := Lib.hid (q.alloc (.cells #[.int .i64 3, .int .i64 (r.e : Int), .int .i64 (r.value : Int), .slice va vn vc, .int .i64 (r.over : Int), .int .i64 (r.reason : Int)] 44)); have d0 := objc9 (heap_alloc_new wF (.cells #[.int .i64 3, .int .i64 (r.e : Int), .int .i64 (r.value : Int), .slice va vn vc, .int .i64 (r.over : Int), .int .i64 (r.reason : Int)] 44)) 0 rfl; have d1 := objc9 (heap_alloc_new wF (.cells #[.int .i64 3, .int .i64 (r.e : Int), .int .i64 (r.value : Int), .slice va vn vc, .int .i64 (r.over : Int), .int .i64 (r.reason : Int)] 44)) 1 rfl; have d2 := objc9 (heap_alloc_new wF (.cells #[.int .i64 3, .int .i64 (r.e : Int), .int .i64 (r.value : Int), .slice va vn vc, .int .i64 (r.over : Int), .int .i64 (r.reason : Int)] 44)) 2 rfl; have d3 := objc9 (heap_alloc_new wF (.cells #[.int .i64 3, .int .i64 (r.e : Int), .int .i64 (r.value : Int), .slice va vn vc, .int .i64 (r.over : Int), .int .i64 (r.reason : Int)] 44)) 3 rfl; have d4 := objc9 (heap_alloc_new wF (.cells #[.int .i64 3, .int .i64 (r.e : Int), .int .i64 (r.value : Int), .slice va vn vc, .int .i64 (r.over : Int), .int .i64 (r.reason : Int)] 44)) 4 rfl; have d5 := objc9 (heap_alloc_new wF (.cells #[.int .i64 3, .int .i64 (r.e : Int), .int .i64 (r.value : Int), .slice va vn vc, .int .i64 (r.over : Int), .int .i64 (r.reason : Int)] 44)) 5 rfl; clear q))
          have h7 : (wF.alloc (.cells #[.int .i64 3, .int .i64 (r.e : Int), .int .i64 (r.value : Int), .slice va vn vc, .int .i64 (r.over : Int), .int .i64 (r.reason : Int)] 44)).heap[g7]? = some (.cells #[.int .i64 (x.e : Int), .int .i64 (x.v : Int), .slice x.pa x.pn x.pc, .int .i64 (x.o : Int), .int .i64 (x.r : Int), .int .i64 (y.e : Int), .int .i64 (y.v : Int), .slice y.pa y.pn y.pc, .int .i64 (y.o : Int), .int .i64 (y.r : Int)] 159) := T4.out.obj List.mem_cons_self
          have thr := there_of h7
          go_wp2_with (refine wpList_store_mid rfl 42 (.tmp 71) (.tmp 70) rfl g7 5 #[.int .i64 (r.e : Int), .int .i64 (r.value : Int), .slice va vn vc, .int .i64 (r.over : Int), .int .i64 (r.reason : Int)] rfl rfl (by intro j hj; have h := thr (5 + j) (by simp at hj ⊢; omega); simpa [Nat.add_assoc] using h) (by kernel_rfl) (by simp [Value.oneCell']) ?_; generalize hws : World.setCells _ _ _ _ = w9)
          go_roundw
          case rel =>
           obtain ⟨e2, e3, e4, e5, e6, e7⟩ := HE.out
           have g0 := heap_setCell_same h7 5 (.int .i64 (r.e : Int))
           have g1 := heap_setCell_same g0 6 (.int .i64 (r.value : Int))
           have g2 := heap_setCell_same g1 7 (.slice va vn vc)
           have g3 := heap_setCell_same g2 8 (.int .i64 (r.over : Int))
           have g4' := heap_setCell_same g3 9 (.int .i64 (r.reason : Int))
           have ho : w9.heap[g7]? = some (rcs x (Rc.of r va vn vc)) := by rw [← hws]; exact g4'
           have hbut : But g7 (wF.alloc (.cells #[.int .i64 3, .int .i64 (r.e : Int), .int .i64 (r.value : Int), .slice va vn vc, .int .i64 (r.over : Int), .int .i64 (r.reason : Int)] 44)) w9 := by rw [← hws]; exact But.setCells _ _ _ _
           have hne := HNE.out
           refine ⟨k + 1, τ', Z, x, Rc.of r va vn vc, rfl, ⟨by have := HX.out.lt; omega, e5, e4, e6, e7, T4.out.put List.mem_cons_self hbut ho (fun p hp => ?_), HX.out.ex.trans e3.symm, e2.symm⟩⟩
           rcases List.mem_cons.1 hp with rfl | hp
           · exact .inl rfl
           · refine .inr ⟨?_, List.mem_cons_of_mem _ hp⟩
             rcases List.mem_cons.1 hp with rfl | hp
             · exact Ne.symm hne.1
             · rcases List.mem_cons.1 hp with rfl | hp
               · exact Ne.symm hne.2.1
               · cases hp
          case measure => have := HX.out.lt; simp [intOf]; omega
end Go.Proofs.YtbefcdjcefmicaaGreat.Em