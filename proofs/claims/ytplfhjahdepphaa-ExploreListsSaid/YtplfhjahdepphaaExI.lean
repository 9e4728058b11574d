/- Contract of explore.Schedules. -/
import Derived.Test.YtplfhjahdepphaaExH
namespace Go.Proofs.Ytplfhjahdepphaa.Ex
open Go.ChangeShapes Go.WideShapes Go.ChangeAt Go.RowKit
set_option linter.unusedVariables false
set_option linter.unusedSimpArgs false
set_option maxRecDepth 100000

/-- So many schedules at most, each the next one. -/
def runF : Nat → List Nat → List (List Nat)
  | 0, _ => []
  | n + 1, s => s :: (match nextF s with | none => [] | some s' => runF n s')
def restF (n : Nat) (s : List Nat) : List (List Nat) := match nextF s with | none => [] | some s' => runF n s'

/-- A slice whose cells lie in a block of some kind. -/
def RowX (P : Nat → Prop) (w : World) (v : Value) (xs : List Value) : Prop :=
  ∃ a n cap, v = .slice a n cap ∧ xs.length = n ∧ n ≤ cap ∧ cap ≤ maxLen ∧ (n = 0 ∨ ∃ g off, a = some ⟨g, off, none⟩ ∧ P g ∧ g < w.heap.size ∧ ∀ j, j < n → w.cell? ⟨g, off + j, none⟩ = xs[j]?)
theorem RowX.grown {P : Nat → Prop} {w w1 : World} {v : Value} {xs : List Value} {row : Option Nat} (h : RowX P w v xs) (hg : w.grownBy w1 row) (hP : ∀ g, P g → some g ≠ row) : RowX P w1 v xs := by
  obtain ⟨a, n, cap, h1, h2, h3, h4, h5⟩ := h
  refine ⟨a, n, cap, h1, h2, h3, h4, ?_⟩
  rcases h5 with h5 | ⟨g, off, e1, e2, e3, e4⟩
  · exact .inl h5
  · refine .inr ⟨g, off, e1, e2, Nat.lt_of_lt_of_le e3 hg.size, fun j hj => ?_⟩
    rw [World.cell?_of_block (hg.block g e3 (hP g e2))]
    exact e4 j hj
theorem RowX.below {P : Nat → Prop} {w w1 : World} {v : Value} {xs : List Value} (h : RowX P w v xs) (hb : Below w.heap.size w w1) : RowX P w1 v xs := by
  obtain ⟨a, n, cap, h1, h2, h3, h4, h5⟩ := h
  refine ⟨a, n, cap, h1, h2, h3, h4, ?_⟩
  rcases h5 with h5 | ⟨g, off, e1, e2, e3, e4⟩
  · exact .inl h5
  · refine .inr ⟨g, off, e1, e2, Nat.lt_of_lt_of_le e3 hb.size, fun j hj => ?_⟩
    rw [hb.cell (p := ⟨g, off + j, none⟩) e3]
    exact e4 j hj
theorem RowX.mono {P Q : Nat → Prop} {w : World} {v : Value} {xs : List Value} (h : RowX P w v xs) (hPQ : ∀ g, g < w.heap.size → P g → Q g) : RowX Q w v xs := by
  obtain ⟨a, n, cap, h1, h2, h3, h4, h5⟩ := h
  refine ⟨a, n, cap, h1, h2, h3, h4, ?_⟩
  rcases h5 with h5 | ⟨g, off, e1, e2, e3, e4⟩
  · exact .inl h5
  · exact .inr ⟨g, off, e1, hPQ g e3 e2, e3, e4⟩
theorem RowX.row {P : Nat → Prop} {w : World} {v : Value} {xs : List Value} {b : Nat} (h : RowX P w v xs) (hP : ∀ g, P g → b ≤ g) : Ow.Row w b 1 v xs := by
  obtain ⟨a, n, cap, h1, h2, h3, h4, h5⟩ := h
  refine ⟨a, n, cap, h1, by omega, h3, h4, ?_⟩
  rcases h5 with h5 | ⟨g, off, e1, e2, e3, e4⟩
  · exact .inl h5
  · exact .inr ⟨g, off, e1, hP g e2, e3, fun j hj => e4 j (by omega)⟩
theorem RowX.of_row {w : World} {v : Value} {xs : List Value} {b : Nat} (h : Ow.Row w b 1 v xs) : RowX (fun g => b ≤ g) w v xs := by
  obtain ⟨a, n, cap, h1, h2, h3, h4, h5⟩ := h
  refine ⟨a, n, cap, h1, by omega, h3, h4, ?_⟩
  rcases h5 with h5 | ⟨g, off, e1, e2, e3, e4⟩
  · exact .inl h5
  · exact .inr ⟨g, off, e1, e2, e3, fun j hj => e4 j (by omega)⟩

theorem infoS : (Try.prog.info? 65).map (fun i => (i.zero, i.size, i.bytes)) = some (some (.slice none 0 0), 1, 24) := by kernel_rfl
/-- A row is put behind a row of rows. -/
theorem append_S {ops : Array Oper} {rest : List Oper} {o : Oper} {a : Act} {Q : Exit → Act → World → Prop} (w : World) (hgd : o.guard = none) (s x : Operand)
    (ho : o.op = .call { callee := .builtin .append, args := #[s, x], argTypes := #[72, 72] })
    (base : Nat) (v : Value) (n : Nat) (xs : List Value) (hs : a.eval s = v) (hown : w.ownsRow base 65 1 v n xs)
    (ad : Addr) (c : Nat) (news : List Value) (hx : a.eval x = .slice (some ad) 1 c) (hl : news.length = 1) (hnews : ∀ j u, news[j]? = some u → w.cell? (ad.add j) = some u) (h1 : ∀ u ∈ news, u.oneCell' = true)
    (hn : n < 1000000) (hbase : base ≤ w.heap.size) (H : Nat) (hH : w.heap.size = H)
    (h : ∀ g cap w', w'.ownsRow base 65 1 (.slice (some ⟨g, 0, none⟩) (n + 1) cap) (n + 1) (xs ++ news) → w.grownBy w' v.ownBlock → (v.ownBlock = some g ∨ g = H) → g < w'.heap.size → wpList Try.prog ops Q rest (a.put o.dst (.slice (some ⟨g, 0, none⟩) (n + 1) cap)) w') : wpList Try.prog ops Q (o :: rest) a w := by
  obtain ⟨i0, hi, hz0, hz1, hz2⟩ := info_parts infoS
  exact wpList_append_lies w hgd s x _ ho base _ i0 _ 1 24 Try.underlying72 hi hz0 hz1 hz2 rfl (by decide) v n xs hs hown ad 1 c news hx (by omega) hnews h1 (by omega) (by unfold maxLen; omega) (by omega) hbase H hH h

theorem clipS_any (a : Option Addr) (n cap : Nat) (h : n ≤ cap) (hm : cap ≤ 9223372036854775807) (w : World) :
    Calls Try.prog 65 #[.slice a n cap] w fun e w' => e = .returned (.slice a n n) ∧ w = w' := by
  have h1 : (n : Int) ≤ (cap : Int) := by omega
  go_enter Try.func65, Try.ntmps65
  go_wp2
  go_ret
  exact ⟨rfl, rfl⟩

theorem sched_no (v : Value) (l : List Nat) (hs : Sm l) (b : Nat) (m : Int) (h : m ≤ 0) (hm : -9223372036854775808 ≤ m) (w : World) (hr : Ow.Row w b 1 v (nats l)) :
    Calls Try.prog 52 #[v, .int .i64 m] w fun e w' => e = .returned (.slice none 0 0) ∧ w = w' := by
  have HC := Lib.hid (fun W h => count_any v l (by have := hs.1; omega) (fun k hk => by have := hs.2 k hk; omega) W h)
  rw [sm_cntI hs] at HC
  have hc := sm_cnt hs
  have c1 : (1 : Int) ≤ (cN l : Int) := by omega
  have c2 : m ≤ 10000 := by omega
  have c3 : m ≤ (cN l : Int) := by omega
  have HR := Lib.hid (Plan.row_weak hr (Nat.zero_le _))
  clear hs hr hc
  go_enter Try.func52, Try.ntmps52
  go_wp2_with fail
  refine (HC.out _ HR.out).mono ?_
  rintro z w1 ⟨rfl, rfl⟩
  go_wp2_with fail
  go_ret
  exact ⟨rfl, rfl⟩

/-- What the loop of Schedules keeps. -/
def SRel (w : World) (B1 N : Nat) (first : List Nat) (aS : Option Addr) (t capS : Nat) (out : Value) (wr : World) : Prop :=
  ∃ (j gO capO : Nat) (vs : List Value) (Xs : List (List Nat)) (cur : List Nat), 1 ≤ j ∧ j ≤ N ∧ out = .slice (some ⟨gO, 0, none⟩) j capO ∧ wr.ownsRow B1 65 1 out j vs ∧
    wr.ownsRow w.heap.size 3 1 (.slice aS t capS) t (nats cur) ∧ Xs.length = j ∧ (∀ i, i < j → RowX (fun g => B1 ≤ g ∧ g ≠ gO) wr (vs.getD i (.slice none 0 0)) (nats (Xs.getD i []))) ∧
    Xs ++ restF (N - j) cur = runF N first ∧ Below w.heap.size w wr ∧ B1 ≤ wr.heap.size
/-- What Schedules answers. -/
def SchP (w : World) (L : List (List Nat)) (z : Ending) (w' : World) : Prop :=
  ∃ (gO : Nat) (vs : List Value), z = .returned (.slice (some ⟨gO, 0, none⟩) L.length L.length) ∧ w.heap.size ≤ gO ∧ gO < w'.heap.size ∧ vs.length = L.length ∧ (∀ i, i < L.length → w'.cell? ⟨gO, i, none⟩ = vs[i]?) ∧
    (∀ i, i < L.length → Ow.Row w' w.heap.size 1 (vs.getD i (.slice none 0 0)) (nats (L.getD i []))) ∧ Below w.heap.size w w'

theorem sch_fin {w wr : World} {B1 gO j capO : Nat} {vs : List Value} {Xs L : List (List Nat)} (hB : w.heap.size ≤ B1) (hownO : wr.ownsRow B1 65 1 (.slice (some ⟨gO, 0, none⟩) j capO) j vs) (hL : Xs = L) (hXs : Xs.length = j)
    (hin : ∀ i, i < j → RowX (fun g => B1 ≤ g ∧ g ≠ gO) wr (vs.getD i (.slice none 0 0)) (nats (Xs.getD i []))) (hb : Below w.heap.size w wr) (h1 : B1 ≤ gO) (h2 : gO < wr.heap.size) : SchP w L (.returned (.slice (some ⟨gO, 0, none⟩) j j)) wr := by
  subst hL
  have hvl : vs.length = j := by have := hownO.1; omega
  refine ⟨gO, vs, by rw [hXs], by omega, h2, by omega, fun i hi => hownO.cellAt i (by omega), fun i hi => ?_, hb⟩
  exact (hin i (by omega)).row fun g hg => by omega
theorem restF_none {n : Nat} {s : List Nat} (h : nextF s = none) : restF n s = [] := by unfold restF; rw [h]
theorem restF_zero (s : List Nat) : restF 0 s = [] := by unfold restF; cases nextF s <;> rfl
theorem restF_some {n : Nat} {s ys : List Nat} (h : nextF s = some ys) : restF (n + 1) s = ys :: restF n ys := by unfold restF; rw [h]; rfl

set_option maxHeartbeats 4000000 in
theorem sched_any (v : Value) (l : List Nat) (hs : Sm l) (b m : Nat) (hm1 : 1 ≤ m) (hm2 : m ≤ 300) (w : World) (hr : Ow.Row w b 1 v (nats l)) :
    Calls Try.prog 52 #[v, .int .i64 (m : Int)] w (SchP w (runF (min m (cN l)) (nthF (sum l) l 0))) := by
  have HC := Lib.hid (fun W h => count_any v l (by have := hs.1; omega) (fun k hk => by have := hs.2 k hk; omega) W h)
  rw [sm_cntI hs] at HC
  have hc := sm_cnt hs
  have HNT : Hid (∀ W, Ow.Row W b 1 v (nats l) → Calls Try.prog 50 #[v, .int .i64 0] W (NthP W (nthF (sum l) l 0))) := fun W h => nth_yes v l hs b 0 (by omega) W h
  have HR := Lib.hid hr
  have hfl : (nthF (sum l) l 0).length = sum l := nthF_length _ _ _
  have h12 := sm_sum12 hs
  have hz := sm_zero hs
  obtain ⟨t, ht⟩ : ∃ t, sum l = t := ⟨_, rfl⟩
  rw [ht] at hfl h12 hz HNT ⊢
  obtain ⟨N, hN⟩ : ∃ N, min m (cN l) = N := ⟨_, rfl⟩
  rw [hN]
  have hN1 : 1 ≤ N := by omega
  have hN3 : N ≤ 300 := by omega
  have hZ : t = 0 → N = 1 := fun h => by have := hz h; omega
  generalize cN l = C at *
  generalize nthF t l 0 = first at *
  have HFL := Lib.hid hfl
  have hm3 : (m : Int) ≤ 10000 := by omega
  clear hs hr hc hz hfl ht
  rcases (show (C < m ∧ N = C) ∨ (¬ C < m ∧ N = m) by omega) with ⟨hcm, rfl⟩ | ⟨hcm, rfl⟩
  all_goals
    have hNp : (1 : Int) ≤ (N : Int) := by omega
    clear hN hm1
    go_enter Try.func52, Try.ntmps52
    go_wp2_with fail
    refine (HC.out _ (Plan.row_weak HR.out (Nat.zero_le _))).mono ?_
    rintro z w1 ⟨rfl, rfl⟩
    go_wp2_with fail
    refine (HNT.out _ HR.out).mono ?_
    rintro z w2 ⟨aS, tS, capS, rfl, hownS, hb⟩
    obtain rfl : tS = t := by have := hownS.1; rw [nats_length, HFL.out] at this; omega
    have hrowS : Ow.Row w2 w.heap.size 1 (.slice aS tS tS) (nats first) := by
      obtain ⟨_, _, he, _, _, h⟩ := Ow.own_form hownS
      simp only [Value.slice.injEq] at he
      obtain ⟨rfl, _, rfl⟩ := he
      exact h
    have hg1 : ∀ k, (Value.slice aS tS capS).ownBlock = some k → k < w2.heap.size := fun k hk => (hownS.lt k hk).2
    go_wp2_with fail
    refine (clone_any _ (nats first) (oneCell_nats first) (by rw [nats_length, HFL.out]; omega) _ _ hrowS).mono ?_
    rintro z w3 ⟨v5, rfl, hown5, hq⟩
    rw [nats_length, HFL.out] at hown5
    obtain ⟨a5, cap5, rfl, hn5, hm5, hrow5⟩ := Ow.own_form hown5
    have hownS3 := Ow.own_below hownS hq
    have hb3 := hb.trans (hq.mono hb.size)
    have hsz3 := hq.size
    have HB2 : Hid (w.heap.size ≤ w2.heap.size) := hb.size
    clear hown5 hownS hb hq hrowS
    go_wp2_with (go_at_call 63; refine (clip_any _ _ _ hn5 hm5 _).mono ?_; rintro e w' ⟨rfl, rfl⟩)
    obtain ⟨B1, hB1⟩ : ∃ B1, w2.heap.size = B1 := ⟨_, rfl⟩
    have hB1w : w.heap.size ≤ B1 := hB1 ▸ HB2.out
    have hrun0 : runF N first = first :: restF (N - 1) first := by
      rw [show N = (N - 1) + 1 by omega]; rfl
    have HST : Hid (SRel w B1 N first aS tS capS (.slice (some ⟨w3.heap.size, 0, none⟩) 1 1) (w3.alloc (.cells #[.slice a5 tS tS] 65))) := by
      refine ⟨1, w3.heap.size, 1, [.slice a5 tS tS], [first], first, by omega, by omega, rfl, ?_, hownS3.alloc _, rfl, ?_, hrun0.symm, hb3.alloc hb3.size _, by simp; omega⟩
      · exact World.ownsRow_lit w3 #[.slice a5 tS tS] 1 (by omega) (by unfold maxLen; omega) rfl
      · intro i hi
        obtain rfl : i = 0 := by omega
        have h1 := RowX.of_row hrow5
        rw [hB1] at h1
        exact ((h1.mono (Q := fun g => B1 ≤ g ∧ g ≠ w3.heap.size) (fun g hg hP => ⟨hP, by omega⟩)).below (Plan.below_allocs1 w3 _))
    rw [hB1] at hg1
    have HG1 := Lib.hid hg1
    clear hrow5 hownS3 hb3 hg1 hrun0 hsz3 hB1
    generalize w3.alloc (.cells #[.slice a5 tS tS] 65) = w4 at *
    generalize w3.heap.size = g3 at *
    go_loopw [8] (fun out wr => SRel w B1 N first aS tS capS out wr) (fun out _ => match out with | .slice _ n _ => N - n | _ => 0)
    case atStart => exact HST.out
    case round =>
      obtain ⟨j, gO, capO, vs, Xs, cur, hj1, hjN, rfl, hownO, hownS, hXs, hin, hrun, hb, hBw⟩ := hrel
      by_cases hlt : j < N
      · have hjI : (j : Int) < (N : Int) := by omega
        have hv0 : tS ≠ 0 := fun h => by have := hZ h; omega
        obtain ⟨gS, capS', hvS, hgS, hgS'⟩ := hownS.form (by omega)
        simp only [Value.slice.injEq, true_and] at hvS
        obtain ⟨rfl, rfl⟩ := hvS
        have hgB : gS < B1 := HG1.out gS rfl
        obtain ⟨gO', capO', hvO, hgO, hgO'⟩ := hownO.form (by omega)
        simp only [Value.slice.injEq, Option.some.injEq, Addr.mk.injEq, true_and, and_true] at hvO
        obtain ⟨rfl, rfl⟩ := hvO
        have hcl : cur.length = tS := by have := hownS.1; rw [nats_length] at this; omega
        have HIN := Lib.hid hin
        have HRUN := Lib.hid hrun
        have HXS := Lib.hid hXs
        clear hin hrun hXs
        go_wp2_with fail
        refine (next_any w.heap.size gS tS capS cur (by omega) (by omega) _ hownS).mono ?_
        rintro z w5 ⟨hg5, hcase⟩
        have hownO5 := hownO.kept hg5 (by right; simp [Value.ownBlock]; omega)
        have hin5 : Hid (∀ i, i < j → RowX (fun g => B1 ≤ g ∧ g ≠ gO) w5 (vs.getD i (.slice none 0 0)) (nats (Xs.getD i []))) :=
          fun i hi => (HIN.out i hi).grown hg5 (fun g hP h => by simp only [Option.some.injEq] at h; have := hP.1; omega)
        have hb5 : Below w.heap.size w w5 := hb.grown hg5 hb.size (fun k hk => by simp only [Option.some.injEq] at hk; omega)
        have hBw5 := Nat.le_trans hBw hg5.size
        have hgO5 := Nat.lt_of_lt_of_le hgO' hg5.size
        clear hownO hownS hb hg5 HIN
        rcases hcase with ⟨hnx, rfl, hownS5⟩ | ⟨ys, hnx, rfl, hownS5⟩
        · rw [restF_none hnx, List.append_nil] at HRUN
          obtain ⟨_, _, he, hc1, hc2, _⟩ := Ow.own_form hownO5
          simp only [Value.slice.injEq] at he
          obtain ⟨rfl, _, rfl⟩ := he
          have HFIN := Lib.hid (sch_fin hB1w hownO5 HRUN.out HXS.out hin5.out hb5 hgO hgO5)
          clear hownO5 hin5 hb5 hownS5 hnx
          go_wp2_with (go_at_call 65; refine (clipS_any _ _ _ hc1 hc2 _).mono ?_; rintro e w' ⟨rfl, rfl⟩)
          go_ret
          exact HFIN.out
        · have hyl : ys.length = tS := by have := hownS5.1; rw [nats_length] at this; omega
          have hr2 : Xs ++ [ys] ++ restF (N - (j + 1)) ys = runF N first := by
            rw [← HRUN.out, show N - j = (N - (j + 1)) + 1 by omega, restF_some hnx]; simp
          have HRUN2 := Lib.hid hr2
          have hrowS5 : Ow.Row w5 w.heap.size 1 (.slice (some ⟨gS, 0, none⟩) tS tS) (nats ys) := by
            obtain ⟨_, _, he, _, _, h⟩ := Ow.own_form hownS5
            simp only [Value.slice.injEq] at he
            obtain ⟨rfl, _, rfl⟩ := he
            exact h
          clear hr2 hnx
          go_wp2_with fail
          refine (clone_any _ (nats ys) (oneCell_nats ys) (by rw [nats_length, hyl]; omega) _ _ hrowS5).mono ?_
          rintro z w6 ⟨v6, rfl, hown6, hq⟩
          rw [nats_length, hyl] at hown6
          obtain ⟨a6, cap6, rfl, hn6, hm6, hrow6⟩ := Ow.own_form hown6
          have hownS6 := Ow.own_below hownS5 hq
          have hownO6 := Ow.own_below hownO5 hq
          have hin6 : Hid (∀ i, i < j → RowX (fun g => B1 ≤ g ∧ g ≠ gO ∧ g < w6.heap.size + 1) (w6.alloc (.cells #[.slice a6 tS tS] 65)) (vs.getD i (.slice none 0 0)) (nats (Xs.getD i []))) :=
            fun i hi => (((hin5.out i hi).below hq).mono (fun g hg hP => ⟨hP.1, hP.2, by omega⟩)).below (Plan.below_allocs1 w6 _)
          have hsz6 := hq.size
          have hnew : Hid (RowX (fun g => B1 ≤ g ∧ g ≠ gO ∧ g < w6.heap.size + 1) (w6.alloc (.cells #[.slice a6 tS tS] 65)) (.slice a6 tS tS) (nats ys)) :=
            ((RowX.of_row hrow6).mono (fun g hg hP => ⟨by omega, by omega, by omega⟩)).below (Plan.below_allocs1 w6 _)
          have hb6 := hb5.trans (hq.mono hb5.size)
          have hbsz := hb6.size
          clear hown6 hownS5 hownO5 hq hin5 hb5 hrowS5 hrow6
          go_wp2_with (first | (go_at_call 63; refine (clip_any _ _ _ hn6 hm6 _).mono ?_; rintro e w' ⟨rfl, rfl⟩) | (at_builtin; refine append_S _ rfl (.tmp 32) (.tmp 36) rfl B1 (.slice (some ⟨gO, 0, none⟩) j capO) j vs rfl (hownO6.alloc _) ⟨w6.heap.size, 0, none⟩ 1 [.slice a6 tS tS] rfl rfl ?cn (by intro u hu; simp at hu; subst hu; rfl) (by omega) ?cb (w6.heap.size + 1) ?ch ?_))
          case cn => exact Ow.new_row w6 [.slice a6 tS tS] _ w6.heap.size rfl
          case cb => first | omega | (simp; omega)
          case ch => first | rfl | simp
          intro gN capN w7 hownN hg7 hor hgN
          have hownS7 := (hownS6.alloc (.cells #[.slice a6 tS tS] 65)).kept hg7 (by right; simp [Value.ownBlock]; omega)
          have hb7 : Below w.heap.size w w7 := (hb6.alloc hbsz _).grown hg7 (by simp; omega) (by intro k hk; simp [Value.ownBlock] at hk; omega)
          have hBN : B1 ≤ gN := by
            have := (hownN.lt gN rfl).1
            exact this
          have hsz7 := hg7.size
          have hkeep : ∀ (u : Value) (x : List Value), RowX (fun g => B1 ≤ g ∧ g ≠ gO ∧ g < w6.heap.size + 1) (w6.alloc (.cells #[.slice a6 tS tS] 65)) u x → RowX (fun g => B1 ≤ g ∧ g ≠ gN) w7 u x := by
            intro u x h
            refine (h.grown hg7 (fun g hP h => by simp [Value.ownBlock] at h; omega)).mono fun g _ hP => ⟨hP.1, ?_⟩
            rcases hor with h | h
            · simp [Value.ownBlock] at h; omega
            · omega
          have hvl : vs.length = j := by have := hownO6.1; omega
          have HFIN : Hid (SRel w B1 N first (some ⟨gS, 0, none⟩) tS capS (.slice (some ⟨gN, 0, none⟩) (j + 1) capN) w7) := by
            refine ⟨j + 1, gN, capN, vs ++ [.slice a6 tS tS], Xs ++ [ys], ys, by omega, by omega, rfl, hownN, hownS7, by rw [List.length_append, HXS.out]; rfl, ?_, HRUN2.out, hb7, by simp at hsz7; omega⟩
            intro i hi
            by_cases hij : i < j
            · have e1 : (vs ++ [Value.slice a6 tS tS]).getD i (.slice none 0 0) = vs.getD i (.slice none 0 0) := by
                rw [List.getD_eq_getElem?_getD, List.getElem?_append_left (by omega), List.getD_eq_getElem?_getD]
              have e2 : (Xs ++ [ys]).getD i [] = Xs.getD i [] := by
                rw [List.getD_eq_getElem?_getD, List.getElem?_append_left (by rw [HXS.out]; exact hij), List.getD_eq_getElem?_getD]
              rw [e1, e2]
              exact hkeep _ _ (hin6.out i hij)
            · obtain rfl : i = j := by omega
              have e1 : (vs ++ [Value.slice a6 tS tS]).getD i (.slice none 0 0) = .slice a6 tS tS := by
                rw [List.getD_eq_getElem?_getD, List.getElem?_append_right (by omega), hvl, Nat.sub_self]; rfl
              have e2 : (Xs ++ [ys]).getD i [] = ys := by
                rw [List.getD_eq_getElem?_getD, List.getElem?_append_right (by rw [HXS.out]; exact Nat.le_refl _), HXS.out, Nat.sub_self]; rfl
              rw [e1, e2]
              exact hkeep _ _ hnew.out
          clear hownN hownS7 hb7 hkeep hownO6 hownS6 hin6 hnew hb6 hg7
          go_wp2_with fail
          exact ⟨HFIN.out, by simp; omega⟩
      · obtain rfl : j = N := by omega
        obtain ⟨gO', capO', hvO, hgO, hgO'⟩ := hownO.form (by omega)
        simp only [Value.slice.injEq, Option.some.injEq, Addr.mk.injEq, true_and, and_true] at hvO
        obtain ⟨rfl, rfl⟩ := hvO
        rw [Nat.sub_self, restF_zero, List.append_nil] at hrun
        obtain ⟨_, _, he, hc1, hc2, _⟩ := Ow.own_form hownO
        simp only [Value.slice.injEq] at he
        obtain ⟨rfl, _, rfl⟩ := he
        have HFIN := Lib.hid (sch_fin hB1w hownO hrun hXs hin hb hgO hgO')
        clear hownO hin hb hownS hrun hXs hlt
        go_wp2_with (go_at_call 65; refine (clipS_any _ _ _ hc1 hc2 _).mono ?_; rintro e w' ⟨rfl, rfl⟩)
        go_ret
        exact HFIN.out
end Go.Proofs.Ytplfhjahdepphaa.Ex
