/- The teller's take. -/
import Derived.Test.YtehjlpipnaaifaaDoorTelE
import Derived.Deep.RegionWith
import Derived.Deep.RegionHeld3
namespace Go.Proofs.YtehjlpipnaaifaaDoor.Tl
open Go.ChangeShapes Go.WideShapes Go.ChangeAt Go.RowKit
set_option linter.unusedVariables false
set_option linter.unusedSimpArgs false
set_option maxRecDepth 100000
set_option maxHeartbeats 1000000

theorem infoP : (Tryd.prog.info? 71).map (fun i => (i.zero, i.size, i.bytes)) = some (some (.pointer none), 1, 8) := by kernel_rfl
theorem append_P {ops : Array Oper} {rest : List Oper} {o : Oper} {a : Act} {Q : Exit → Act → World → Prop} (w : World) (hgd : o.guard = none) (s x : Operand)
    (ho : o.op = .call { callee := .builtin .append, args := #[s, x], argTypes := #[44, 44] })
    (base : Nat) (v : Value) (n : Nat) (xs : List Value) (hs : a.eval s = v) (hown : w.ownsRow base 71 1 v n xs)
    (ad : Addr) (c : Nat) (news : List Value) (hx : a.eval x = .slice (some ad) 1 c) (hl : news.length = 1) (hnews : ∀ j u, news[j]? = some u → w.cell? (ad.add j) = some u) (h1 : ∀ u ∈ news, u.oneCell' = true)
    (hn : n < 1000000) (hbase : base ≤ w.heap.size)
    (h : ∀ v' w', w'.ownsRow base 71 1 v' (n + 1) (xs ++ news) → w.grownBy w' v.ownBlock → wpList Tryd.prog ops Q rest (a.put o.dst v') w') : wpList Tryd.prog ops Q (o :: rest) a w := by
  obtain ⟨i0, hi, hz0, hz1, hz2⟩ := info_parts infoP
  exact wpList_append_own w hgd s x _ ho base _ i0 _ 1 8 Tryd.underlying44 hi hz0 hz1 hz2 rfl (by decide) v n xs hs hown ad 1 c news hx (by rw [hl]) hnews h1 (by unfold maxLen; omega) (by omega) hbase (fun v' w' h2 h3 _ => h v' w' h2 h3)

/-- An event's cells. -/
structure Er where
  k : Int
  t : Int
  n : Nat
  o1 : Int
  o2 : Int
  o3 : Int
  o4 : Int
  re : Int
  rv : Int
  pa : Option Addr
  pl : Nat
  pc : Nat
  ro : Int
  rr : Int
def evC (e : Er) : List Value := [.int .i64 e.k, .int .i64 e.t, .int .u64 (e.n : Int), .int .i64 e.o1, .int .i64 e.o2, .int .i64 e.o3, .int .i64 e.o4, .int .i64 e.re, .int .i64 e.rv, .slice e.pa e.pl e.pc, .int .i64 e.ro, .int .i64 e.rr]
def evV (e : Er) : Value := .agg (evC e).toArray
def Er.ev (e : Er) : Ev := ⟨e.k, e.t, e.n⟩
/-- What take does. -/
def Took (base gt : Nat) (w : World) (l : List Tx) (last : Nat) (e : Ev) (x : Ending) (w' : World) : Prop :=
  x = .returned (.bool (takeM l last e).isSome) ∧ Below base w w' ∧ ∀ r, takeM l last e = some r → ∃ lv' its', xs its' = r.1 ∧ Tel w' base gt lv' its' r.2


theorem takeM_none (l : List Tx) (last : Nat) (k t : Int) (n : Nat) (hk : k ≠ 1) (hg : getM l t = none) : takeM l last ⟨k, t, n⟩ = none := by
  unfold takeM; simp [hk, hg]
theorem takeM_some (l : List Tx) (last : Nat) (k t : Int) (n : Nat) (hk : k ≠ 1) (i : Nat) (x : Tx) (hg : getM l t = some i) (hx : l[i]? = some x) :
    takeM l last ⟨k, t, n⟩ =
      (if k = 2 then (if x.fin = 0 then some (l, last) else none)
      else if k = 3 then (if x.fin = 0 ∧ last < n then some (l.set i { x with fin := n }, n) else none)
      else if k = 4 then (bondM l i x n).map fun l' => (l', last)
      else if k = 5 then (if fit x l = true then some (l.set i { x with st := 3 }, last) else none)
      else if k = 6 then some (l.set i { x with st := 4 }, last)
      else none) := by
  have e : (x.fin ≠ 0 ∧ (x.bonds.all fun b => (l[b - 1]?.map (·.st)) == some 3) = true) ↔ fit x l = true := by
    unfold fit good; simp
  unfold takeM
  simp only [if_neg hk, hg, hx]
  simp only [e]

theorem xs_set (its : List It) (i : Nat) (b : It) : xs (its.set i b) = (xs its).set i b.x := by simp [xs, List.map_set]
theorem bondM_bad (l : List Tx) (i : Nat) (x : Tx) (n : Nat) (hb : n = 0 ∨ l.length < n ∨ n = i + 1) : bondM l i x n = none := by
  unfold bondM
  split
  · rfl
  · rename_i y hy
    have := (List.getElem?_eq_some_iff.1 hy).1
    rw [if_pos (by omega)]
theorem bondM_at (l : List Tx) (i : Nat) (x y : Tx) (j : Nat) (hj : l[j]? = some y) (hne : j ≠ i) : bondM l i x (j + 1) = if may x y = true then some (l.set i { x with bonds := x.bonds ++ [j + 1] }) else none := by
  have e : (y.st ≠ 4 ∧ (y.fin = 0 ∨ x.fin = 0 ∨ y.fin < x.fin)) ↔ may x y = true := by
    unfold may; simp [or_assoc]
  unfold bondM
  rw [Nat.add_sub_cancel, hj]
  simp only [e]
  rw [if_neg (by omega)]

theorem take_none {w : World} {base gt : Nat} {lv : Value} {its : List It} {last : Nat} (h : Tel w base gt lv its last) (hbase : base ≤ w.heap.size) (hm : its.length ≤ 20000) (e : Er)
    (hk : e.k ≠ 1) (hg : getM (xs its) e.t = none) :
    Calls Tryd.prog 12 #[.pointer (some ⟨gt, 0, none⟩), evV e] w (Took base gt w (xs its) last e.ev) := by
  have hT : takeM (xs its) last e.ev = none := takeM_none _ _ _ _ _ hk hg
  unfold Took
  rw [hT]
  obtain ⟨k, t, n, o1, o2, o3, o4, re, rv, pa, pl, pc, ro, rr⟩ := e
  unfold evV evC
  simp only at *
  have hA := h.alloc (.cells #[.int .i64 k, .int .i64 t, .int .u64 (n : Int), .int .i64 o1, .int .i64 o2, .int .i64 o3, .int .i64 o4, .int .i64 re, .int .i64 rv, .slice pa pl pc, .int .i64 ro, .int .i64 rr] 30)
  have hbA : Below base w (w.alloc (.cells #[.int .i64 k, .int .i64 t, .int .u64 (n : Int), .int .i64 o1, .int .i64 o2, .int .i64 o3, .int .i64 o4, .int .i64 re, .int .i64 rv, .slice pa pl pc, .int .i64 ro, .int .i64 rr] 30)) := (Below.refl _ _).alloc hbase _
  have hget := get_none hA t hg hm
  have d1 : (k == 1) = false := by simpa using hk
  have d2 : decide (k = 1) = false := by simpa using hk
  clear hA h hg hk hT hm
  generalize (n : Int) = N at *
  go_enter Tryd.func12, Tryd.ntmps12
  go_wp2_with (go_at_call 19; refine hget.mono ?_; rintro e w' ⟨rfl, rfl⟩)
  go_ret
  exact ⟨rfl, hbA, fun r hr => by cases hr⟩

theorem take_some {w : World} {base gt : Nat} {lv : Value} {its : List It} {last : Nat} (h : Tel w base gt lv its last) (hbase : base ≤ w.heap.size) (hm : its.length ≤ 20000) (e : Er)
    (hk : e.k ≠ 1) (i : Nat) (it : It) (hi : its[i]? = some it) (hst : it.x.st = 1) (ht : e.t = (i : Int) + 1) (hn : e.n < 18446744073709551616) (hlb : it.x.bonds.length ≤ 20000) (hr : ∀ b ∈ it.x.bonds, 1 ≤ b ∧ b ≤ its.length) :
    Calls Tryd.prog 12 #[.pointer (some ⟨gt, 0, none⟩), evV e] w (Took base gt w (xs its) last e.ev) := by
  have hil := (List.getElem?_eq_some_iff.1 hi).1
  have hgM : getM (xs its) e.t = some i := by
    unfold getM
    rw [ht, if_neg (by rw [xs_len]; omega), show ((i : Int) + 1 - 1).toNat = i by omega, xs_at hi]
    simp [hst]
  have hT := takeM_some (xs its) last e.k e.t e.n hk i it.x hgM (xs_at hi)
  replace hT : takeM (xs its) last e.ev = _ := hT
  unfold Took
  rw [hT]
  clear hT hgM
  obtain ⟨k, t, n, o1, o2, o3, o4, re, rv, pa, pl, pc, ro, rr⟩ := e
  unfold evV evC
  simp only at *
  have hA := h.alloc (.cells #[.int .i64 k, .int .i64 t, .int .u64 (n : Int), .int .i64 o1, .int .i64 o2, .int .i64 o3, .int .i64 o4, .int .i64 re, .int .i64 rv, .slice pa pl pc, .int .i64 ro, .int .i64 rr] 30)
  have hbA : Below base w (w.alloc (.cells #[.int .i64 k, .int .i64 t, .int .u64 (n : Int), .int .i64 o1, .int .i64 o2, .int .i64 o3, .int .i64 o4, .int .i64 re, .int .i64 rv, .slice pa pl pc, .int .i64 ro, .int .i64 rr] 30)) := (Below.refl _ _).alloc hbase _
  have hbs : base ≤ (w.alloc (.cells #[.int .i64 k, .int .i64 t, .int .u64 (n : Int), .int .i64 o1, .int .i64 o2, .int .i64 o3, .int .i64 o4, .int .i64 re, .int .i64 rv, .slice pa pl pc, .int .i64 ro, .int .i64 rr] 30)).heap.size := Nat.le_trans hbase hbA.size
  have hget := get_some hA i it hi hst hm
  rw [← ht] at hget
  have d1 : (k == 1) = false := by simpa using hk
  have d2 : decide (k = 1) = false := by simpa using hk
  have hit := hA.all it (List.mem_of_getElem? hi)
  have HA := Lib.hid hA
  have HI := Lib.hid hi
  have HB := Lib.hid hbA
  have HIT := Lib.hid hit
  have HBS := Lib.hid hbs
  have x0 := hit.c0
  by_cases k2 : k = 2
  · subst k2
    clear hk d1 d2
    by_cases f0 : it.x.fin = 0
    · rw [if_pos rfl, if_pos f0]
      rw [f0] at x0
      clear hA h hm hi hbA hit hbs hlb hr hn hst ht f0 hil
      generalize (n : Int) = N at *
      go_enter Tryd.func12, Tryd.ntmps12
      go_wp2_with (go_at_call 19; refine hget.mono ?_; rintro e w' ⟨rfl, rfl⟩)
      go_ret
      exact ⟨rfl, HB.out, fun r hr => by cases hr; exact ⟨_, _, rfl, HA.out⟩⟩
    · rw [if_pos rfl, if_neg f0]
      have f1 : ((it.x.fin : Int) == 0) = false := by simp; omega
      have f2 : decide ((it.x.fin : Int) = 0) = false := by simp; omega
      generalize (it.x.fin : Int) = F at *
      clear hA h hm hi hbA hit hbs hlb hr hn hst ht f0 hil
      generalize (n : Int) = N at *
      go_enter Tryd.func12, Tryd.ntmps12
      go_wp2_with (go_at_call 19; refine hget.mono ?_; rintro e w' ⟨rfl, rfl⟩)
      go_ret
      exact ⟨rfl, HB.out, fun r hr => by cases hr⟩
  · have d3 : (k == 2) = false := by simpa using k2
    have d4 : decide (k = 2) = false := by simpa using k2
    rw [if_neg k2]
    by_cases k3 : k = 3
    · subst k3
      clear hk d1 d2 d3 d4 k2
      rw [if_pos rfl]
      by_cases f0 : it.x.fin = 0
      · rw [f0] at x0
        by_cases hlt : last < n
        · rw [if_pos ⟨f0, hlt⟩]
          have htime := time_yes hA n hlt
          have hA2 := hA.last n
          have fz := frozen_of_row _ it.p 0 _ _ ((hA2.all it (List.mem_of_getElem? hi)).blk)
          have hF := hA2.setFin i it hi n
          have HF := Lib.hid hF
          clear hA hA2 hF h hm hi hbA hit hbs hlb hr hn hst ht hil hlt f0
          go_enter Tryd.func12, Tryd.ntmps12
          go_wp2_with (first | (go_at_call 19; refine hget.mono ?_; rintro e w' ⟨rfl, rfl⟩) | (go_at_call 18; refine htime.mono ?_; rintro e w' ⟨rfl, rfl⟩))
          go_ret
          exact ⟨rfl, (HB.out.setCell (p := ⟨gt, 1, none⟩) HA.out.hb _).setCell (p := ⟨it.p, 0, none⟩) HIT.out.hb _, fun r hr => by cases hr; exact ⟨_, _, xs_set _ _ _, HF.out⟩⟩
        · rw [if_neg (fun h => hlt h.2)]
          have htime := time_no hA n hlt
          clear hA h hm hi hbA hit hbs hlb hr hn hst ht hil hlt f0
          go_enter Tryd.func12, Tryd.ntmps12
          go_wp2_with (first | (go_at_call 19; refine hget.mono ?_; rintro e w' ⟨rfl, rfl⟩) | (go_at_call 18; refine htime.mono ?_; rintro e w' ⟨rfl, rfl⟩))
          go_ret
          exact ⟨rfl, HB.out, fun r hr => by cases hr⟩
      · rw [if_neg (fun h => f0 h.1)]
        have f1 : decide (0 < (it.x.fin : Int)) = true := by simp; omega
        generalize (it.x.fin : Int) = F at *
        clear hA h hm hi hbA hit hbs hlb hr hn hst ht f0 hil
        generalize (n : Int) = N at *
        go_enter Tryd.func12, Tryd.ntmps12
        go_wp2_with (go_at_call 19; refine hget.mono ?_; rintro e w' ⟨rfl, rfl⟩)
        go_ret
        exact ⟨rfl, HB.out, fun r hr => by cases hr⟩
    · have d5 : (k == 3) = false := by simpa using k3
      have d6 : decide (k = 3) = false := by simpa using k3
      rw [if_neg k3]
      by_cases k4 : k = 4
      · subst k4
        clear hk d1 d2 d3 d4 k2 d5 d6 k3
        rw [if_pos rfl]
        by_cases hb : n = 0 ∨ its.length < n ∨ n = i + 1
        · rw [bondM_bad _ _ _ _ (by rw [xs_len]; exact hb)]
          have hbond := bond_bad hA hm i it.p n hn hb
          rw [← ht] at hbond
          clear hA h hm hi hbA hit hbs hlb hr hn hst ht hil hb
          generalize (n : Int) = N at *
          go_enter Tryd.func12, Tryd.ntmps12
          go_wp2_with (first | (go_at_call 19; refine hget.mono ?_; rintro e w' ⟨rfl, rfl⟩) | (go_at_call 20; refine hbond.mono ?_; rintro e w' ⟨rfl, rfl⟩))
          go_ret
          exact ⟨rfl, HB.out, fun r hr => by cases hr⟩
        · obtain ⟨j, rfl⟩ : ∃ j, n = j + 1 := ⟨n - 1, by omega⟩
          have hj : its[j]? = some (its[j]'(by omega)) := List.getElem?_eq_getElem _
          generalize its[j]'(by omega) = y at hj
          rw [bondM_at _ i it.x y.x j (xs_at hj) (by omega)]
          have hbond := bond_any hA hbs hm i it hi hlb j y hj (by omega)
          rw [← ht, show ((j : Int) + 1) = ((j + 1 : Nat) : Int) by omega] at hbond
          generalize may it.x y.x = b at *
          clear hA h hm hi hbA hit hbs hlb hr hn hst ht hil hb hj
          generalize hN : ((j + 1 : Nat) : Int) = N at *
          cases b with
          | false =>
            rw [if_neg (by decide)]
            go_enter Tryd.func12, Tryd.ntmps12
            go_wp2_with (first | (go_at_call 19; refine hget.mono ?_; rintro e w' ⟨rfl, rfl⟩) | (go_at_call 20; refine hbond.mono ?_; rintro e w' ⟨rfl, ⟨v', hTT⟩, hBB⟩; have HTT := Lib.hid hTT; have HBB := Lib.hid hBB; clear hTT hBB))
            go_ret
            exact ⟨rfl, HB.out.trans HBB.out, fun r hr => by cases hr⟩
          | true =>
            rw [if_pos rfl]
            go_enter Tryd.func12, Tryd.ntmps12
            go_wp2_with (first | (go_at_call 19; refine hget.mono ?_; rintro e w' ⟨rfl, rfl⟩) | (go_at_call 20; refine hbond.mono ?_; rintro e w' ⟨rfl, ⟨v', hTT⟩, hBB⟩; have HTT := Lib.hid hTT; have HBB := Lib.hid hBB; clear hTT hBB))
            go_ret
            exact ⟨rfl, HB.out.trans HBB.out, fun r hr => by cases hr; exact ⟨_, _, xs_set _ _ _, HTT.out⟩⟩
      · have d7 : (k == 4) = false := by simpa using k4
        have d8 : decide (k = 4) = false := by simpa using k4
        rw [if_neg k4]
        by_cases k5 : k = 5
        · subst k5
          clear hk d1 d2 d3 d4 k2 d5 d6 k3 d7 d8 k4
          rw [if_pos rfl]
          have hdone := done_any hA hbs hm i it hi hlb hr
          generalize fit it.x (xs its) = b at *
          clear hA h hm hi hbA hit hbs hlb hr hn hst ht hil
          generalize (n : Int) = N at *
          cases b with
          | false =>
            rw [if_neg (by decide)]
            go_enter Tryd.func12, Tryd.ntmps12
            go_wp2_with (first | (go_at_call 19; refine hget.mono ?_; rintro e w' ⟨rfl, rfl⟩) | (go_at_call 21; refine hdone.mono ?_; rintro e w' ⟨rfl, hTT, hBB⟩; have HTT := Lib.hid hTT; have HBB := Lib.hid hBB; clear hTT hBB))
            go_ret
            exact ⟨rfl, HB.out.trans HBB.out, fun r hr => by cases hr⟩
          | true =>
            rw [if_pos rfl]
            go_enter Tryd.func12, Tryd.ntmps12
            go_wp2_with (first | (go_at_call 19; refine hget.mono ?_; rintro e w' ⟨rfl, rfl⟩) | (go_at_call 21; refine hdone.mono ?_; rintro e w' ⟨rfl, hTT, hBB⟩; have HTT := Lib.hid hTT; have HBB := Lib.hid hBB; clear hTT hBB))
            go_ret
            exact ⟨rfl, HB.out.trans HBB.out, fun r hr => by cases hr; exact ⟨_, _, xs_set _ _ _, (HTT.out (by trivial))⟩⟩
        · have d9 : (k == 5) = false := by simpa using k5
          have da : decide (k = 5) = false := by simpa using k5
          rw [if_neg k5]
          by_cases k6 : k = 6
          · subst k6
            clear hk d1 d2 d3 d4 k2 d5 d6 k3 d7 d8 k4 d9 da k5
            rw [if_pos rfl]
            have fz := frozen_of_row _ it.p 1 _ _ hit.blk
            have x1 := hit.c1
            have hF := hA.setSt i it hi 4
            have HF := Lib.hid hF
            clear hA hF h hm hi hbA hit hbs hlb hr hn hst ht hil
            generalize (n : Int) = N at *
            go_enter Tryd.func12, Tryd.ntmps12
            go_wp2_with (go_at_call 19; refine hget.mono ?_; rintro e w' ⟨rfl, rfl⟩)
            go_ret
            exact ⟨rfl, HB.out.setCell (p := ⟨it.p, 1, none⟩) HIT.out.hb _, fun r hr => by cases hr; exact ⟨_, _, xs_set _ _ _, HF.out⟩⟩
          · have db : (k == 6) = false := by simpa using k6
            have dc : decide (k = 6) = false := by simpa using k6
            rw [if_neg k6]
            clear hA h hm hi hbA hit hbs hlb hr hn hst ht hil hk k2 k3 k4 k5 k6
            generalize (n : Int) = N at *
            go_enter Tryd.func12, Tryd.ntmps12
            go_wp2_with (go_at_call 19; refine hget.mono ?_; rintro e w' ⟨rfl, rfl⟩)
            go_ret
            exact ⟨rfl, HB.out, fun r hr => by cases hr⟩
end Go.Proofs.YtehjlpipnaaifaaDoor.Tl
