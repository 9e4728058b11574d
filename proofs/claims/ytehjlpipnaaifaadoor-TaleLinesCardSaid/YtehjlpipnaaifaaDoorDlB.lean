/- A call in memory of its own. -/
import Derived.Test.YtehjlpipnaaifaaDoorDlA
import Derived.Lib.SliceRun
namespace Go.Proofs.YtehjlpipnaaifaaDoor.Tl
open Go.ChangeShapes Go.WideShapes Go.ChangeAt Go.RowKit
set_option linter.unusedVariables false
set_option linter.unusedSimpArgs false
set_option maxRecDepth 100000
set_option maxHeartbeats 1000000

def pcs (ps : List (Int × Int)) : List Value := ps.flatMap fun p => [.int .i64 p.1, .int .i64 p.2]
theorem pcs_len (ps : List (Int × Int)) : (pcs ps).length = ps.length * 2 := by
  induction ps with
  | nil => rfl
  | cons d r ih => unfold pcs at *; rw [List.flatMap_cons, List.length_append, ih]; simp; omega
theorem pcs_at : ∀ (ps : List (Int × Int)) (j : Nat), j < ps.length * 2 → ∃ p, ps[j / 2]? = some p ∧ (pcs ps)[j]? = some (if j % 2 = 0 then .int .i64 p.1 else .int .i64 p.2) := by
  intro ps
  induction ps with
  | nil => intro j h; simp at h
  | cons c r ih =>
    intro j h
    match j with
    | 0 => exact ⟨c, rfl, rfl⟩
    | 1 => exact ⟨c, rfl, rfl⟩
    | j + 2 =>
      obtain ⟨p, h1, h2⟩ := ih j (by simp at h; omega)
      refine ⟨p, by rw [show (j + 2) / 2 = j / 2 + 1 by omega]; simpa using h1, ?_⟩
      rw [show (j + 2) % 2 = j % 2 by omega]
      exact h2
theorem pcs_one (ps : List (Int × Int)) : ∀ u ∈ pcs ps, u.oneCell' = true := by
  intro u hu
  obtain ⟨p, _, hu⟩ := List.mem_flatMap.1 hu
  simp at hu
  rcases hu with rfl | rfl <;> rfl
theorem Prs.row {w : World} {e : Er} {ps : List (Int × Int)} (h : Prs w e ps) : Ow.Row w 0 2 (.slice e.pa e.pl e.pc) (pcs ps) := by
  obtain ⟨h1, h2, h3, h4, h5, h6⟩ := h
  refine ⟨_, _, _, rfl, by rw [pcs_len, h1], h2, by unfold maxLen; omega, ?_⟩
  rcases h6 with h6 | ⟨g, off, e1, e2, e3⟩
  · exact .inl h6
  · refine .inr ⟨g, off, e1, Nat.zero_le _, e2, fun j hj => ?_⟩
    obtain ⟨p, q1, q2⟩ := pcs_at ps j (by omega)
    obtain ⟨c0, c1⟩ := e3 _ _ q1
    rw [q2]
    split
    · rename_i hm
      rw [← c0]; congr 2; omega
    · rename_i hm
      rw [← c1]; congr 2; omega
theorem infoPr : (Tryd.prog.info? 51).map (fun i => (i.zero, i.size, i.bytes)) = some (some (.agg #[.int .i64 0, .int .i64 0]), 2, 16) := by kernel_rfl
theorem append_PR {ops : Array Oper} {rest : List Oper} {o : Oper} {a : Act} {Q : Exit → Act → World → Prop} (w : World) (hgd : o.guard = none) (s x : Operand)
    (ho : o.op = .call { callee := .builtin .append, args := #[s, x], argTypes := #[26, 26] })
    (base : Nat) (v : Value) (n : Nat) (xs : List Value) (hs : a.eval s = v) (hown : w.ownsRow base 51 2 v n xs)
    (xv : Value) (ps : List (Int × Int)) (hx : a.eval x = xv) (hr : Ow.Row w 0 2 xv (pcs ps)) (hn : n + ps.length < 1000000) (hbase : base ≤ w.heap.size)
    (h : ∀ v' w', w'.ownsRow base 51 2 v' (n + ps.length) (xs ++ pcs ps) → w.grownBy w' v.ownBlock → wpList Tryd.prog ops Q rest (a.put o.dst v') w') : wpList Tryd.prog ops Q (o :: rest) a w := by
  obtain ⟨i0, hi, hz0, hz1, hz2⟩ := info_parts infoPr
  exact Ow.wpList_append_row w hgd s x _ ho base _ i0 _ 2 16 Tryd.underlying26 hi hz0 hz1 hz2 rfl (by decide) v n xs hs hown 0 xv (pcs ps) hx hr ps.length (pcs_len ps) (pcs_one ps) (by unfold maxLen; omega) (by omega) hbase h

theorem eql_nil (pa : Option Addr) (pl pc : Nat) (w : World) : (binOp .eql 26 (.slice pa pl pc) (.slice none 0 0)).run Tryd.prog w = .ok (.bool pa.isNone) w := by
  exact Lib.run_eql_slice_nil w _ _ pa pl pc 0 0 Tryd.underlying26
theorem clone_any (pa : Option Addr) (pl pc : Nat) (ps : List (Int × Int)) (w : World) (hr : Ow.Row w 0 2 (.slice pa pl pc) (pcs ps)) (hl : ps.length < 1000) (hz : pa = none → pl = 0 ∧ pc = 0) :
    Calls Tryd.prog 29 #[.slice pa pl pc] w fun e w' => ∃ a n c, e = .returned (.slice a n c) ∧ n ≤ c ∧ c ≤ 9223372036854775807 ∧ Below w.heap.size w w' := by
  cases pa with
  | none =>
    obtain ⟨rfl, rfl⟩ := hz rfl
    clear hr hz
    have hq := fun w => eql_nil none 0 0 w
    simp only [Option.isNone] at hq
    go_enter Tryd.func29, Tryd.ntmps29
    go_wp2
    go_ret
    exact ⟨_, _, _, rfl, by omega, by omega, Below.refl _ _⟩
  | some ad =>
    have hr2 := hr.below (((Below.refl _ _).alloc (Nat.le_refl _) (.cells #[] 51)) : Below w.heap.size w _)
    have hemp : (w.alloc (.cells #[] 51)).ownsRow w.heap.size 51 2 (.slice (some ⟨w.heap.size, 0, none⟩) 0 0) 0 [] :=
      ⟨rfl, .inr ⟨w.heap.size, 0, #[], rfl, Nat.le_refl _, heap_alloc_new w _, by decide, by decide, by simp, by simp⟩⟩
    have HR := Lib.hid hr2
    have HE := Lib.hid hemp
    clear hr hr2 hemp hz
    have hq := fun w => eql_nil (some ad) pl pc w
    simp only [Option.isNone] at hq
    go_enter Tryd.func29, Tryd.ntmps29
    go_wp2_with (at_builtin; refine append_PR _ rfl (.tmp 5) (.tmp 6) rfl w.heap.size (.slice (some ⟨w.heap.size, 0, none⟩) 0 0) 0 [] rfl HE.out (.slice (some ad) pl pc) ps rfl HR.out ?c1 ?c2 ?_)
    case c1 => omega
    case c2 => simp
    intro v' w2 q1 q2
    have hb : Below w.heap.size w w2 := ((Below.refl _ _).alloc (Nat.le_refl _) _).grown q2 (by simp) (fun k hk => (HE.out.lt k hk).1)
    obtain ⟨a4, cap4, rfl, h1, h2, _⟩ := Ow.own_form q1
    have HB := Lib.hid hb
    clear q1 q2 hb
    go_wp2_with fail
    go_ret
    exact ⟨_, _, _, rfl, h1, h2, HB.out⟩
theorem clipP_any (a : Option Addr) (n cap : Nat) (h : n ≤ cap) (hm : cap ≤ 9223372036854775807) (w : World) :
    Calls Tryd.prog 28 #[.slice a n cap] w fun e w' => e = .returned (.slice a n n) ∧ w = w' := by
  have h1 : (n : Int) ≤ (cap : Int) := by omega
  go_enter Tryd.func28, Tryd.ntmps28
  go_wp2
  go_ret
  exact ⟨rfl, rfl⟩
theorem clipD_any (a : Option Addr) (n cap : Nat) (h : n ≤ cap) (hm : cap ≤ 9223372036854775807) (w : World) :
    Calls Tryd.prog 17 #[.slice a n cap] w fun e w' => e = .returned (.slice a n n) ∧ w = w' := by
  have h1 : (n : Int) ≤ (cap : Int) := by omega
  go_enter Tryd.func17, Tryd.ntmps17
  go_wp2
  go_ret
  exact ⟨rfl, rfl⟩

theorem call_any (e : Er) (ps : List (Int × Int)) (w : World) (hp : Prs w e ps) (hz : e.pa = none → e.pl = 0 ∧ e.pc = 0) :
    Calls Tryd.prog 16 #[evV e] w fun x w' => ∃ a n c, x = .returned (.agg #[.int .i64 e.o1, .int .i64 e.o2, .int .i64 e.o3, .int .i64 e.o4, .int .i64 e.re, .int .i64 e.rv, .slice a n c, .int .i64 e.ro, .int .i64 e.rr]) ∧ Below w.heap.size w w' := by
  obtain ⟨k, t, n, o1, o2, o3, o4, re, rv, pa, pl, pc, ro, rr⟩ := e
  have hl : ps.length < 1000 := by have := hp.1; have := hp.2.2.2.1; simp only at *; omega
  have hr := hp.row
  simp only at hr
  have HR := Lib.hid hr
  clear hp hr
  unfold evV evC
  simp only
  go_enter Tryd.func16, Tryd.ntmps16
  go_wp2_with fail
  have hb3 : ∀ o1 o2 o3, Below w.heap.size w (((w.alloc o1).alloc o2).alloc o3) := fun o1 o2 o3 => (((Below.refl _ _).alloc (Nat.le_refl _) _).alloc (by simp) _).alloc (by simp; omega) _
  refine (clone_any pa pl pc ps _ (HR.out.below (hb3 _ _ _)) hl hz).mono ?_
  rintro e w1 ⟨a, n1, c1, rfl, hn, hc, hb⟩
  have HB1 := Lib.hid ((hb3 _ _ _).trans (hb.mono (by simp; omega)))
  have blk3 : w1.heap[w.heap.size + 1 + 1]? = some (.cells #[.int .i64 o1, .int .i64 o2, .int .i64 o3, .int .i64 o4, .int .i64 re, .int .i64 rv, .slice pa pl pc, .int .i64 ro, .int .i64 rr] 67 (0, 0)) := by
    rw [hb.block _ (by simp)]
    have := heap_alloc_new ((w.alloc (.cells #[.int .i64 k, .int .i64 t, .int .u64 (n : Int), .int .i64 o1, .int .i64 o2, .int .i64 o3, .int .i64 o4, .int .i64 re, .int .i64 rv, .slice pa pl pc, .int .i64 ro, .int .i64 rr] 30)).alloc (.cells #[.int .i64 0, .int .i64 0, .int .i64 0, .int .i64 0, .int .i64 0, .int .i64 0, .slice none 0 0, .int .i64 0, .int .i64 0] 67)) (.cells #[.int .i64 o1, .int .i64 o2, .int .i64 o3, .int .i64 o4, .int .i64 re, .int .i64 rv, .slice pa pl pc, .int .i64 ro, .int .i64 rr] 67)
    simpa using this
  have blk2 : w1.heap[w.heap.size + 1]? = some (.cells #[.int .i64 0, .int .i64 0, .int .i64 0, .int .i64 0, .int .i64 0, .int .i64 0, .slice none 0 0, .int .i64 0, .int .i64 0] 67 (0, 0)) := by
    rw [hb.block _ (by simp), heap_alloc_old _ _ (by simp)]
    have := heap_alloc_new (w.alloc (.cells #[.int .i64 k, .int .i64 t, .int .u64 (n : Int), .int .i64 o1, .int .i64 o2, .int .i64 o3, .int .i64 o4, .int .i64 re, .int .i64 rv, .slice pa pl pc, .int .i64 ro, .int .i64 rr] 30)) (.cells #[.int .i64 0, .int .i64 0, .int .i64 0, .int .i64 0, .int .i64 0, .int .i64 0, .slice none 0 0, .int .i64 0, .int .i64 0] 67)
    simpa using this
  have c6 : w1.cell? ⟨w.heap.size + 1 + 1, 6, none⟩ = some (.slice pa pl pc) := by rw [cell_of_row _ _ 6 _ _ _ blk3]; rfl
  have fz6 := frozen_of_row w1 (w.heap.size + 1 + 1) 6 _ _ blk3
  have s3 := heap_setCell_same w1 (w.heap.size + 1 + 1) 6 _ _ (.slice a n1 n1) blk3
  have s2 : (w1.setCell ⟨w.heap.size + 1 + 1, 6, none⟩ (.slice a n1 n1)).heap[w.heap.size + 1]? = _ := (heap_setCell_other w1 ⟨w.heap.size + 1 + 1, 6, none⟩ (w.heap.size + 1) (.slice a n1 n1) (by simp)).trans blk2
  have g0 := cell_of_row _ (w.heap.size + 1 + 1) 0 _ _ _ s3
  have g1 := cell_of_row _ (w.heap.size + 1 + 1) 1 _ _ _ s3
  have g2 := cell_of_row _ (w.heap.size + 1 + 1) 2 _ _ _ s3
  have g3 := cell_of_row _ (w.heap.size + 1 + 1) 3 _ _ _ s3
  have g4 := cell_of_row _ (w.heap.size + 1 + 1) 4 _ _ _ s3
  have g5 := cell_of_row _ (w.heap.size + 1 + 1) 5 _ _ _ s3
  have g6 := cell_of_row _ (w.heap.size + 1 + 1) 6 _ _ _ s3
  have g7 := cell_of_row _ (w.heap.size + 1 + 1) 7 _ _ _ s3
  have g8 := cell_of_row _ (w.heap.size + 1 + 1) 8 _ _ _ s3
  simp only [List.setIfInBounds_toArray, List.set_cons_succ, List.set_cons_zero, List.getElem?_toArray, List.getElem?_cons_succ, List.getElem?_cons_zero] at g0 g1 g2 g3 g4 g5 g6 g7 g8
  have S2 := Lib.hid s2
  clear hb blk3 blk2 s3 s2 hb3 HR
  go_wp2_with (first | (go_at_call 28; refine (clipP_any _ _ _ hn hc _).mono ?_; rintro e w' ⟨rfl, rfl⟩) | (refine wpList_store_row rfl 67 _ _ rfl (w.heap.size + 1) #[.int .i64 o1, .int .i64 o2, .int .i64 o3, .int .i64 o4, .int .i64 re, .int .i64 rv, .slice a n1 n1, .int .i64 ro, .int .i64 rr] rfl rfl 67 _ S2.out (by kernel_rfl) rfl (by simp [Value.oneCell']) ?_))
  have r : ∀ j, ((w1.setCell ⟨w.heap.size + 1 + 1, 6, none⟩ (.slice a n1 n1)).setRow (w.heap.size + 1) #[.int .i64 o1, .int .i64 o2, .int .i64 o3, .int .i64 o4, .int .i64 re, .int .i64 rv, .slice a n1 n1, .int .i64 ro, .int .i64 rr]).cell? ⟨w.heap.size + 1, j, none⟩ = (#[.int .i64 o1, .int .i64 o2, .int .i64 o3, .int .i64 o4, .int .i64 re, .int .i64 rv, .slice a n1 n1, .int .i64 ro, .int .i64 rr] : Array Value)[j]? := fun j => cell_setRow_same _ _ _ _ _ _ _ S2.out
  have r0 := r 0
  have r1 := r 1
  have r2 := r 2
  have r3 := r 3
  have r4 := r 4
  have r5 := r 5
  have r6 := r 6
  have r7 := r 7
  have r8 := r 8
  clear r
  simp at r0 r1 r2 r3 r4 r5 r6 r7 r8
  have hfin : Below w.heap.size w ((w1.setCell ⟨w.heap.size + 1 + 1, 6, none⟩ (.slice a n1 n1)).setRow (w.heap.size + 1) #[.int .i64 o1, .int .i64 o2, .int .i64 o3, .int .i64 o4, .int .i64 re, .int .i64 rv, .slice a n1 n1, .int .i64 ro, .int .i64 rr]) := below_setRow (HB1.out.setCell (p := ⟨w.heap.size + 1 + 1, 6, none⟩) (by show w.heap.size ≤ w.heap.size + 1 + 1; omega) _) (by omega) _
  exact bodyPost_ret (v := .agg #[.int .i64 o1, .int .i64 o2, .int .i64 o3, .int .i64 o4, .int .i64 re, .int .i64 rv, .slice a n1 n1, .int .i64 ro, .int .i64 rr]) (by simp [results, Tryd.results16, go_sem, r0, r1, r2, r3, r4, r5, r6, r7, r8]) rfl ⟨_, _, _, rfl, hfin⟩
end Go.Proofs.YtehjlpipnaaifaaDoor.Tl
