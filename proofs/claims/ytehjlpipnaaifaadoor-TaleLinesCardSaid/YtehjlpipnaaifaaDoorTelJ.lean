/- A list of events that a call itself makes: one more event is put behind it. -/
import Derived.Test.YtehjlpipnaaifaaDoorTelI
import Derived.Deep.Cut
namespace Go.Proofs.YtehjlpipnaaifaaDoor.Tl
open Go.ChangeShapes Go.WideShapes Go.ChangeAt Go.RowKit
set_option linter.unusedVariables false
set_option linter.unusedSimpArgs false
set_option maxRecDepth 100000
set_option maxHeartbeats 1000000

theorem infoV : (Tryd.prog.info? 30).map (fun i => (i.zero, i.size, i.bytes)) = some (some (.agg #[.int .i64 0, .int .i64 0, .int .u64 0, .int .i64 0, .int .i64 0, .int .i64 0, .int .i64 0, .int .i64 0, .int .i64 0, .slice none 0 0, .int .i64 0, .int .i64 0]), 12, 112) := by kernel_rfl
theorem append_V {ops : Array Oper} {rest : List Oper} {o : Oper} {a : Act} {Q : Exit → Act → World → Prop} (w : World) (hgd : o.guard = none) (s x : Operand)
    (ho : o.op = .call { callee := .builtin .append, args := #[s, x], argTypes := #[31, 31] })
    (base : Nat) (v : Value) (n : Nat) (xs : List Value) (hs : a.eval s = v) (hown : w.ownsRow base 30 12 v n xs)
    (ad : Addr) (c : Nat) (e : Er) (hx : a.eval x = .slice (some ad) 1 c) (hnews : ∀ j u, (evC e)[j]? = some u → w.cell? (ad.add j) = some u)
    (hn : n < 1000000) (hbase : base ≤ w.heap.size)
    (h : ∀ v' w', w'.ownsRow base 30 12 v' (n + 1) (xs ++ evC e) → w.grownBy w' v.ownBlock → wpList Tryd.prog ops Q rest (a.put o.dst v') w') : wpList Tryd.prog ops Q (o :: rest) a w := by
  obtain ⟨i0, hi, hz0, hz1, hz2⟩ := info_parts infoV
  exact wpList_append_own w hgd s x _ ho base _ i0 _ 12 112 Tryd.underlying31 hi hz0 hz1 hz2 rfl (by decide) v n xs hs hown ad 1 c (evC e) hx (by simp [evC]) hnews (fun u hu => flat_one [e] u (by simpa [flat] using hu)) (by unfold maxLen; omega) (by omega) hbase (fun v' w' h2 h3 _ => h v' w' h2 h3)

theorem flat_snoc (l : List Er) (e : Er) : flat (l ++ [e]) = flat l ++ evC e := by simp [flat]
/-- A list of events behind a pointer, and a clock behind another one. -/
structure Lst (w0 : World) (g1 g2 : Nat) (w : World) (l : List Er) (c : Nat) : Prop where
  b1 : w0.heap.size ≤ g1
  b2 : w0.heap.size ≤ g2
  ck : w.heap[g2]? = some (.cells #[.int .u64 (c : Int)] 22 (0, 0))
  ls : ∃ v, w.heap[g1]? = some (.cells #[v] 31 (0, 0)) ∧ w.ownsRow w0.heap.size 30 12 v l.length (flat l)
  bel : Below w0.heap.size w0 w

/-- One more event: what the append and the store leave. -/
theorem Lst.snoc {w0 : World} {g1 g2 : Nat} {w : World} {l : List Er} {c : Nat} (h : Lst w0 g1 g2 w l c) {v : Value} (hv : w.cell? ⟨g1, 0, none⟩ = some v) (e : Er) {o : Obj} {v' : Value} {w2 : World}
    (hown : w2.ownsRow w0.heap.size 30 12 v' (l.length + 1) (flat l ++ evC e)) (hg : (w.alloc o).grownBy w2 v.ownBlock) :
    Lst w0 g1 g2 (w2.setCell ⟨g1, 0, none⟩ v') (l ++ [e]) c ∧ w2.cell? ⟨g1, 0, none⟩ = some v ∧ w2.frozen? ⟨g1, 0, none⟩ = false ∧ (w2.setCell ⟨g1, 0, none⟩ v').cell? ⟨g1, 0, none⟩ = some v' := by
  obtain ⟨b1, b2, ck, ⟨u, ls, hu⟩, bel⟩ := h
  obtain rfl : u = v := by
    rw [cell_of_row w g1 0 _ _ _ ls] at hv
    simpa using hv
  have hne : g1 ≠ g2 := ty_ne ls ck (by decide)
  have nv : some g1 ≠ u.ownBlock := by
    intro e; obtain ⟨cur, hcur⟩ := own_blk hu e.symm; exact ty_ne ls hcur (by decide) rfl
  have nv2 : some g2 ≠ u.ownBlock := by
    intro e; obtain ⟨cur, hcur⟩ := own_blk hu e.symm; exact ty_ne ck hcur (by decide) rfl
  have hk : ∀ k, k < w.heap.size → some k ≠ u.ownBlock → w2.heap[k]? = w.heap[k]? := fun k hk h => by
    rw [hg.block k (by simp; omega) h, heap_alloc_old _ _ (by simpa using hk)]
  have e1 := hk g1 (lt_of ls) nv
  have e2 := hk g2 (lt_of ck) nv2
  rw [ls] at e1
  rw [ck] at e2
  refine ⟨⟨b1, b2, ?_, ⟨v', ?_, ?_⟩, ?_⟩, by rw [cell_of_row _ g1 0 _ _ _ e1]; rfl, frozen_of_row w2 g1 0 _ _ e1, by rw [cell_of_row _ g1 0 _ _ _ (heap_setCell_same w2 g1 0 _ _ _ e1)]; rfl⟩
  · rw [heap_setCell_other _ _ _ _ (fun e => hne e.symm), e2]
  · rw [heap_setCell_same _ _ _ _ _ _ e1]; rfl
  · rw [flat_snoc, List.length_append]
    exact own_same hown fun g hg => heap_setCell_other _ _ _ _ (by obtain ⟨cur, hcur⟩ := own_blk hown hg; exact ty_ne hcur e1 (by decide))
  · have hs : w0.heap.size ≤ (w.alloc o).heap.size := by have := bel.size; simp; omega
    exact ((bel.alloc bel.size _).grown hg hs (fun k hk => (hu.lt k hk).1)).setCell (p := ⟨g1, 0, none⟩) b1 _
theorem Lst.c1 {w0 : World} {g1 g2 : Nat} {w : World} {l : List Er} {c : Nat} (h : Lst w0 g1 g2 w l c) : ∃ a cap, w.cell? ⟨g1, 0, none⟩ = some (.slice a l.length cap) ∧ w.ownsRow w0.heap.size 30 12 (.slice a l.length cap) l.length (flat l) ∧ l.length ≤ cap := by
  obtain ⟨v, ls, hu⟩ := h.ls
  obtain ⟨a, cap, rfl, h1, _, _⟩ := Ow.own_form hu
  exact ⟨a, cap, by rw [cell_of_row w g1 0 _ _ _ ls]; rfl, hu, h1⟩
theorem Lst.evs {w0 : World} {g1 g2 : Nat} {w : World} {l : List Er} {c : Nat} (h : Lst w0 g1 g2 w l c) {v : Value} (hv : w.cell? ⟨g1, 0, none⟩ = some v) : Evs w v l := by
  obtain ⟨a, cap, e1, hu, h1⟩ := h.c1
  rw [e1] at hv
  cases hv
  obtain ⟨_, _, e2, _, hm, hr⟩ := Ow.own_form hu
  cases e2
  obtain ⟨a', n', cap', e3, r1, r2, r3, r4⟩ := hr
  cases e3
  exact ⟨_, _, _, _, rfl, r1, h1, by unfold maxLen; omega, r4⟩
theorem Lst.below {w0 : World} {g1 g2 : Nat} {w w' : World} {l : List Er} {c : Nat} (h : Lst w0 g1 g2 w l c) (hb : Below w.heap.size w w') : Lst w0 g1 g2 w' l c := by
  obtain ⟨b1, b2, ck, ⟨v, ls, hu⟩, bel⟩ := h
  exact ⟨b1, b2, by rw [hb.block g2 (lt_of ck)]; exact ck, ⟨v, by rw [hb.block g1 (lt_of ls)]; exact ls, Ow.own_below hu hb⟩, bel.trans (hb.mono bel.size)⟩
/-- Events are put behind a row of events. -/
theorem append_VR {ops : Array Oper} {rest : List Oper} {o : Oper} {a : Act} {Q : Exit → Act → World → Prop} (w : World) (hgd : o.guard = none) (s x : Operand)
    (ho : o.op = .call { callee := .builtin .append, args := #[s, x], argTypes := #[31, 31] })
    (base : Nat) (v : Value) (n : Nat) (xs : List Value) (hs : a.eval s = v) (hown : w.ownsRow base 30 12 v n xs)
    (xv : Value) (l : List Er) (hx : a.eval x = xv) (hr : Evs w xv l) (hn : n + l.length < 1000000) (hbase : base ≤ w.heap.size)
    (h : ∀ v' w', w'.ownsRow base 30 12 v' (n + l.length) (xs ++ flat l) → w.grownBy w' v.ownBlock → wpList Tryd.prog ops Q rest (a.put o.dst v') w') : wpList Tryd.prog ops Q (o :: rest) a w := by
  obtain ⟨i0, hi, hz0, hz1, hz2⟩ := info_parts infoV
  obtain ⟨bx, hr⟩ := hr
  exact Ow.wpList_append_row w hgd s x _ ho base _ i0 _ 12 112 Tryd.underlying31 hi hz0 hz1 hz2 rfl (by decide) v n xs hs hown bx xv (flat l) hx hr l.length (flat_len l) (flat_one l) (by unfold maxLen; omega) (by omega) hbase h
theorem evs_own {w : World} {base : Nat} {v : Value} {l : List Er} (h : w.ownsRow base 30 12 v l.length (flat l)) : Evs w v l := by
  obtain ⟨a, cap, rfl, h1, hm, hr⟩ := Ow.own_form h
  obtain ⟨a', n', cap', e3, r1, r2, r3, r4⟩ := hr
  cases e3
  exact ⟨_, _, _, _, rfl, r1, h1, by unfold maxLen; omega, r4⟩
theorem wBonds_prep {w0 : World} {g1 g2 : Nat} {w : World} {l : List Er} {c : Nat} (h : Lst w0 g1 g2 w l c) (hl : l.length < 1000) (hc : c < 1000) (t : Int) :
    Calls Tryd.prog 6 #[.int .i64 t, .pointer (some ⟨g2, 0, none⟩), .pointer (some ⟨g1, 0, none⟩)] w
      fun e w' => e = .returned (.tuple #[]) ∧ Lst w0 g1 g2 w' (l ++ [⟨3, t, c + 1, 0, 0, 0, 0, 0, 0, none, 0, 0, 0, 0⟩]) (c + 1) := by
  obtain ⟨b1, b2, ck, ⟨v, ls, hown⟩, bel⟩ := h
  have c2 : w.cell? ⟨g2, 0, none⟩ = some (.int .u64 (c : Int)) := by rw [cell_of_row w g2 0 _ _ _ ck]; rfl
  have fz2 := frozen_of_row w g2 0 _ _ ck
  have hne : g1 ≠ g2 := ty_ne ls ck (by decide)
  have hb2 : w0.heap.size ≤ w.heap.size := bel.size
  have HLS := Lib.hid ls
  have HCK := Lib.hid ck
  have hw : IntKind.u64.wrap ((c : Int) + 1) = (c : Int) + 1 := by rw [IntKind.wrap_u64]; omega
  have d1 : (w.setCell ⟨g2, 0, none⟩ (.int .u64 ((c : Int) + 1))).cell? ⟨g1, 0, none⟩ = some v := by
    rw [cell_congr (heap_setCell_other w ⟨g2, 0, none⟩ g1 _ hne), cell_of_row w g1 0 _ _ _ ls]; rfl
  have d2 : (w.setCell ⟨g2, 0, none⟩ (.int .u64 ((c : Int) + 1))).cell? ⟨g2, 0, none⟩ = some (.int .u64 ((c : Int) + 1)) := by
    rw [cell_of_row _ g2 0 _ _ _ (heap_setCell_same w g2 0 _ _ _ ck)]; rfl
  obtain ⟨av, capv, rfl, _, _, _⟩ := Ow.own_form hown
  have hown1 : (w.setCell ⟨g2, 0, none⟩ (.int .u64 ((c : Int) + 1))).ownsRow w0.heap.size 30 12 (.slice av l.length capv) l.length (flat l) :=
    own_same hown fun g hg => heap_setCell_other w _ _ _ (by obtain ⟨cur, hcur⟩ := own_blk hown hg; exact ty_ne hcur ck (by decide))
  have hown2 := hown1.alloc (.cells #[.int .i64 3, .int .i64 t, .int .u64 ((c : Int) + 1), .int .i64 0, .int .i64 0, .int .i64 0, .int .i64 0, .int .i64 0, .int .i64 0, .slice none 0 0, .int .i64 0, .int .i64 0] 30)
  have hl' : l.length < 1000000 := by omega
  have nv : some g1 ≠ (Value.slice av l.length capv).ownBlock := by
    intro e; obtain ⟨cur, hcur⟩ := own_blk hown e.symm; exact ty_ne ls hcur (by decide) rfl
  have nv2 : some g2 ≠ (Value.slice av l.length capv).ownBlock := by
    intro e; obtain ⟨cur, hcur⟩ := own_blk hown e.symm; exact ty_ne ck hcur (by decide) rfl
  have l1 := lt_of ls
  have l2 := lt_of ck
  have hlow : ∀ k, some k = (Value.slice av l.length capv).ownBlock → w0.heap.size ≤ k := fun k hk => (hown.lt k hk.symm).1
  have s2 : (w.setCell ⟨g2, 0, none⟩ (.int .u64 ((c : Int) + 1))).heap[g2]? = some (.cells #[.int .u64 ((c : Int) + 1)] 22 (0, 0)) := by rw [heap_setCell_same w g2 0 _ _ _ ck]; rfl
  have s1 := heap_setCell_other w ⟨g2, 0, none⟩ g1 (.int .u64 ((c : Int) + 1)) hne
  rw [ls] at s1
  have bel1 : Below w0.heap.size w0 (w.setCell ⟨g2, 0, none⟩ (.int .u64 ((c : Int) + 1))) := bel.setCell (p := ⟨g2, 0, none⟩) b2 _
  have HB1 := Lib.hid bel1
  clear ck ls hown hown1 HLS HCK hlow bel bel1
  go_enter Tryd.func6, Tryd.ntmps6
  go_wp2_with (at_builtin; refine append_V _ rfl (.tmp 6) (.tmp 10) rfl w0.heap.size (.slice av l.length capv) l.length (flat l) rfl hown2 ⟨w.heap.size, 0, none⟩ 1 ⟨3, t, c + 1, 0, 0, 0, 0, 0, 0, none, 0, 0, 0, 0⟩ rfl ?c1 hl' ?c5 ?_)
  case c1 => exact Ow.new_row (w.setCell ⟨g2, 0, none⟩ (.int .u64 ((c : Int) + 1))) (evC ⟨3, t, c + 1, 0, 0, 0, 0, 0, 0, none, 0, 0, 0, 0⟩) _ _ (by simp)
  case c5 => simp; omega
  intro v' w2 hown3 hg2
  have hk : ∀ k, k < w.heap.size → some k ≠ (Value.slice av l.length capv).ownBlock → w2.heap[k]? = (w.setCell ⟨g2, 0, none⟩ (.int .u64 ((c : Int) + 1))).heap[k]? := fun k hk h => by
    rw [hg2.block k (by simp; omega) h, heap_alloc_old _ _ (by simpa using hk)]
  have e1 := hk g1 l1 nv
  have e2 := hk g2 l2 nv2
  rw [s1] at e1
  rw [s2] at e2
  have hfin : Lst w0 g1 g2 (w2.setCell ⟨g1, 0, none⟩ v') (l ++ [⟨3, t, c + 1, 0, 0, 0, 0, 0, 0, none, 0, 0, 0, 0⟩]) (c + 1) := by
    refine ⟨b1, b2, ?_, ⟨v', ?_, ?_⟩, ?_⟩
    · rw [heap_setCell_other _ _ _ _ (fun e => hne e.symm), e2]; rfl
    · rw [heap_setCell_same _ _ _ _ _ _ e1]; rfl
    · rw [flat_snoc, List.length_append]
      exact own_same hown3 fun g hg => heap_setCell_other _ _ _ _ (by obtain ⟨cur, hcur⟩ := own_blk hown3 hg; exact ty_ne hcur e1 (by decide))
    · exact ((HB1.out.alloc (by simp; omega) _).grown hg2 (by simp; omega) (fun k hk => (hown2.lt k hk).1)).setCell (p := ⟨g1, 0, none⟩) b1 _
  have HF := Lib.hid hfin
  have c1 : w2.cell? ⟨g1, 0, none⟩ = some (.slice av l.length capv) := by rw [cell_of_row _ g1 0 _ _ _ e1]; rfl
  have fz := frozen_of_row w2 g1 0 _ _ e1
  obtain ⟨a4, cap4, rfl, _, _, _⟩ := Ow.own_form hown3
  clear hown3 hg2 hk e1 e2 hfin hown2 s1 s2 d1 d2 fz2 c2
  go_wp2_with fail
  go_end0
  exact ⟨rfl, HF.out⟩
end Go.Proofs.YtehjlpipnaaifaaDoor.Tl
