/- The teller's bond and done. -/
import Derived.Test.YtehjlpipnaaifaaDoorTelA
import Derived.Test.YtehjlpipnaaifaaDoorOwnS
namespace Go.Proofs.YtehjlpipnaaifaaDoor.Tl
open Go.ChangeShapes Go.WideShapes Go.ChangeAt Go.RowKit
set_option linter.unusedVariables false
set_option linter.unusedSimpArgs false
set_option maxRecDepth 100000
set_option maxHeartbeats 1000000

theorem infoI : (Tryd.prog.info? 3).map (fun i => (i.zero, i.size, i.bytes)) = some (some (.int .i64 0), 1, 8) := by kernel_rfl
theorem info_parts {P : Program} {t : TypeId} {z : Value} {s b : Nat} (h : (P.info? t).map (fun i => (i.zero, i.size, i.bytes)) = some (some z, s, b)) : ∃ i, P.info? t = some i ∧ i.zero = some z ∧ i.size = s ∧ i.bytes = b := by
  cases hi : P.info? t with
  | none => rw [hi] at h; cases h
  | some i =>
    rw [hi] at h
    simp only [Option.map_some, Option.some.injEq, Prod.mk.injEq] at h
    exact ⟨i, rfl, h.1, h.2.1, h.2.2⟩
/-- A number is put behind a row of numbers. -/
theorem append_I {ops : Array Oper} {rest : List Oper} {o : Oper} {a : Act} {Q : Exit → Act → World → Prop} (w : World) (hgd : o.guard = none) (s x : Operand)
    (ho : o.op = .call { callee := .builtin .append, args := #[s, x], argTypes := #[37, 37] })
    (base : Nat) (v : Value) (n : Nat) (xs : List Value) (hs : a.eval s = v) (hown : w.ownsRow base 3 1 v n xs)
    (ad : Addr) (c : Nat) (news : List Value) (hx : a.eval x = .slice (some ad) 1 c) (hl : news.length = 1) (hnews : ∀ j u, news[j]? = some u → w.cell? (ad.add j) = some u) (h1 : ∀ u ∈ news, u.oneCell' = true)
    (hn : n < 1000000) (hbase : base ≤ w.heap.size)
    (h : ∀ v' w', w'.ownsRow base 3 1 v' (n + 1) (xs ++ news) → w.grownBy w' v.ownBlock → (v'.ownBlock = v.ownBlock ∨ ∀ g, v'.ownBlock = some g → w.heap.size ≤ g) → wpList Tryd.prog ops Q rest (a.put o.dst v') w') : wpList Tryd.prog ops Q (o :: rest) a w := by
  obtain ⟨i0, hi, hz0, hz1, hz2⟩ := info_parts infoI
  exact Ow.wpList_append_to w hgd s x _ ho base _ i0 _ 1 8 Tryd.underlying37 hi hz0 hz1 hz2 rfl (by decide) v n xs hs hown ad 1 c (by omega) news hx (by rw [hl]) hnews h1 (by unfold maxLen; omega) (by omega) hbase h

theorem bond_bad {w : World} {base gt : Nat} {lv : Value} {its : List It} {last : Nat} (h : Tel w base gt lv its last) (hm : its.length ≤ 20000) (i p n : Nat) (hn : n < 18446744073709551616) (hb : n = 0 ∨ its.length < n ∨ n = i + 1) :
    Calls Tryd.prog 20 #[.pointer (some ⟨gt, 0, none⟩), .pointer (some ⟨p, 0, none⟩), .int .i64 ((i : Int) + 1), .int .u64 (n : Int)] w fun e w' => e = .returned (.bool false) ∧ w = w' := by
  obtain ⟨a, cap, rfl, hc1, hc2, _⟩ := h.form
  have k0 := h.c0
  obtain ⟨id, hid⟩ : ∃ id : Int, id = (i : Int) + 1 := ⟨_, rfl⟩
  rw [← hid]
  have hw : IntKind.u64.wrap (its.length : Int) = (its.length : Int) := by rw [IntKind.wrap_u64]; omega
  by_cases l1 : n = 0
  · subst l1
    generalize its.length = len at *
    clear hb hn hid
    go_enter Tryd.func20, Tryd.ntmps20
    go_wp2
    go_ret
    exact ⟨rfl, rfl⟩
  · have b1 : decide ((n : Int) < 1) = false := by simp; omega
    by_cases l2 : its.length < n
    · have b2 : decide ((its.length : Int) < (n : Int)) = true := by simp; omega
      generalize its.length = len at *
      clear hb hn hid l1 l2 hm
      generalize (n : Int) = N at *
      go_enter Tryd.func20, Tryd.ntmps20
      go_wp2
      go_ret
      exact ⟨rfl, rfl⟩
    · have b2 : decide ((its.length : Int) < (n : Int)) = false := by simp; omega
      have hw2 : IntKind.i64.wrap (n : Int) = (n : Int) := by rw [IntKind.wrap_i64]; omega
      have b3 : ((n : Int) == id) = true := by simp; omega
      have b4 : ((n : Int) = id) = True := by simp; omega
      generalize its.length = len at *
      clear hb hn hid l1 l2 hm
      generalize (n : Int) = N at *
      go_enter Tryd.func20, Tryd.ntmps20
      go_wp2
      go_ret
      exact ⟨rfl, rfl⟩

theorem nums_one (l : List Nat) : ∀ u ∈ nums l, u.oneCell' = true := by
  intro u hu; obtain ⟨b, _, rfl⟩ := List.mem_map.1 hu; rfl
theorem Tel.drewN {w : World} {base gt : Nat} {lv : Value} {its : List It} {last : Nat} (h : Tel w base gt lv its last) (q : Nat) : Tel (w.drewN q) base gt lv its last := h.below (below_drewN (Below.refl _ _) q)
def may (x y : Tx) : Bool := !(y.st == 4) && (y.fin == 0 || x.fin == 0 || decide (y.fin < x.fin))
theorem below_of_upd {w w2 : World} {base : Nat} {row : Option Nat} (hg : w.grownBy w2 row) (hb : base ≤ w.heap.size) (hr : ∀ k, row = some k → base ≤ k) : Below base w w2 := (Below.refl base w).grown hg hb hr
theorem bond_any {w : World} {base gt : Nat} {lv : Value} {its : List It} {last : Nat} (h : Tel w base gt lv its last) (hbase : base ≤ w.heap.size) (hm : its.length ≤ 20000)
    (i : Nat) (it : It) (hi : its[i]? = some it) (hlb : it.x.bonds.length ≤ 20000) (j : Nat) (y : It) (hj : its[j]? = some y) (hne : j ≠ i) :
    Calls Tryd.prog 20 #[.pointer (some ⟨gt, 0, none⟩), .pointer (some ⟨it.p, 0, none⟩), .int .i64 ((i : Int) + 1), .int .u64 ((j : Int) + 1)] w
      fun e w' => e = .returned (.bool (may it.x y.x)) ∧ (∃ v', Tel w' base gt lv (its.set i ⟨{ it.x with bonds := it.x.bonds ++ [j + 1] }, it.p, v'⟩) last) ∧ Below base w w' := by
  have hTel := Lib.hid h
  have HBASE := Lib.hid hbase
  obtain ⟨a, cap, rfl, hc1, hc2, hat⟩ := h.form
  obtain ⟨g, rfl, hcell⟩ := hat j y hj
  have hil := (List.getElem?_eq_some_iff.1 hi).1
  have hjl := (List.getElem?_eq_some_iff.1 hj).1
  have k0 := h.c0
  have hit := h.all it (List.mem_of_getElem? hi)
  have x2 := hit.c2
  have fz := frozen_of_row w it.p 2 _ _ hit.blk
  obtain ⟨av, capv, hv, hn2, hm2, hrow⟩ := Ow.own_form hit.own
  obtain ⟨id, hid⟩ : ∃ id : Int, id = (i : Int) + 1 := ⟨_, rfl⟩
  obtain ⟨n, hn⟩ : ∃ n : Int, n = (j : Int) + 1 := ⟨_, rfl⟩
  rw [← hid, ← hn]
  have hw : IntKind.u64.wrap (its.length : Int) = (its.length : Int) := by rw [IntKind.wrap_u64]; omega
  have hw2 : IntKind.i64.wrap n = n := by rw [IntKind.wrap_i64]; omega
  have hw3 : IntKind.u64.wrap (n - 1) = (j : Int) := by rw [IntKind.wrap_u64]; omega
  have b1 : decide (n < 1) = false := by simp; omega
  have b2 : decide ((its.length : Int) < n) = false := by simp; omega
  have b3 : (n == id) = false := by simp; omega
  have b4 : (n = id) = False := by simp; omega
  have b5 : (0 : Int) ≤ (j : Int) := by omega
  have b6 : (j : Int) < (its.length : Int) := by omega
  have HI := Lib.hid hi
  have HJ := Lib.hid hj
  have HN := Lib.hid hn
  have HNE := Lib.hid hne
  have HM := Lib.hid hm
  clear hat h hi hj hn hid hm hne hrow hil hjl
  generalize hLL : its.length = len at *
  have HLL := Lib.hid hLL
  clear hLL
  go_enter Tryd.func20, Tryd.ntmps20
  have hown := hit.own
  rw [hv] at hown
  have HIT := Lib.hid hit
  have HV := Lib.hid hv
  rw [hv] at x2
  clear hv hit hbase
  generalize hbl : it.x.bonds.length = bl at *
  have HBL := Lib.hid hbl
  clear hbl
  have hown1 := hown.alloc (.cells #[.int .i64 n] 3)
  go_wp2_with (at_builtin; refine append_I _ rfl (.tmp 40) (.tmp 43) rfl base (.slice av bl capv) bl (nums it.x.bonds) rfl hown1 ⟨w.heap.size, 0, none⟩ 1 [.int .i64 n] rfl rfl ?c1 (by intro u hu; obtain rfl := List.mem_singleton.1 hu; rfl) (by omega) ?c5 ?_)
  case c1 => exact Ow.new_row w [.int .i64 n] _ _ rfl
  case c5 => have := HBASE.out; simp; omega
  intro v' w2 hown2 hg2 hwh
  have hwh2 : v'.ownBlock = (Value.slice av bl capv).ownBlock ∨ ∀ g, v'.ownBlock = some g → w.heap.size ≤ g := by
    rcases hwh with e | e
    · exact .inl e
    · exact .inr fun g hg => Nat.le_of_succ_le (e g hg)
  have hg3 : w.grownBy w2 (Value.slice av bl capv).ownBlock := Ow.grown_trans (World.grownBy_alloc w _ _) hg2
  have hblk := HIT.out.blk
  have hne2 : some it.p ≠ (Value.slice av bl capv).ownBlock := by
    intro e
    obtain ⟨cur, hcur⟩ := own_blk hown e.symm
    exact ty_ne hblk hcur (by decide) rfl
  have hblk2 : w2.heap[it.p]? = some (.cells (cellsX it) 73 (0, 0)) := by rw [hg3.block _ (lt_of hblk) hne2]; exact hblk
  have fz2 := frozen_of_row w2 it.p 2 _ _ hblk2
  have x22 : w2.cell? ⟨it.p, 2, none⟩ = some it.v := by rw [cell_of_row w2 it.p 2 _ _ _ hblk2]; rfl
  have hT3 : Tel (w2.setCell ⟨it.p, 2, none⟩ v') base gt (.slice (some ⟨g, 0, none⟩) len cap) (its.set i ⟨{ it.x with bonds := it.x.bonds ++ [j + 1] }, it.p, v'⟩) last := by
    refine hTel.out.upd i it _ HI.out rfl (fun k hk h1 h2 => ?_) ⟨HIT.out.hb, ?_, ?_⟩ ?_
    · rw [heap_setCell_other _ _ _ _ h1]
      exact hg3.block k hk (by rw [HV.out] at h2; exact h2)
    · rw [heap_setCell_same w2 it.p 2 _ _ _ hblk2]; rfl
    · refine own_same (w := w2) ?_ (fun g' hg' => ?_)
      · have e : nums (it.x.bonds ++ [j + 1]) = nums it.x.bonds ++ [.int .i64 n] := by
          unfold nums; rw [List.map_append, HN.out]; rfl
        rw [e]
        show w2.ownsRow base _ 1 v' (it.x.bonds ++ [j + 1]).length _
        rw [List.length_append, HBL.out]
        exact hown2
      · obtain ⟨cur, hcur⟩ := own_blk hown2 hg'
        exact heap_setCell_other _ _ _ _ (ty_ne hcur hblk2 (by decide))
    · rw [HV.out]; exact hwh2
  have hB3 : Below base w (w2.setCell ⟨it.p, 2, none⟩ v') := by
    have q := below_of_upd hg3 HBASE.out (fun k hk => (hown.lt k hk).1)
    exact q.setCell (p := ⟨it.p, 2, none⟩) HIT.out.hb _
  obtain ⟨a4, cap4, rfl, _, _, _⟩ := Ow.own_form hown2
  have HT := Lib.hid hT3
  have HB := Lib.hid hB3
  clear hT3 hB3 hown2 hg2 hwh hwh2 hg3 hblk hne2 hown1 hown hcell x2 hw hw2 hw3 b1 b2 b3 b4 b5 b6 k0 fz hc1 hc2
  go_wp2_with fail
  generalize w2.setCell ⟨it.p, 2, none⟩ (.slice a4 (bl + 1) cap4) = w3 at *
  have hy := HT.out.all y (List.mem_of_getElem? (i := j) (by rw [List.getElem?_set, if_neg (by have := HNE.out; omega)]; exact HJ.out))
  have hx := HT.out.all _ (List.mem_of_getElem? (i := i) (by rw [List.getElem?_set_self (by have := (List.getElem?_eq_some_iff.1 HI.out).1; omega)]))
  have y0 := hy.c0
  have y1 := hy.c1
  have z0 := hx.c0
  simp only at z0
  clear hy hx x22 fz2 hblk2
  obtain ⟨⟨xf, xst, xb⟩, ip, iv⟩ := it
  obtain ⟨⟨yf, yst, yb⟩, yp, yv⟩ := y
  simp only at *
  have HF : ∀ q, (∃ v', Tel (w3.drewN q) base gt (.slice (some ⟨g, 0, none⟩) len cap) (its.set i ⟨⟨xf, xst, xb ++ [j + 1]⟩, ip, v'⟩) last) ∧ Below base w (w3.drewN q) := fun q => ⟨⟨_, HT.out.drewN q⟩, below_drewN HB.out q⟩
  have HFF := Lib.hid HF
  clear HF HT HB
  obtain ⟨Y, hY⟩ : ∃ Y : Int, Y = (yst : Int) := ⟨_, rfl⟩
  obtain ⟨YF, hYF⟩ : ∃ Y : Int, Y = (yf : Int) := ⟨_, rfl⟩
  obtain ⟨XF, hXF⟩ : ∃ Y : Int, Y = (xf : Int) := ⟨_, rfl⟩
  rw [← hY] at y1
  rw [← hYF] at y0
  rw [← hXF] at z0
  by_cases e1 : yst = 4
  · obtain rfl : Y = 4 := by omega
    clear hYF hXF hY
    go_quiet (fail)
    go_wp2_with fail
    go_ret
    exact ⟨by simp [may, e1], HFF.out _⟩
  · have d1 : (Y == 4) = false := by simp; omega
    have d1a : decide (Y = 4) = false := by simp; omega
    have d1b : (Y != 4) = true := by simp; omega
    by_cases e2 : yf = 0
    · obtain rfl : YF = 0 := by omega
      clear hY hXF hYF
      go_quiet (fail)
      go_wp2_with fail
      go_ret
      exact ⟨by simp [may, e1, e2], HFF.out _⟩
    · have d2 : (YF == 0) = false := by simp; omega
      have d2a : decide (YF = 0) = false := by simp; omega
      by_cases e3 : xf = 0
      · obtain rfl : XF = 0 := by omega
        clear hY hYF hXF
        go_quiet (fail)
        go_wp2_with fail
        go_ret
        subst e3
        exact ⟨by simp [may, e1], HFF.out _⟩
      · have d3 : (XF == 0) = false := by simp; omega
        have d3a : decide (XF = 0) = false := by simp; omega
        by_cases e4 : yf < xf
        · have d4 : decide (YF < XF) = true := by simp; omega
          clear hY hYF hXF
          go_quiet (fail)
          go_wp2_with fail
          go_ret
          exact ⟨by simp [may, e1, e4], HFF.out _⟩
        · have d4 : decide (YF < XF) = false := by simp; omega
          clear hY hYF hXF
          go_quiet (fail)
          go_wp2_with fail
          go_ret
          exact ⟨by simp [may, e1, e2, e3, e4], HFF.out _⟩
end Go.Proofs.YtehjlpipnaaifaaDoor.Tl
