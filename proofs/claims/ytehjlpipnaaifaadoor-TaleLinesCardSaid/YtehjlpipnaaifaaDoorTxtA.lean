/- Words of a line: numbers below 100, and one word more behind a row of words. -/
import Derived.Test.YtehjlpipnaaifaaDoorTelJ
import Derived.Test.YtehjlpipnaaifaaDoorShelfW
import Derived.Deep.CutRange
import Derived.Deep.RegionWith
import Derived.Deep.RegionLaw
namespace Go.Proofs.YtehjlpipnaaifaaDoor.Tl
open Go.ChangeShapes Go.WideShapes Go.ChangeAt Go.RowKit
set_option linter.unusedVariables false
set_option linter.unusedSimpArgs false
set_option maxRecDepth 100000
set_option maxHeartbeats 1000000

def dd (x : Int) : List UInt8 := Lib.decDigits x.toNat
def sv (l : List UInt8) : Value := .string ⟨l.toArray⟩
def strs (ss : List (List UInt8)) : List Value := ss.map sv
theorem itoa_any (x : Int) (h0 : 0 ≤ x) (h1 : x < 100) (w : World) : Calls Tryd.prog 24 #[.int .i64 x] w fun e w' => e = .returned (sv (dd x)) ∧ w = w' := by
  have h := Tryd.strconv_Itoa_small x.toNat (by omega) w
  rw [Int.toNat_of_nonneg h0] at h
  refine h.mono ?_
  rintro e w' ⟨rfl, rfl⟩
  exact ⟨rfl, rfl⟩
theorem fuint_in (x : Int) (h0 : 0 ≤ x) (h1 : x < 100) (w : World) : Calls Tryd.prog 34 #[.int .u64 x, .int .i64 10] w fun e w' => e = .returned (sv (dd x)) ∧ w = w' := by
  have hs : Calls Tryd.prog 38 #[.int .i64 x] w fun e w' => e = .returned (sv (dd x)) ∧ w = w' := by
    have h := Tryd.internal_strconv_small x.toNat (by omega) w
    rw [Int.toNat_of_nonneg h0] at h
    refine h.mono ?_
    rintro e w' ⟨rfl, rfl⟩
    exact ⟨rfl, rfl⟩
  have b1 : decide (x < 100) = true := by simpa using h1
  have hw : IntKind.i64.wrap x = x := by rw [IntKind.wrap_i64]; omega
  unfold sv at *
  generalize dd x = D at *
  go_enter Tryd.func34, Tryd.ntmps34
  go_wp2_with (go_at_call 38; refine hs.mono ?_; rintro e w' ⟨rfl, rfl⟩)
  go_ret
  exact ⟨rfl, rfl⟩
theorem fuint_any (x : Int) (h0 : 0 ≤ x) (h1 : x < 100) (w : World) : Calls Tryd.prog 26 #[.int .u64 x, .int .i64 10] w fun e w' => e = .returned (sv (dd x)) ∧ w = w' := by
  have hs := fuint_in x h0 h1 w
  unfold sv at *
  generalize dd x = D at *
  go_enter Tryd.func26, Tryd.ntmps26
  go_wp2_with (go_at_call 34; refine hs.mono ?_; rintro e w' ⟨rfl, rfl⟩)
  go_ret
  exact ⟨rfl, rfl⟩

theorem infoS : (Tryd.prog.info? 9).map (fun i => (i.zero, i.size, i.bytes)) = some (some (.string ⟨#[]⟩), 1, 16) := by kernel_rfl
theorem append_S {ops : Array Oper} {rest : List Oper} {o : Oper} {a : Act} {Q : Exit → Act → World → Prop} (w : World) (hgd : o.guard = none) (s x : Operand)
    (ho : o.op = .call { callee := .builtin .append, args := #[s, x], argTypes := #[81, 81] })
    (base : Nat) (v : Value) (n : Nat) (xs : List Value) (hs : a.eval s = v) (hown : w.ownsRow base 9 1 v n xs)
    (ad : Addr) (c : Nat) (u : Value) (hx : a.eval x = .slice (some ad) 1 c) (hnews : ∀ j y, [u][j]? = some y → w.cell? (ad.add j) = some y) (h1 : u.oneCell' = true)
    (hn : n < 1000000) (hbase : base ≤ w.heap.size)
    (h : ∀ v' w', w'.ownsRow base 9 1 v' (n + 1) (xs ++ [u]) → w.grownBy w' v.ownBlock → wpList Tryd.prog ops Q rest (a.put o.dst v') w') : wpList Tryd.prog ops Q (o :: rest) a w := by
  obtain ⟨i0, hi, hz0, hz1, hz2⟩ := info_parts infoS
  exact wpList_append_own w hgd s x _ ho base _ i0 _ 1 16 Tryd.underlying81 hi hz0 hz1 hz2 rfl (by decide) v n xs hs hown ad 1 c [u] hx (by simp) hnews (by intro y hy; obtain rfl := List.mem_singleton.1 hy; exact h1) (by unfold maxLen; omega) (by omega) hbase (fun v' w' h2 h3 _ => h v' w' h2 h3)

theorem wp_append_S {o : Oper} {a : Act} {K : Act → World → Prop} {Q : Exit → Act → World → Prop} (w : World) (s x : Operand)
    (ho : o.op = .call { callee := .builtin .append, args := #[s, x], argTypes := #[81, 81] })
    (base : Nat) (v : Value) (n : Nat) (xs : List Value) (hs : a.eval s = v) (hown : w.ownsRow base 9 1 v n xs)
    (xv : Value) (u : Value) (hx : a.eval x = xv) (hr : Ow.Row w 0 1 xv [u]) (h1 : u.oneCell' = true) (hn : n < 1000000) (hbase : base ≤ w.heap.size)
    (h : ∀ v' w', w'.ownsRow base 9 1 v' (n + 1) (xs ++ [u]) → w.grownBy w' v.ownBlock → K (a.put o.dst v') w') : o.wp Tryd.prog a w K Q := by
  obtain ⟨i0, hi, hz0, hz1, hz2⟩ := info_parts infoS
  exact Ow.wp_append_row w s x _ ho base _ i0 _ 1 16 Tryd.underlying81 hi hz0 hz1 hz2 rfl (by decide) v n xs hs hown 0 xv [u] hx hr 1 (by simp) (by intro y hy; obtain rfl := List.mem_singleton.1 hy; exact h1) (by unfold maxLen; omega) (by omega) hbase h
theorem row_new (w : World) (u : Value) (t : TypeId) (W : World) (h : W.heap = (w.alloc (.cells #[u] t)).heap) : Ow.Row W 0 1 (.slice (some ⟨w.heap.size, 0, none⟩) 1 1) [u] := by
  refine ⟨_, _, _, rfl, rfl, Nat.le_refl _, by decide, .inr ⟨w.heap.size, 0, rfl, Nat.zero_le _, by rw [h]; simp, fun j hj => ?_⟩⟩
  obtain rfl : j = 0 := by omega
  rw [cell_congr (w := w.alloc (.cells #[u] t)) (by rw [h]), World.cell?_alloc_at _ _ _ _ rfl]
  rfl
theorem grown_drew {w w2 : World} {r : Option Nat} (h : w.drew.grownBy w2 r) : w.grownBy w2 r := by
  obtain ⟨a, b, c, d, e⟩ := h
  exact ⟨a, b, c, d, e⟩
theorem grown_drewN {w w2 : World} {q : Nat} {r : Option Nat} (h : (w.drewN q).grownBy w2 r) : w.grownBy w2 r := by
  obtain ⟨a, b, c, d, e⟩ := h
  exact ⟨a, b, c, d, e⟩
/-- Words behind a pointer. -/
structure Wds (base B : Nat) (w : World) (ss : List (List UInt8)) : Prop where
  hb : base ≤ B
  ls : ∃ v, w.heap[B]? = some (.cells #[v] 81 (0, 0)) ∧ w.ownsRow base 9 1 v ss.length (strs ss)
/-- What is of other types than words stays. -/
def KeptT (w w' : World) : Prop := ∀ (k : Nat) cs t f, w.heap[k]? = some (.cells cs t f) → t ≠ 9 → t ≠ 81 → w'.heap[k]? = some (.cells cs t f)
theorem KeptT.refl (w : World) : KeptT w w := fun _ _ _ _ h _ _ => h
theorem KeptT.trans {a b c : World} (h : KeptT a b) (k : KeptT b c) : KeptT a c := fun i cs t f q1 q2 q3 => k i cs t f (h i cs t f q1 q2 q3) q2 q3
theorem KeptT.drewN {a b : World} (h : KeptT a b) (q : Nat) : KeptT a (b.drewN q) := fun i cs t f q1 q2 q3 => h i cs t f q1 q2 q3
theorem Wds.drewN {base B : Nat} {w : World} {ss : List (List UInt8)} (h : Wds base B w ss) (q : Nat) : Wds base B (w.drewN q) ss := by
  obtain ⟨hb, v, h1, h2⟩ := h
  exact ⟨hb, v, h1, Ow.own_below h2 (below_drewN (Below.refl _ _) q)⟩
theorem Wds.c1 {base B : Nat} {w : World} {ss : List (List UInt8)} (h : Wds base B w ss) : ∃ a cap, w.cell? ⟨B, 0, none⟩ = some (.slice a ss.length cap) ∧ w.ownsRow base 9 1 (.slice a ss.length cap) ss.length (strs ss) := by
  obtain ⟨v, ls, hu⟩ := h.ls
  obtain ⟨a, cap, rfl, h1, _, _⟩ := Ow.own_form hu
  exact ⟨a, cap, by rw [cell_of_row w B 0 _ _ _ ls]; rfl, hu⟩
theorem Wds.lt {base B : Nat} {w : World} {ss : List (List UInt8)} (h : Wds base B w ss) : B < w.heap.size := lt_of h.ls.choose_spec.1
/-- One more word: what the append and the store leave. -/
theorem Wds.snoc {base B : Nat} {w : World} {ss : List (List UInt8)} (h : Wds base B w ss) (hbase : base ≤ w.heap.size) {v : Value} (hv : w.cell? ⟨B, 0, none⟩ = some v) (s : List UInt8) {o : Obj} {v' : Value} {w2 : World}
    (hown : w2.ownsRow base 9 1 v' (ss.length + 1) (strs ss ++ [sv s])) (hg : (w.alloc o).grownBy w2 v.ownBlock) :
    Wds base B (w2.setCell ⟨B, 0, none⟩ v') (ss ++ [s]) ∧ w2.cell? ⟨B, 0, none⟩ = some v ∧ w2.frozen? ⟨B, 0, none⟩ = false ∧ Below base w (w2.setCell ⟨B, 0, none⟩ v') ∧ KeptT w (w2.setCell ⟨B, 0, none⟩ v') := by
  obtain ⟨hb, u, ls, hu⟩ := h
  obtain rfl : u = v := by
    rw [cell_of_row w B 0 _ _ _ ls] at hv
    simpa using hv
  have nv : some B ≠ u.ownBlock := by
    intro e; obtain ⟨cur, hcur⟩ := own_blk hu e.symm; exact ty_ne ls hcur (by decide) rfl
  have hk : ∀ k, k < w.heap.size → some k ≠ u.ownBlock → w2.heap[k]? = w.heap[k]? := fun k hk h => by
    rw [hg.block k (by simp; omega) h, heap_alloc_old _ _ (by simpa using hk)]
  have e1 := hk B (lt_of ls) nv
  rw [ls] at e1
  refine ⟨⟨hb, v', ?_, ?_⟩, by rw [cell_of_row _ B 0 _ _ _ e1]; rfl, frozen_of_row w2 B 0 _ _ e1, ?_, ?_⟩
  · rw [heap_setCell_same _ _ _ _ _ _ e1]; rfl
  · have : strs (ss ++ [s]) = strs ss ++ [sv s] := by simp [strs]
    rw [this, List.length_append]
    exact own_same hown fun g hg => heap_setCell_other _ _ _ _ (by obtain ⟨cur, hcur⟩ := own_blk hown hg; exact ty_ne hcur e1 (by decide))
  · have hs : base ≤ (w.alloc o).heap.size := by simp; omega
    exact (((Below.refl _ _).alloc hbase _).grown hg hs (fun k hk => (hu.lt k hk).1)).setCell (p := ⟨B, 0, none⟩) hb _
  · intro k cs t f h1 h2 h3
    have hlt := lt_of h1
    rw [heap_setCell_other _ _ _ _ (ty_ne h1 ls h3), hk k hlt (fun e => ?_)]
    · exact h1
    · obtain ⟨cur, hcur⟩ := own_blk hu e.symm
      exact ty_ne h1 hcur h2 rfl
end Go.Proofs.YtehjlpipnaaifaaDoor.Tl
