/- Texts of this claim, laid together: Lv, Oe, Ed. -/
import Derived.Test.YtdgombgcjeelpaaGreatM21er
import Derived.Test.YtdgombgcjeelpaaGreatM12er
import Derived.Test.YtdgombgcjeelpaaGreatM22er
import Derived.Test.YtdgombgcjeelpaaGreatM20er
namespace Go.Proofs.YtdgombgcjeelpaaGreat.Em
open Go.ChangeShapes Go.WideShapes Go.ChangeAt Go.RowKit En
set_option linter.unusedVariables false
set_option linter.unusedSimpArgs false
set_option maxRecDepth 100000
set_option maxHeartbeats 1600000

/-- An array's element, by a law of its own. -/
theorem wpList_index {P : Program} {w : World} {ops : Array Oper} {rest : List Oper} {o : Oper} {a : Act} {Q : Exit → Act → World → Prop} (hg : o.guard = none) (x ix : Operand) (ty : TypeId) (hop : o.op = .index ty x ix) {v : Value} (hrun : (Instr.index ty (a.eval x) (a.eval ix)).run P w = .ok v w)
    (hK : wpList P ops Q rest (a.put o.dst v) w) : wpList P ops Q (o :: rest) a w := by
  refine wpList_plain hg fun K' hK' => ?_
  unfold Oper.wp
  simp [execOp, hop, hrun, Result.andThen]
  exact hK' _ _ hK
/-- A number is put behind a row that was made behind w0. -/
theorem wp_int {ops : Array Oper} {rest : List Oper} {o : Oper} {a : Act} {Q : Exit → Act → World → Prop} (w : World) (hgd : o.guard = none) (s x : Operand)
    (ho : o.op = .call { callee := .builtin .append, args := #[s, x], argTypes := #[33, 33] })
    (w0 : World) (hb : Below w0.heap.size w0 w) (av : Option Addr) (m cap : Nat) (xs : List Value) (hs : a.eval s = .slice av m cap) (hown : w.ownsRow w0.heap.size 3 1 (.slice av m cap) m xs) (hm : m < 4000000)
    (t0 : Int) (hx : a.eval x = .slice (some ⟨w.heap.size, 0, none⟩) 1 1)
    (h : ∀ av' cap' w', w'.ownsRow w0.heap.size 3 1 (.slice av' (m + 1) cap') (m + 1) (xs ++ [.int .i64 t0]) → Below w0.heap.size w0 w' → wpList Tryz.prog ops Q rest (a.put o.dst (.slice av' (m + 1) cap')) w') :
    wpList Tryz.prog ops Q (o :: rest) a (w.alloc (.cells #[.int .i64 t0] 3)) := by
  obtain ⟨ii, hii, hz0, hz1, hz2⟩ := info_parts infoI
  have hw := hb.size
  have hown' : (w.alloc (.cells #[.int .i64 t0] 3)).ownsRow w0.heap.size 3 1 (.slice av m cap) m xs := own_same hown fun g hg => Below.heap_alloc _ _ _ (hown.lt g hg).2
  refine Ow.wpList_append_to _ hgd s x 33 ho w0.heap.size 3 ii _ 1 8 Tryz.underlying33 hii hz0 hz1 hz2 rfl (by decide) (.slice av m cap) m xs hs hown' ⟨w.heap.size, 0, none⟩ 1 1 (by omega) [.int .i64 t0] hx rfl (fun j u hu => Ow.new_row w [.int .i64 t0] _ _ rfl j u hu) (by intro u hu; simp at hu; subst hu; rfl) (by unfold maxLen; omega) (by omega) (by simp; omega) ?_
  intro v' w' q1 q2 q3
  obtain ⟨av', cap', rfl, _⟩ := Ow.own_form q1
  exact h av' cap' w' q1 ((hb.alloc hw _).grown q2 (by simp; omega) (fun g hg => (hown.lt g hg).1))
def liveTo (σ : St) (k : Nat) : List Nat := (List.range k).filter fun s => (σ.txns.getD s none).isSome
theorem liveTo_succ (σ : St) (k : Nat) : liveTo σ (k + 1) = liveTo σ k ++ (if (σ.txns.getD k none).isSome then [k] else []) := by
  unfold liveTo
  rw [List.range_succ, List.filter_append]
  congr 1
  simp only [List.filter_cons, List.filter_nil]
theorem liveTo_le (σ : St) (k : Nat) : (liveTo σ k).length ≤ k := by
  unfold liveTo
  have := List.length_filter_le (fun s => (σ.txns.getD s none).isSome) (List.range k)
  simpa using this
theorem liveRow_any {A : Book} {σ : St} {w : World} (hR : Rep A σ w) :
    Calls Tryz.prog 27 #[.pointer (some ⟨A.be, 0, none⟩)] w fun e w' => ∃ av cap, e = .returned (.slice av σ.live.length cap) ∧ w'.ownsRow w.heap.size 3 1 (.slice av σ.live.length cap) σ.live.length (σ.live.map i64) ∧ Below w.heap.size w w' := by
  have hE : ∀ k : Nat, k < 8 → w.cell? ⟨A.be, 5 + k, none⟩ = some (A.tp σ k) := fun k hk => hR.eng (5 + k) (engCs_txn A σ hk)
  have e0 := hE 0 (by omega)
  have e1 := hE 1 (by omega)
  have e2 := hE 2 (by omega)
  have e3 := hE 3 (by omega)
  have e4 := hE 4 (by omega)
  have e5 := hE 5 (by omega)
  have e6 := hE 6 (by omega)
  have e7 := hE 7 (by omega)
  have hls : σ.live = liveTo σ 8 := rfl
  rw [hls]
  obtain ⟨tv, htv⟩ : ∃ tv : Nat → Option Addr, ∀ k, A.tp σ k = .pointer (tv k) ∧ ((tv k).isSome = (σ.txns.getD k none).isSome) := by
    refine ⟨fun k => if (σ.txns.getD k none).isSome = true then some ⟨A.bt k, 0, none⟩ else none, fun k => ?_⟩
    unfold Book.tp
    dsimp only
    generalize σ.txns.getD k none = ot
    cases ot <;> exact ⟨rfl, rfl⟩
  rw [(htv 0).1] at e0
  rw [(htv 1).1] at e1
  rw [(htv 2).1] at e2
  rw [(htv 3).1] at e3
  rw [(htv 4).1] at e4
  rw [(htv 5).1] at e5
  rw [(htv 6).1] at e6
  rw [(htv 7).1] at e7
  have HTV := Lib.hid (fun k => (htv k).2)
  clear hE hR hls htv
  go_enter Tryz.func27, Tryz.ntmps27
  go_wp2
  go_loopw [3, 10] (fun l i wr => ∃ k : Nat, k ≤ 8 ∧ i = .int .i64 (k : Int) ∧ Below w.heap.size w wr ∧ ∃ av cap, l = .slice av (liveTo σ k).length cap ∧ wr.ownsRow w.heap.size 3 1 l (liveTo σ k).length ((liveTo σ k).map i64)) (fun _ i _ => 8 - (intOf i).toNat)
  case atStart => exact ⟨0, by omega, rfl, Below.refl _ _, none, 0, rfl, rfl, .inl ⟨rfl, rfl⟩⟩
  case round =>
    obtain ⟨k, hk, rfl, hb, av, cap, rfl, hown⟩ := hrel
    have hm0 := liveTo_le σ k
    have hsu := liveTo_succ σ k
    generalize hll : (liveTo σ k).length = m at *
    generalize hxs : (liveTo σ k).map i64 = xs at *
    have hT := HTV.out k
    have HS := Lib.hid (And.intro hsu (And.intro hll (And.intro hxs hk)))
    clear hsu hll hxs
    by_cases hlt : k < 8
    · have n1 : IntKind.i64.wrap ((k : Int) + 1) = (k : Int) + 1 := by rw [IntKind.wrap_i64]; omega
      have hm1 : m < 4000000 := by omega
      clear hm0 hk
      match k, hlt with
      | 0, _ =>
        cases hv : tv 0 with
        | none =>
          rw [hv] at hT
          have hTn : (σ.txns.getD 0 none).isSome = false := hT.symm
          rw [hv] at e0
          have hnew : liveTo σ (0 + 1) = liveTo σ 0 := by rw [HS.out.1, hTn]; simp
          have HN := Lib.hid hnew
          have hix : ∀ w', (Instr.index 97 (.agg #[.pointer none, .pointer (tv 1), .pointer (tv 2), .pointer (tv 3), .pointer (tv 4), .pointer (tv 5), .pointer (tv 6), .pointer (tv 7)]) (.int .i64 ((0 : Nat) : Int))).run Tryz.prog w' = .ok (.pointer none) w' := fun w' => by kernel_rfl
          have HO := Lib.hid (And.intro hown hb)
          clear hT hTn hnew hown hb
          go_wp2_with (refine wpList_index rfl (.tmp 9) (.tmp 10) 97 rfl (hix _) ?_)
          go_roundw
          case rel => exact ⟨0 + 1, by omega, rfl, HO.out.2, av, cap, by rw [HN.out, HS.out.2.1], by rw [HN.out, HS.out.2.1, HS.out.2.2.1]; exact HO.out.1⟩
          case measure => simp [intOf]
        | some ad =>
          rw [hv] at hT
          have hTn : (σ.txns.getD 0 none).isSome = true := hT.symm
          rw [hv] at e0
          have hnew : liveTo σ (0 + 1) = liveTo σ 0 ++ [0] := by rw [HS.out.1, hTn]; simp
          have HN := Lib.hid hnew
          have hix : ∀ w', (Instr.index 97 (.agg #[.pointer (some ad), .pointer (tv 1), .pointer (tv 2), .pointer (tv 3), .pointer (tv 4), .pointer (tv 5), .pointer (tv 6), .pointer (tv 7)]) (.int .i64 ((0 : Nat) : Int))).run Tryz.prog w' = .ok (.pointer (some ad)) w' := fun w' => by kernel_rfl
          clear hT hTn hnew
          go_wp2_with (first | (refine wpList_index rfl (.tmp 9) (.tmp 10) 97 rfl (hix _) ?_) | (refine wp_int _ rfl _ _ rfl w (by assumption) _ _ _ _ rfl (by assumption) (by omega) _ rfl ?_; intro avl capl wl ql pl))
          go_roundw
          case rel => exact ⟨0 + 1, by omega, rfl, pl, avl, capl, by rw [HN.out, List.length_append, HS.out.2.1]; rfl, by rw [HN.out, List.length_append, HS.out.2.1, List.map_append, HS.out.2.2.1]; exact ql⟩
          case measure => simp [intOf]
      | 1, _ =>
        cases hv : tv 1 with
        | none =>
          rw [hv] at hT
          have hTn : (σ.txns.getD 1 none).isSome = false := hT.symm
          rw [hv] at e1
          have hnew : liveTo σ (1 + 1) = liveTo σ 1 := by rw [HS.out.1, hTn]; simp
          have HN := Lib.hid hnew
          have hix : ∀ w', (Instr.index 97 (.agg #[.pointer (tv 0), .pointer none, .pointer (tv 2), .pointer (tv 3), .pointer (tv 4), .pointer (tv 5), .pointer (tv 6), .pointer (tv 7)]) (.int .i64 ((1 : Nat) : Int))).run Tryz.prog w' = .ok (.pointer none) w' := fun w' => by kernel_rfl
          have HO := Lib.hid (And.intro hown hb)
          clear hT hTn hnew hown hb
          go_wp2_with (refine wpList_index rfl (.tmp 9) (.tmp 10) 97 rfl (hix _) ?_)
          go_roundw
          case rel => exact ⟨1 + 1, by omega, rfl, HO.out.2, av, cap, by rw [HN.out, HS.out.2.1], by rw [HN.out, HS.out.2.1, HS.out.2.2.1]; exact HO.out.1⟩
          case measure => simp [intOf]
        | some ad =>
          rw [hv] at hT
          have hTn : (σ.txns.getD 1 none).isSome = true := hT.symm
          rw [hv] at e1
          have hnew : liveTo σ (1 + 1) = liveTo σ 1 ++ [1] := by rw [HS.out.1, hTn]; simp
          have HN := Lib.hid hnew
          have hix : ∀ w', (Instr.index 97 (.agg #[.pointer (tv 0), .pointer (some ad), .pointer (tv 2), .pointer (tv 3), .pointer (tv 4), .pointer (tv 5), .pointer (tv 6), .pointer (tv 7)]) (.int .i64 ((1 : Nat) : Int))).run Tryz.prog w' = .ok (.pointer (some ad)) w' := fun w' => by kernel_rfl
          clear hT hTn hnew
          go_wp2_with (first | (refine wpList_index rfl (.tmp 9) (.tmp 10) 97 rfl (hix _) ?_) | (refine wp_int _ rfl _ _ rfl w (by assumption) _ _ _ _ rfl (by assumption) (by omega) _ rfl ?_; intro avl capl wl ql pl))
          go_roundw
          case rel => exact ⟨1 + 1, by omega, rfl, pl, avl, capl, by rw [HN.out, List.length_append, HS.out.2.1]; rfl, by rw [HN.out, List.length_append, HS.out.2.1, List.map_append, HS.out.2.2.1]; exact ql⟩
          case measure => simp [intOf]
      | 2, _ =>
        cases hv : tv 2 with
        | none =>
          rw [hv] at hT
          have hTn : (σ.txns.getD 2 none).isSome = false := hT.symm
          rw [hv] at e2
          have hnew : liveTo σ (2 + 1) = liveTo σ 2 := by rw [HS.out.1, hTn]; simp
          have HN := Lib.hid hnew
          have hix : ∀ w', (Instr.index 97 (.agg #[.pointer (tv 0), .pointer (tv 1), .pointer none, .pointer (tv 3), .pointer (tv 4), .pointer (tv 5), .pointer (tv 6), .pointer (tv 7)]) (.int .i64 ((2 : Nat) : Int))).run Tryz.prog w' = .ok (.pointer none) w' := fun w' => by kernel_rfl
          have HO := Lib.hid (And.intro hown hb)
          clear hT hTn hnew hown hb
          go_wp2_with (refine wpList_index rfl (.tmp 9) (.tmp 10) 97 rfl (hix _) ?_)
          go_roundw
          case rel => exact ⟨2 + 1, by omega, rfl, HO.out.2, av, cap, by rw [HN.out, HS.out.2.1], by rw [HN.out, HS.out.2.1, HS.out.2.2.1]; exact HO.out.1⟩
          case measure => simp [intOf]
        | some ad =>
          rw [hv] at hT
          have hTn : (σ.txns.getD 2 none).isSome = true := hT.symm
          rw [hv] at e2
          have hnew : liveTo σ (2 + 1) = liveTo σ 2 ++ [2] := by rw [HS.out.1, hTn]; simp
          have HN := Lib.hid hnew
          have hix : ∀ w', (Instr.index 97 (.agg #[.pointer (tv 0), .pointer (tv 1), .pointer (some ad), .pointer (tv 3), .pointer (tv 4), .pointer (tv 5), .pointer (tv 6), .pointer (tv 7)]) (.int .i64 ((2 : Nat) : Int))).run Tryz.prog w' = .ok (.pointer (some ad)) w' := fun w' => by kernel_rfl
          clear hT hTn hnew
          go_wp2_with (first | (refine wpList_index rfl (.tmp 9) (.tmp 10) 97 rfl (hix _) ?_) | (refine wp_int _ rfl _ _ rfl w (by assumption) _ _ _ _ rfl (by assumption) (by omega) _ rfl ?_; intro avl capl wl ql pl))
          go_roundw
          case rel => exact ⟨2 + 1, by omega, rfl, pl, avl, capl, by rw [HN.out, List.length_append, HS.out.2.1]; rfl, by rw [HN.out, List.length_append, HS.out.2.1, List.map_append, HS.out.2.2.1]; exact ql⟩
          case measure => simp [intOf]
      | 3, _ =>
        cases hv : tv 3 with
        | none =>
          rw [hv] at hT
          have hTn : (σ.txns.getD 3 none).isSome = false := hT.symm
          rw [hv] at e3
          have hnew : liveTo σ (3 + 1) = liveTo σ 3 := by rw [HS.out.1, hTn]; simp
          have HN := Lib.hid hnew
          have hix : ∀ w', (Instr.index 97 (.agg #[.pointer (tv 0), .pointer (tv 1), .pointer (tv 2), .pointer none, .pointer (tv 4), .pointer (tv 5), .pointer (tv 6), .pointer (tv 7)]) (.int .i64 ((3 : Nat) : Int))).run Tryz.prog w' = .ok (.pointer none) w' := fun w' => by kernel_rfl
          have HO := Lib.hid (And.intro hown hb)
          clear hT hTn hnew hown hb
          go_wp2_with (refine wpList_index rfl (.tmp 9) (.tmp 10) 97 rfl (hix _) ?_)
          go_roundw
          case rel => exact ⟨3 + 1, by omega, rfl, HO.out.2, av, cap, by rw [HN.out, HS.out.2.1], by rw [HN.out, HS.out.2.1, HS.out.2.2.1]; exact HO.out.1⟩
          case measure => simp [intOf]
        | some ad =>
          rw [hv] at hT
          have hTn : (σ.txns.getD 3 none).isSome = true := hT.symm
          rw [hv] at e3
          have hnew : liveTo σ (3 + 1) = liveTo σ 3 ++ [3] := by rw [HS.out.1, hTn]; simp
          have HN := Lib.hid hnew
          have hix : ∀ w', (Instr.index 97 (.agg #[.pointer (tv 0), .pointer (tv 1), .pointer (tv 2), .pointer (some ad), .pointer (tv 4), .pointer (tv 5), .pointer (tv 6), .pointer (tv 7)]) (.int .i64 ((3 : Nat) : Int))).run Tryz.prog w' = .ok (.pointer (some ad)) w' := fun w' => by kernel_rfl
          clear hT hTn hnew
          go_wp2_with (first | (refine wpList_index rfl (.tmp 9) (.tmp 10) 97 rfl (hix _) ?_) | (refine wp_int _ rfl _ _ rfl w (by assumption) _ _ _ _ rfl (by assumption) (by omega) _ rfl ?_; intro avl capl wl ql pl))
          go_roundw
          case rel => exact ⟨3 + 1, by omega, rfl, pl, avl, capl, by rw [HN.out, List.length_append, HS.out.2.1]; rfl, by rw [HN.out, List.length_append, HS.out.2.1, List.map_append, HS.out.2.2.1]; exact ql⟩
          case measure => simp [intOf]
      | 4, _ =>
        cases hv : tv 4 with
        | none =>
          rw [hv] at hT
          have hTn : (σ.txns.getD 4 none).isSome = false := hT.symm
          rw [hv] at e4
          have hnew : liveTo σ (4 + 1) = liveTo σ 4 := by rw [HS.out.1, hTn]; simp
          have HN := Lib.hid hnew
          have hix : ∀ w', (Instr.index 97 (.agg #[.pointer (tv 0), .pointer (tv 1), .pointer (tv 2), .pointer (tv 3), .pointer none, .pointer (tv 5), .pointer (tv 6), .pointer (tv 7)]) (.int .i64 ((4 : Nat) : Int))).run Tryz.prog w' = .ok (.pointer none) w' := fun w' => by kernel_rfl
          have HO := Lib.hid (And.intro hown hb)
          clear hT hTn hnew hown hb
          go_wp2_with (refine wpList_index rfl (.tmp 9) (.tmp 10) 97 rfl (hix _) ?_)
          go_roundw
          case rel => exact ⟨4 + 1, by omega, rfl, HO.out.2, av, cap, by rw [HN.out, HS.out.2.1], by rw [HN.out, HS.out.2.1, HS.out.2.2.1]; exact HO.out.1⟩
          case measure => simp [intOf]
        | some ad =>
          rw [hv] at hT
          have hTn : (σ.txns.getD 4 none).isSome = true := hT.symm
          rw [hv] at e4
          have hnew : liveTo σ (4 + 1) = liveTo σ 4 ++ [4] := by rw [HS.out.1, hTn]; simp
          have HN := Lib.hid hnew
          have hix : ∀ w', (Instr.index 97 (.agg #[.pointer (tv 0), .pointer (tv 1), .pointer (tv 2), .pointer (tv 3), .pointer (some ad), .pointer (tv 5), .pointer (tv 6), .pointer (tv 7)]) (.int .i64 ((4 : Nat) : Int))).run Tryz.prog w' = .ok (.pointer (some ad)) w' := fun w' => by kernel_rfl
          clear hT hTn hnew
          go_wp2_with (first | (refine wpList_index rfl (.tmp 9) (.tmp 10) 97 rfl (hix _) ?_) | (refine wp_int _ rfl _ _ rfl w (by assumption) _ _ _ _ rfl (by assumption) (by omega) _ rfl ?_; intro avl capl wl ql pl))
          go_roundw
          case rel => exact ⟨4 + 1, by omega, rfl, pl, avl, capl, by rw [HN.out, List.length_append, HS.out.2.1]; rfl, by rw [HN.out, List.length_append, HS.out.2.1, List.map_append, HS.out.2.2.1]; exact ql⟩
          case measure => simp [intOf]
      | 5, _ =>
        cases hv : tv 5 with
        | none =>
          rw [hv] at hT
          have hTn : (σ.txns.getD 5 none).isSome = false := hT.symm
          rw [hv] at e5
          have hnew : liveTo σ (5 + 1) = liveTo σ 5 := by rw [HS.out.1, hTn]; simp
          have HN := Lib.hid hnew
          have hix : ∀ w', (Instr.index 97 (.agg #[.pointer (tv 0), .pointer (tv 1), .pointer (tv 2), .pointer (tv 3), .pointer (tv 4), .pointer none, .pointer (tv 6), .pointer (tv 7)]) (.int .i64 ((5 : Nat) : Int))).run Tryz.prog w' = .ok (.pointer none) w' := fun w' => by kernel_rfl
          have HO := Lib.hid (And.intro hown hb)
          clear hT hTn hnew hown hb
          go_wp2_with (refine wpList_index rfl (.tmp 9) (.tmp 10) 97 rfl (hix _) ?_)
          go_roundw
          case rel => exact ⟨5 + 1, by omega, rfl, HO.out.2, av, cap, by rw [HN.out, HS.out.2.1], by rw [HN.out, HS.out.2.1, HS.out.2.2.1]; exact HO.out.1⟩
          case measure => simp [intOf]
        | some ad =>
          rw [hv] at hT
          have hTn : (σ.txns.getD 5 none).isSome = true := hT.symm
          rw [hv] at e5
          have hnew : liveTo σ (5 + 1) = liveTo σ 5 ++ [5] := by rw [HS.out.1, hTn]; simp
          have HN := Lib.hid hnew
          have hix : ∀ w', (Instr.index 97 (.agg #[.pointer (tv 0), .pointer (tv 1), .pointer (tv 2), .pointer (tv 3), .pointer (tv 4), .pointer (some ad), .pointer (tv 6), .pointer (tv 7)]) (.int .i64 ((5 : Nat) : Int))).run Tryz.prog w' = .ok (.pointer (some ad)) w' := fun w' => by kernel_rfl
          clear hT hTn hnew
          go_wp2_with (first | (refine wpList_index rfl (.tmp 9) (.tmp 10) 97 rfl (hix _) ?_) | (refine wp_int _ rfl _ _ rfl w (by assumption) _ _ _ _ rfl (by assumption) (by omega) _ rfl ?_; intro avl capl wl ql pl))
          go_roundw
          case rel => exact ⟨5 + 1, by omega, rfl, pl, avl, capl, by rw [HN.out, List.length_append, HS.out.2.1]; rfl, by rw [HN.out, List.length_append, HS.out.2.1, List.map_append, HS.out.2.2.1]; exact ql⟩
          case measure => simp [intOf]
      | 6, _ =>
        cases hv : tv 6 with
        | none =>
          rw [hv] at hT
          have hTn : (σ.txns.getD 6 none).isSome = false := hT.symm
          rw [hv] at e6
          have hnew : liveTo σ (6 + 1) = liveTo σ 6 := by rw [HS.out.1, hTn]; simp
          have HN := Lib.hid hnew
          have hix : ∀ w', (Instr.index 97 (.agg #[.pointer (tv 0), .pointer (tv 1), .pointer (tv 2), .pointer (tv 3), .pointer (tv 4), .pointer (tv 5), .pointer none, .pointer (tv 7)]) (.int .i64 ((6 : Nat) : Int))).run Tryz.prog w' = .ok (.pointer none) w' := fun w' => by kernel_rfl
          have HO := Lib.hid (And.intro hown hb)
          clear hT hTn hnew hown hb
          go_wp2_with (refine wpList_index rfl (.tmp 9) (.tmp 10) 97 rfl (hix _) ?_)
          go_roundw
          case rel => exact ⟨6 + 1, by omega, rfl, HO.out.2, av, cap, by rw [HN.out, HS.out.2.1], by rw [HN.out, HS.out.2.1, HS.out.2.2.1]; exact HO.out.1⟩
          case measure => simp [intOf]
        | some ad =>
          rw [hv] at hT
          have hTn : (σ.txns.getD 6 none).isSome = true := hT.symm
          rw [hv] at e6
          have hnew : liveTo σ (6 + 1) = liveTo σ 6 ++ [6] := by rw [HS.out.1, hTn]; simp
          have HN := Lib.hid hnew
          have hix : ∀ w', (Instr.index 97 (.agg #[.pointer (tv 0), .pointer (tv 1), .pointer (tv 2), .pointer (tv 3), .pointer (tv 4), .pointer (tv 5), .pointer (some ad), .pointer (tv 7)]) (.int .i64 ((6 : Nat) : Int))).run Tryz.prog w' = .ok (.pointer (some ad)) w' := fun w' => by kernel_rfl
          clear hT hTn hnew
          go_wp2_with (first | (refine wpList_index rfl (.tmp 9) (.tmp 10) 97 rfl (hix _) ?_) | (refine wp_int _ rfl _ _ rfl w (by assumption) _ _ _ _ rfl (by assumption) (by omega) _ rfl ?_; intro avl capl wl ql pl))
          go_roundw
          case rel => exact ⟨6 + 1, by omega, rfl, pl, avl, capl, by rw [HN.out, List.length_append, HS.out.2.1]; rfl, by rw [HN.out, List.length_append, HS.out.2.1, List.map_append, HS.out.2.2.1]; exact ql⟩
          case measure => simp [intOf]
      | 7, _ =>
        cases hv : tv 7 with
        | none =>
          rw [hv] at hT
          have hTn : (σ.txns.getD 7 none).isSome = false := hT.symm
          rw [hv] at e7
          have hnew : liveTo σ (7 + 1) = liveTo σ 7 := by rw [HS.out.1, hTn]; simp
          have HN := Lib.hid hnew
          have hix : ∀ w', (Instr.index 97 (.agg #[.pointer (tv 0), .pointer (tv 1), .pointer (tv 2), .pointer (tv 3), .pointer (tv 4), .pointer (tv 5), .pointer (tv 6), .pointer none]) (.int .i64 ((7 : Nat) : Int))).run Tryz.prog w' = .ok (.pointer none) w' := fun w' => by kernel_rfl
          have HO := Lib.hid (And.intro hown hb)
          clear hT hTn hnew hown hb
          go_wp2_with (refine wpList_index rfl (.tmp 9) (.tmp 10) 97 rfl (hix _) ?_)
          go_roundw
          case rel => exact ⟨7 + 1, by omega, rfl, HO.out.2, av, cap, by rw [HN.out, HS.out.2.1], by rw [HN.out, HS.out.2.1, HS.out.2.2.1]; exact HO.out.1⟩
          case measure => simp [intOf]
        | some ad =>
          rw [hv] at hT
          have hTn : (σ.txns.getD 7 none).isSome = true := hT.symm
          rw [hv] at e7
          have hnew : liveTo σ (7 + 1) = liveTo σ 7 ++ [7] := by rw [HS.out.1, hTn]; simp
          have HN := Lib.hid hnew
          have hix : ∀ w', (Instr.index 97 (.agg #[.pointer (tv 0), .pointer (tv 1), .pointer (tv 2), .pointer (tv 3), .pointer (tv 4), .pointer (tv 5), .pointer (tv 6), .pointer (some ad)]) (.int .i64 ((7 : Nat) : Int))).run Tryz.prog w' = .ok (.pointer (some ad)) w' := fun w' => by kernel_rfl
          clear hT hTn hnew
          go_wp2_with (first | (refine wpList_index rfl (.tmp 9) (.tmp 10) 97 rfl (hix _) ?_) | (refine wp_int _ rfl _ _ rfl w (by assumption) _ _ _ _ rfl (by assumption) (by omega) _ rfl ?_; intro avl capl wl ql pl))
          go_roundw
          case rel => exact ⟨7 + 1, by omega, rfl, pl, avl, capl, by rw [HN.out, List.length_append, HS.out.2.1]; rfl, by rw [HN.out, List.length_append, HS.out.2.1, List.map_append, HS.out.2.2.1]; exact ql⟩
          case measure => simp [intOf]
      | k + 8, h => omega
    · obtain rfl : k = 8 := by omega
      clear hlt hT hk hm0
      have HO := Lib.hid (And.intro hown hb)
      clear hown hb
      go_wp2
      go_ret
      rw [HS.out.2.1, HS.out.2.2.1]
      exact ⟨av, cap, rfl, HO.out.1, HO.out.2⟩
end Go.Proofs.YtdgombgcjeelpaaGreat.Em

namespace Go.Proofs.YtdgombgcjeelpaaGreat.Em
open Go.ChangeShapes Go.WideShapes Go.ChangeAt Go.RowKit En
set_option linter.unusedVariables false
set_option linter.unusedSimpArgs false
set_option maxRecDepth 100000
set_option maxHeartbeats 1600000

def runOne (σ : St) (s : Nat) : Option (St × Bool) :=
  if (σ.status s).live = false then some (σ, false)
  else if (σ.status s).busy = false then (match issueOk σ s ⟨6, 0, 0, 0⟩ with | some σ1 => some (σ1, false) | none => none)
  else match oneStep σ s with | some (σ', _, _) => some (σ', true) | none => none
theorem one_any {A : Book} {σ : St} {w : World} (hL : Live A σ w) (s : Nat) (hs : s < 8) (σ2 : St) (b : Bool) (hrun : runOne σ s = some (σ2, b)) :
    Calls Tryz.prog 75 #[.pointer (some ⟨A.be, 0, none⟩), .int .i64 (s : Int)] w (Said A w σ2 (.bool b)) := by
  have HSt := Lib.hid (status_any hL s hs)
  have HL2 : Hid (∀ w1, Below w.heap.size w w1 → Live A σ (w1.alloc (.cells (statusCs (σ.status s)) 38)) ∧ Grow A.L w A.L (w1.alloc (.cells (statusCs (σ.status s)) 38))) := fun w1 hb => ⟨(hL.below hb).alloc _, (Grow.below hb).trans (Grow.alloc _ _ _)⟩
  have HSTEP : Hid (∀ σ' kd r' w1, oneStep σ s = some (σ', kd, r') → Below w.heap.size w w1 → Calls Tryz.prog 19 #[.pointer (some ⟨A.be, 0, none⟩), .int .i64 (s : Int)] (w1.alloc (.cells (statusCs (σ.status s)) 38)) (Stepped A (w1.alloc (.cells (statusCs (σ.status s)) 38)) σ' (kd : Int) r')) := fun σ' kd r' w1 h hb => step_calls ((hL.below hb).alloc (.cells (statusCs (σ.status s)) 38)) hs h
  have HISS : Hid (∀ σ1 w1, issueOk σ s ⟨6, 0, 0, 0⟩ = some σ1 → Below w.heap.size w w1 → Calls Tryz.prog 17 #[.pointer (some ⟨A.be, 0, none⟩), .int .i64 (s : Int), .agg #[.int .i64 6, .int .i64 0, .int .i64 0, .int .i64 0]] (w1.alloc (.cells (statusCs (σ.status s)) 38)) (Issued A (w1.alloc (.cells (statusCs (σ.status s)) 38)) σ1 0)) := fun σ1 w1 h hb => issue_to hs h A _ ((hL.below hb).alloc (.cells (statusCs (σ.status s)) 38))
  unfold runOne at hrun
  clear hL hs
  unfold statusCs at HSt HL2 HSTEP HISS
  generalize σ.status s = x at *
  cases hlv : x.live with
  | false =>
    rw [hlv] at HSt HL2
    rw [if_pos hlv] at hrun
    simp only [Option.some.injEq, Prod.mk.injEq] at hrun
    obtain ⟨rfl, rfl⟩ := hrun
    clear hlv HSTEP HISS
    go_enter Tryz.func75, Tryz.ntmps75
    go_wp2_with (go_at_call 18; refine HSt.out.mono ?_; rintro e w1 ⟨rfl, hb⟩; have HB1 := Lib.hid hb; clear hb)
    go_ret
    obtain ⟨q1, q2⟩ := HL2.out w1 HB1.out
    exact ⟨rfl, A, q1, q2, rfl⟩
  | true =>
    rw [if_neg (by simp [hlv])] at hrun
    rw [hlv] at HSt HL2 HSTEP HISS
    clear hlv
    cases hbu : x.busy with
    | false =>
      rw [hbu] at HSt HL2 HISS
      rw [if_pos hbu] at hrun
      split at hrun
      · rename_i σ1 hi
        simp only [Option.some.injEq, Prod.mk.injEq] at hrun
        obtain ⟨rfl, rfl⟩ := hrun
        have HI := Lib.hid (fun w1 hb => HISS.out σ1 w1 hi hb)
        clear hbu HSTEP HISS hi
        go_enter Tryz.func75, Tryz.ntmps75
        go_wp2_with (first | (go_at_call 18; refine HSt.out.mono ?_; rintro e w1 ⟨rfl, hb⟩; have HB1 := Lib.hid hb; clear hb) | (go_at_call 17; refine (HI.out w1 HB1.out).mono ?_; rintro e w2 ⟨A2, rfl, q1, q2, q3⟩; have H2 := Lib.hid (And.intro q1 (And.intro q2 q3)); clear q1 q2 q3))
        go_ret
        obtain ⟨q1, q2, q3⟩ := H2.out
        exact ⟨rfl, A2, q1, (HL2.out w1 HB1.out).2.trans q2, q3⟩
      · cases hrun
    | true =>
      rw [hbu] at HSt HL2 HSTEP
      rw [if_neg (by simp [hbu])] at hrun
      split at hrun
      · rename_i σ' kd r' hstep
        simp only [Option.some.injEq, Prod.mk.injEq] at hrun
        obtain ⟨rfl, rfl⟩ := hrun
        have HST := Lib.hid (fun w1 hb => HSTEP.out σ' kd r' w1 hstep hb)
        clear hbu HSTEP HISS hstep
        go_enter Tryz.func75, Tryz.ntmps75
        go_wp2_with (first | (go_at_call 18; refine HSt.out.mono ?_; rintro e w1 ⟨rfl, hb⟩; have HB1 := Lib.hid hb; clear hb) | (go_at_call 19; refine (HST.out w1 HB1.out).mono ?_; rintro e w2 ⟨A2, vp, rfl, q1, q2, q3, q4⟩; have H2 := Lib.hid (And.intro q2 (And.intro q3 q4)); clear q1 q2 q3 q4))
        go_ret
        obtain ⟨q1, q2, q3⟩ := H2.out
        exact ⟨rfl, A2, q1, (HL2.out w1 HB1.out).2.trans q2, q3⟩
      · cases hrun
end Go.Proofs.YtdgombgcjeelpaaGreat.Em

namespace Go.Proofs.YtdgombgcjeelpaaGreat.Em
open Go.ChangeShapes Go.WideShapes Go.ChangeAt Go.RowKit En
set_option linter.unusedVariables false
set_option linter.unusedSimpArgs false
set_option maxRecDepth 100000
set_option maxHeartbeats 1600000

/-- A least number. -/
theorem least_exists {P : Nat → Prop} (h : ∃ n, P n) : ∃ n, P n ∧ ∀ m, m < n → ¬ P m := by
  obtain ⟨n, hn⟩ := h
  induction n using Nat.strongRecOn with
  | _ n ih =>
    by_cases hm : ∃ m, m < n ∧ P m
    · obtain ⟨m, h1, h2⟩ := hm
      exact ih m h1 h2
    · exact ⟨n, hn, fun m h1 h2 => hm ⟨m, h1, h2⟩⟩
open Classical in
noncomputable def leastF (P : Nat → Prop) : Nat := if h : ∃ n, P n then Classical.choose (least_exists h) else 0
theorem leastF_spec {P : Nat → Prop} (h : ∃ n, P n) : P (leastF P) := by
  unfold leastF
  rw [dif_pos h]
  exact (Classical.choose_spec (least_exists h)).1
theorem leastF_le {P : Nat → Prop} {n : Nat} (h : P n) : leastF P ≤ n := by
  have hh : ∃ n, P n := ⟨n, h⟩
  unfold leastF
  rw [dif_pos hh]
  rcases Nat.lt_or_ge n (Classical.choose (least_exists hh)) with h1 | h1
  · exact absurd h ((Classical.choose_spec (least_exists hh)).2 n h1)
  · exact h1
def rnd (z : Int) : Nat := ((z.tmod 8 + 8).tmod 8).toNat
theorem rnd_lt (z : Int) : rnd z < 8 := by unfold rnd; have h1 := Int.tmod_lt_of_pos (z.tmod 8 + 8) (show (0 : Int) < 8 by decide); omega
theorem rnd_cast (z : Int) : ((rnd z : Nat) : Int) = (z.tmod 8 + 8).tmod 8 := by
  unfold rnd
  have h0 := Int.lt_tmod_of_pos z (show (0 : Int) < 8 by decide)
  have h1 := Int.tmod_nonneg 8 (show (0 : Int) ≤ z.tmod 8 + 8 by omega)
  omega
def roundOf (os : List Int) : List Nat := os.map rnd ++ List.range 8
def runRound : List Nat → St → Nat → Option (St × Nat)
  | [], σ, n => some (σ, n)
  | s :: l, σ, n => match runOne σ s with
    | some (σ', b) => runRound l σ' (if b = true then n + 1 else n)
    | none => none
def runEnd (l : List Nat) (most : Nat) : Nat → St → Nat → Option (St × Nat × Bool)
  | 0, _, _ => none
  | f + 1, σ, n => if σ.live.length = 0 then some (σ, n, true) else match runRound l σ n with
    | some (σ', n') => if most < n' then some (σ', 0, false) else runEnd l most f σ' n'
    | none => none
theorem frow_of_ownI {L : Lab} {w : World} {base : Nat} {av : Option Addr} {m cap : Nat} {xs : List Value} (h : w.ownsRow base 3 1 (.slice av m cap) m xs) (hL : ∀ b, base ≤ b → L b = none) : FRow L w 1 (.slice av m cap) xs := by
  obtain ⟨a, c, e, h1, h2, h3⟩ := Ow.own_form h
  obtain ⟨rfl, rfl⟩ : av = a ∧ cap = c := by simpa using e
  refine ⟨av, m, cap, rfl, h.1, h1, by unfold maxLen; omega, ?_⟩
  rcases h.2 with ⟨h0, hn⟩ | ⟨g, cap', cur, hv, hb, hg, hnc, hcm, hcs, htake⟩
  · exact .inl (by first | exact h0 | omega)
  · obtain ⟨rfl, rfl⟩ : av = some ⟨g, 0, none⟩ ∧ cap = cap' := by simpa using hv
    refine .inr ⟨g, 0, rfl, hL g (h.lt g rfl).1, (h.lt g rfl).2, fun j hj => ?_⟩
    rw [Nat.zero_add]
    exact h.cellAt j hj
def mostOf (k : Nat) : Nat := (boundOf (k : Int) 256).toNat * 8
theorem most_ok (k : Nat) (hk : k ≤ 8) : IntKind.i64.wrap (boundOf (k : Int) 256 * 8) = ((mostOf k : Nat) : Int) := by
  match k, hk with
  | 0, _ | 1, _ | 2, _ | 3, _ | 4, _ | 5, _ | 6, _ | 7, _ | 8, _ => decide +kernel
  | k + 9, h => omega
theorem most_le (k : Nat) (hk : k ≤ 8) : mostOf k ≤ 200000000 := by
  match k, hk with
  | 0, _ | 1, _ | 2, _ | 3, _ | 4, _ | 5, _ | 6, _ | 7, _ | 8, _ => decide +kernel
  | k + 9, h => omega
def EndRel (A : Book) (w : World) (l : List Nat) (most : Nat) (vr : Value) (σ2 : St) (n2 : Nat) (ok : Bool) (f : Nat) (n : Nat) (wr : World) : Prop :=
  ∃ σj A', runEnd l most f σj n = some (σ2, n2, ok) ∧ n ≤ most ∧ Live A' σj wr ∧ Grow A.L w A'.L wr ∧ A'.be = A.be ∧ FRow A'.L wr 1 vr (l.map i64)
theorem end_any {A : Book} {σ : St} {w : World} (hL : Live A σ w) (os : List Int) (ao : Option Addr) (co : Nat) (hfo : FRow A.L w 1 (.slice ao os.length co) (os.map fun z => .int .i64 z)) (hol : os.length ≤ 1000) (F : Nat) (σ2 : St) (n2 : Nat) (ok : Bool) (hrun : runEnd (roundOf os) (mostOf σ.live.length) F σ 0 = some (σ2, n2, ok)) :
    Calls Tryz.prog 40 #[.pointer (some ⟨A.be, 0, none⟩), .slice ao os.length co] w fun e w' => e = .returned (.tuple #[.int .i64 (n2 : Int), .bool ok]) ∧ ∃ A', Live A' σ2 w' ∧ Grow A.L w A'.L w' ∧ A'.be = A.be := by
  have hlen : σ.live.length ≤ 8 := liveTo_le σ 8
  have HLV := Lib.hid (liveRow_any hL.rep)
  have HMO := Lib.hid (And.intro (most_ok σ.live.length hlen) (most_le σ.live.length hlen))
  have n8 := most_ok σ.live.length hlen
  have HH := Lib.hid (And.intro hL (And.intro hfo (And.intro hol hrun)))
  have hoat : ∀ k (hk : k < os.length) (wr : World), Below w.heap.size w wr → ∃ g off, ao = some ⟨g, off, none⟩ ∧ wr.cell? ⟨g, off + k, none⟩ = some (.int .i64 os[k]) := by
    intro k hk wr hb
    obtain ⟨a, n, cap, e, h1, h2, h3, h4⟩ := hfo
    simp only [Value.slice.injEq] at e
    obtain ⟨rfl, rfl, rfl⟩ := e
    rcases h4 with h4 | ⟨g, off, e1, e2, e3, e4⟩
    · omega
    · refine ⟨g, off, e1, ?_⟩
      rw [World.cell?_of_block (w := w) (a := ⟨g, off + k, none⟩) (hb.block g e3), e4 k (by omega)]
      simp [hk]
  have HO := Lib.hid hoat
  clear hoat hL hfo hrun hlen
  generalize hml : mostOf σ.live.length = most at *
  generalize σ.live.length = k8 at *
  go_enter Tryz.func40, Tryz.ntmps40
  go_wp2_with (first | (go_at_call 27; refine HLV.out.mono ?_; rintro e w1 ⟨av, cap, rfl, hr, hb⟩; have HB1 := Lib.hid hb; clear hr hb) | (go_at_call 21; refine (bound_any _ _ _).mono ?_; rintro e w' ⟨rfl, rfl⟩))
  go_loopw [7, 21] (fun l i wr => ∃ k : Nat, k ≤ os.length ∧ i = .int .i64 (k : Int) ∧ Below w.heap.size w wr ∧ ∃ av cap, l = .slice av k cap ∧ wr.ownsRow w.heap.size 3 1 l k (((os.take k).map rnd).map i64)) (fun _ i _ => os.length - (intOf i).toNat)
  case atStart => exact ⟨0, Nat.zero_le _, rfl, HB1.out, none, 0, rfl, rfl, .inl ⟨rfl, rfl⟩⟩
  case round =>
    obtain ⟨k, hk, rfl, hb, av1, cap1, rfl, hown⟩ := hrel
    by_cases hlt : k < os.length
    · obtain ⟨g, off, rfl, hc⟩ := HO.out k hlt wr hb
      have hto : os.take (k + 1) = os.take k ++ [os[k]] := by rw [List.take_succ_eq_append_getElem hlt]
      have hz := rnd_cast os[k]
      have h0 := Int.lt_tmod_of_pos os[k] (show (0 : Int) < 8 by decide)
      have h1 := Int.tmod_lt_of_pos os[k] (show (0 : Int) < 8 by decide)
      have hz2 : ((rnd os[k] : Nat) : Int) = os[k].tmod 8 % 8 := by rw [hz, Int.tmod_eq_emod_of_nonneg (by omega)]; omega
      have HT := Lib.hid (And.intro hto (And.intro hlt (And.intro hz hz2)))
      have nb : (k : Int) < (os.length : Int) := by omega
      have nb0 : (0 : Int) ≤ (k : Int) := by omega
      have n1 : IntKind.i64.wrap ((k : Int) + 1) = (k : Int) + 1 := by rw [IntKind.wrap_i64]; omega
      have hk4 : k < 4000000 := by omega
      clear hto hz hz2 hk
      generalize os[k] = z at *
      clear hlt
      have m1 : IntKind.i64.wrap (z.tmod 8 + 8) = z.tmod 8 + 8 := by rw [IntKind.wrap_i64]; omega
      go_wp2_with (refine wp_int _ rfl _ _ rfl w (by assumption) _ _ _ _ rfl (by assumption) (by omega) _ rfl ?_; intro avl capl wl ql pl)
      go_roundw
      case rel =>
        obtain ⟨hto, hlt, hz, hz2⟩ := HT.out
        refine ⟨k + 1, hlt, rfl, pl, avl, capl, rfl, ?_⟩
        rw [hto]
        first | rw [← hz] at ql | rw [← hz2] at ql
        simpa using ql
      case measure => have := HT.out.2.1; simp [intOf]; omega
    · obtain rfl : k = os.length := by omega
      rw [List.take_length] at hown
      clear hlt hk
      go_wp2
      go_loopw [7, 33] (fun l i wr => ∃ k : Nat, k ≤ 8 ∧ i = .int .i64 (k : Int) ∧ Below w.heap.size w wr ∧ ∃ av cap, l = .slice av (os.length + k) cap ∧ wr.ownsRow w.heap.size 3 1 l (os.length + k) ((os.map rnd ++ List.range k).map i64)) (fun _ i _ => 8 - (intOf i).toNat)
      case atStart => exact ⟨0, by omega, rfl, hb, av1, cap1, rfl, by simpa using hown⟩
      case round =>
        clear hown hb
        obtain ⟨k, hk, rfl, hb, av2, cap2, rfl, hown⟩ := hrel
        by_cases hlt : k < 8
        · have n1 : IntKind.i64.wrap ((k : Int) + 1) = (k : Int) + 1 := by rw [IntKind.wrap_i64]; omega
          have nb : (k : Int) < 8 := by omega
          have hk4 : os.length + k < 4000000 := by omega
          have HT := Lib.hid hlt
          clear hlt hk
          generalize hmm : os.length + k = m at *
          have HM := Lib.hid hmm
          clear hmm
          go_wp2_with (refine wp_int _ rfl _ _ rfl w (by assumption) _ _ _ _ rfl (by assumption) (by omega) _ rfl ?_; intro avl capl wl ql pl)
          go_roundw
          case rel =>
            have em : os.length + (k + 1) = m + 1 := by have := HM.out; omega
            refine ⟨k + 1, HT.out, rfl, pl, avl, capl, by rw [em], ?_⟩
            rw [em, List.range_succ, ← List.append_assoc, List.map_append]
            exact ql
          case measure => have := HT.out; simp [intOf]; omega
        · obtain rfl : k = 8 := by omega
          have h8 : ((8 : Nat) : Int) = 8 := rfl
          rw [h8]
          clear h8
          have hR0 : wr.ownsRow w.heap.size 3 1 (.slice av2 (os.length + 8) cap2) (os.length + 8) ((roundOf os).map i64) := hown
          obtain ⟨g2, hg2⟩ : ∃ g2, av2 = some ⟨g2, 0, none⟩ := by
            rcases hR0.2 with ⟨h0, hn⟩ | ⟨g, cap', cur, hv, _⟩
            · omega
            · simp only [Value.slice.injEq] at hv
              exact ⟨g, hv.1⟩
          have hfr := frow_of_ownI hR0 HH.out.1.rep.mem.fresh
          obtain ⟨l, hl⟩ : ∃ l, l = roundOf os := ⟨_, rfl⟩
          have hll : l.length = os.length + 8 := by rw [hl]; unfold roundOf; simp
          have hl8 : ∀ s ∈ l, s < 8 := by
            intro s hs
            rw [hl] at hs
            unfold roundOf at hs
            rcases List.mem_append.1 hs with hs | hs
            · obtain ⟨z, _, rfl⟩ := List.mem_map.1 hs
              exact rnd_lt z
            · exact List.mem_range.1 hs
          obtain ⟨hLive, _, hol, hrun⟩ := HH.out
          rw [← hl] at hfr hrun
          have hE : EndRel A w l most (.slice av2 l.length cap2) σ2 n2 ok F 0 wr := ⟨σ, A, hrun, Nat.zero_le _, hLive.below hb, Grow.below hb, rfl, by rw [hll]; exact hfr.grow (Grow.refl _ _)⟩
          rw [← hll]
          have HS := Lib.hid (And.intro hE (And.intro hl8 (show l.length ≤ 2000 by omega)))
          have HLL := Lib.hid hll
          clear hlt hk hown hb hR0 hfr hE hl8 hll hLive hrun hol hl
          subst hg2
          go_wp2
          go_loopw [11] (fun i wr => ∃ f n : Nat, i = .int .i64 (n : Int) ∧ EndRel A w l most (.slice (some ⟨g2, 0, none⟩) l.length cap2) σ2 n2 ok f n wr) (fun i wr => leastF fun f => EndRel A w l most (.slice (some ⟨g2, 0, none⟩) l.length cap2) σ2 n2 ok f (intOf i).toNat wr)
          case atStart => exact ⟨F, 0, rfl, HS.out.1⟩
          case round =>
            obtain ⟨f, n, rfl, hrel⟩ := hrel
            have hm := leastF_spec (P := fun f => EndRel A w l most (.slice (some ⟨g2, 0, none⟩) l.length cap2) σ2 n2 ok f n wr) ⟨f, hrel⟩
            clear hrel f
            obtain ⟨f0, hf0⟩ : ∃ f0, leastF (fun f => EndRel A w l most (.slice (some ⟨g2, 0, none⟩) l.length cap2) σ2 n2 ok f n wr) = f0 := ⟨_, rfl⟩
            rw [hf0] at hm
            have HF0 := Lib.hid hf0
            clear hf0
            obtain ⟨σj, A', hrun, hnm, hL, gr, eb, hfr⟩ := hm
            cases f0 with
            | zero => cases hrun
            | succ f0 =>
            unfold runEnd at hrun
            have hlv := liveRow_any hL.rep
            rw [eb] at hlv
            have HLV2 := Lib.hid hlv
            have HBW : Hid (∀ w1, Below wr.heap.size wr w1 → Live A' σj w1 ∧ Grow A.L w A'.L w1 ∧ FRow A'.L w1 1 (.slice (some ⟨g2, 0, none⟩) l.length cap2) (l.map i64)) := fun w1 hb => ⟨hL.below hb, gr.trans (Grow.below hb), hfr.grow (Grow.below hb)⟩
            have HEB := Lib.hid (And.intro eb hnm)
            clear hlv hL gr hfr eb hnm
            by_cases h0 : σj.live.length = 0
            · rw [if_pos h0] at hrun
              simp only [Option.some.injEq, Prod.mk.injEq] at hrun
              obtain ⟨rfl, rfl, rfl⟩ := hrun
              rw [h0] at HLV2
              clear h0
              go_wp2_with (go_at_call 27; refine HLV2.out.mono ?_; rintro e w3 ⟨av3, cap3, rfl, hr, hb⟩; have HB3 := Lib.hid hb; clear hr hb)
              go_ret2
              obtain ⟨q1, q2, _⟩ := HBW.out w3 HB3.out
              exact ⟨rfl, A', q1, q2, HEB.out.1⟩
            · rw [if_neg h0] at hrun
              have hp : 0 < σj.live.length := by omega
              generalize σj.live.length = nl at *
              have fl1 : decide ((0 : Int) < (nl : Int)) = true := by first | (simp; done) | (simp; omega)
              have fl2 : ((0 : Int) < (nl : Int)) = True := by first | (simp; done) | (simp; omega)
              have fl3 : (0 < nl) = True := by first | (simp; done) | (simp; omega)
              have fl4 : decide (0 < nl) = true := by first | (simp; done) | (simp; omega)
              clear h0 hp
              split at hrun
              · rename_i σ' n' hround
                have HRN := Lib.hid (And.intro hrun hround)
                clear hrun hround
                go_wp2_with (go_at_call 27; refine HLV2.out.mono ?_; rintro e w3 ⟨av3, cap3, rfl, hr, hb⟩; have HB3 := Lib.hid hb; clear hr hb)
                go_loopw [11, 47] (fun i q wr2 => ∃ k nk : Nat, i = .int .i64 (nk : Int) ∧ q = .int .i64 (k : Int) ∧ k ≤ l.length ∧ nk ≤ n + k ∧ ∃ σk A2, runRound (l.drop k) σk nk = some (σ', n') ∧ Live A2 σk wr2 ∧ Grow A.L w A2.L wr2 ∧ A2.be = A.be ∧ FRow A2.L wr2 1 (.slice (some ⟨g2, 0, none⟩) l.length cap2) (l.map i64)) (fun _ q _ => l.length - (intOf q).toNat)
                case atStart =>
                  obtain ⟨q1, q2, q3⟩ := HBW.out w3 HB3.out
                  exact ⟨0, n, rfl, rfl, Nat.zero_le _, by omega, σj, A', HRN.out.2, q1, q2, HEB.out.1, q3⟩
                case round =>
                  obtain ⟨k, nk, rfl, rfl, hk, hnk, σk, A2, hrr, hL2, gr2, eb2, hfr2⟩ := hrel
                  have hnm := HEB.out.2
                  have hml := HMO.out.2
                  have hll2 := HS.out.2.2
                  by_cases hlt : k < l.length
                  · have hd : l.drop k = l[k] :: l.drop (k + 1) := List.drop_eq_getElem_cons hlt
                    rw [hd] at hrr
                    unfold runRound at hrr
                    have hs8 := HS.out.2.1 l[k] (List.getElem_mem hlt)
                    have hcl := hfr2.at (j := k) (v := .int .i64 (l[k] : Int)) (by simp [hlt])
                    split at hrr
                    · rename_i σ3 b3 hone
                      have ho := one_any hL2 l[k] hs8 σ3 b3 hone
                      rw [eb2] at ho
                      have HO1 := Lib.hid ho
                      have HK := Lib.hid (And.intro hrr (And.intro hlt (And.intro hnk (And.intro gr2 (And.intro eb2 hfr2)))))
                      have nb : (k : Int) < (l.length : Int) := by omega
                      have nb0 : (0 : Int) ≤ (k : Int) := by omega
                      have n1 : IntKind.i64.wrap ((k : Int) + 1) = (k : Int) + 1 := by rw [IntKind.wrap_i64]; omega
                      have n2' : IntKind.i64.wrap ((nk : Int) + 1) = (nk : Int) + 1 := by rw [IntKind.wrap_i64]; omega
                      clear ho hone hrr hnk gr2 eb2 hfr2 hL2 hd hs8 hk hnm hml hll2
                      generalize l[k] = sk at *
                      clear hlt
                      cases b3
                      all_goals
                        go_wp2_with (go_at_call 75; refine HO1.out.mono ?_; rintro e w4 ⟨rfl, A4, q1, q2, q3⟩; have HQ := Lib.hid (And.intro q1 (And.intro q2 q3)); clear q1 q2 q3)
                        go_roundw
                        case rel =>
                          obtain ⟨hrr, hlt, hnk, gr2, eb2, hfr2⟩ := HK.out
                          obtain ⟨q1, q2, q3⟩ := HQ.out
                          first
                          | exact ⟨k + 1, nk, rfl, rfl, hlt, by omega, σ3, A4, by simpa using hrr, q1, gr2.trans q2, q3.trans eb2, hfr2.grow q2⟩
                          | exact ⟨k + 1, nk + 1, rfl, rfl, hlt, by omega, σ3, A4, by simpa using hrr, q1, gr2.trans q2, q3.trans eb2, hfr2.grow q2⟩
                        case measure => have := HK.out.2.1; simp [intOf]; omega
                    · cases hrr
                  · obtain rfl : k = l.length := by omega
                    rw [List.drop_length] at hrr
                    unfold runRound at hrr
                    simp only [Option.some.injEq, Prod.mk.injEq] at hrr
                    obtain ⟨rfl, rfl⟩ := hrr
                    have hrun := HRN.out.1
                    have HQ := Lib.hid (And.intro hL2 (And.intro gr2 (And.intro eb2 hfr2)))
                    clear hL2 gr2 eb2 hfr2 hlt hk hll2
                    by_cases hmn : most < nk
                    · rw [if_pos hmn] at hrun
                      simp only [Option.some.injEq, Prod.mk.injEq] at hrun
                      obtain ⟨rfl, rfl, rfl⟩ := hrun
                      have fm1 : decide ((most : Int) < (nk : Int)) = true := by first | (simp; done) | (simp; omega)
                      have fm2 : ((most : Int) < (nk : Int)) = True := by first | (simp; done) | (simp; omega)
                      have fm3 : (most < nk) = True := by first | (simp; done) | (simp; omega)
                      have fm4 : decide (most < nk) = true := by first | (simp; done) | (simp; omega)
                      clear hmn hnk hnm hml
                      go_wp2
                      go_ret2
                      obtain ⟨q1, q2, q3, _⟩ := HQ.out
                      exact ⟨rfl, A2, q1, q2, q3⟩
                    · rw [if_neg hmn] at hrun
                      have hnew : EndRel A w l most (.slice (some ⟨g2, 0, none⟩) l.length cap2) σ2 n2 ok f0 nk _ := ⟨σk, A2, hrun, by omega, HQ.out.1, HQ.out.2.1, HQ.out.2.2.1, HQ.out.2.2.2⟩
                      have HNEW := Lib.hid hnew
                      have fm1 : decide ((most : Int) < (nk : Int)) = false := by first | (simp; done) | (simp; omega)
                      have fm2 : ((most : Int) < (nk : Int)) = False := by first | (simp; done) | (simp; omega)
                      have fm3 : (most < nk) = False := by first | (simp; done) | (simp; omega)
                      have fm4 : decide (most < nk) = false := by first | (simp; done) | (simp; omega)
                      clear hmn hnk hnm hml hnew hrun
                      go_wp2
                      go_roundw
                      case rel => exact ⟨f0, nk, rfl, HNEW.out⟩
                      case measure => exact Nat.lt_of_le_of_lt (leastF_le HNEW.out) (Nat.lt_of_lt_of_eq (Nat.lt_succ_self f0) HF0.out.symm)
              · cases hrun
end Go.Proofs.YtdgombgcjeelpaaGreat.Em
