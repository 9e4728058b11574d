/- Rows of bytes: put behind one another, made of nothing; how many entries bytes are. -/
import Derived.Test.YtplfhjahdepphaaPlanQ
import Derived.Test.YtplfhjahdepphaaOwnR
namespace Go.Proofs.Ytplfhjahdepphaa.Plan
open Go.ChangeShapes Go.WideShapes Go.ChangeAt Go.RowKit
set_option linter.unusedVariables false
set_option linter.unusedSimpArgs false
set_option maxRecDepth 100000

theorem own_row {w : World} {base : Nat} {e : TypeId} {size : Nat} {v : Value} {n : Nat} {xs : List Value} (h : w.ownsRow base e size v n xs) : Ow.Row w base size v xs := by
  have h' := h
  rcases h.2 with ⟨h0, hn⟩ | ⟨g, cap, cur, h1, h2, h3, h4, h5, h6, h7⟩
  · subst hn; exact ⟨none, 0, 0, h0, h.1, by omega, by unfold maxLen; omega, .inl rfl⟩
  · subst h1
    refine ⟨some ⟨g, 0, none⟩, n, cap, rfl, h.1, h4, h5, .inr ⟨g, 0, rfl, h2, (Array.getElem?_eq_some_iff.1 h3).1, fun j hj => ?_⟩⟩
    rw [Nat.zero_add]
    exact h'.cellAt j hj
theorem row_weak {w : World} {base b2 size : Nat} {v : Value} {xs : List Value} (h : Ow.Row w base size v xs) (hb : b2 ≤ base) : Ow.Row w b2 size v xs := by
  obtain ⟨a, n, cap, h1, h2, h3, h4, h5⟩ := h
  refine ⟨a, n, cap, h1, h2, h3, h4, ?_⟩
  rcases h5 with h5 | ⟨g, off, e1, e2, e3, e4⟩
  · exact .inl h5
  · exact .inr ⟨g, off, e1, by omega, e3, e4⟩

/-- Bytes that lie somewhere are put behind bytes. -/
theorem append_BR {ops : Array Oper} {rest : List Oper} {o : Oper} {a : Act} {Q : Exit → Act → World → Prop} (w : World) (hgd : o.guard = none) (s x : Operand)
    (ho : o.op = .call { callee := .builtin .append, args := #[s, x], argTypes := #[43, 43] })
    (base : Nat) (v : Value) (n : Nat) (xs : List Value) (hs : a.eval s = v) (hown : w.ownsRow base 5 1 v n xs)
    (bx : Nat) (xv : Value) (news : List Int) (hx : a.eval x = xv) (hr : Ow.Row w bx 1 xv (u8s news))
    (hn : n + news.length < 1000000) (hbase : base ≤ w.heap.size)
    (h : ∀ v' w', w'.ownsRow base 5 1 v' (n + news.length) (xs ++ u8s news) → w.grownBy w' v.ownBlock → wpList Try.prog ops Q rest (a.put o.dst v') w') : wpList Try.prog ops Q (o :: rest) a w := by
  obtain ⟨i0, hi, hz0, hz1, hz2⟩ := info_parts infoB
  exact Ow.wpList_append_row w hgd s x _ ho base _ i0 _ 1 1 Try.underlying43 hi hz0 hz1 hz2 rfl (by decide) v n xs hs hown bx xv (u8s news) hx hr news.length (by rw [u8s_length]; omega) (oneCell_u8s _) (by unfold maxLen; omega) (by omega) hbase h

theorem wp_append_BR {o : Oper} {a : Act} {K : Act → World → Prop} {Q : Exit → Act → World → Prop} (w : World) (s x : Operand)
    (ho : o.op = .call { callee := .builtin .append, args := #[s, x], argTypes := #[43, 43] })
    (base : Nat) (v : Value) (n : Nat) (xs : List Value) (hs : a.eval s = v) (hown : w.ownsRow base 5 1 v n xs)
    (bx : Nat) (xv : Value) (news : List Int) (hx : a.eval x = xv) (hr : Ow.Row w bx 1 xv (u8s news))
    (hn : n + news.length < 1000000) (hbase : base ≤ w.heap.size)
    (h : ∀ v' w', w'.ownsRow base 5 1 v' (n + news.length) (xs ++ u8s news) → w.grownBy w' v.ownBlock → K (a.put o.dst v') w') : o.wp Try.prog a w K Q := by
  obtain ⟨i0, hi, hz0, hz1, hz2⟩ := info_parts infoB
  exact Ow.wp_append_row w s x _ ho base _ i0 _ 1 1 Try.underlying43 hi hz0 hz1 hz2 rfl (by decide) v n xs hs hown bx xv (u8s news) hx hr news.length (by rw [u8s_length]; omega) (oneCell_u8s _) (by unfold maxLen; omega) (by omega) hbase h

/-- A byte is put behind a full row. -/
theorem append_BF {ops : Array Oper} {rest : List Oper} {o : Oper} {a : Act} {Q : Exit → Act → World → Prop} (w : World) (hgd : o.guard = none) (s x : Operand)
    (ho : o.op = .call { callee := .builtin .append, args := #[s, x], argTypes := #[43, 43] })
    (ao : Option Addr) (n bs : Nat) (olds : List Value) (hs : a.eval s = .slice ao n n) (hr : Ow.Row w bs 1 (.slice ao n n) olds)
    (ad : Addr) (m c : Nat) (news : List Value) (hx : a.eval x = .slice (some ad) m c) (hl : news.length = m) (hc : ∀ j u, news[j]? = some u → w.cell? (ad.add j) = some u) (h1 : ∀ u ∈ news, u.oneCell' = true)
    (hm : 0 < m) (hn : n + m < 1000000)
    (hK : ∀ v' w', w'.ownsRow w.heap.size 5 1 v' (n + m) (olds ++ news) → w.grownBy w' none → wpList Try.prog ops Q rest (a.put o.dst v') w') : wpList Try.prog ops Q (o :: rest) a w := by
  obtain ⟨i0, hi, hz0, hz1, hz2⟩ := info_parts infoB
  exact Ow.wpList_append_full w hgd s x _ ho _ i0 _ 1 1 Try.underlying43 hi hz0 hz1 hz2 rfl (by decide) ao n bs olds hs hr ad m c news hx (by omega) hc h1 hm (by unfold maxLen; omega) (by omega) hK

theorem make_B (w : World) (base n : Nat) (hn : n < 1000000) (hb : base ≤ w.heap.size) :
    ∃ w', (Instr.makeSlice 43 (.int .i64 (n : Int)) (.int .i64 (n : Int))).run Try.prog w = .ok (.slice (some ⟨w.heap.size, 0, none⟩) n n) w' ∧
      w'.ownsRow base 5 1 (.slice (some ⟨w.heap.size, 0, none⟩) n n) n (u8s (List.replicate n 0)) ∧ w.grownBy w' none := by
  obtain ⟨i0, hi, hz0, hz1, hz2⟩ := info_parts infoB
  obtain ⟨w', h1, h2, h3⟩ := run_make_full (P := Try.prog) w base 43 5 i0 _ 1 Try.underlying43 hi hz0 hz1 .i64 .i64 n (by rw [hz2]; omega) (by unfold maxLen; omega) hb
  refine ⟨w', h1, ?_, h3⟩
  rw [Nat.mul_one] at h2
  have hz : (Value.int .u8 0).cells = #[.int .u8 0] := rfl
  rw [hz, toList_madeCells_one] at h2
  have : u8s (List.replicate n 0) = List.replicate n (.int .u8 0) := by unfold u8s; simp
  rw [this]
  exact h2

/-- How many entries bytes are. -/
theorem dec_len (n : Nat) : ∀ bs : List Int, (dec n bs).length = min n ((bs.length + 4) / 5) := by
  induction n with
  | zero => intro bs; show 0 = _; omega
  | succ n ih =>
    intro bs
    unfold dec
    split
    · rename_i h; rw [h]; show 0 = _; omega
    · rw [List.length_cons, ih, List.length_drop]; omega
end Go.Proofs.Ytplfhjahdepphaa.Plan
