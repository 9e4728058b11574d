/- A script cut anywhere, in plain lists; parts of rows. -/
import Derived.Test.YtplfhjahdepphaaPlanT
namespace Go.Proofs.Ytplfhjahdepphaa.Plan
open Go.ChangeShapes Go.WideShapes Go.ChangeAt Go.RowKit
set_option linter.unusedVariables false
set_option linter.unusedSimpArgs false
set_option maxRecDepth 100000

theorem V.i64 {e : En} (h : V e) : I64 e := by
  have hb := h.bytes
  obtain ⟨k, s, lv, ok, oy, oh, ov⟩ := e
  unfold V at h
  simp only at h
  intro z hz
  simp at hz
  rcases hz with rfl | rfl | rfl | rfl | rfl | rfl | rfl <;> omega

theorem dec_nil (n : Nat) : dec n [] = [] := by cases n <;> rfl
theorem dec_cut (l : List En) : ∀ n K, (∀ e ∈ l, V e) → l.length ≤ n → K ≤ 5 * l.length → dec n ((bytesL l).take K) = l.take (K / 5) ++ (if K % 5 = 0 then [] else [badE]) := by
  induction l with
  | nil => intro n K _ _ hK; obtain rfl : K = 0 := by simpa using hK
           simp [dec_nil]
  | cons e l ih =>
    intro n K hv hn hK
    have hlen : (bytesL (e :: l)).length = 5 * (l.length + 1) := by rw [bytesL_length]; rfl
    cases n with
    | zero => simp at hn
    | succ n =>
      rw [List.length_cons] at hK hn
      by_cases h0 : K = 0
      · subst h0; simp [dec_nil]
      · by_cases h5 : K < 5
        · unfold dec
          rw [if_neg (by rw [List.length_take]; omega), List.drop_eq_nil_of_le (by rw [List.length_take]; omega), dec_nil]
          have hh : hdE ((bytesL (e :: l)).take K) = badE := by unfold hdE; rw [if_pos (by rw [List.length_take]; omega)]
          rw [hh, show K / 5 = 0 by omega, if_neg (by omega)]
          rfl
        · unfold dec
          rw [if_neg (by rw [List.length_take]; omega)]
          have hb : bytesL (e :: l) = bytesE e ++ bytesL l := rfl
          have h5l : (bytesE e).length = 5 := rfl
          have ht : (bytesL (e :: l)).take K = bytesE e ++ (bytesL l).take (K - 5) := by rw [hb, List.take_append, h5l, List.take_of_length_le (by omega)]
          have hd : ((bytesL (e :: l)).take K).drop 5 = (bytesL l).take (K - 5) := by rw [ht]; rfl
          have hh : hdE ((bytesL (e :: l)).take K) = e := by
            rw [ht]; unfold hdE
            rw [if_neg (by rw [List.length_append]; omega)]
            exact (hv e (List.mem_cons_self ..)).again
          rw [hd, hh, ih n (K - 5) (fun x hx => hv x (List.mem_cons_of_mem _ hx)) (by omega) (by omega)]
          rw [show K / 5 = (K - 5) / 5 + 1 by omega, show (K - 5) % 5 = K % 5 by omega]
          rfl

theorem row_take {w : World} {b s n k c : Nat} {a : Option Addr} {xs : List Value} (h : Ow.Row w b s (.slice a n c) xs) (hk : k ≤ n) : Ow.Row w b s (.slice a k c) (xs.take (k * s)) := by
  obtain ⟨a', n', c', he, hl, hnc, hcm, hcell⟩ := h
  simp only [Value.slice.injEq] at he
  obtain ⟨rfl, rfl, rfl⟩ := he
  have hks : k * s ≤ n * s := Nat.mul_le_mul_right s hk
  refine ⟨a, k, c, rfl, by rw [List.length_take, hl]; omega, by omega, hcm, ?_⟩
  by_cases h0 : k = 0
  · exact .inl h0
  · rcases hcell with h1 | ⟨g, off, h1, h2, h3, h4⟩
    · omega
    · refine .inr ⟨g, off, h1, h2, h3, fun j hj => ?_⟩
      rw [h4 j (by omega), List.getElem?_take, if_pos hj]

theorem row_drop {w : World} {b n k c g off : Nat} {xs : List Value} (h : Ow.Row w b 1 (.slice (some ⟨g, off, none⟩) n c) xs) (hk : k ≤ n) :
    Ow.Row w b 1 (.slice (if c = k then some ⟨g, off, none⟩ else some ⟨g, off + k, none⟩) (n - k) (c - k)) (xs.drop k) := by
  obtain ⟨a', n', c', he, hl, hnc, hcm, hcell⟩ := h
  simp only [Value.slice.injEq] at he
  obtain ⟨rfl, rfl, rfl⟩ := he
  refine ⟨_, n - k, c - k, rfl, by rw [List.length_drop]; omega, by omega, by omega, ?_⟩
  by_cases h0 : n - k = 0
  · exact .inl h0
  · rcases hcell with h1 | ⟨g', off', h1, h2, h3, h4⟩
    · omega
    · simp only [Option.some.injEq, Addr.mk.injEq, and_true] at h1
      obtain ⟨rfl, rfl⟩ := h1
      rw [if_neg (by omega)]
      refine .inr ⟨g, off + k, rfl, h2, h3, fun j hj => ?_⟩
      rw [Nat.add_assoc, h4 (k + j) (by omega), List.getElem?_drop]

/-- A place of a row that is not empty. -/
theorem row_some {w : World} {b s n c : Nat} {a : Option Addr} {xs : List Value} (h : Ow.Row w b s (.slice a n c) xs) (hn : 0 < n) : ∃ g off, a = some ⟨g, off, none⟩ ∧ b ≤ g ∧ g < w.heap.size ∧ ∀ j, j < n * s → w.cell? ⟨g, off + j, none⟩ = xs[j]? := by
  obtain ⟨a', n', c', he, hl, hnc, hcm, hcell⟩ := h
  simp only [Value.slice.injEq] at he
  obtain ⟨rfl, rfl, rfl⟩ := he
  rcases hcell with h1 | h1
  · omega
  · exact h1
theorem u8s_take (l : List Int) (k : Nat) : (u8s l).take k = u8s (l.take k) := by unfold u8s; rw [List.map_take]
theorem u8s_drop (l : List Int) (k : Nat) : (u8s l).drop k = u8s (l.drop k) := by unfold u8s; rw [List.map_drop]
theorem flatE_take (l : List En) : ∀ k, (flatE l).take (k * 7) = flatE (l.take k) := by
  induction l with
  | nil => intro k; simp [flatE]
  | cons e l ih =>
    intro k
    cases k with
    | zero => simp [flatE]
    | succ k =>
      show (cellsE e ++ flatE l).take ((k + 1) * 7) = cellsE e ++ flatE (l.take k)
      rw [List.take_append, List.take_of_length_le (by show 7 ≤ _; omega), ← ih k]
      show cellsE e ++ (flatE l).take ((k + 1) * 7 - 7) = _
      rw [show (k + 1) * 7 - 7 = k * 7 by omega]
theorem Bytes.take {w : World} {a : Option Addr} {n c k : Nat} {bs : List Int} (h : Bytes w a n c bs) (hk : k ≤ n) : Bytes w a k c (bs.take k) := by
  obtain ⟨h1, h2, h3, h4⟩ := h
  refine ⟨by rw [List.length_take]; omega, by omega, h3, ?_⟩
  rcases h4 with h4 | ⟨B, off, e1, e2, e3⟩
  · exact .inl (by omega)
  · refine .inr ⟨B, off, e1, e2, fun i hi => ?_⟩
    have hg : (bs.take k).getD i 0 = bs.getD i 0 := by simp [List.getD_eq_getElem?_getD, hi]
    rw [hg]
    exact e3 i (by omega)
end Go.Proofs.Ytplfhjahdepphaa.Plan
