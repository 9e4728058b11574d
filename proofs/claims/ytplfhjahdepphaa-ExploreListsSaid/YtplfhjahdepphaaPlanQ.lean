/- Bytes of entries: read as text, read as bytes, decoded again. -/
import Derived.Test.YtplfhjahdepphaaPlanP
import Derived.Laws.BytesArg
namespace Go.Proofs.Ytplfhjahdepphaa.Plan
open Go.ChangeShapes Go.WideShapes Go.ChangeAt Go.RowKit
set_option linter.unusedVariables false
set_option linter.unusedSimpArgs false
set_option maxRecDepth 100000

theorem run_str {w : World} {base : Nat} {v : Value} {xs : List Int} (h : Ow.Row w base 1 v (u8s xs)) : (convert 43 9 v).run Try.prog w = .ok (.string (strOfNums xs)) w := by
  obtain ⟨a, n, cap, rfl, hn, hc, hm, ha⟩ := h
  rw [u8s_length, Nat.mul_one] at hn
  rcases ha with rfl | ⟨g, off, rfl, _, hg, hcell⟩
  · have hx : xs = [] := List.length_eq_zero_iff.1 hn
    subst hx
    cases a with
    | none => exact run_convert_bytes_nil w 43 5 Try.underlying43 Try.underlying5 0 cap 9 Try.underlying9
    | some a =>
      rw [run_convert_bytes_string w _ _ _ _ 0 cap Try.underlying43 Try.underlying5 Try.underlying9]
      rw [run_bytesToString w a 0 cap [] (by simpa using run_loadCells_list (P := Try.prog) w a [] (fun j v hj => by simp at hj))]
      rfl
  · exact run_convert_bytes_arg w 43 5 Try.underlying43 Try.underlying5 g off n cap xs hn (fun i hi => by
      rw [hcell i (by omega), u8s_get xs i (by omega)]) 9 Try.underlying9

theorem bytes_of_row {w : World} {base : Nat} {a : Option Addr} {n cap : Nat} {xs : List Int} (h : Ow.Row w base 1 (.slice a n cap) (u8s xs)) (hx : ∀ x ∈ xs, 0 ≤ x ∧ x < 256) : Bytes w a n cap xs := by
  obtain ⟨a', n', cap', he, hn, hc, hm, ha⟩ := h
  simp only [Value.slice.injEq] at he
  obtain ⟨rfl, rfl, rfl⟩ := he
  rw [u8s_length, Nat.mul_one] at hn
  unfold maxLen at hm
  refine ⟨hn, hc, hm, ?_⟩
  rcases ha with ha | ⟨g, off, rfl, _, hg, hcell⟩
  · exact .inl ha
  · refine .inr ⟨g, off, rfl, hg, fun i hi => ⟨by rw [hcell i (by omega), u8s_get xs i (by omega)], ?_⟩⟩
    rw [List.getD_eq_getElem?_getD, List.getElem?_eq_getElem (by omega)]
    have := hx _ (List.getElem_mem (l := xs) (n := i) (by omega))
    exact this

theorem bytesL_range (l : List En) (h : ∀ e ∈ l, V e) : ∀ x ∈ bytesL l, 0 ≤ x ∧ x < 256 := by
  intro x hx
  unfold bytesL at hx
  rw [List.mem_flatMap] at hx
  obtain ⟨e, he, hx⟩ := hx
  have hb := (h e he).bytes
  simp only [bytesE, List.mem_cons, List.not_mem_nil, or_false] at hx
  omega

theorem dec_bytesL (l : List En) : ∀ n, (∀ e ∈ l, V e) → l.length ≤ n → dec n (bytesL l) = l := by
  induction l with
  | nil => intro n _ _; cases n <;> rfl
  | cons e l ih =>
    intro n hv hn
    cases n with
    | zero => simp at hn
    | succ n =>
      have hve := hv e (List.mem_cons_self ..)
      have h1 := ih n (fun x hx => hv x (List.mem_cons_of_mem _ hx)) (by simp at hn; exact hn)
      unfold dec
      show (if (bytesE e ++ bytesL l).length = 0 then [] else hdE (bytesE e ++ bytesL l) :: dec n ((bytesE e ++ bytesL l).drop 5)) = _
      rw [if_neg (by rw [List.length_append]; show ¬ 5 + _ = 0; omega)]
      have hd : (bytesE e ++ bytesL l).drop 5 = bytesL l := rfl
      rw [hd, h1]
      congr 1
      unfold hdE
      rw [if_neg (by rw [List.length_append]; show ¬ 5 + _ < 5; omega)]
      exact hve.again

/-- The document's bytes of entries. -/
def rbytesE (e : En) : List Int := [(e.k - 1) % 256, e.s % 256, r2 e, r3 e, r4 e]
def rbytesL (l : List En) : List Int := l.flatMap rbytesE
theorem rbytesL_snoc (l : List En) (e : En) : rbytesL (l ++ [e]) = rbytesL l ++ rbytesE e := by
  unfold rbytesL; rw [List.flatMap_append]; simp
theorem rbytesL_v (l : List En) (h : ∀ e ∈ l, V e) : rbytesL l = bytesL l := by
  induction l with
  | nil => rfl
  | cons e l ih =>
    show rbytesE e ++ rbytesL l = bytesE e ++ bytesL l
    rw [ih fun x hx => h x (List.mem_cons_of_mem _ hx)]
    obtain ⟨h1, h2, h3, h4, h5⟩ := (h e (List.mem_cons_self ..)).ref
    unfold rbytesE bytesE
    rw [h1, h2, h3, h4, h5]

theorem row_slice {w : World} {base size : Nat} {v : Value} {xs : List Value} (h : Ow.Row w base size v xs) (hs : 0 < size) : ∃ a n cap, v = .slice a n cap ∧ xs.length = n * size := by
  obtain ⟨a, n, cap, rfl, hn, _⟩ := h
  exact ⟨a, n, cap, rfl, hn⟩
end Go.Proofs.Ytplfhjahdepphaa.Plan
