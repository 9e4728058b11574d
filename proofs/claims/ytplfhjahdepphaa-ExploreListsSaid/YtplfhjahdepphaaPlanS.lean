/- Scripts as bytes: the entries of a list of bytes, in plain lists; no program in sight. -/
import Derived.Test.YtplfhjahdepphaaPlanA
namespace Go.Proofs.Ytplfhjahdepphaa.Plan
open Go.ChangeShapes Go.WideShapes Go.ChangeAt Go.RowKit
set_option linter.unusedVariables false
set_option linter.unusedSimpArgs false

def cellsE (e : En) : List Value := [.int .i64 e.k, .int .i64 e.s, .int .i64 e.lv, .int .i64 e.ok, .int .i64 e.oy, .int .i64 e.oh, .int .i64 e.ov]
def flatE (l : List En) : List Value := l.flatMap cellsE
theorem flatE_length (l : List En) : (flatE l).length = l.length * 7 := by
  induction l with
  | nil => rfl
  | cons e l ih =>
    show (cellsE e ++ flatE l).length = _
    rw [List.length_append, ih, List.length_cons]
    show 7 + _ = _
    omega
theorem flatE_snoc (l : List En) (e : En) : flatE (l ++ [e]) = flatE l ++ cellsE e := by
  unfold flatE; rw [List.flatMap_append]; simp

/-- The entry that bytes begin with. -/
def hdE (bs : List Int) : En := if bs.length < 5 then badE else enE (bs.getD 0 0) (bs.getD 1 0) (bs.getD 2 0) (bs.getD 3 0) (bs.getD 4 0)
/-- So many entries at most. -/
def dec : Nat → List Int → List En
  | 0, _ => []
  | n + 1, bs => if bs.length = 0 then [] else hdE bs :: dec n (bs.drop 5)

theorem dec_length (n : Nat) : ∀ bs, (dec n bs).length ≤ n := by
  induction n with
  | zero => intro bs; exact Nat.le_refl _
  | succ n ih =>
    intro bs
    unfold dec
    split
    · simp
    · have := ih (bs.drop 5); simp; omega
theorem dec_length2 (n : Nat) : ∀ bs : List Int, 5 * (dec n bs).length ≤ bs.length + 4 := by
  induction n with
  | zero => intro bs; show 5 * 0 ≤ _; omega
  | succ n ih =>
    intro bs
    unfold dec
    split
    · simp
    · have := ih (bs.drop 5); rw [List.length_drop] at this; rw [List.length_cons]; omega

/-- So far: what is told, and what is left to tell. -/
def Told (bs : List Int) (k : Nat) (acc : List En) : Prop := acc.length = k ∧ k ≤ 2000 ∧ acc ++ dec (2000 - k) (bs.drop (5 * k)) = dec 2000 bs
theorem Told.start (bs : List Int) : Told bs 0 [] := ⟨rfl, by omega, by simp⟩
theorem Told.step {bs : List Int} {k : Nat} {acc : List En} (h : Told bs k acc) (hk : k < 2000) (hr : 5 * k < bs.length) : Told bs (k + 1) (acc ++ [hdE (bs.drop (5 * k))]) := by
  obtain ⟨h1, h2, h3⟩ := h
  refine ⟨by simp [h1], by omega, ?_⟩
  rw [← h3, show 2000 - k = (2000 - (k + 1)) + 1 from by omega]
  conv => rhs; unfold dec
  rw [if_neg (by rw [List.length_drop]; omega), List.drop_drop, show 5 * k + 5 = 5 * (k + 1) from by omega]
  simp
theorem Told.full {bs : List Int} {k : Nat} {acc : List En} (h : Told bs k acc) (hk : k = 2000 ∨ bs.length ≤ 5 * k) : acc = dec 2000 bs := by
  obtain ⟨h1, h2, h3⟩ := h
  rw [← h3]
  rcases hk with hk | hk
  · subst hk; show acc = acc ++ dec 0 _; unfold dec; simp
  · have : dec (2000 - k) (bs.drop (5 * k)) = [] := by
      cases hn : 2000 - k with
      | zero => rfl
      | succ n => unfold dec; rw [if_pos (by rw [List.length_drop]; omega)]
    rw [this]; simp
theorem getD_drop (bs : List Int) (k j : Nat) : (bs.drop k).getD j 0 = bs.getD (k + j) 0 := by
  simp [List.getD_eq_getElem?_getD]
end Go.Proofs.Ytplfhjahdepphaa.Plan
