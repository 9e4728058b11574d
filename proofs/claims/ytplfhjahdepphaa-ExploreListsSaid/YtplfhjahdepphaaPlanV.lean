/- Which entries may be: in plain numbers; no program in sight. -/
import Derived.Test.YtplfhjahdepphaaPlanS
namespace Go.Proofs.Ytplfhjahdepphaa.Plan
open Go.ChangeShapes Go.WideShapes Go.ChangeAt Go.RowKit
set_option linter.unusedVariables false
set_option linter.unusedSimpArgs false

/-- An entry that may be. -/
def V (e : En) : Prop :=
  0 ≤ e.s ∧ e.s ≤ 7 ∧
  ((e.k = 1 ∧ 1 ≤ e.lv ∧ e.lv ≤ 3 ∧ e.ok = 0 ∧ e.oy = 0 ∧ e.oh = 0 ∧ e.ov = 0) ∨
   (e.k = 2 ∧ e.lv = 0 ∧ 0 ≤ e.oy ∧ e.oy ≤ 255 ∧
     (((e.ok = 1 ∨ e.ok = 4) ∧ e.oh = 0 ∧ e.ov = 0) ∨ ((e.ok = 2 ∨ e.ok = 3) ∧ e.oh = 0 ∧ 0 ≤ e.ov ∧ e.ov ≤ 255) ∨
      (e.ok = 5 ∧ 0 ≤ e.oh ∧ e.oh ≤ 255 ∧ e.ov = 0) ∨ ((e.ok = 6 ∨ e.ok = 7) ∧ e.oy = 0 ∧ e.oh = 0 ∧ e.ov = 0))) ∨
   (e.k = 3 ∧ e.lv = 0 ∧ e.ok = 0 ∧ e.oy = 0 ∧ e.oh = 0 ∧ e.ov = 0) ∨
   (e.k = 4 ∧ e.s = 0 ∧ e.lv = 0 ∧ e.ok = 0 ∧ e.oy = 0 ∧ e.oh = 0 ∧ e.ov = 0))

/-- Its five bytes. -/
def c0 (e : En) : Int := e.k - 1
def c2 (e : En) : Int := if e.k = 2 then e.ok * 8 else e.lv
def c4 (e : En) : Int := if e.k = 2 then (if e.ok = 5 then e.oh else e.ov) else 0

theorem V.bytes {e : En} (h : V e) : 0 ≤ c0 e ∧ c0 e ≤ 3 ∧ 0 ≤ e.s ∧ e.s ≤ 7 ∧ 0 ≤ c2 e ∧ c2 e ≤ 255 ∧ 0 ≤ e.oy ∧ e.oy ≤ 255 ∧ 0 ≤ c4 e ∧ c4 e ≤ 255 ∧ 0 ≤ e.lv ∧ e.lv ≤ 255 ∧ 0 ≤ e.ok ∧ e.ok ≤ 255 := by
  obtain ⟨k, s, lv, ok, oy, oh, ov⟩ := e
  unfold V at h
  unfold c0 c2 c4
  simp only at h ⊢
  by_cases hk : k = 2
  · rw [if_pos hk, if_pos hk]
    by_cases ho : ok = 5
    · rw [if_pos ho]; omega
    · rw [if_neg ho]; omega
  · rw [if_neg hk, if_neg hk]; omega

theorem en_eq {a b : En} (h1 : a.k = b.k) (h2 : a.s = b.s) (h3 : a.lv = b.lv) (h4 : a.ok = b.ok) (h5 : a.oy = b.oy) (h6 : a.oh = b.oh) (h7 : a.ov = b.ov) : a = b := by
  cases a; cases b; simp_all

theorem V.again {e : En} (h : V e) : enE (c0 e) e.s (c2 e) e.oy (c4 e) = e := by
  obtain ⟨k, s, lv, ok, oy, oh, ov⟩ := e
  unfold V at h
  have h2 : c2 ⟨k, s, lv, ok, oy, oh, ov⟩ = if k = 2 then ok * 8 else lv := rfl
  have h4 : c4 ⟨k, s, lv, ok, oy, oh, ov⟩ = if k = 2 then (if ok = 5 then oh else ov) else 0 := rfl
  have h0 : c0 ⟨k, s, lv, ok, oy, oh, ov⟩ = k - 1 := rfl
  rw [h0]
  simp only at h ⊢
  generalize c2 ⟨k, s, lv, ok, oy, oh, ov⟩ = b2 at *
  generalize c4 ⟨k, s, lv, ok, oy, oh, ov⟩ = b4 at *
  by_cases hk : k = 2
  · rw [if_pos hk] at h2 h4
    subst h2
    have h4' : (ok = 5 ∧ b4 = oh) ∨ (ok ≠ 5 ∧ b4 = ov) := by
      by_cases ho : ok = 5
      · rw [if_pos ho] at h4; exact .inl ⟨ho, h4⟩
      · rw [if_neg ho] at h4; exact .inr ⟨ho, h4⟩
    clear h4
    unfold enE isE badE
    repeat' split
    all_goals first | (exfalso; omega) | (apply en_eq <;> simp only [] <;> omega)
  · rw [if_neg hk] at h2 h4
    subst h2 h4
    unfold enE isE badE
    repeat' split
    all_goals first | (exfalso; omega) | (apply en_eq <;> simp only [] <;> omega)

theorem en_inj {a b : En} (h : a = b) : a.k = b.k ∧ a.s = b.s ∧ a.lv = b.lv ∧ a.ok = b.ok ∧ a.oy = b.oy ∧ a.oh = b.oh ∧ a.ov = b.ov := by subst h; exact ⟨rfl, rfl, rfl, rfl, rfl, rfl, rfl⟩

/-- What five bytes tell, if it is no bad entry, may be. -/
theorem V.mk {k s lv ok oy oh ov : Int} (h : 0 ≤ s ∧ s ≤ 7 ∧
  ((k = 1 ∧ 1 ≤ lv ∧ lv ≤ 3 ∧ ok = 0 ∧ oy = 0 ∧ oh = 0 ∧ ov = 0) ∨
   (k = 2 ∧ lv = 0 ∧ 0 ≤ oy ∧ oy ≤ 255 ∧
     (((ok = 1 ∨ ok = 4) ∧ oh = 0 ∧ ov = 0) ∨ ((ok = 2 ∨ ok = 3) ∧ oh = 0 ∧ 0 ≤ ov ∧ ov ≤ 255) ∨
      (ok = 5 ∧ 0 ≤ oh ∧ oh ≤ 255 ∧ ov = 0) ∨ ((ok = 6 ∨ ok = 7) ∧ oy = 0 ∧ oh = 0 ∧ ov = 0))) ∨
   (k = 3 ∧ lv = 0 ∧ ok = 0 ∧ oy = 0 ∧ oh = 0 ∧ ov = 0) ∨
   (k = 4 ∧ s = 0 ∧ lv = 0 ∧ ok = 0 ∧ oy = 0 ∧ oh = 0 ∧ ov = 0))) : V ⟨k, s, lv, ok, oy, oh, ov⟩ := h
theorem V.told {b0 b1 b2 b3 b4 : Int} (p1 : 0 ≤ b1) (p2 : 0 ≤ b2) (q2 : b2 < 256) (p3 : 0 ≤ b3) (q3 : b3 < 256) (p4 : 0 ≤ b4) (q4 : b4 < 256) (h : (enE b0 b1 b2 b3 b4).k ≠ 5) : V (enE b0 b1 b2 b3 b4) := by
  unfold enE isE badE at h ⊢
  split at h
  · exact absurd rfl h
  · rw [if_neg (by omega)]
    split at h
    · rw [if_pos (by assumption)]
      exact V.mk ⟨p1, by omega, .inl ⟨rfl, by omega, by omega, rfl, rfl, rfl, rfl⟩⟩
    · rw [if_neg (by assumption)]
      split at h
      · rw [if_pos (by assumption)]
        split at h
        · exact absurd rfl h
        · rw [if_neg (by assumption)]
          split at h
          · rw [if_pos (by assumption)]
            exact V.mk ⟨p1, by omega, .inr (.inl ⟨rfl, rfl, p3, by omega, .inr (.inr (.inl ⟨rfl, p4, by omega, rfl⟩))⟩)⟩
          · rw [if_neg (by assumption)]
            split at h
            · rw [if_pos (by assumption)]
              exact V.mk ⟨p1, by omega, .inr (.inl ⟨rfl, rfl, p3, by omega, .inr (.inl ⟨by assumption, rfl, p4, by omega⟩)⟩)⟩
            · rw [if_neg (by assumption)]
              split at h
              · exact absurd rfl h
              · rw [if_neg (by assumption)]
                by_cases h67 : 6 ≤ b2 / 8
                · exact V.mk ⟨p1, by omega, .inr (.inl ⟨rfl, rfl, p3, by omega, .inr (.inr (.inr ⟨by omega, by omega, rfl, rfl⟩))⟩)⟩
                · exact V.mk ⟨p1, by omega, .inr (.inl ⟨rfl, rfl, p3, by omega, .inl ⟨by omega, rfl, rfl⟩⟩)⟩
      · rw [if_neg (by assumption)]
        split at h
        · rw [if_pos (by assumption)]
          by_cases h02 : b0 = 2
          · exact V.mk ⟨p1, by omega, .inr (.inr (.inl ⟨by omega, rfl, rfl, rfl, rfl, rfl⟩))⟩
          · exact V.mk ⟨p1, by omega, .inr (.inr (.inr ⟨by omega, by omega, rfl, rfl, rfl, rfl, rfl⟩))⟩
        · exact absurd rfl h

/-- The document's five bytes of an entry. -/
def r2 (e : En) : Int := if e.k = 1 then e.lv % 256 else if e.k = 2 then e.ok * 8 % 256 else 0
def r3 (e : En) : Int := if e.k = 2 then e.oy % 256 else 0
def r4 (e : En) : Int := if e.k = 2 then (if e.ok = 5 then e.oh % 256 else e.ov % 256) else 0

theorem V.ref {e : En} (h : V e) : (e.k - 1) % 256 = c0 e ∧ e.s % 256 = e.s ∧ r2 e = c2 e ∧ r3 e = e.oy ∧ r4 e = c4 e := by
  obtain ⟨k, s, lv, ok, oy, oh, ov⟩ := e
  unfold V at h
  unfold c0 c2 c4 r2 r3 r4
  simp only at h ⊢
  by_cases hk : k = 2
  · rw [if_neg (show ¬ k = 1 by omega), if_pos hk, if_pos hk, if_pos hk, if_pos hk, if_pos hk]
    by_cases ho : ok = 5
    · rw [if_pos ho, if_pos ho]; omega
    · rw [if_neg ho, if_neg ho]; omega
  · rw [if_neg hk, if_neg hk, if_neg hk, if_neg hk]
    by_cases h1 : k = 1
    · rw [if_pos h1]; omega
    · rw [if_neg h1, if_neg hk]; omega

theorem V.of_ref {e : En} (h5 : e.k ≠ 5) (h : enE ((e.k - 1) % 256) (e.s % 256) (r2 e) (r3 e) (r4 e) = e) : V e := by
  have b2 : 0 ≤ r2 e ∧ r2 e < 256 := by unfold r2; split <;> (try split) <;> omega
  have b3 : 0 ≤ r3 e ∧ r3 e < 256 := by unfold r3; split <;> omega
  have b4 : 0 ≤ r4 e ∧ r4 e < 256 := by unfold r4; split <;> (try split) <;> omega
  have := V.told (b0 := (e.k - 1) % 256) (b1 := e.s % 256) (b2 := r2 e) (b3 := r3 e) (b4 := r4 e) (by omega) b2.1 b2.2 b3.1 b3.2 b4.1 b4.2 (by rw [h]; exact h5)
  rw [h] at this
  exact this

theorem V.of_prog {e : En} (h5 : e.k ≠ 5) (hs : 0 ≤ e.s) (h2 : 0 ≤ c2 e ∧ c2 e ≤ 255) (h3 : 0 ≤ e.oy ∧ e.oy ≤ 255) (h4 : 0 ≤ c4 e ∧ c4 e ≤ 255) (h : enE (c0 e) e.s (c2 e) e.oy (c4 e) = e) : V e := by
  have := V.told (b0 := c0 e) (b1 := e.s) (b2 := c2 e) (b3 := e.oy) (b4 := c4 e) hs h2.1 (by omega) h3.1 (by omega) h4.1 (by omega) (by rw [h]; exact h5)
  rw [h] at this
  exact this
end Go.Proofs.Ytplfhjahdepphaa.Plan
