/- Entries and their bytes are one to one; a byte turned is another entry; in plain numbers. -/
import Derived.Test.YtplfhjahdepphaaPlanR
namespace Go.Proofs.Ytplfhjahdepphaa.Plan
open Go.ChangeShapes Go.WideShapes Go.ChangeAt Go.RowKit
set_option linter.unusedVariables false
set_option linter.unusedSimpArgs false
set_option maxRecDepth 100000

set_option maxHeartbeats 1000000 in
/-- What five bytes tell, tells the five bytes. -/
theorem V.back {b0 b1 b2 b3 b4 : Int} {e : En} (h : enE b0 b1 b2 b3 b4 = e) (h5 : e.k ≠ 5) : b0 = c0 e ∧ b1 = e.s ∧ b2 = c2 e ∧ b3 = e.oy ∧ b4 = c4 e := by
  unfold enE isE badE at h
  repeat' split at h
  all_goals
    subst h
    first
      | exact absurd rfl h5
      | (refine ⟨?_, ?_, ?_, ?_, ?_⟩ <;> simp only [c0, c2, c4] <;> (repeat' split) <;> first | omega | (simp_all; done) | (simp_all; omega))

theorem xor_u8 (x y : Int) (x0 : 0 ≤ x) (x1 : x < 256) (y0 : 0 ≤ y) (y1 : y < 256) : (0 ≤ bits .xor .u8 x y ∧ bits .xor .u8 x y < 256) ∧ (bits .xor .u8 x y = x ↔ y = 0) := by
  obtain ⟨m, rfl⟩ := Int.eq_ofNat_of_zero_le x0
  obtain ⟨n, rfl⟩ := Int.eq_ofNat_of_zero_le y0
  have hm : m < 2 ^ 8 := by omega
  have hn : n < 2 ^ 8 := by omega
  have hx : m ^^^ n < 2 ^ 8 := Nat.xor_lt_two_pow hm hn
  have hb : bits .xor .u8 (m : Int) (n : Int) = ((m ^^^ n : Nat) : Int) := by
    show IntKind.u8.wrap (((BitVec.ofInt 8 (m : Int) ^^^ BitVec.ofInt 8 (n : Int)).toNat : Nat) : Int) = _
    rw [BitVec.ofInt_natCast, BitVec.ofInt_natCast, BitVec.toNat_xor, BitVec.toNat_ofNat, BitVec.toNat_ofNat, Nat.mod_eq_of_lt (by omega), Nat.mod_eq_of_lt (by omega)]
    rw [IntKind.wrap_u8]
    omega
  rw [hb]
  refine ⟨⟨by omega, by omega⟩, ⟨fun h => ?_, fun h => ?_⟩⟩
  · have h1 : m ^^^ n = m := by omega
    have h2 : m ^^^ (m ^^^ n) = 0 := by rw [h1, Nat.xor_self]
    rw [← Nat.xor_assoc, Nat.xor_self, Nat.zero_xor] at h2
    omega
  · have h1 : n = 0 := by omega
    subst h1
    rw [Nat.xor_zero]

theorem V.k5 {e : En} (h : V e) : e.k ≠ 5 := by
  rcases h with ⟨_, _, h | h | h | h⟩ <;> omega

/-- The entry that five bytes in a list tell. -/
def fiveE (bs : List Int) : En := enE (bs.getD 0 0) (bs.getD 1 0) (bs.getD 2 0) (bs.getD 3 0) (bs.getD 4 0)

theorem turned (a : En) (h : V a) (i : Nat) (hi : i < 5) (y : Int) (y0 : 0 ≤ y) (y1 : y < 256) :
    (∀ x ∈ (bytesE a).set i (bits .xor .u8 ((bytesE a).getD i 0) y), 0 ≤ x ∧ x < 256) ∧
    (eqB (fiveE ((bytesE a).set i (bits .xor .u8 ((bytesE a).getD i 0) y))) a == (y == 0)) = true := by
  have hr := h.bytes
  have hx : 0 ≤ (bytesE a).getD i 0 ∧ (bytesE a).getD i 0 < 256 := by
    unfold bytesE
    match i, hi with
    | 0, _ => show 0 ≤ c0 a ∧ c0 a < 256; omega
    | 1, _ => show 0 ≤ a.s ∧ a.s < 256; omega
    | 2, _ => show 0 ≤ c2 a ∧ c2 a < 256; omega
    | 3, _ => show 0 ≤ a.oy ∧ a.oy < 256; omega
    | 4, _ => show 0 ≤ c4 a ∧ c4 a < 256; omega
  obtain ⟨hb, hq⟩ := xor_u8 _ y hx.1 hx.2 y0 y1
  generalize bits .xor .u8 ((bytesE a).getD i 0) y = v at hb hq ⊢
  refine ⟨?_, ?_⟩
  · intro x hm
    rcases List.mem_or_eq_of_mem_set hm with hm | rfl
    · simp only [bytesE, List.mem_cons, List.not_mem_nil, or_false] at hm
      omega
    · exact hb
  · rw [beq_iff_eq, Bool.eq_iff_iff, eqB_iff, beq_iff_eq]
    constructor
    · intro he
      obtain ⟨e0, e1, e2, e3, e4⟩ := V.back he h.k5
      rw [← hq]
      unfold bytesE at e0 e1 e2 e3 e4 ⊢
      match i, hi with
      | 0, _ => exact e0
      | 1, _ => exact e1
      | 2, _ => exact e2
      | 3, _ => exact e3
      | 4, _ => exact e4
    · intro hy
      have hv := hq.2 hy
      have : (bytesE a).set i v = bytesE a := by
        rw [hv]
        unfold bytesE
        match i, hi with
        | 0, _ => rfl
        | 1, _ => rfl
        | 2, _ => rfl
        | 3, _ => rfl
        | 4, _ => rfl
      rw [this]
      exact h.again

theorem strOfNums_inj {xs ys : List Int} (hx : ∀ x ∈ xs, 0 ≤ x ∧ x < 256) (hy : ∀ x ∈ ys, 0 ≤ x ∧ x < 256) (h : (strOfNums xs).toList = (strOfNums ys).toList) : xs = ys := by
  have key : ∀ (xs ys : List Int), (∀ x ∈ xs, 0 ≤ x ∧ x < 256) → (∀ x ∈ ys, 0 ≤ x ∧ x < 256) → (xs.map fun n => UInt8.ofNat n.toNat) = (ys.map fun n => UInt8.ofNat n.toNat) → xs = ys := by
    intro xs
    induction xs with
    | nil => intro ys _ _ h; cases ys with | nil => rfl | cons y ys => simp at h
    | cons x xs ih =>
      intro ys hx hy h
      cases ys with
      | nil => simp at h
      | cons y ys =>
        simp only [List.map_cons, List.cons.injEq] at h
        have h1 := hx x (List.mem_cons_self ..)
        have h2 := hy y (List.mem_cons_self ..)
        have h3 : x = y := by
          have := congrArg UInt8.toNat h.1
          simp only [UInt8.toNat_ofNat'] at this
          omega
        rw [h3, ih ys (fun z hz => hx z (List.mem_cons_of_mem _ hz)) (fun z hz => hy z (List.mem_cons_of_mem _ hz)) h.2]
  refine key xs ys hx hy ?_
  have h1 := strOfNums_data xs
  have h2 := strOfNums_data ys
  have e : ∀ b c : ByteArray, b.toList = c.toList → b.data.toList = c.data.toList := by
    intro b c hbc
    have hd : ∀ b : ByteArray, b.toList = b.data.toList := fun b => by
      first
        | exact ByteArray.toList_eq b
        | simp
    rw [← hd, ← hd, hbc]
  rw [← h1, ← h2]
  exact e _ _ h

theorem bytesE_inj {a b : En} (ha : V a) (hb : V b) (h : bytesE a = bytesE b) : a = b := by
  have h1 := ha.again
  have h2 := hb.again
  unfold bytesE at h
  simp only [List.cons.injEq, and_true] at h
  obtain ⟨e0, e1, e2, e3, e4⟩ := h
  rw [← h1, ← h2, e0, e1, e2, e3, e4]

theorem str_same (a b : En) (ha : V a) (hb : V b) : ((strOfNums (bytesL [a])).toList == (strOfNums (bytesL [b])).toList) = eqB a b := by
  have l1 : bytesL [a] = bytesE a := by unfold bytesL; simp
  have l2 : bytesL [b] = bytesE b := by unfold bytesL; simp
  rw [l1, l2, Bool.eq_iff_iff, beq_iff_eq, eqB_iff]
  constructor
  · intro h
    have r1 := bytesL_range [a] (fun e he => by simp at he; subst he; exact ha)
    have r2 := bytesL_range [b] (fun e he => by simp at he; subst he; exact hb)
    rw [l1] at r1
    rw [l2] at r2
    exact bytesE_inj ha hb (strOfNums_inj r1 r2 h)
  · rintro rfl; rfl
end Go.Proofs.Ytplfhjahdepphaa.Plan
