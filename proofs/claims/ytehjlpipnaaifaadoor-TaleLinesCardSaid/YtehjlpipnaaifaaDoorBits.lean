/- Bit operations as arithmetic. -/
import Derived.Laws.BitsAllLaws
import Derived.Laws.Bits64
import Derived.Laws.BitsLemmas
namespace Go.Proofs.YtehjlpipnaaifaaDoor.Bt
open Go

theorem emod_toNat (x : Int) (i : Nat) (hi : i ≤ 64) : (x % (2 ^ 64 : Nat)).toNat % 2 ^ i = (x % (2 ^ i : Nat)).toNat := by
  have hp : (0 : Int) < ((2 ^ i : Nat) : Int) := by exact_mod_cast Nat.two_pow_pos i
  have hd : ((2 ^ i : Nat) : Int) ∣ ((2 ^ 64 : Nat) : Int) := by exact_mod_cast Nat.pow_dvd_pow 2 hi
  have h1 : (x % ((2 ^ 64 : Nat) : Int)) % ((2 ^ i : Nat) : Int) = x % ((2 ^ i : Nat) : Int) := Int.emod_emod_of_dvd x hd
  have h0 : 0 ≤ x % ((2 ^ 64 : Nat) : Int) := Int.emod_nonneg _ (by decide)
  rw [← h1]
  generalize x % ((2 ^ 64 : Nat) : Int) = y at h0 ⊢
  obtain ⟨n, rfl⟩ := Int.eq_ofNat_of_zero_le h0
  rw [← Int.natCast_emod, Int.toNat_natCast, Int.toNat_natCast]

theorem and_mask_i64 (x : Int) (i : Nat) (hi : i ≤ 62) : bits .and .i64 x (((2 ^ i - 1 : Nat)) : Int) = x % ((2 ^ i : Nat) : Int) := by
  have hlt : 2 ^ i - 1 < 2 ^ 64 := Nat.lt_of_lt_of_le (Nat.sub_lt (Nat.two_pow_pos i) (by decide)) (Nat.pow_le_pow_right (by decide) (by omega))
  have hw : ∀ n : Nat, n < 2 ^ 62 → IntKind.i64.wrap (n : Int) = n := by
    intro n hn
    rw [IntKind.wrap_i64]
    omega
  have hm : (x % ((2 ^ i : Nat) : Int)).toNat < 2 ^ i := by
    have hp : (0 : Int) < ((2 ^ i : Nat) : Int) := by exact_mod_cast Nat.two_pow_pos i
    have := Int.emod_lt_of_pos x hp
    have := Int.emod_nonneg x (Int.ne_of_gt hp)
    omega
  show IntKind.i64.wrap (((BitVec.ofInt 64 x &&& BitVec.ofInt 64 ((2 ^ i - 1 : Nat) : Int)).toNat : Nat) : Int) = _
  rw [BitVec.ofInt_natCast, BitVec.toNat_and, BitVec.toNat_ofNat, BitVec.toNat_ofInt, Nat.mod_eq_of_lt hlt]
  rw [Nat.and_two_pow_sub_one_eq_mod, emod_toNat x i (by omega)]
  rw [hw _ (Nat.lt_of_lt_of_le hm (Nat.pow_le_pow_right (by decide) hi))]
  have hp : (0 : Int) < ((2 ^ i : Nat) : Int) := by exact_mod_cast Nat.two_pow_pos i
  have := Int.emod_nonneg x (Int.ne_of_gt hp)
  omega

theorem i64_and3 (x : Int) : bits .and .i64 x 3 = x % 4 := and_mask_i64 x 2 (by omega)
theorem i64_and7 (x : Int) : bits .and .i64 x 7 = x % 8 := and_mask_i64 x 3 (by omega)
theorem i64_and15 (x : Int) : bits .and .i64 x 15 = x % 16 := and_mask_i64 x 4 (by omega)
theorem i64_and31 (x : Int) : bits .and .i64 x 31 = x % 32 := and_mask_i64 x 5 (by omega)
theorem i64_and63 (x : Int) : bits .and .i64 x 63 = x % 64 := and_mask_i64 x 6 (by omega)
theorem i64_and255 (x : Int) : bits .and .i64 x 255 = x % 256 := and_mask_i64 x 8 (by omega)
theorem i64_and511 (x : Int) : bits .and .i64 x 511 = x % 512 := and_mask_i64 x 9 (by omega)
theorem i64_and1023 (x : Int) : bits .and .i64 x 1023 = x % 1024 := and_mask_i64 x 10 (by omega)
theorem i64_and4095 (x : Int) : bits .and .i64 x 4095 = x % 4096 := and_mask_i64 x 12 (by omega)
theorem i64_and65535 (x : Int) : bits .and .i64 x 65535 = x % 65536 := and_mask_i64 x 16 (by omega)
theorem i64_and16777215 (x : Int) : bits .and .i64 x 16777215 = x % 16777216 := and_mask_i64 x 24 (by omega)

theorem and_mask_u64 (x : Int) (i : Nat) (hi : i ≤ 63) : bits .and .u64 x (((2 ^ i - 1 : Nat)) : Int) = x % ((2 ^ i : Nat) : Int) := by
  have hlt : 2 ^ i - 1 < 2 ^ 64 := Nat.lt_of_lt_of_le (Nat.sub_lt (Nat.two_pow_pos i) (by decide)) (Nat.pow_le_pow_right (by decide) (by omega))
  have hw : ∀ n : Nat, n < 2 ^ 63 → IntKind.u64.wrap (n : Int) = n := by
    intro n hn
    rw [IntKind.wrap_u64]
    omega
  have hp : (0 : Int) < ((2 ^ i : Nat) : Int) := by exact_mod_cast Nat.two_pow_pos i
  have h0 := Int.emod_nonneg x (Int.ne_of_gt hp)
  have hm : (x % ((2 ^ i : Nat) : Int)).toNat < 2 ^ i := by
    have := Int.emod_lt_of_pos x hp
    omega
  show IntKind.u64.wrap (((BitVec.ofInt 64 x &&& BitVec.ofInt 64 ((2 ^ i - 1 : Nat) : Int)).toNat : Nat) : Int) = _
  rw [BitVec.ofInt_natCast, BitVec.toNat_and, BitVec.toNat_ofNat, BitVec.toNat_ofInt, Nat.mod_eq_of_lt hlt]
  rw [Nat.and_two_pow_sub_one_eq_mod, emod_toNat x i (by omega)]
  rw [hw _ (Nat.lt_of_lt_of_le hm (Nat.pow_le_pow_right (by decide) hi))]
  omega

theorem u64_and7 (x : Int) : bits .and .u64 x 7 = x % 8 := and_mask_u64 x 3 (by omega)
theorem u64_and255 (x : Int) : bits .and .u64 x 255 = x % 256 := and_mask_u64 x 8 (by omega)
theorem u64_and65535 (x : Int) : bits .and .u64 x 65535 = x % 65536 := and_mask_u64 x 16 (by omega)
theorem u64_and131071 (x : Int) : bits .and .u64 x 131071 = x % 131072 := and_mask_u64 x 17 (by omega)
theorem u64_and40 (x : Int) : bits .and .u64 x 1099511627775 = x % 1099511627776 := and_mask_u64 x 40 (by omega)

theorem nat_bit40 (n : Nat) : n &&& 1099511627776 = n / 1099511627776 % 2 * 1099511627776 := nat_bit 40 n

/-- The mark's bit. -/
theorem u64_andBit40 (x : Int) (h0 : 0 ≤ x) (h1 : x < 18446744073709551616) : bits .and .u64 x 1099511627776 = x / 1099511627776 % 2 * 1099511627776 := by
  rw [u64_and x 1099511627776 h0 h1 (by decide) (by decide)]
  show ((x.toNat &&& 1099511627776 : Nat) : Int) = _
  rw [nat_bit40]
  omega

theorem nat_or_bit40 (n : Nat) : n ||| 1099511627776 = n + (1 - n / 1099511627776 % 2) * 1099511627776 := by
  have h := Nat.two_pow_add_eq_or_of_lt (i := 40) (b := n % 2 ^ 40) (Nat.mod_lt _ (by decide)) (n / 2 ^ 40)
  have hn : n = 2 ^ 40 * (n / 2 ^ 40) + n % 2 ^ 40 := (Nat.div_add_mod n (2 ^ 40)).symm
  have e1 : (n ||| 1099511627776) / 2 ^ 40 = (n / 2 ^ 40) ||| 1 := by
    rw [← Nat.shiftRight_eq_div_pow, Nat.shiftRight_or_distrib, Nat.shiftRight_eq_div_pow]
    rfl
  have e2 : (n ||| 1099511627776) % 2 ^ 40 = n % 2 ^ 40 := by
    rw [Nat.or_mod_two_pow]
    simp
  have e3 : (n / 2 ^ 40) ||| 1 = n / 2 ^ 40 + (1 - n / 2 ^ 40 % 2) := by
    generalize n / 2 ^ 40 = q
    have a := Nat.div_add_mod (q ||| 1) 2
    have b : (q ||| 1) / 2 = q / 2 := by
      have := Nat.shiftRight_or_distrib (a := q) (b := 1) (i := 1)
      simpa [Nat.shiftRight_eq_div_pow] using this
    have c : (q ||| 1) % 2 = 1 := by
      have := Nat.or_mod_two_pow (a := q) (b := 1) (n := 1)
      simp at this
      rw [this]
      have hq : q % 2 = 0 ∨ q % 2 = 1 := by omega
      rcases hq with h | h <;> rw [h] <;> rfl
    omega
  have e4 := Nat.div_add_mod (n ||| 1099511627776) (2 ^ 40)
  rw [e1, e2, e3] at e4
  have hq : n / 2 ^ 40 % 2 = 0 ∨ n / 2 ^ 40 % 2 = 1 := by omega
  have : (2 : Nat) ^ 40 = 1099511627776 := by decide
  rw [this] at *
  rcases hq with h | h <;> rw [h] at e4 ⊢ <;> omega

/-- A word with the mark, without it. -/
def mk (x : Int) : Int := x + (1 - x / 1099511627776 % 2) * 1099511627776
def cl (x : Int) : Int := x - x / 1099511627776 % 2 * 1099511627776

theorem u64_orBit40 (x : Int) (h0 : 0 ≤ x) (h1 : x < 18446744073709551616) : bits .or .u64 x 1099511627776 = mk x := by
  rw [u64_or x 1099511627776 h0 h1 (by decide) (by decide)]
  show ((x.toNat ||| 1099511627776 : Nat) : Int) = _
  rw [nat_or_bit40]
  unfold mk
  omega

theorem u64_andNotBit40 (x : Int) (h0 : 0 ≤ x) (h1 : x < 18446744073709551616) : bits .andNot .u64 x 1099511627776 = cl x := by
  rw [u64_andNot x 1099511627776 h0 h1 (by decide) (by decide)]
  show ((x.toNat &&& (18446744073709551615 - 1099511627776) : Nat) : Int) = _
  have key : ∀ n : Nat, n < 18446744073709551616 → n &&& (18446744073709551615 - 1099511627776) = n - n / 1099511627776 % 2 * 1099511627776 := by
    intro n hn
    have a : n &&& 18446744073709551615 = n := by
      have := Nat.and_two_pow_sub_one_eq_mod n 64
      rw [show (2 ^ 64 - 1 : Nat) = 18446744073709551615 from by decide] at this
      rw [this]; exact Nat.mod_eq_of_lt hn
    have b : (18446744073709551615 : Nat) = (18446744073709551615 - 1099511627776) ||| 1099511627776 := by decide
    have c : n = (n &&& (18446744073709551615 - 1099511627776)) ||| (n &&& 1099511627776) := by
      rw [← Nat.and_or_distrib_left, ← b, a]
    rw [nat_bit40] at c
    have d : (n &&& (18446744073709551615 - 1099511627776)) / 1099511627776 % 2 = 0 := by
      have : (n &&& (18446744073709551615 - 1099511627776)) &&& 1099511627776 = 0 := by
        rw [Nat.and_assoc]
        rw [show ((18446744073709551615 - 1099511627776) &&& 1099511627776 : Nat) = 0 from by decide]
        simp
      rw [nat_bit40] at this
      omega
    have hq : n / 1099511627776 % 2 = 0 ∨ n / 1099511627776 % 2 = 1 := by omega
    rcases hq with h | h
    · rw [h] at c ⊢; simp at c ⊢; exact c.symm
    · rw [h] at c ⊢
      rw [show (1 * 1099511627776 : Nat) = 1099511627776 from rfl, nat_or_bit40, d] at c
      omega
  rw [key _ (by omega)]
  unfold cl
  omega

/-- A link: tag and slot side by side. -/
theorem u64_link (t s : Int) (h0 : 0 ≤ t) (h1 : t ≤ 65535) (h2 : 0 ≤ s) (h3 : s ≤ 65536) : bits .or .u64 (t * 131072) s = t * 131072 + s := by
  obtain ⟨a, rfl⟩ := Int.eq_ofNat_of_zero_le h0
  obtain ⟨b, rfl⟩ := Int.eq_ofNat_of_zero_le h2
  rw [u64_or _ _ (by omega) (by omega) (by omega) (by omega)]
  rw [show ((a : Int) * 131072).toNat = 2 ^ 17 * a from by omega, show ((b : Int)).toNat = b from by omega]
  rw [← Nat.two_pow_add_eq_or_of_lt (i := 17) (b := b) (by omega) a]
  omega

theorem mk_bd (x : Int) (h0 : 0 ≤ x) (h1 : x < 18446744073709551616) : 0 ≤ mk x ∧ mk x < 18446744073709551616 := by unfold mk; omega
theorem cl_bd (x : Int) (h0 : 0 ≤ x) (h1 : x < 18446744073709551616) : 0 ≤ cl x ∧ cl x < 18446744073709551616 := by unfold cl; omega
theorem mk_mk (x : Int) : mk (mk x) = mk x := by unfold mk; omega
theorem cl_mk (x : Int) : cl (mk x) = cl x := by unfold mk cl; omega
theorem mk_cl (x : Int) : mk (cl x) = mk x := by unfold mk cl; omega
theorem cl_low (x : Int) (h0 : 0 ≤ x) (h1 : x < 1099511627776) : cl x = x := by unfold cl; omega
theorem mk_low (x : Int) (h0 : 0 ≤ x) (h1 : x < 1099511627776) : mk x = x + 1099511627776 := by unfold mk; omega
end Go.Proofs.YtehjlpipnaaifaaDoor.Bt
