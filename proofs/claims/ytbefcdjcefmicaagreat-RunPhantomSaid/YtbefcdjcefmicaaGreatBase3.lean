/- Texts of this claim, laid together: Ar, Bits, WordA, Ef, Kr. -/
import Derived.Test.YtbefcdjcefmicaaGreatBase2
import Derived.Deep.QuietTactic
import Derived.BigQuiet
import Derived.StillTailTactics
import Derived.Lib.Hide
import Derived.Laws.BitsAllLaws
import Derived.Laws.Bits64
import Derived.Laws.BitsLemmas
import Derived.Test.YtbefcdjcefmicaaGreatProg
import Derived.WalkKit
import Derived.ProofKit
import Derived.OpenShut
import Derived.WalkLawsBesides
import Derived.WalkSpells
import Derived.Outline
namespace Go.Proofs.YtbefcdjcefmicaaGreat.Em
open Go.ChangeShapes Go.WideShapes Go.ChangeAt Go.RowKit En
set_option linter.unusedVariables false
set_option linter.unusedSimpArgs false
set_option maxRecDepth 100000
set_option maxHeartbeats 1000000

/-- It returned a value; the parts stand so; what is none of them stays. -/
def Did (A : Book) (w : World) (σ' : St) (v : Value) : Ending → World → Prop := fun e w' => e = .returned v ∧ Rep A σ' w' ∧ Grow A.L w A.L w'

theorem at_any {A : Book} {σ : St} {w : World} (h : Rep A σ w) (i : Nat) (hi : i < σ.words.length) (hc : σ.count < 4000000000000000000) :
    Calls Tryz.prog 101 #[.pointer (some ⟨A.ba, 0, none⟩), .int .i64 (i : Int)] w fun e w' => e = .returned (.pointer (some ⟨A.bw, i, none⟩)) ∧ w' = w.setCell ⟨A.ba, 1, none⟩ (.int .i64 ((σ.count : Int) + 1)) := by
  have c0 := h.arena 0 rfl
  have c1 : w.cell? ⟨A.ba, 1, none⟩ = some (.int .i64 (σ.count : Int)) := h.arena 1 rfl
  have z1 := h.arenaF 1
  generalize hn : σ.words.length = n at *
  have b1 : (i : Int) < (n : Int) := by omega
  have b2 : ¬ (n : Int) ≤ (i : Int) := by omega
  have hadd := run_call_add (P := Tryz.prog) Tryz.func157 (by kernel_rfl) (by kernel_rfl) (by kernel_rfl) .i64 (by kernel_rfl) (y := 1) (s := (σ.count : Int) + 1) c1 z1 (by simp [go_sem]; rw [IntKind.wrap_i64]; omega)
  clear h hc hn hi
  go_enter Tryz.func101, Tryz.ntmps101
  go_wp2
  go_ret
  exact ⟨rfl, rfl⟩

theorem load_any {A : Book} {σ : St} {w : World} (h : Rep A σ w) (i : Nat) (hi : i < σ.words.length) (hc : σ.count < 4000000000000000000) :
    Calls Tryz.prog 73 #[.pointer (some ⟨A.ba, 0, none⟩), .int .i64 (i : Int)] w (Did A w σ.tick (.int .u64 (σ.word i : Int))) := by
  obtain ⟨h1, g1⟩ := h.tick
  have c2 := h1.word (i := i) hi
  have hl := run_call_load (P := Tryz.prog) Tryz.func128 (by kernel_rfl) (by kernel_rfl) (by kernel_rfl) .u64 (by kernel_rfl) c2
  have hat := at_any h i hi hc
  have H := Lib.hid h1
  have G := Lib.hid g1
  clear h1 g1 h hi hc
  have e1 : σ.tick.word i = σ.word i := rfl
  rw [e1] at hl c2
  clear e1
  generalize σ.word i = x at *
  go_enter Tryz.func73, Tryz.ntmps73
  go_wp2_with (first | (go_at_call 101; refine hat.mono ?_; rintro e w' ⟨rfl, rfl⟩) | (go_at_call 90; go_in))
  go_ret
  exact ⟨rfl, H.out, G.out⟩
theorem store_any {A : Book} {σ : St} {w : World} (h : Rep A σ w) (i n : Nat) (hi : i < σ.words.length) (hc : σ.count < 4000000000000000000) :
    Calls Tryz.prog 77 #[.pointer (some ⟨A.ba, 0, none⟩), .int .i64 (i : Int), .int .u64 (n : Int)] w (Did A w (σ.put i n) (.tuple #[])) := by
  obtain ⟨h1, g1⟩ := h.tick
  obtain ⟨h2, g2⟩ := h.put i n
  have c2 := h1.word (i := i) hi
  have z2 := h1.wordF i
  have hl := run_call_store (P := Tryz.prog) Tryz.func134 (by kernel_rfl) (by kernel_rfl) (by kernel_rfl) (by kernel_rfl) (k := .u64) (y := (n : Int)) c2 z2
  have hat := at_any h i hi hc
  have H := Lib.hid h2
  have G := Lib.hid g2
  clear h1 g1 h2 g2 h hi hc
  generalize (n : Int) = y at *
  go_enter Tryz.func77, Tryz.ntmps77
  go_wp2_with (first | (go_at_call 101; refine hat.mono ?_; rintro e w' ⟨rfl, rfl⟩) | (go_at_call 103; go_in))
  go_end0
  go_wp2
  go_end0
  exact ⟨rfl, H.out, G.out⟩
theorem cas_any {A : Book} {σ : St} {w : World} (h : Rep A σ w) (i o n : Nat) (hi : i < σ.words.length) (hc : σ.count < 4000000000000000000) :
    Calls Tryz.prog 75 #[.pointer (some ⟨A.ba, 0, none⟩), .int .i64 (i : Int), .int .u64 (o : Int), .int .u64 (n : Int)] w (Did A w (σ.cas i o n) (.bool (σ.word i == o))) := by
  obtain ⟨h1, g1⟩ := h.tick
  obtain ⟨h2, g2⟩ := h.put i n
  have c2 := h1.word (i := i) hi
  have z2 := h1.wordF i
  have e1 : σ.tick.word i = σ.word i := rfl
  rw [e1] at c2
  have hat := at_any h i hi hc
  by_cases hx : σ.word i = o
  · have e2 : σ.cas i o n = σ.put i n := if_pos hx
    have e3 : (σ.word i == o) = true := by simp [hx]
    rw [e2, e3]
    rw [hx] at c2
    have hl := run_call_cas_hit (P := Tryz.prog) Tryz.func133 (by kernel_rfl) (by kernel_rfl) (by kernel_rfl) .u64 (by kernel_rfl) (y := (n : Int)) c2 z2
    have H := Lib.hid h2
    have G := Lib.hid g2
    clear h1 g1 h2 g2 h hi hc hx e1 e2 e3
    generalize (n : Int) = y at *
    generalize (o : Int) = z at *
    go_enter Tryz.func75, Tryz.ntmps75
    go_wp2_with (first | (go_at_call 101; refine hat.mono ?_; rintro e w' ⟨rfl, rfl⟩) | (go_at_call 102; go_in))
    go_ret
    exact ⟨rfl, H.out, G.out⟩
  · have e2 : σ.cas i o n = σ.tick := if_neg hx
    have e3 : (σ.word i == o) = false := by simp [hx]
    rw [e2, e3]
    have hl := run_call_cas_miss (P := Tryz.prog) Tryz.func133 (by kernel_rfl) (by kernel_rfl) (by kernel_rfl) .u64 (by kernel_rfl) (o := (o : Int)) (y := (n : Int)) c2 z2 (by omega)
    have H := Lib.hid h1
    have G := Lib.hid g1
    clear h1 g1 h2 g2 h hi hc e1 e2 e3
    generalize (n : Int) = y at *
    generalize (o : Int) = z at *
    go_enter Tryz.func75, Tryz.ntmps75
    go_wp2_with (first | (go_at_call 101; refine hat.mono ?_; rintro e w' ⟨rfl, rfl⟩) | (go_at_call 102; go_in))
    go_ret
    exact ⟨rfl, H.out, G.out⟩
theorem count_any {A : Book} {σ : St} {w : World} (h : Rep A σ w) (hc : σ.count < 4000000000000000000) :
    Calls Tryz.prog 52 #[.pointer (some ⟨A.ba, 0, none⟩)] w fun e w' => e = .returned (.int .i64 (σ.count : Int)) ∧ w = w' := by
  have c1 : w.cell? ⟨A.ba, 1, none⟩ = some (.int .i64 (σ.count : Int)) := h.arena 1 rfl
  have hl := run_call_load (P := Tryz.prog) Tryz.func127 (by kernel_rfl) (by kernel_rfl) (by kernel_rfl) .i64 (by kernel_rfl) c1
  clear h hc
  go_enter Tryz.func52, Tryz.ntmps52
  go_wp2
  go_ret
  exact ⟨rfl, rfl⟩
theorem peek_any {A : Book} {σ : St} {w : World} (h : Rep A σ w) (i : Nat) (hi : i < σ.words.length) :
    Calls Tryz.prog 60 #[.pointer (some ⟨A.ba, 0, none⟩), .int .i64 (i : Int)] w fun e w' => e = .returned (.int .u64 (σ.word i : Int)) ∧ ∃ n, w' = w.drewN n := by
  have c0 := h.arena 0 rfl
  have c2 := h.word (i := i) hi
  have hl := run_call_load (P := Tryz.prog) Tryz.func128 (by kernel_rfl) (by kernel_rfl) (by kernel_rfl) .u64 (by kernel_rfl) c2
  generalize hn : σ.words.length = n at *
  have b1 : (i : Int) < (n : Int) := by omega
  have b2 : ¬ (n : Int) ≤ (i : Int) := by omega
  clear h hn hi
  go_enter Tryz.func60, Tryz.ntmps60
  go_wp2
  go_ret
  exact ⟨rfl, 0, rfl⟩
end Go.Proofs.YtbefcdjcefmicaaGreat.Em

namespace Go.Proofs.YtbefcdjcefmicaaGreat.Bt
open Go

theorem emod_toNat (x : Int) (i : Nat) (hi : i ≤ 64) : (x % (2 ^ 64 : Nat)).toNat % 2 ^ i = (x % (2 ^ i : Nat)).toNat := by
  have hp : (0 : Int) < ((2 ^ i : Nat) : Int) := by exact_mod_cast Nat.two_pow_pos i
  have hd : ((2 ^ i : Nat) : Int) ∣ ((2 ^ 64 : Nat) : Int) := by exact_mod_cast Nat.pow_dvd_pow 2 hi
  have h1 : (x % ((2 ^ 64 : Nat) : Int)) % ((2 ^ i : Nat) : Int) = x % ((2 ^ i : Nat) : Int) := Int.emod_emod_of_dvd x hd
  have h0 : 0 ≤ x % ((2 ^ 64 : Nat) : Int) := Int.emod_nonneg _ (by decide)
  rw [← h1]
  generalize x % ((2 ^ 64 : Nat) : Int) = y at h0 ⊢
  obtain ⟨n, rfl⟩ := Int.eq_ofNat_of_zero_le h0
  rw [← Int.natCast_emod, Int.toNat_natCast, Int.toNat_natCast]

theorem and_mask_i64 (x : Int) (i : Nat) (hi : i ≤ 62) : bits .and .i64 x (((2 ^ i - 1 : Nat)) : Int) = x % ((2 ^ i : Nat) : Int) := by
  have hlt : 2 ^ i - 1 < 2 ^ 64 := Nat.lt_of_lt_of_le (Nat.sub_lt (Nat.two_pow_pos i) (by decide)) (Nat.pow_le_pow_right (by decide) (by omega))
  have hw : ∀ n : Nat, n < 2 ^ 62 → IntKind.i64.wrap (n : Int) = n := by
    intro n hn
    rw [IntKind.wrap_i64]
    omega
  have hm : (x % ((2 ^ i : Nat) : Int)).toNat < 2 ^ i := by
    have hp : (0 : Int) < ((2 ^ i : Nat) : Int) := by exact_mod_cast Nat.two_pow_pos i
    have := Int.emod_lt_of_pos x hp
    have := Int.emod_nonneg x (Int.ne_of_gt hp)
    omega
  show IntKind.i64.wrap (((BitVec.ofInt 64 x &&& BitVec.ofInt 64 ((2 ^ i - 1 : Nat) : Int)).toNat : Nat) : Int) = _
  rw [BitVec.ofInt_natCast, BitVec.toNat_and, BitVec.toNat_ofNat, BitVec.toNat_ofInt, Nat.mod_eq_of_lt hlt]
  rw [Nat.and_two_pow_sub_one_eq_mod, emod_toNat x i (by omega)]
  rw [hw _ (Nat.lt_of_lt_of_le hm (Nat.pow_le_pow_right (by decide) hi))]
  have hp : (0 : Int) < ((2 ^ i : Nat) : Int) := by exact_mod_cast Nat.two_pow_pos i
  have := Int.emod_nonneg x (Int.ne_of_gt hp)
  omega

theorem i64_and3 (x : Int) : bits .and .i64 x 3 = x % 4 := and_mask_i64 x 2 (by omega)
theorem i64_and7 (x : Int) : bits .and .i64 x 7 = x % 8 := and_mask_i64 x 3 (by omega)
theorem i64_and15 (x : Int) : bits .and .i64 x 15 = x % 16 := and_mask_i64 x 4 (by omega)
theorem i64_and31 (x : Int) : bits .and .i64 x 31 = x % 32 := and_mask_i64 x 5 (by omega)
theorem i64_and63 (x : Int) : bits .and .i64 x 63 = x % 64 := and_mask_i64 x 6 (by omega)
theorem i64_and255 (x : Int) : bits .and .i64 x 255 = x % 256 := and_mask_i64 x 8 (by omega)
theorem i64_and511 (x : Int) : bits .and .i64 x 511 = x % 512 := and_mask_i64 x 9 (by omega)
theorem i64_and1023 (x : Int) : bits .and .i64 x 1023 = x % 1024 := and_mask_i64 x 10 (by omega)
theorem i64_and4095 (x : Int) : bits .and .i64 x 4095 = x % 4096 := and_mask_i64 x 12 (by omega)
theorem i64_and65535 (x : Int) : bits .and .i64 x 65535 = x % 65536 := and_mask_i64 x 16 (by omega)
theorem i64_and16777215 (x : Int) : bits .and .i64 x 16777215 = x % 16777216 := and_mask_i64 x 24 (by omega)

theorem and_mask_u64 (x : Int) (i : Nat) (hi : i ≤ 63) : bits .and .u64 x (((2 ^ i - 1 : Nat)) : Int) = x % ((2 ^ i : Nat) : Int) := by
  have hlt : 2 ^ i - 1 < 2 ^ 64 := Nat.lt_of_lt_of_le (Nat.sub_lt (Nat.two_pow_pos i) (by decide)) (Nat.pow_le_pow_right (by decide) (by omega))
  have hw : ∀ n : Nat, n < 2 ^ 63 → IntKind.u64.wrap (n : Int) = n := by
    intro n hn
    rw [IntKind.wrap_u64]
    omega
  have hp : (0 : Int) < ((2 ^ i : Nat) : Int) := by exact_mod_cast Nat.two_pow_pos i
  have h0 := Int.emod_nonneg x (Int.ne_of_gt hp)
  have hm : (x % ((2 ^ i : Nat) : Int)).toNat < 2 ^ i := by
    have := Int.emod_lt_of_pos x hp
    omega
  show IntKind.u64.wrap (((BitVec.ofInt 64 x &&& BitVec.ofInt 64 ((2 ^ i - 1 : Nat) : Int)).toNat : Nat) : Int) = _
  rw [BitVec.ofInt_natCast, BitVec.toNat_and, BitVec.toNat_ofNat, BitVec.toNat_ofInt, Nat.mod_eq_of_lt hlt]
  rw [Nat.and_two_pow_sub_one_eq_mod, emod_toNat x i (by omega)]
  rw [hw _ (Nat.lt_of_lt_of_le hm (Nat.pow_le_pow_right (by decide) hi))]
  omega

theorem u64_and7 (x : Int) : bits .and .u64 x 7 = x % 8 := and_mask_u64 x 3 (by omega)
theorem u64_and255 (x : Int) : bits .and .u64 x 255 = x % 256 := and_mask_u64 x 8 (by omega)
theorem u64_and65535 (x : Int) : bits .and .u64 x 65535 = x % 65536 := and_mask_u64 x 16 (by omega)
theorem u64_and131071 (x : Int) : bits .and .u64 x 131071 = x % 131072 := and_mask_u64 x 17 (by omega)
theorem u64_and40 (x : Int) : bits .and .u64 x 1099511627775 = x % 1099511627776 := and_mask_u64 x 40 (by omega)

theorem nat_bit40 (n : Nat) : n &&& 1099511627776 = n / 1099511627776 % 2 * 1099511627776 := nat_bit 40 n

/-- The mark's bit. -/
theorem u64_andBit40 (x : Int) (h0 : 0 ≤ x) (h1 : x < 18446744073709551616) : bits .and .u64 x 1099511627776 = x / 1099511627776 % 2 * 1099511627776 := by
  rw [u64_and x 1099511627776 h0 h1 (by decide) (by decide)]
  show ((x.toNat &&& 1099511627776 : Nat) : Int) = _
  rw [nat_bit40]
  omega

theorem nat_or_bit40 (n : Nat) : n ||| 1099511627776 = n + (1 - n / 1099511627776 % 2) * 1099511627776 := by
  have h := Nat.two_pow_add_eq_or_of_lt (i := 40) (b := n % 2 ^ 40) (Nat.mod_lt _ (by decide)) (n / 2 ^ 40)
  have hn : n = 2 ^ 40 * (n / 2 ^ 40) + n % 2 ^ 40 := (Nat.div_add_mod n (2 ^ 40)).symm
  have e1 : (n ||| 1099511627776) / 2 ^ 40 = (n / 2 ^ 40) ||| 1 := by
    rw [← Nat.shiftRight_eq_div_pow, Nat.shiftRight_or_distrib, Nat.shiftRight_eq_div_pow]
    rfl
  have e2 : (n ||| 1099511627776) % 2 ^ 40 = n % 2 ^ 40 := by
    rw [Nat.or_mod_two_pow]
    simp
  have e3 : (n / 2 ^ 40) ||| 1 = n / 2 ^ 40 + (1 - n / 2 ^ 40 % 2) := by
    generalize n / 2 ^ 40 = q
    have a := Nat.div_add_mod (q ||| 1) 2
    have b : (q ||| 1) / 2 = q / 2 := by
      have := Nat.shiftRight_or_distrib (a := q) (b := 1) (i := 1)
      simpa [Nat.shiftRight_eq_div_pow] using this
    have c : (q ||| 1) % 2 = 1 := by
      have := Nat.or_mod_two_pow (a := q) (b := 1) (n := 1)
      simp at this
      rw [this]
      have hq : q % 2 = 0 ∨ q % 2 = 1 := by omega
      rcases hq with h | h <;> rw [h] <;> rfl
    omega
  have e4 := Nat.div_add_mod (n ||| 1099511627776) (2 ^ 40)
  rw [e1, e2, e3] at e4
  have hq : n / 2 ^ 40 % 2 = 0 ∨ n / 2 ^ 40 % 2 = 1 := by omega
  have : (2 : Nat) ^ 40 = 1099511627776 := by decide
  rw [this] at *
  rcases hq with h | h <;> rw [h] at e4 ⊢ <;> omega

/-- A word with the mark, without it. -/
def mk (x : Int) : Int := x + (1 - x / 1099511627776 % 2) * 1099511627776
def cl (x : Int) : Int := x - x / 1099511627776 % 2 * 1099511627776

theorem u64_orBit40 (x : Int) (h0 : 0 ≤ x) (h1 : x < 18446744073709551616) : bits .or .u64 x 1099511627776 = mk x := by
  rw [u64_or x 1099511627776 h0 h1 (by decide) (by decide)]
  show ((x.toNat ||| 1099511627776 : Nat) : Int) = _
  rw [nat_or_bit40]
  unfold mk
  omega

theorem u64_andNotBit40 (x : Int) (h0 : 0 ≤ x) (h1 : x < 18446744073709551616) : bits .andNot .u64 x 1099511627776 = cl x := by
  rw [u64_andNot x 1099511627776 h0 h1 (by decide) (by decide)]
  show ((x.toNat &&& (18446744073709551615 - 1099511627776) : Nat) : Int) = _
  have key : ∀ n : Nat, n < 18446744073709551616 → n &&& (18446744073709551615 - 1099511627776) = n - n / 1099511627776 % 2 * 1099511627776 := by
    intro n hn
    have a : n &&& 18446744073709551615 = n := by
      have := Nat.and_two_pow_sub_one_eq_mod n 64
      rw [show (2 ^ 64 - 1 : Nat) = 18446744073709551615 from by decide] at this
      rw [this]; exact Nat.mod_eq_of_lt hn
    have b : (18446744073709551615 : Nat) = (18446744073709551615 - 1099511627776) ||| 1099511627776 := by decide
    have c : n = (n &&& (18446744073709551615 - 1099511627776)) ||| (n &&& 1099511627776) := by
      rw [← Nat.and_or_distrib_left, ← b, a]
    rw [nat_bit40] at c
    have d : (n &&& (18446744073709551615 - 1099511627776)) / 1099511627776 % 2 = 0 := by
      have : (n &&& (18446744073709551615 - 1099511627776)) &&& 1099511627776 = 0 := by
        rw [Nat.and_assoc]
        rw [show ((18446744073709551615 - 1099511627776) &&& 1099511627776 : Nat) = 0 from by decide]
        simp
      rw [nat_bit40] at this
      omega
    have hq : n / 1099511627776 % 2 = 0 ∨ n / 1099511627776 % 2 = 1 := by omega
    rcases hq with h | h
    · rw [h] at c ⊢; simp at c ⊢; exact c.symm
    · rw [h] at c ⊢
      rw [show (1 * 1099511627776 : Nat) = 1099511627776 from rfl, nat_or_bit40, d] at c
      omega
  rw [key _ (by omega)]
  unfold cl
  omega

/-- A link: tag and slot side by side. -/
theorem u64_link (t s : Int) (h0 : 0 ≤ t) (h1 : t ≤ 65535) (h2 : 0 ≤ s) (h3 : s ≤ 65536) : bits .or .u64 (t * 131072) s = t * 131072 + s := by
  obtain ⟨a, rfl⟩ := Int.eq_ofNat_of_zero_le h0
  obtain ⟨b, rfl⟩ := Int.eq_ofNat_of_zero_le h2
  rw [u64_or _ _ (by omega) (by omega) (by omega) (by omega)]
  rw [show ((a : Int) * 131072).toNat = 2 ^ 17 * a from by omega, show ((b : Int)).toNat = b from by omega]
  rw [← Nat.two_pow_add_eq_or_of_lt (i := 17) (b := b) (by omega) a]
  omega

/-- A number with three bits behind it. -/
theorem u64_or3 (t s : Int) (h0 : 0 ≤ t) (h1 : t < 2305843009213693952) (h2 : 0 ≤ s) (h3 : s < 8) : bits .or .u64 (t * 8) s = t * 8 + s := by
  obtain ⟨a, rfl⟩ := Int.eq_ofNat_of_zero_le h0
  obtain ⟨b, rfl⟩ := Int.eq_ofNat_of_zero_le h2
  rw [u64_or _ _ (by omega) (by omega) (by omega) (by omega)]
  rw [show ((a : Int) * 8).toNat = 2 ^ 3 * a from by omega, show ((b : Int)).toNat = b from by omega]
  rw [← Nat.two_pow_add_eq_or_of_lt (i := 3) (b := b) (by omega) a]
  omega
theorem u64_or16 (t s : Int) (h0 : 0 ≤ t) (h1 : t < 281474976710656) (h2 : 0 ≤ s) (h3 : s < 65536) : bits .or .u64 (t * 65536) s = t * 65536 + s := by
  obtain ⟨a, rfl⟩ := Int.eq_ofNat_of_zero_le h0
  obtain ⟨b, rfl⟩ := Int.eq_ofNat_of_zero_le h2
  rw [u64_or _ _ (by omega) (by omega) (by omega) (by omega)]
  rw [show ((a : Int) * 65536).toNat = 2 ^ 16 * a from by omega, show ((b : Int)).toNat = b from by omega]
  rw [← Nat.two_pow_add_eq_or_of_lt (i := 16) (b := b) (by omega) a]
  omega

theorem mk_bd (x : Int) (h0 : 0 ≤ x) (h1 : x < 18446744073709551616) : 0 ≤ mk x ∧ mk x < 18446744073709551616 := by unfold mk; omega
theorem cl_bd (x : Int) (h0 : 0 ≤ x) (h1 : x < 18446744073709551616) : 0 ≤ cl x ∧ cl x < 18446744073709551616 := by unfold cl; omega
theorem mk_mk (x : Int) : mk (mk x) = mk x := by unfold mk; omega
theorem cl_mk (x : Int) : cl (mk x) = cl x := by unfold mk cl; omega
theorem mk_cl (x : Int) : mk (cl x) = mk x := by unfold mk cl; omega
theorem cl_low (x : Int) (h0 : 0 ≤ x) (h1 : x < 1099511627776) : cl x = x := by unfold cl; omega
theorem mk_low (x : Int) (h0 : 0 ≤ x) (h1 : x < 1099511627776) : mk x = x + 1099511627776 := by unfold mk; omega
end Go.Proofs.YtbefcdjcefmicaaGreat.Bt

namespace Go.Proofs.YtbefcdjcefmicaaGreat.Word
open Go.ChangeShapes Go.WideShapes Go.ChangeAt Go.RowKit

theorem forever_any (w : World) : Calls Tryz.prog 121 #[] w fun e w' => e = .returned (.int .u64 2305843009213693952) ∧ w = w' := by
  go_enter Tryz.func121, Tryz.ntmps121
  go_wp2
  go_ret
  exact ⟨rfl, rfl⟩

theorem time_yes (t : Int) (h0 : 0 ≤ t) (h1 : t ≤ 1099511627776) (w : World) : Calls Tryz.prog 183 #[.int .u64 t] w fun e w' => e = .returned (.tuple #[.int .u64 t, .bool true]) ∧ w = w' := by
  go_enter Tryz.func183, Tryz.ntmps183
  go_wp2
  go_ret2
  exact ⟨rfl, rfl⟩

theorem time_no (t : Int) (h1 : 1099511627776 < t) (w : World) : Calls Tryz.prog 183 #[.int .u64 t] w fun e w' => e = .returned (.tuple #[.int .u64 0, .bool false]) ∧ w = w' := by
  go_enter Tryz.func183, Tryz.ntmps183
  go_wp2
  go_ret2
  exact ⟨rfl, rfl⟩

theorem txn_yes (t : Int) (h0 : 1 ≤ t) (h1 : t ≤ 65535) (w : World) : Calls Tryz.prog 145 #[.int .i64 t] w fun e w' => e = .returned (.tuple #[.int .u64 (4611686018427387904 + t), .bool true]) ∧ w = w' := by
  go_enter Tryz.func145, Tryz.ntmps145
  go_wp2
  go_ret2
  exact ⟨rfl, rfl⟩

theorem txn_no (t : Int) (h : t < 1 ∨ 65535 < t) (w : World) : Calls Tryz.prog 145 #[.int .i64 t] w fun e w' => e = .returned (.tuple #[.int .u64 0, .bool false]) ∧ w = w' := by
  by_cases h1 : t < 1
  · clear h
    go_enter Tryz.func145, Tryz.ntmps145
    go_wp2
    go_ret2
    exact ⟨rfl, rfl⟩
  · have h2 : 65535 < t := by omega
    clear h
    go_enter Tryz.func145, Tryz.ntmps145
    go_wp2
    go_ret2
    exact ⟨rfl, rfl⟩

/-- What Read says of a word: its kind and its number. -/
def rdK (t : Int) : Int := if t ≤ 1099511627776 then 1 else if t = 2305843009213693952 then 3 else if 4611686018427387904 < t ∧ t ≤ 4611686018427453439 then 2 else 0
def rdN (t : Int) : Int := if t ≤ 1099511627776 then t else if 4611686018427387904 < t ∧ t ≤ 4611686018427453439 then t - 4611686018427387904 else 0

theorem read_any (t : Int) (h0 : 0 ≤ t) (hu : t < 18446744073709551616) (w : World) : Calls Tryz.prog 93 #[.int .u64 t] w fun e w' => e = .returned (.agg #[.int .i64 (rdK t), .int .u64 (rdN t)]) ∧ Below w.heap.size w w' := by
  unfold rdK rdN
  by_cases h1 : t ≤ 1099511627776
  · rw [if_pos h1, if_pos h1]
    go_enter Tryz.func93, Tryz.ntmps93
    go_wp2
    exact bodyPost_ret (v := .agg #[.int .i64 1, .int .u64 t]) (by simp [results, Tryz.results93, go_sem]) rfl ⟨rfl, (Below.refl _ _).alloc (Nat.le_refl _) _⟩
  · rw [if_neg h1, if_neg h1]
    by_cases h2 : t = 2305843009213693952
    · subst h2
      go_enter Tryz.func93, Tryz.ntmps93
      go_wp2
      exact bodyPost_ret (v := .agg #[.int .i64 3, .int .u64 0]) (by simp [results, Tryz.results93, go_sem]) rfl ⟨rfl, (Below.refl _ _).alloc (Nat.le_refl _) _⟩
    · rw [if_neg h2]
      have e2 : (t == 2305843009213693952) = false := beq_eq_false_iff_ne.2 h2
      by_cases h3 : 4611686018427387904 < t ∧ t ≤ 4611686018427453439
      · rw [if_pos h3, if_pos h3]
        obtain ⟨h3, h4⟩ := h3
        go_enter Tryz.func93, Tryz.ntmps93
        go_wp2
        exact bodyPost_ret (v := .agg #[.int .i64 2, .int .u64 (t - 4611686018427387904)]) (by simp [results, Tryz.results93, go_sem]) rfl ⟨rfl, (Below.refl _ _).alloc (Nat.le_refl _) _⟩
      · rw [if_neg h3, if_neg h3]
        by_cases h4 : 4611686018427387904 < t
        · have h5 : 4611686018427453439 < t := by omega
          clear h3
          go_enter Tryz.func93, Tryz.ntmps93
          go_wp2
          exact bodyPost_ret (v := .agg #[.int .i64 0, .int .u64 0]) (by simp [results, Tryz.results93, go_sem]) rfl ⟨rfl, (Below.refl _ _).alloc (Nat.le_refl _) _⟩
        · clear h3
          go_enter Tryz.func93, Tryz.ntmps93
          go_wp2
          exact bodyPost_ret (v := .agg #[.int .i64 0, .int .u64 0]) (by simp [results, Tryz.results93, go_sem]) rfl ⟨rfl, (Below.refl _ _).alloc (Nat.le_refl _) _⟩

theorem link_yes (s t : Int) (h0 : 0 ≤ s) (h1 : s ≤ 65535) (h2 : 0 ≤ t) (h3 : t ≤ 65535) (w : World) : Calls Tryz.prog 193 #[.int .i64 s, .int .i64 t] w fun e w' => e = .returned (.tuple #[.int .u64 (t * 131072 + (s + 1)), .bool true]) ∧ w = w' := by
  have e1 := Bt.u64_link t (s + 1) h2 h3 (by omega) (by omega)
  go_enter Tryz.func193, Tryz.ntmps193
  go_wp2
  go_ret2
  exact ⟨rfl, rfl⟩

theorem link_no (s t : Int) (h : s < 0 ∨ 65535 < s ∨ t < 0 ∨ 65535 < t) (w : World) : Calls Tryz.prog 193 #[.int .i64 s, .int .i64 t] w fun e w' => e = .returned (.tuple #[.int .u64 0, .bool false]) ∧ w = w' := by
  have hb : (decide (s < 0) || decide (65535 < s) || decide (t < 0) || decide (65535 < t)) = true := by
    simp only [Bool.or_eq_true, decide_eq_true_eq]; omega
  clear h
  by_cases h1 : s < 0
  · clear hb
    go_enter Tryz.func193, Tryz.ntmps193
    go_wp2
    go_ret2
    exact ⟨rfl, rfl⟩
  · by_cases h2 : 65535 < s
    · clear hb
      go_enter Tryz.func193, Tryz.ntmps193
      go_wp2
      go_ret2
      exact ⟨rfl, rfl⟩
    · by_cases h3 : t < 0
      · clear hb
        go_enter Tryz.func193, Tryz.ntmps193
        go_wp2
        go_ret2
        exact ⟨rfl, rfl⟩
      · have h4 : 65535 < t := by simp only [Bool.or_eq_true, decide_eq_true_eq] at hb; omega
        clear hb
        go_enter Tryz.func193, Tryz.ntmps193
        go_wp2
        go_ret2
        exact ⟨rfl, rfl⟩

theorem w64_id (x : Int) (h0 : -9223372036854775808 ≤ x) (h1 : x < 9223372036854775808) : wrap64 x = x := by
  unfold wrap64; omega

theorem ret_iib {a b a' b' : Int} {c c' : Bool} (h1 : a = a') (h2 : b = b') (h3 : c = c') : Ending.returned (.tuple #[.int .i64 a, .int .i64 b, .bool c]) = .returned (.tuple #[.int .i64 a', .int .i64 b', .bool c']) := by
  rw [h1, h2, h3]

theorem unlink_any (t : Int) (h0 : 0 ≤ t) (hu : t < 18446744073709551616) (w : World) : Calls Tryz.prog 92 #[.int .u64 t] w fun e w' => e = .returned (.tuple #[.int .i64 (t % 131072 - 1), .int .i64 (t / 131072 % 65536), .bool (t / 1099511627776 % 2 == 1)]) ∧ w = w' := by
  go_enter Tryz.func92, Tryz.ntmps92
  go_wp2
  go_ret3
  refine ⟨ret_iib ?_ ?_ ?_, rfl⟩
  · rw [Bt.u64_and131071, w64_id (t % 131072) (by omega) (by omega), w64_id _ (by omega) (by omega)]
  · rw [Bt.u64_and65535, w64_id _ (by omega) (by omega)]
  · rw [Bt.u64_andBit40 t h0 hu, Bool.eq_iff_iff]
    simp only [bne_iff_ne, beq_iff_eq]
    omega

end Go.Proofs.YtbefcdjcefmicaaGreat.Word

namespace Go.Proofs.YtbefcdjcefmicaaGreat.Em
open Go.ChangeShapes Go.WideShapes Go.ChangeAt Go.RowKit En
set_option linter.unusedVariables false
set_option linter.unusedSimpArgs false
set_option maxRecDepth 100000
set_option maxHeartbeats 1000000

theorem wslot_cast {l w : Nat} (h1 : 1 ≤ l % 131072) : ((wslot l w : Nat) : Int) = 73 + ((l : Int) % 131072 - 1) * 3 + (w : Int) := by
  unfold wslot slotOf
  omega
theorem slot_any (l k : Nat) (h1 : 1 ≤ l % 131072) (h2 : l % 131072 ≤ 256) (hl : l < 18446744073709551616) (hk : k ≤ 2) (w : World) :
    Calls Tryz.prog 62 #[.int .u64 (l : Int), .int .i64 (k : Int)] w fun e w' => e = .returned (.int .i64 ((wslot l k : Nat) : Int)) ∧ w = w' := by
  rw [wslot_cast h1]
  have hu := Word.unlink_any (l : Int) (by omega) (by omega) w
  generalize hi : (l : Int) % 131072 - 1 = i at *
  have b1 : 0 ≤ i := by omega
  have b2 : i ≤ 255 := by omega
  generalize hj : (k : Int) = j at *
  have b3 : 0 ≤ j := by omega
  have b4 : j ≤ 2 := by omega
  have HU := Lib.hid hu
  clear h1 h2 hl hk hi hj hu
  go_enter Tryz.func62, Tryz.ntmps62
  go_wp2_with (go_at_call 92; refine HU.out.mono ?_; rintro e w' ⟨rfl, rfl⟩)
  go_ret
  exact ⟨rfl, rfl⟩
theorem place_any {A : Book} {σ : St} {w : World} (h : Rep A σ w) (id : Nat) (hid : id ≤ 65535) :
    Calls Tryz.prog 78 #[.pointer (some ⟨A.be, 0, none⟩), .int .i64 (id : Int)] w fun e w' => e = .returned (.int .i64 ((σ.place id : Nat) : Int)) ∧ w = w' := by
  have c0 : w.cell? ⟨A.be, 0, none⟩ = some (.int .i64 (σ.slots : Int)) := h.eng 0 rfl
  have hsl := h.sl
  have e : ((σ.place id : Nat) : Int) = 73 + (σ.slots : Int) * 3 + (id : Int) := by unfold St.place; omega
  rw [e]
  clear e
  generalize hs : (σ.slots : Int) = s at *
  have b1 : 1 ≤ s := by omega
  have b2 : s ≤ 256 := by omega
  generalize hj : (id : Int) = j at *
  have b3 : 0 ≤ j := by omega
  have b4 : j ≤ 65535 := by omega
  clear h hsl hs hj hid
  go_enter Tryz.func78, Tryz.ntmps78
  go_wp2
  go_ret
  exact ⟨rfl, rfl⟩
theorem pack_any (st en : Nat) (h1 : st < 8) (h2 : en < 1152921504606846976) (w : World) :
    Calls Tryz.prog 79 #[.int .i64 (st : Int), .int .u64 (en : Int)] w fun e w' => e = .returned (.int .u64 ((pack st en : Nat) : Int)) ∧ w = w' := by
  have e : ((pack st en : Nat) : Int) = (en : Int) * 8 + (st : Int) := by unfold pack; omega
  rw [e]
  clear e
  have eo := Bt.u64_or3 (en : Int) (st : Int) (by omega) (by omega) (by omega) (by omega)
  have ew : IntKind.u64.wrap (st : Int) = (st : Int) := by rw [IntKind.wrap_u64]; omega
  have es : IntKind.u64.wrap ((en : Int) * 8) = (en : Int) * 8 := by rw [IntKind.wrap_u64]; omega
  generalize hs : (en : Int) = s at *
  have b1 : 0 ≤ s := by omega
  have b2 : s < 1152921504606846976 := by omega
  generalize hj : (st : Int) = j at *
  have b3 : 0 ≤ j := by omega
  have b4 : j < 8 := by omega
  clear hs hj h1 h2
  go_enter Tryz.func79, Tryz.ntmps79
  go_wp2
  go_ret
  exact ⟨rfl, rfl⟩
theorem pack_still (s e : Int) (st en : Nat) (hs : (st : Int) = s) (he : (en : Int) = e) (h1 : st < 8) (h2 : en < 1152921504606846976) (w : World) :
    Calls Tryz.prog 79 #[.int .i64 s, .int .u64 e] w fun e w' => e = .returned (.int .u64 ((pack st en : Nat) : Int)) ∧ w' = w := by
  subst hs he
  exact (pack_any st en h1 h2 w).mono fun _ _ h => ⟨h.1, h.2.symm⟩
theorem unpack_any (x : Nat) (hx : x < 18446744073709551616) (w : World) :
    Calls Tryz.prog 94 #[.int .u64 (x : Int)] w fun e w' => e = .returned (.tuple #[.int .i64 ((stateOf x : Nat) : Int), .int .u64 ((endOf x : Nat) : Int)]) ∧ w = w' := by
  have e1 : ((stateOf x : Nat) : Int) = (x : Int) % 8 := by unfold stateOf; omega
  have e2 : ((endOf x : Nat) : Int) = (x : Int) / 8 := by unfold endOf; omega
  rw [e1, e2]
  clear e1 e2
  have ea := Bt.u64_and7 (x : Int)
  have b0 : 0 ≤ (x : Int) := by omega
  have b1 : (x : Int) < 18446744073709551616 := by omega
  have ew : IntKind.i64.wrap ((x : Int) % 8) = (x : Int) % 8 := by rw [IntKind.wrap_i64]; omega
  generalize hs : (x : Int) = s at *
  clear hs hx
  go_enter Tryz.func94, Tryz.ntmps94
  go_wp2
  go_ret2
  exact ⟨rfl, rfl⟩
theorem clock_any (t id : Nat) (h1 : t < 281474976710656) (h2 : id < 65536) (w : World) :
    Calls Tryz.prog 76 #[.int .u64 (t : Int), .int .i64 (id : Int)] w fun e w' => e = .returned (.int .u64 ((clockW t id : Nat) : Int)) ∧ w = w' := by
  have e : ((clockW t id : Nat) : Int) = (t : Int) * 65536 + (id : Int) := by unfold clockW; omega
  rw [e]
  clear e
  have eo := Bt.u64_or16 (t : Int) (id : Int) (by omega) (by omega) (by omega) (by omega)
  have ew : IntKind.u64.wrap (id : Int) = (id : Int) := by rw [IntKind.wrap_u64]; omega
  have es : IntKind.u64.wrap ((t : Int) * 65536) = (t : Int) * 65536 := by rw [IntKind.wrap_u64]; omega
  generalize hs : (t : Int) = s at *
  have b1 : 0 ≤ s := by omega
  have b2 : s < 281474976710656 := by omega
  generalize hj : (id : Int) = j at *
  have b3 : 0 ≤ j := by omega
  have b4 : j < 65536 := by omega
  clear hs hj h1 h2
  go_enter Tryz.func76, Tryz.ntmps76
  go_wp2
  go_ret
  exact ⟨rfl, rfl⟩
theorem drawn_any (x : Nat) (hx : x < 18446744073709551616) (w : World) :
    Calls Tryz.prog 59 #[.int .u64 (x : Int)] w fun e w' => e = .returned (.tuple #[.int .u64 ((timeOf x : Nat) : Int), .int .i64 ((lastOf x : Nat) : Int)]) ∧ w = w' := by
  have e1 : ((lastOf x : Nat) : Int) = (x : Int) % 65536 := by unfold lastOf; omega
  have e2 : ((timeOf x : Nat) : Int) = (x : Int) / 65536 := by unfold timeOf; omega
  rw [e1, e2]
  clear e1 e2
  have ea := Bt.u64_and65535 (x : Int)
  have b0 : 0 ≤ (x : Int) := by omega
  have b1 : (x : Int) < 18446744073709551616 := by omega
  have ew : IntKind.i64.wrap ((x : Int) % 65536) = (x : Int) % 65536 := by rw [IntKind.wrap_i64]; omega
  generalize hs : (x : Int) = s at *
  clear hs hx
  go_enter Tryz.func59, Tryz.ntmps59
  go_wp2
  go_ret2
  exact ⟨rfl, rfl⟩
theorem help_any {A : Book} {σ : St} {w : World} (h : Rep A σ w) (x : Nat) (hx : x < 18446744073709551616) (hi : lastOf x ≤ 2000) (hc : σ.count < 4000000000000000000) :
    Calls Tryz.prog 74 #[.pointer (some ⟨A.be, 0, none⟩), .int .u64 (x : Int)] w (Did A w (σ.help x) (.tuple #[])) := by
  have c2 : w.cell? ⟨A.be, 2, none⟩ = some (.pointer (some ⟨A.ba, 0, none⟩)) := h.eng 2 rfl
  have k1 := drawn_any x hx w
  have k2 := (place_any h.drew (lastOf x) (by omega)).mono fun e w' h => (⟨h.1, h.2.symm⟩ : _ ∧ w' = w.drew)
  have k3 := pack_still 1 0 1 0 rfl rfl (by omega) (by omega) w.drew
  have k4 := pack_still 2 (timeOf x) 2 (timeOf x) rfl rfl (by omega) (by unfold timeOf; omega) w.drew
  have k5 := cas_any h (σ.place (lastOf x)) (pack 1 0) (pack 2 (timeOf x)) (by rw [h.nw]; unfold St.place; omega) hc
  have K1 := Lib.hid k1
  have K2 := Lib.hid k2
  have K3 := Lib.hid k3
  have K4 := Lib.hid k4
  clear k5
  have k6 := cas_any h.drew (σ.place (lastOf x)) (pack 1 0) (pack 2 (timeOf x)) (by rw [h.nw]; unfold St.place; omega) hc
  have G0 : Grow A.L w A.L w.drew := Grow.drew _ _
  have K5 := Lib.hid k6
  have HG := Lib.hid G0
  clear k1 k2 k3 k4 k6 h hx hi hc G0
  go_enter Tryz.func74, Tryz.ntmps74
  go_wp2_with (go_at_call 59; refine K1.out.mono ?_; rintro e w' ⟨rfl, rfl⟩)
  refine wp_region_still_tail 10 (by kernel_rfl) (by kernel_rfl) ?_
  simp only [List.take_succ_cons, List.take_zero, List.drop_succ_cons, List.drop_zero]
  repeat still_step
  still_call K2.out
  still_call K3.out
  repeat still_step
  still_call K4.out
  refine wpStill_nil ?_
  change wpList _ _ _ _ _ w.drew
  generalize w.drew = w2 at *
  go_wp2_with (go_at_call 75; refine K5.out.mono ?_; rintro e w' ⟨rfl, hR, hG⟩)
  go_end0
  exact ⟨rfl, hR, HG.out.trans hG⟩
end Go.Proofs.YtbefcdjcefmicaaGreat.Em

namespace Go.Proofs.YtbefcdjcefmicaaGreat.Em
open Go.ChangeShapes Go.WideShapes Go.ChangeAt Go.RowKit En
set_option linter.unusedVariables false
set_option linter.unusedSimpArgs false

/-- What a session's closures lead to: the engine, the transaction, the call, the cell of the call's key; the pairs of the call's result. -/
structure KP where
  e : Nat
  t : Nat
  c : Nat
  x : Nat
  vp : Value
  ps : List (Nat × Nat)
def KP.xo (p : KP) (x : Bool) : Value := if x then ptr p.x else .pointer none
def kp (A : Book) (σ : St) (s : Nat) : KP := ⟨A.be, A.bt s, A.bc s, A.bx s (σ.c s).op.key, A.vpairs s, (σ.c s).r.pairs⟩
def resCs (r : Res) (vp : Value) : List Value := [i64 r.e, i64 r.value, vp, i64 r.over, i64 r.reason]
def ResBox (p : KP) (L : Lab) (w : World) (b : Nat) (r : Res) : Prop := ∃ vp T, Fix L w b (.cells (resCs r vp).toArray T) ∧ ((vp = p.vp ∧ r.pairs = p.ps) ∨ (vp = .slice none 0 0 ∧ r.pairs = []))
def StampBox (L : Lab) (w : World) (b id : Nat) : Prop := ∃ T, Fix L w b (.cells #[i64 2, u64 id] T)
def SeenBox (L : Lab) (w : World) (b link : Nat) : Prop := ∃ T key got, Fix L w b (.cells #[i64 key, u64 link, .bool got] T)
def HeadBox (L : Lab) (w : World) (b : Nat) (x : Bool) (head : Nat) : Prop := ∃ v, Box L w b v ∧ FRow L w 1 v (if x then [] else [u64 head])
def trnCs (l : List Trn) : List Value := l.flatMap fun x => [i64 x.at_, u64 x.old, u64 x.new]
def ListBox (L : Lab) (w : World) (b : Nat) (l : List Trn) : Prop := ∃ v, Box L w b v ∧ FRow L w 3 v (trnCs l)
def TellBox (p : KP) (L : Lab) (w : World) (b key : Nat) : Prop := ∃ v, Box L w b v ∧ ∃ c0 c1, v = .func (.func 111) #[] #[ptr c0, ptr c1] ∧ Box L w c0 (ptr p.c) ∧ Box L w c1 (i64 key)
def NextBox (p : KP) (L : Lab) (w : World) (b link head at_ : Nat) : Prop := ∃ v, Box L w b v ∧ ∃ c0 c1 c2 c3 c4 c5, v = .func (.func 171) #[] #[ptr c0, ptr c1, ptr c2, ptr c3, ptr c4, ptr c5] ∧ Box L w c0 (ptr p.e) ∧ Box L w c1 (ptr p.t) ∧ Box L w c2 (ptr p.c) ∧ Box L w c3 (u64 link) ∧ Box L w c4 (u64 head) ∧ Box L w c5 (u64 at_)
def TurnBox (p : KP) (L : Lab) (w : World) (b w1 now : Nat) : Prop := ∃ v, Box L w b v ∧ ∃ c0 c1 c2 c3 c4, v = .func (.func 114) #[] #[ptr c0, ptr c1, ptr c2, ptr c3, ptr c4] ∧ Box L w c0 (ptr p.e) ∧ Box L w c1 (u64 w1) ∧ Box L w c2 (u64 now) ∧ Box L w c3 (ptr p.t) ∧ Box L w c4 (ptr p.c)
/-- Where a hunt leads. -/
def ThnRep (p : KP) (L : Lab) (w : World) (v : Value) (key : Nat) : Thn → Prop
  | .get => ∃ b0 b1 b2 b3, v = .func (.func 109) #[] #[ptr b0, ptr b1, ptr b2, ptr b3] ∧ Box L w b0 (ptr p.t) ∧ Box L w b1 (i64 key) ∧ Box L w b2 (ptr p.e) ∧ Box L w b3 (ptr p.c)
  | .scan k => ∃ b0 b1 b2 b3 b4, v = .func (.func 112) #[] #[ptr b0, ptr b1, ptr b2, ptr b3, ptr b4] ∧ Box L w b0 (ptr p.t) ∧ Box L w b1 (i64 k) ∧ TellBox p L w b2 k ∧ Box L w b3 (ptr p.e) ∧ Box L w b4 (ptr p.c)
  | .change => ∃ b0 b1 b2 b3, v = .func (.func 124) #[] #[ptr b0, ptr b1, ptr b2, ptr b3] ∧ Box L w b0 (ptr p.c) ∧ Box L w b1 (ptr p.t) ∧ Box L w b2 (i64 key) ∧ Box L w b3 (ptr p.e)
  | .judge i l => ∃ b0 b1 b2 b3 b4, v = .func (.func 142) #[] #[ptr b0, ptr b1, ptr b2, ptr b3, ptr b4] ∧ SeenBox L w b0 l ∧ Box L w b1 (ptr p.e) ∧ Box L w b2 (ptr p.t) ∧ Box L w b3 (ptr p.c) ∧ Box L w b4 (i64 i)
def HuntAt (p : KP) (L : Lab) (w : World) (bh : Nat) (h : Hunt) : Prop := ∃ vt T, Fix L w bh (.cells #[ptr p.e, ptr p.t, i64 h.key, u64 h.at_, vt] T) ∧ ThnRep p L w vt h.key h.thn
def HuntBox (p : KP) (L : Lab) (w : World) (b : Nat) (h : Hunt) : Prop := ∃ bh, Box L w b (ptr bh) ∧ HuntAt p L w bh h
def KRep (p : KP) (L : Lab) (w : World) (v : Value) : K → Prop
  | .start h => ∃ bh, v = .func (.func 139) #[ptr bh] #[] ∧ HuntAt p L w bh h
  | .fin r => ∃ b0 b1 b2, v = .func (.func 137) #[] #[ptr b0, ptr b1, ptr b2] ∧ Box L w b0 (ptr p.e) ∧ Box L w b1 (ptr p.c) ∧ ResBox p L w b2 r
  | .visit h link => ∃ b0 b1, v = .func (.func 180) #[] #[ptr b0, ptr b1] ∧ HuntBox p L w b0 h ∧ Box L w b1 (u64 link)
  | .older h link => ∃ b0 b1, v = .func (.func 212) #[] #[ptr b0, ptr b1] ∧ HuntBox p L w b0 h ∧ Box L w b1 (u64 link)
  | .maker h link id => ∃ b0 b1 b2, v = .func (.func 199) #[] #[ptr b0, ptr b1, ptr b2] ∧ HuntBox p L w b0 h ∧ Box L w b1 (i64 id) ∧ Box L w b2 (u64 link)
  | .ended h link mb => ∃ b0 b1 b2, v = .func (.func 209) #[] #[ptr b0, ptr b1, ptr b2] ∧ HuntBox p L w b0 h ∧ Box L w b1 (u64 link) ∧ Box L w b2 (i64 mb)
  | .ender h link mb id => ∃ b0 b1 b2 b3, v = .func (.func 226) #[] #[ptr b0, ptr b1, ptr b2, ptr b3] ∧ HuntBox p L w b0 h ∧ Box L w b1 (i64 id) ∧ Box L w b2 (u64 link) ∧ Box L w b3 (i64 mb)
  | .seen h link mb => ∃ b0 b1 b2, v = .func (.func 224) #[] #[ptr b0, ptr b1, ptr b2] ∧ HuntBox p L w b0 h ∧ Box L w b1 (i64 mb) ∧ Box L w b2 (u64 link)
  | .again end_ => ∃ b0 b1 b2 b3, v = .func (.func 149) #[] #[ptr b0, ptr b1, ptr b2, ptr b3] ∧ Box L w b0 (ptr p.e) ∧ Box L w b1 (ptr p.x) ∧ Box L w b2 (u64 end_) ∧ Box L w b3 (ptr p.c)
  | .own link => ∃ b0 b1 b2 b3, v = .func (.func 152) #[] #[ptr b0, ptr b1, ptr b2, ptr b3] ∧ Box L w b0 (ptr p.e) ∧ Box L w b1 (u64 link) ∧ Box L w b2 (ptr p.t) ∧ Box L w b3 (ptr p.c)
  | .ownTxn link w1 id => ∃ b0 b1 b2 b3 b4 b5, v = .func (.func 154) #[] #[ptr b0, ptr b1, ptr b2, ptr b3, ptr b4, ptr b5] ∧ Box L w b0 (ptr p.e) ∧ Box L w b1 (i64 id) ∧ Box L w b2 (ptr p.t) ∧ Box L w b3 (ptr p.c) ∧ Box L w b4 (u64 link) ∧ Box L w b5 (u64 w1)
  | .claim link w1 => ∃ b0 b1 b2 b3 b4, v = .func (.func 175) #[] #[ptr b0, ptr b1, ptr b2, ptr b3, ptr b4] ∧ Box L w b0 (ptr p.e) ∧ Box L w b1 (u64 link) ∧ Box L w b2 (u64 w1) ∧ Box L w b3 (ptr p.t) ∧ Box L w b4 (ptr p.c)
  | .fresh link => ∃ b0 b1 b2 b3, v = .func (.func 150) #[] #[ptr b0, ptr b1, ptr b2, ptr b3] ∧ Box L w b0 (ptr p.e) ∧ Box L w b1 (ptr p.c) ∧ Box L w b2 (ptr p.t) ∧ Box L w b3 (u64 link)
  | .next link head at_ => ∃ b0 b1 b2 b3 b4 b5, v = .func (.func 171) #[] #[ptr b0, ptr b1, ptr b2, ptr b3, ptr b4, ptr b5] ∧ Box L w b0 (ptr p.e) ∧ Box L w b1 (ptr p.t) ∧ Box L w b2 (ptr p.c) ∧ Box L w b3 (u64 link) ∧ Box L w b4 (u64 head) ∧ Box L w b5 (u64 at_)
  | .free link head at_ => ∃ b0 b1 b2 b3 b4 b5, v = .func (.func 172) #[] #[ptr b0, ptr b1, ptr b2, ptr b3, ptr b4, ptr b5] ∧ Box L w b0 (ptr p.e) ∧ Box L w b1 (u64 at_) ∧ Box L w b2 (ptr p.t) ∧ NextBox p L w b3 link head at_ ∧ Box L w b4 (ptr p.c) ∧ Box L w b5 (u64 link)
  | .freeTxn link head at_ id => ∃ b0 b1 b2 b3 b4 b5, v = .func (.func 174) #[] #[ptr b0, ptr b1, ptr b2, ptr b3, ptr b4, ptr b5] ∧ Box L w b0 (ptr p.e) ∧ StampBox L w b1 id ∧ Box L w b2 (ptr p.t) ∧ NextBox p L w b3 link head at_ ∧ Box L w b4 (ptr p.c) ∧ Box L w b5 (u64 link)
  | .slotB x link head => ∃ b0 b1 b2 b3 b4 b5, v = .func (.func 167) #[] #[ptr b0, ptr b1, ptr b2, ptr b3, ptr b4, ptr b5] ∧ Box L w b0 (ptr p.e) ∧ Box L w b1 (u64 link) ∧ Box L w b2 (ptr p.t) ∧ Box L w b3 (p.xo x) ∧ Box L w b4 (ptr p.c) ∧ HeadBox L w b5 x head
  | .slotE x link head => ∃ b0 b1 b2 b3 b4 b5, v = .func (.func 168) #[] #[ptr b0, ptr b1, ptr b2, ptr b3, ptr b4, ptr b5] ∧ Box L w b0 (ptr p.e) ∧ Box L w b1 (u64 link) ∧ Box L w b2 (p.xo x) ∧ Box L w b3 (ptr p.t) ∧ Box L w b4 (ptr p.c) ∧ HeadBox L w b5 x head
  | .push link head => ∃ b0 b1 b2 b3 b4, v = .func (.func 188) #[] #[ptr b0, ptr b1, ptr b2, ptr b3, ptr b4] ∧ Box L w b0 (ptr p.e) ∧ Box L w b1 (u64 link) ∧ Box L w b2 (u64 head) ∧ Box L w b3 (ptr p.c) ∧ Box L w b4 (ptr p.t)
  | .pushC link head => ∃ b0 b1 b2 b3 b4, v = .func (.func 189) #[] #[ptr b0, ptr b1, ptr b2, ptr b3, ptr b4] ∧ Box L w b0 (ptr p.e) ∧ Box L w b1 (ptr p.c) ∧ Box L w b2 (u64 head) ∧ Box L w b3 (u64 link) ∧ Box L w b4 (ptr p.t)
  | .over link => ∃ b0 b1 b2 b3 b4, v = .func (.func 190) #[] #[ptr b0, ptr b1, ptr b2, ptr b3, ptr b4] ∧ Box L w b0 (ptr p.e) ∧ Box L w b1 (ptr p.c) ∧ Box L w b2 (u64 link) ∧ Box L w b3 (ptr p.t) ∧ Box L w b4 (ptr p.x)
  | .overN link head => ∃ b0 b1 b2 b3 b4 b5, v = .func (.func 191) #[] #[ptr b0, ptr b1, ptr b2, ptr b3, ptr b4, ptr b5] ∧ Box L w b0 (ptr p.e) ∧ Box L w b1 (u64 link) ∧ Box L w b2 (u64 head) ∧ Box L w b3 (ptr p.c) ∧ Box L w b4 (ptr p.t) ∧ Box L w b5 (ptr p.x)
  | .overC link head => ∃ b0 b1 b2 b3 b4 b5, v = .func (.func 192) #[] #[ptr b0, ptr b1, ptr b2, ptr b3, ptr b4, ptr b5] ∧ Box L w b0 (ptr p.e) ∧ Box L w b1 (ptr p.c) ∧ Box L w b2 (u64 head) ∧ Box L w b3 (u64 link) ∧ Box L w b4 (ptr p.t) ∧ Box L w b5 (ptr p.x)
  | .draw => ∃ b0 b1 b2, v = .func (.func 113) #[] #[ptr b0, ptr b1, ptr b2] ∧ Box L w b0 (ptr p.e) ∧ Box L w b1 (ptr p.t) ∧ Box L w b2 (ptr p.c)
  | .drawH w1 now => ∃ b0 b1 b2, v = .func (.func 117) #[] #[ptr b0, ptr b1, ptr b2] ∧ Box L w b0 (ptr p.e) ∧ Box L w b1 (u64 w1) ∧ TurnBox p L w b2 w1 now
  | .turn w1 now => ∃ b0 b1 b2 b3 b4, v = .func (.func 114) #[] #[ptr b0, ptr b1, ptr b2, ptr b3, ptr b4] ∧ Box L w b0 (ptr p.e) ∧ Box L w b1 (u64 w1) ∧ Box L w b2 (u64 now) ∧ Box L w b3 (ptr p.t) ∧ Box L w b4 (ptr p.c)
  | .helpJ => ∃ b0 b1 b2, v = .func (.func 115) #[] #[ptr b0, ptr b1, ptr b2] ∧ Box L w b0 (ptr p.e) ∧ Box L w b1 (ptr p.t) ∧ Box L w b2 (ptr p.c)
  | .wait i => ∃ b0 b1 b2 b3 b4, v = .func (.func 163) #[] #[ptr b0, ptr b1, ptr b2, ptr b3, ptr b4] ∧ Box L w b0 (ptr p.e) ∧ Box L w b1 (ptr p.t) ∧ Box L w b2 (i64 i) ∧ Box L w b3 (ptr p.c) ∧ Box L w b4 v
  | .turns [] r => ∃ b0 b1 b2 b3, v = .func (.func 146) #[] #[ptr b0, ptr b1, ptr b2, ptr b3] ∧ Box L w b0 (ptr p.e) ∧ Box L w b1 (ptr p.t) ∧ Box L w b2 (ptr p.c) ∧ ResBox p L w b3 r
  | .turns (x :: l) r => ∃ b0 b1 b2 b3 b4, v = .func (.func 147) #[] #[ptr b0, ptr b1, ptr b2, ptr b3, ptr b4] ∧ ListBox L w b0 (x :: l) ∧ Box L w b1 (ptr p.e) ∧ Box L w b2 (ptr p.t) ∧ Box L w b3 (ptr p.c) ∧ ResBox p L w b4 r
  | .commit => ∃ b0 b1 b2, v = .func (.func 182) #[] #[ptr b0, ptr b1, ptr b2] ∧ Box L w b0 (ptr p.e) ∧ Box L w b1 (ptr p.t) ∧ Box L w b2 (ptr p.c)
  | .abort e reason => ∃ b0 b1 b2 b3 b4, v = .func (.func 118) #[] #[ptr b0, ptr b1, ptr b2, ptr b3, ptr b4] ∧ Box L w b0 (ptr p.e) ∧ Box L w b1 (ptr p.t) ∧ Box L w b2 (i64 reason) ∧ Box L w b3 (ptr p.c) ∧ Box L w b4 (i64 e)

section
variable {p : KP} {L L' : Lab} {w w' : World}
theorem ResBox.grow {b : Nat} {r : Res} (h : ResBox p L w b r) (g : Grow L w L' w') : ResBox p L' w' b r := let ⟨vp, T, h1, h2⟩ := h; ⟨vp, T, h1.grow g, h2⟩
theorem StampBox.grow {b n : Nat} (h : StampBox L w b n) (g : Grow L w L' w') : StampBox L' w' b n := let ⟨T, h1⟩ := h; ⟨T, h1.grow g⟩
theorem SeenBox.grow {b n : Nat} (h : SeenBox L w b n) (g : Grow L w L' w') : SeenBox L' w' b n := let ⟨T, k, q, h1⟩ := h; ⟨T, k, q, h1.grow g⟩
theorem HeadBox.grow {b n : Nat} {x : Bool} (h : HeadBox L w b x n) (g : Grow L w L' w') : HeadBox L' w' b x n := let ⟨v, h1, h2⟩ := h; ⟨v, h1.grow g, h2.grow g⟩
theorem ListBox.grow {b : Nat} {l : List Trn} (h : ListBox L w b l) (g : Grow L w L' w') : ListBox L' w' b l := let ⟨v, h1, h2⟩ := h; ⟨v, h1.grow g, h2.grow g⟩
theorem TellBox.grow {b k : Nat} (h : TellBox p L w b k) (g : Grow L w L' w') : TellBox p L' w' b k := let ⟨v, h1, c0, c1, e, k0, k1⟩ := h; ⟨v, h1.grow g, c0, c1, e, k0.grow g, k1.grow g⟩
theorem NextBox.grow {b l1 l2 l3 : Nat} (h : NextBox p L w b l1 l2 l3) (g : Grow L w L' w') : NextBox p L' w' b l1 l2 l3 := let ⟨v, h1, c0, c1, c2, c3, c4, c5, e, k0, k1, k2, k3, k4, k5⟩ := h; ⟨v, h1.grow g, c0, c1, c2, c3, c4, c5, e, k0.grow g, k1.grow g, k2.grow g, k3.grow g, k4.grow g, k5.grow g⟩
theorem TurnBox.grow {b l1 l2 : Nat} (h : TurnBox p L w b l1 l2) (g : Grow L w L' w') : TurnBox p L' w' b l1 l2 := let ⟨v, h1, c0, c1, c2, c3, c4, e, k0, k1, k2, k3, k4⟩ := h; ⟨v, h1.grow g, c0, c1, c2, c3, c4, e, k0.grow g, k1.grow g, k2.grow g, k3.grow g, k4.grow g⟩
theorem ThnRep.grow {v : Value} {key : Nat} {t : Thn} (h : ThnRep p L w v key t) (g : Grow L w L' w') : ThnRep p L' w' v key t :=
  match t, h with
  | .get, hh => let ⟨b0, b1, b2, b3, e, k0, k1, k2, k3⟩ := hh; ⟨b0, b1, b2, b3, e, k0.grow g, k1.grow g, k2.grow g, k3.grow g⟩
  | .scan k, hh => let ⟨b0, b1, b2, b3, b4, e, k0, k1, k2, k3, k4⟩ := hh; ⟨b0, b1, b2, b3, b4, e, k0.grow g, k1.grow g, k2.grow g, k3.grow g, k4.grow g⟩
  | .change, hh => let ⟨b0, b1, b2, b3, e, k0, k1, k2, k3⟩ := hh; ⟨b0, b1, b2, b3, e, k0.grow g, k1.grow g, k2.grow g, k3.grow g⟩
  | .judge i l, hh => let ⟨b0, b1, b2, b3, b4, e, k0, k1, k2, k3, k4⟩ := hh; ⟨b0, b1, b2, b3, b4, e, k0.grow g, k1.grow g, k2.grow g, k3.grow g, k4.grow g⟩
theorem HuntAt.grow {b : Nat} {h : Hunt} (hh : HuntAt p L w b h) (g : Grow L w L' w') : HuntAt p L' w' b h := let ⟨v, T, h1, h2⟩ := hh; ⟨v, T, h1.grow g, h2.grow g⟩
theorem HuntBox.grow {b : Nat} {h : Hunt} (hh : HuntBox p L w b h) (g : Grow L w L' w') : HuntBox p L' w' b h := let ⟨v, h1, h2⟩ := hh; ⟨v, h1.grow g, h2.grow g⟩
theorem KRep.grow {v : Value} {k : K} (h : KRep p L w v k) (g : Grow L w L' w') : KRep p L' w' v k :=
  match k, h with
  | .start _, ⟨bh, e, h1⟩ => ⟨bh, e, h1.grow g⟩
  | .fin r, hh => let ⟨b0, b1, b2, e, k0, k1, k2⟩ := hh; ⟨b0, b1, b2, e, k0.grow g, k1.grow g, k2.grow g⟩
  | .visit h link, hh => let ⟨b0, b1, e, k0, k1⟩ := hh; ⟨b0, b1, e, k0.grow g, k1.grow g⟩
  | .older h link, hh => let ⟨b0, b1, e, k0, k1⟩ := hh; ⟨b0, b1, e, k0.grow g, k1.grow g⟩
  | .maker h link id, hh => let ⟨b0, b1, b2, e, k0, k1, k2⟩ := hh; ⟨b0, b1, b2, e, k0.grow g, k1.grow g, k2.grow g⟩
  | .ended h link mb, hh => let ⟨b0, b1, b2, e, k0, k1, k2⟩ := hh; ⟨b0, b1, b2, e, k0.grow g, k1.grow g, k2.grow g⟩
  | .ender h link mb id, hh => let ⟨b0, b1, b2, b3, e, k0, k1, k2, k3⟩ := hh; ⟨b0, b1, b2, b3, e, k0.grow g, k1.grow g, k2.grow g, k3.grow g⟩
  | .seen h link mb, hh => let ⟨b0, b1, b2, e, k0, k1, k2⟩ := hh; ⟨b0, b1, b2, e, k0.grow g, k1.grow g, k2.grow g⟩
  | .again end_, hh => let ⟨b0, b1, b2, b3, e, k0, k1, k2, k3⟩ := hh; ⟨b0, b1, b2, b3, e, k0.grow g, k1.grow g, k2.grow g, k3.grow g⟩
  | .own link, hh => let ⟨b0, b1, b2, b3, e, k0, k1, k2, k3⟩ := hh; ⟨b0, b1, b2, b3, e, k0.grow g, k1.grow g, k2.grow g, k3.grow g⟩
  | .ownTxn link w1 id, hh => let ⟨b0, b1, b2, b3, b4, b5, e, k0, k1, k2, k3, k4, k5⟩ := hh; ⟨b0, b1, b2, b3, b4, b5, e, k0.grow g, k1.grow g, k2.grow g, k3.grow g, k4.grow g, k5.grow g⟩
  | .claim link w1, hh => let ⟨b0, b1, b2, b3, b4, e, k0, k1, k2, k3, k4⟩ := hh; ⟨b0, b1, b2, b3, b4, e, k0.grow g, k1.grow g, k2.grow g, k3.grow g, k4.grow g⟩
  | .fresh link, hh => let ⟨b0, b1, b2, b3, e, k0, k1, k2, k3⟩ := hh; ⟨b0, b1, b2, b3, e, k0.grow g, k1.grow g, k2.grow g, k3.grow g⟩
  | .next link head at_, hh => let ⟨b0, b1, b2, b3, b4, b5, e, k0, k1, k2, k3, k4, k5⟩ := hh; ⟨b0, b1, b2, b3, b4, b5, e, k0.grow g, k1.grow g, k2.grow g, k3.grow g, k4.grow g, k5.grow g⟩
  | .free link head at_, hh => let ⟨b0, b1, b2, b3, b4, b5, e, k0, k1, k2, k3, k4, k5⟩ := hh; ⟨b0, b1, b2, b3, b4, b5, e, k0.grow g, k1.grow g, k2.grow g, k3.grow g, k4.grow g, k5.grow g⟩
  | .freeTxn link head at_ id, hh => let ⟨b0, b1, b2, b3, b4, b5, e, k0, k1, k2, k3, k4, k5⟩ := hh; ⟨b0, b1, b2, b3, b4, b5, e, k0.grow g, k1.grow g, k2.grow g, k3.grow g, k4.grow g, k5.grow g⟩
  | .slotB x link head, hh => let ⟨b0, b1, b2, b3, b4, b5, e, k0, k1, k2, k3, k4, k5⟩ := hh; ⟨b0, b1, b2, b3, b4, b5, e, k0.grow g, k1.grow g, k2.grow g, k3.grow g, k4.grow g, k5.grow g⟩
  | .slotE x link head, hh => let ⟨b0, b1, b2, b3, b4, b5, e, k0, k1, k2, k3, k4, k5⟩ := hh; ⟨b0, b1, b2, b3, b4, b5, e, k0.grow g, k1.grow g, k2.grow g, k3.grow g, k4.grow g, k5.grow g⟩
  | .push link head, hh => let ⟨b0, b1, b2, b3, b4, e, k0, k1, k2, k3, k4⟩ := hh; ⟨b0, b1, b2, b3, b4, e, k0.grow g, k1.grow g, k2.grow g, k3.grow g, k4.grow g⟩
  | .pushC link head, hh => let ⟨b0, b1, b2, b3, b4, e, k0, k1, k2, k3, k4⟩ := hh; ⟨b0, b1, b2, b3, b4, e, k0.grow g, k1.grow g, k2.grow g, k3.grow g, k4.grow g⟩
  | .over link, hh => let ⟨b0, b1, b2, b3, b4, e, k0, k1, k2, k3, k4⟩ := hh; ⟨b0, b1, b2, b3, b4, e, k0.grow g, k1.grow g, k2.grow g, k3.grow g, k4.grow g⟩
  | .overN link head, hh => let ⟨b0, b1, b2, b3, b4, b5, e, k0, k1, k2, k3, k4, k5⟩ := hh; ⟨b0, b1, b2, b3, b4, b5, e, k0.grow g, k1.grow g, k2.grow g, k3.grow g, k4.grow g, k5.grow g⟩
  | .overC link head, hh => let ⟨b0, b1, b2, b3, b4, b5, e, k0, k1, k2, k3, k4, k5⟩ := hh; ⟨b0, b1, b2, b3, b4, b5, e, k0.grow g, k1.grow g, k2.grow g, k3.grow g, k4.grow g, k5.grow g⟩
  | .draw, hh => let ⟨b0, b1, b2, e, k0, k1, k2⟩ := hh; ⟨b0, b1, b2, e, k0.grow g, k1.grow g, k2.grow g⟩
  | .drawH w1 now, hh => let ⟨b0, b1, b2, e, k0, k1, k2⟩ := hh; ⟨b0, b1, b2, e, k0.grow g, k1.grow g, k2.grow g⟩
  | .turn w1 now, hh => let ⟨b0, b1, b2, b3, b4, e, k0, k1, k2, k3, k4⟩ := hh; ⟨b0, b1, b2, b3, b4, e, k0.grow g, k1.grow g, k2.grow g, k3.grow g, k4.grow g⟩
  | .helpJ, hh => let ⟨b0, b1, b2, e, k0, k1, k2⟩ := hh; ⟨b0, b1, b2, e, k0.grow g, k1.grow g, k2.grow g⟩
  | .wait i, hh => let ⟨b0, b1, b2, b3, b4, e, k0, k1, k2, k3, k4⟩ := hh; ⟨b0, b1, b2, b3, b4, e, k0.grow g, k1.grow g, k2.grow g, k3.grow g, k4.grow g⟩
  | .turns [] r, hh => let ⟨b0, b1, b2, b3, e, k0, k1, k2, k3⟩ := hh; ⟨b0, b1, b2, b3, e, k0.grow g, k1.grow g, k2.grow g, k3.grow g⟩
  | .turns (x :: l) r, hh => let ⟨b0, b1, b2, b3, b4, e, k0, k1, k2, k3, k4⟩ := hh; ⟨b0, b1, b2, b3, b4, e, k0.grow g, k1.grow g, k2.grow g, k3.grow g, k4.grow g⟩
  | .commit, hh => let ⟨b0, b1, b2, e, k0, k1, k2⟩ := hh; ⟨b0, b1, b2, e, k0.grow g, k1.grow g, k2.grow g⟩
  | .abort e reason, hh => let ⟨b0, b1, b2, b3, b4, e, k0, k1, k2, k3, k4⟩ := hh; ⟨b0, b1, b2, b3, b4, e, k0.grow g, k1.grow g, k2.grow g, k3.grow g, k4.grow g⟩
end
/-- What of the book stays while a session's call runs. -/
structure Stay (A A' : Book) (s : Nat) : Prop where
  be : A'.be = A.be
  ba : A'.ba = A.ba
  bp : A'.bp = A.bp
  bt : A'.bt = A.bt
  bm : A'.bm = A.bm
  bc : A'.bc = A.bc
  vnext : A'.vnext = A.vnext
  vcall : A'.vcall = A.vcall
  vsweep : A'.vsweep = A.vsweep
  mp : A'.mp = A.mp
  mt : A'.mt = A.mt
  bx : ∀ k, k ≠ s → A'.bx k = A.bx k
  vpairs : ∀ k, k ≠ s → A'.vpairs k = A.vpairs k
theorem Stay.refl (A : Book) (s : Nat) : Stay A A s := ⟨rfl, rfl, rfl, rfl, rfl, rfl, rfl, rfl, rfl, rfl, rfl, fun _ _ => rfl, fun _ _ => rfl⟩
theorem Stay.trans {A B C : Book} {s : Nat} (h : Stay A B s) (k : Stay B C s) : Stay A C s :=
  ⟨k.be.trans h.be, k.ba.trans h.ba, k.bp.trans h.bp, k.bt.trans h.bt, k.bm.trans h.bm, k.bc.trans h.bc, k.vnext.trans h.vnext, k.vcall.trans h.vcall, k.vsweep.trans h.vsweep, k.mp.trans h.mp, k.mt.trans h.mt, fun j hj => (k.bx j hj).trans (h.bx j hj), fun j hj => (k.vpairs j hj).trans (h.vpairs j hj)⟩
/-- A step has run: the parts stand so, and the next step lies there. -/
def Ran (A : Book) (w : World) (s : Nat) (r : St × Option K) : Ending → World → Prop := fun e w' =>
  ∃ A' v, e = .returned v ∧ Rep A' r.1 w' ∧ Grow A.L w A'.L w' ∧ Stay A A' s ∧ (match r.2 with | some k => KRep (kp A' r.1 s) A'.L w' v k | none => v = .nilFunc)
/-- A function has told the next step. -/
def Tells (A : Book) (w : World) (s : Nat) (r : St × K) : Ending → World → Prop := fun e w' =>
  ∃ A' v, e = .returned v ∧ Rep A' r.1 w' ∧ Grow A.L w A'.L w' ∧ Stay A A' s ∧ KRep (kp A' r.1 s) A'.L w' v r.2
/-- What is read of a world stays in a later one. -/
structure Kp (A : Book) (w w' : World) : Prop where
  fix : ∀ b o v, A.L b = none → w.cell? ⟨b, o, none⟩ = some v → w'.cell? ⟨b, o, none⟩ = some v
  ea : w'.cell? ⟨A.be, 2, none⟩ = some (ptr A.ba)
theorem Kp.of {A A' : Book} {σ' : St} {w w' : World} {s : Nat} (g : Grow A.L w A'.L w') (h : Rep A' σ' w') (st : Stay A A' s) : Kp A w w' :=
  ⟨fun b o v hl hc => (World.cell?_of_block (w := w) (a := ⟨b, o, none⟩) (g.block b (World.block_lt_of_cell? w _ hc) hl)).trans hc, by have := h.eng 2 (v := ptr A'.ba) rfl; rw [st.be, st.ba] at this; exact this⟩
end Go.Proofs.YtbefcdjcefmicaaGreat.Em
