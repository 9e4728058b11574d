/- WordLinks: the walk: whatever numbers come in, the law answers true and writes nothing that was there. -/
import Derived.Test.YtplfhjahdepphaaWordRefA
namespace Go.Proofs.Ytplfhjahdepphaa.Word
open Go.ChangeShapes Go.WideShapes Go.ChangeAt Go.RowKit
set_option linter.unusedVariables false

theorem links_law (s t x : Int) (hs : (Lit.int .i64 s).wf = true) (ht : (Lit.int .i64 t).wf = true) (hx : (Lit.int .u64 x).wf = true) (w : World) : Calls Try.prog 5 #[.int .i64 s, .int .i64 t, .int .u64 x] w fun e w' => e = .returned (.bool true) ∧ Below w.heap.size w w' := by
  have hb : Below w.heap.size w w := Below.refl _ _
  obtain ⟨h0, h1⟩ := u64_bd hx
  have r0 := Bt.u64_orBit40 x h0 h1
  have r9 := Bt.u64_andNotBit40 x h0 h1
  have c1 := (Bt.mk_bd x h0 h1).1
  have c2 := (Bt.mk_bd x h0 h1).2
  have HA := Lib.hid (fun w => unlink_any x h0 h1 w)
  have HB := Lib.hid (fun w => runlink_any x h0 h1 w)
  by_cases hk : (0 ≤ s ∧ s ≤ 65535) ∧ (0 ≤ t ∧ t ≤ 65535)
  · obtain ⟨⟨a1, a2⟩, a3, a4⟩ := hk
    obtain ⟨l, hl⟩ : ∃ l, t * 131072 + (s + 1) = l := ⟨_, rfl⟩
    have b1 : 0 ≤ l := by omega
    have b2 : l < 1099511627776 := by omega
    have b3 := (Bt.mk_bd l b1 (by omega)).1
    have b4 := (Bt.mk_bd l b1 (by omega)).2
    have U := fun w => unlink_at (Bt.mk l) s t true b3 b4 (by rw [Bt.mk_low l b1 b2]; omega) (by rw [Bt.mk_low l b1 b2]; omega) (by rw [Bt.mk_low l b1 b2, beq_iff_eq]; omega) w
    have V := fun w => unlink_at l s t false b1 (by omega) (by omega) (by omega) (by rw [beq_eq_false_iff_ne]; omega) w
    have K := fun w => link_at s t l hl a1 a2 a3 a4 w
    have R := fun w => rlink_yes s t a1 a2 a3 a4 w
    rw [hl] at R
    have HU := Lib.hid U
    have HV := Lib.hid V
    have HK := Lib.hid K
    have HR := Lib.hid R
    have r2 : Bt.cl (Bt.mk l) = l := by rw [Bt.cl_mk, Bt.cl_low l b1 b2]
    clear hl U V K R hs ht hx
    go_enter Try.func5, Try.ntmps5
    go_wp2_with (first | (go_at_call 22; refine (HK.out _).mono ?_; rintro e w' ⟨rfl, rfl⟩) | (go_at_call 26; refine (HR.out _).mono ?_; rintro e w' ⟨rfl, rfl⟩) | (go_at_call 23; refine (mark_any _ (by omega) (by omega) _).mono ?_; rintro e w' ⟨rfl, rfl⟩) | (go_at_call_of 24 (Value.int .u64 l); refine (HV.out _).mono ?_; rintro e w' ⟨rfl, rfl⟩) | (go_at_call_of 24 (Value.int .u64 (Bt.mk l)); refine (HU.out _).mono ?_; rintro e w' ⟨rfl, rfl⟩) | (go_at_call_of 24 (Value.int .u64 x); refine (HA.out _).mono ?_; rintro e w' ⟨rfl, rfl⟩) | (go_at_call 27; refine (HB.out _).mono ?_; rintro e w' ⟨rfl, rfl⟩) | (go_at_call 25; refine (clear_any _ (by omega) (by omega) _).mono ?_; rintro e w' ⟨rfl, rfl⟩) | (go_at_call 21; refine (awake_any _).mono ?_; rintro e w1 ⟨rfl, hq⟩; replace hb : Below w.heap.size w w1 := (by first | exact hb.trans (hq.mono hb.size) | exact (hb.alloc hb.size _).trans (hq.mono (by have hz := hb.size; simp; omega))); clear hq))
    go_ret
    exact ⟨rfl, hb⟩
  · have hk' : s < 0 ∨ 65535 < s ∨ t < 0 ∨ 65535 < t := by omega
    have HK := Lib.hid (fun w => link_no s t hk' w)
    have HR := Lib.hid (fun w => rlink_no s t hk' w)
    clear hk hk' hs ht hx
    go_enter Try.func5, Try.ntmps5
    go_wp2_with (first | (go_at_call 22; refine (HK.out _).mono ?_; rintro e w' ⟨rfl, rfl⟩) | (go_at_call 26; refine (HR.out _).mono ?_; rintro e w' ⟨rfl, rfl⟩) | (go_at_call 23; refine (mark_any _ (by omega) (by omega) _).mono ?_; rintro e w' ⟨rfl, rfl⟩) | (go_at_call 24; refine (HA.out _).mono ?_; rintro e w' ⟨rfl, rfl⟩) | (go_at_call 27; refine (HB.out _).mono ?_; rintro e w' ⟨rfl, rfl⟩) | (go_at_call 25; refine (clear_any _ (by omega) (by omega) _).mono ?_; rintro e w' ⟨rfl, rfl⟩) | (go_at_call 21; refine (awake_any _).mono ?_; rintro e w1 ⟨rfl, hq⟩; replace hb : Below w.heap.size w w1 := (by first | exact hb.trans (hq.mono hb.size) | exact (hb.alloc hb.size _).trans (hq.mono (by have hz := hb.size; simp; omega))); clear hq))
    go_ret
    exact ⟨rfl, hb⟩
end Go.Proofs.Ytplfhjahdepphaa.Word
