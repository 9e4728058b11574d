/- WordStamps: the walk: whatever numbers, stamp and words come in, the law answers true and writes nothing that was there. -/
import Derived.Test.YtplfhjahdepphaaWordStampsA
import Derived.Deep.RegionHeld3
import Derived.Deep.DeepFit
import Derived.Deep.DeepCutAuto
namespace Go.Proofs.Ytplfhjahdepphaa.Word
open Go.ChangeShapes Go.WideShapes Go.ChangeAt Go.RowKit
set_option linter.unusedVariables false
set_option linter.unusedSimpArgs false

/-- Behind a call that keeps all that was there a cell reads as it did. -/
theorem keep_cell {w w1 : World} {p : Addr} {v : Value} (h : w.cell? p = some v) (hq : Below w.heap.size w w1) (hp : p.block < w.heap.size) : w1.cell? p = some v := by
  rw [hq.cell hp]; exact h

theorem keepS {A w2 w3 : World} {p p' : Addr} {v v' : Value} (hS : Below A.heap.size A w2 ∧ w2.cell? p = some v ∧ w2.cell? p' = some v') (hq : Below w2.heap.size w2 w3) (hp : p.block < A.heap.size) (hp' : p'.block < A.heap.size) :
    Below A.heap.size A w3 ∧ w3.cell? p = some v ∧ w3.cell? p' = some v' :=
  ⟨hS.1.trans (hq.mono hS.1.size), keep_cell hS.2.1 hq (Nat.lt_of_lt_of_le hp hS.1.size), keep_cell hS.2.2 hq (Nat.lt_of_lt_of_le hp' hS.1.size)⟩

set_option maxHeartbeats 4000000 in
set_option maxRecDepth 100000 in
theorem stamps_core (t i k n x y : Int) (t0 : 0 ≤ t) (k0 : -9223372036854775808 ≤ k) (k1 : k < 9223372036854775808) (n0 : 0 ≤ n) (n1 : n < 18446744073709551616)
    (x0 : 0 ≤ x) (x1 : x < 18446744073709551616) (y0 : 0 ≤ y) (y1 : y < 18446744073709551616) (w : World) :
    Calls Try.prog 9 #[.int .u64 t, .int .i64 i, .agg #[.int .i64 k, .int .u64 n], .int .u64 x, .int .u64 y] w fun e w' => e = .returned (.bool true) ∧ Below w.heap.size w w' := by
  obtain ⟨v0, v1⟩ := ofV_bd k n n0
  obtain ⟨q0, q1⟩ := rdK_bd x
  obtain ⟨q2, q3⟩ := rdN_bd x x0 x1
  have HK := Lib.hid (of_rd x x0)
  go_enter Try.func9, Try.ntmps9
  go_wp2_with fail
  have cA0 : (w.alloc (.cells #[.int .i64 k, .int .u64 n] 24)).cell? ⟨w.heap.size, 0, none⟩ = some (.int .i64 k) := by go_simp
  have cA1 : (w.alloc (.cells #[.int .i64 k, .int .u64 n] 24)).cell? ⟨w.heap.size, 1, none⟩ = some (.int .u64 n) := by go_simp
  have hlt : w.heap.size < (w.alloc (.cells #[.int .i64 k, .int .u64 n] 24)).heap.size := by simp
  have hw : Below w.heap.size w (w.alloc (.cells #[.int .i64 k, .int .u64 n] 24)) := (Below.refl _ _).alloc (Nat.le_refl _) _
  generalize w.alloc (.cells #[.int .i64 k, .int .u64 n] 24) = A at *
  have hb : Below A.heap.size A A := Below.refl _ _
  go_upto_region 7 with (first | (go_at_call 28; refine (time_any _ (by omega) _).mono ?_; rintro e w' ⟨rfl, rfl⟩) | (go_at_call 30; refine (rtime_any _ (by omega) _).mono ?_; rintro e w' ⟨rfl, rfl⟩) | (go_at_call 20; refine (txn_any _ _).mono ?_; rintro e w' ⟨rfl, rfl⟩) | (go_at_call 31; refine (rtxn_any _ _).mono ?_; rintro e w' ⟨rfl, rfl⟩) | (go_at_call 32; refine (of_any k n k0 k1 n0 n1 _).mono ?_; rintro e w1 ⟨rfl, hq⟩; replace hb : Below A.heap.size A w1 := (by first | exact hb.trans (hq.mono hb.size) | exact (hb.alloc hb.size _).trans (hq.mono (by have hz := hb.size; simp; omega))); clear hq; have c0 : w1.cell? ⟨w.heap.size, 0, none⟩ = some (.int .i64 k) := keep_cell cA0 hb (by exact hlt); have c1 : w1.cell? ⟨w.heap.size, 1, none⟩ = some (.int .u64 n) := keep_cell cA1 hb (by exact hlt)) | (go_at_call 33; refine (rof_any k n k0 k1 n0 n1 _).mono ?_; rintro e w1 ⟨rfl, hq⟩; replace hb : Below A.heap.size A w1 := (by first | exact hb.trans (hq.mono hb.size) | exact (hb.alloc hb.size _).trans (hq.mono (by have hz := hb.size; simp; omega))); clear hq; have c0 : w1.cell? ⟨w.heap.size, 0, none⟩ = some (.int .i64 k) := keep_cell cA0 hb (by exact hlt); have c1 : w1.cell? ⟨w.heap.size, 1, none⟩ = some (.int .u64 n) := keep_cell cA1 hb (by exact hlt)))
  go_cut [20, 22, 97] (fun _ _ s wx => s = .bool false ∧ Below A.heap.size A wx)
  case first =>
    by_cases hk : ofB k n = true
    · obtain ⟨r1, r2⟩ := rd_of k n n0 hk
      go_region_held3 (fun w' => Below A.heap.size A w' ∧ w'.cell? ⟨w.heap.size, 0, none⟩ = some (.int .i64 k) ∧ w'.cell? ⟨w.heap.size, 1, none⟩ = some (.int .u64 n)) (first | exact ⟨hb.drew, c0, c1⟩ | exact keepS (by assumption) (by assumption) hlt hlt | go_keep) (first | (go_at_call 18; refine (read_any _ (by omega) (by omega) _).mono ?_; rintro e w1 ⟨rfl, hq⟩) | (go_at_call 19; refine (forever_any _).mono ?_; rintro e w' ⟨rfl, rfl⟩) | (go_at_call 34; refine (rforever_any _).mono ?_; rintro e w' ⟨rfl, rfl⟩))
      all_goals (go_wp2_with fail; go_meet; exact ⟨rfl, (‹Below A.heap.size A _ ∧ _ ∧ _›).1⟩)
    · have hk' : ofB k n = false := by simpa using hk
      go_quiet (first | (go_at_call 19; exact Calls.quiet_of_same ((forever_any _).mono fun e w' h => ⟨h.1, h.2.symm⟩)) | (go_at_call 34; exact Calls.quiet_of_same ((rforever_any _).mono fun e w' h => ⟨h.1, h.2.symm⟩)))
      all_goals (go_wp2_with fail; go_meet; exact ⟨rfl, below_drewN hb _⟩)
  case rest =>
    obtain ⟨rfl, hb2⟩ := hcut
    clear hb c0 c1 cA0 cA1
    go_wp2_with (first | (go_at_call 18; refine (read_any _ (by omega) (by omega) _).mono ?_; rintro e w1 ⟨rfl, hq⟩; replace hb2 := hb2.trans (hq.mono hb2.size); clear hq))
    have hz := hb2.size
    have ha0 : (w1.alloc (.cells #[.int .i64 (rdK x), .int .u64 (rdN x)] 24)).cell? ⟨w1.heap.size, 0, none⟩ = some (.int .i64 (rdK x)) := by go_simp
    have ha1 : (w1.alloc (.cells #[.int .i64 (rdK x), .int .u64 (rdN x)] 24)).cell? ⟨w1.heap.size, 1, none⟩ = some (.int .u64 (rdN x)) := by go_simp
    have hl2 : w1.heap.size < (w1.alloc (.cells #[.int .i64 (rdK x), .int .u64 (rdN x)] 24)).heap.size := by simp
    have hw2 : Below w.heap.size w (w1.alloc (.cells #[.int .i64 (rdK x), .int .u64 (rdN x)] 24)) := (hw.trans (hb2.mono (by omega))).alloc (by omega) _
    have RR := Lib.hid (fun w => rread_any x x0 x1 w)
    have OO := Lib.hid (fun w => of_any (rdK x) (rdN x) (by omega) (by omega) (by omega) (by omega) w)
    generalize w1.alloc (.cells #[.int .i64 (rdK x), .int .u64 (rdN x)] 24) = B at *
    generalize w1.heap.size = bb at *
    generalize rdK x = kx at *
    generalize rdN x = nx at *
    clear hb2 hz
    have hb : Below B.heap.size B B := Below.refl _ _
    have HK' := HK.out
    clear HK
    generalize ofB kx nx = ob at *
    generalize ofV kx nx = ov at *
    rcases HK' with ⟨e1, e2, e3⟩ | ⟨e1, e2, e3⟩
    · subst e1 e2
      have e4 : (kx == 0) = false := beq_eq_false_iff_ne.2 e3
      have e5 : (kx != 0) = true := bne_iff_ne.2 e3
      clear e3
      go_wp2_with (go_at_call 32; refine (OO.out _).mono ?_; rintro e w2 ⟨rfl, hq⟩; replace hb := hb.trans (hq.mono hb.size); clear hq)
      have c0 := keep_cell ha0 hb hl2
      have c1 := keep_cell ha1 hb hl2
      go_region_held3 (fun w' => Below B.heap.size B w' ∧ w'.cell? ⟨bb, 0, none⟩ = some (.int .i64 kx) ∧ w'.cell? ⟨bb, 1, none⟩ = some (.int .u64 nx)) (first | exact ⟨hb.drew, c0, c1⟩ | exact keepS (by assumption) (by assumption) hl2 hl2 | go_keep) (first | (go_at_call 35; refine (RR.out _).mono ?_; rintro e w1 ⟨rfl, hq⟩) | (go_at_call 29; refine (before_any _ _ (by omega) (by omega) (by omega) (by omega) _).mono ?_; rintro e w1 ⟨rfl, hq⟩) | (go_at_call 36; refine (rbefore_any _ _ (by omega) (by omega) (by omega) (by omega) _).mono ?_; rintro e w1 ⟨rfl, hq⟩) | (go_at_call 21; refine (awake_any _).mono ?_; rintro e w1 ⟨rfl, hq⟩))
      go_wp2
      go_ret
      exact ⟨rfl, hw2.trans ((‹Below B.heap.size B _ ∧ _ ∧ _›).1.mono hw2.size)⟩
    · subst e1 e2 e3
      go_wp2_with (go_at_call 32; refine (OO.out _).mono ?_; rintro e w2 ⟨rfl, hq⟩; replace hb := hb.trans (hq.mono hb.size); clear hq)
      have c0 := keep_cell ha0 hb hl2
      have c1 := keep_cell ha1 hb hl2
      refine wp_region_held_drew (S := (fun w' => Below B.heap.size B w' ∧ w'.cell? ⟨bb, 0, none⟩ = some (.int .i64 0) ∧ w'.cell? ⟨bb, 1, none⟩ = some (.int .u64 0))) (by kernel_rfl) ?_ (fun hHeld => ?_)
      · (try dsimp only); exact ⟨hb.drew, c0, c1⟩
      refine wpAnyH_take (i := 0) (v := ?_) rfl (by kernel_rfl) (by kernel_rfl) (by kernel_rfl) (fun _ _ _ h => h) (Or.inl ⟨by rfl, ?_⟩) hHeld ?_
      rotate_left
      · (intro w hSw; (try dsimp only at hSw); go_simp; (try with_reducible rfl))
      (try simp only [List.getElem_toArray, List.getElem_cons_succ, List.getElem_cons_zero, Act.put, List.setIfInBounds_toArray, List.set_cons_zero, List.set_cons_succ])
      refine wpAnyH_take (i := 1) (v := ?_) rfl (by kernel_rfl) (by kernel_rfl) (by kernel_rfl) (fun _ _ _ h => h) (Or.inl ⟨by rfl, ?_⟩) hHeld ?_
      rotate_left
      · (intro w hSw; (try dsimp only at hSw); go_simp; (try with_reducible rfl))
      (try simp only [List.getElem_toArray, List.getElem_cons_succ, List.getElem_cons_zero, Act.put, List.setIfInBounds_toArray, List.set_cons_zero, List.set_cons_succ])
      refine wpAnyH_ready (rs := [2]) (by kernel_rfl) (by simp) ?_
      refine AllReadyH.cons (o := _) rfl (fun K hK => ?_) ?_
      rotate_left
      · exact AllReadyH.nil
      go_simp
      (first | (go_at_call 35; refine (RR.out _).mono ?_; rintro e w1 ⟨rfl, hq⟩) | (go_at_call 29; refine (before_any _ _ (by omega) (by omega) (by omega) (by omega) _).mono ?_; rintro e w1 ⟨rfl, hq⟩) | (go_at_call 36; refine (rbefore_any _ _ (by omega) (by omega) (by omega) (by omega) _).mono ?_; rintro e w1 ⟨rfl, hq⟩) | (go_at_call 21; refine (awake_any _).mono ?_; rintro e w1 ⟨rfl, hq⟩))
      refine hK.out _ _ ?_ (fun hHeld => ?_)
      · (try dsimp only); exact keepS hHeld (by assumption) hl2 hl2
      clear hK K
      (try simp only [List.getElem_toArray, List.getElem_cons_succ, List.getElem_cons_zero, Act.put, List.setIfInBounds_toArray, List.set_cons_zero, List.set_cons_succ])
      refine wpAnyH_take (i := 3) (v := ?_) rfl (by kernel_rfl) (by kernel_rfl) (by kernel_rfl) (fun _ _ _ h => h) (Or.inl ⟨by rfl, ?_⟩) hHeld ?_
      rotate_left
      · (intro w hSw; (try dsimp only at hSw); go_simp; (try with_reducible rfl))
      (try simp only [List.getElem_toArray, List.getElem_cons_succ, List.getElem_cons_zero, Act.put, List.setIfInBounds_toArray, List.set_cons_zero, List.set_cons_succ])
      refine wpAnyH_take (i := 4) (v := ?_) rfl (by kernel_rfl) (by kernel_rfl) (by kernel_rfl) (fun _ _ _ h => h) (Or.inl ⟨by rfl, ?_⟩) hHeld ?_
      rotate_left
      · (intro w hSw; (try dsimp only at hSw); go_simp; (try with_reducible rfl))
      (try simp only [List.getElem_toArray, List.getElem_cons_succ, List.getElem_cons_zero, Act.put, List.setIfInBounds_toArray, List.set_cons_zero, List.set_cons_succ])
      refine wpAnyH_take (i := 5) (v := ?_) rfl (by kernel_rfl) (by kernel_rfl) (by kernel_rfl) (fun _ _ _ h => h) (Or.inl ⟨by rfl, ?_⟩) hHeld ?_
      rotate_left
      · (intro w hSw; (try dsimp only at hSw); go_simp; (try with_reducible rfl))
      (try simp only [List.getElem_toArray, List.getElem_cons_succ, List.getElem_cons_zero, Act.put, List.setIfInBounds_toArray, List.set_cons_zero, List.set_cons_succ])
      refine wpAnyH_take (i := 6) (v := ?_) rfl (by kernel_rfl) (by kernel_rfl) (by kernel_rfl) (fun _ _ _ h => h) (Or.inl ⟨by rfl, ?_⟩) hHeld ?_
      rotate_left
      · (intro w hSw; (try dsimp only at hSw); go_simp; (try with_reducible rfl))
      (try simp only [List.getElem_toArray, List.getElem_cons_succ, List.getElem_cons_zero, Act.put, List.setIfInBounds_toArray, List.set_cons_zero, List.set_cons_succ])
      refine wpAnyH_take (i := 7) (v := ?_) rfl (by kernel_rfl) (by kernel_rfl) (by kernel_rfl) (fun _ _ _ h => h) (Or.inl ⟨by rfl, ?_⟩) hHeld ?_
      rotate_left
      · (intro w hSw; (try dsimp only at hSw); go_simp; (try with_reducible rfl))
      (try simp only [List.getElem_toArray, List.getElem_cons_succ, List.getElem_cons_zero, Act.put, List.setIfInBounds_toArray, List.set_cons_zero, List.set_cons_succ])
      refine wpAnyH_take (i := 8) (v := ?_) rfl (by kernel_rfl) (by kernel_rfl) (by kernel_rfl) (fun _ _ _ h => h) (Or.inl ⟨by rfl, ?_⟩) hHeld ?_
      rotate_left
      · (intro w hSw; (try dsimp only at hSw); go_simp; (try with_reducible rfl))
      (try simp only [List.getElem_toArray, List.getElem_cons_succ, List.getElem_cons_zero, Act.put, List.setIfInBounds_toArray, List.set_cons_zero, List.set_cons_succ])
      refine wpAnyH_take (i := 9) (v := ?_) rfl (by kernel_rfl) (by kernel_rfl) (by kernel_rfl) (fun _ _ _ h => h) (Or.inl ⟨by rfl, ?_⟩) hHeld ?_
      rotate_left
      · (intro w hSw; (try dsimp only at hSw); go_simp; (try with_reducible rfl))
      (try simp only [List.getElem_toArray, List.getElem_cons_succ, List.getElem_cons_zero, Act.put, List.setIfInBounds_toArray, List.set_cons_zero, List.set_cons_succ])
      refine wpAnyH_take (i := 10) (v := ?_) rfl (by kernel_rfl) (by kernel_rfl) (by kernel_rfl) (fun _ _ _ h => h) (Or.inl ⟨by rfl, ?_⟩) hHeld ?_
      rotate_left
      · (intro w hSw; (try dsimp only at hSw); go_simp; (try with_reducible rfl))
      (try simp only [List.getElem_toArray, List.getElem_cons_succ, List.getElem_cons_zero, Act.put, List.setIfInBounds_toArray, List.set_cons_zero, List.set_cons_succ])
      refine wpAnyH_take (i := 11) (v := ?_) rfl (by kernel_rfl) (by kernel_rfl) (by kernel_rfl) (fun _ _ _ h => h) (Or.inl ⟨by rfl, ?_⟩) hHeld ?_
      rotate_left
      · (intro w hSw; (try dsimp only at hSw); go_simp; (try with_reducible rfl))
      (try simp only [List.getElem_toArray, List.getElem_cons_succ, List.getElem_cons_zero, Act.put, List.setIfInBounds_toArray, List.set_cons_zero, List.set_cons_succ])
      refine wpAnyH_take (i := 12) (v := ?_) rfl (by kernel_rfl) (by kernel_rfl) (by kernel_rfl) (fun _ _ _ h => h) (Or.inl ⟨by rfl, ?_⟩) hHeld ?_
      rotate_left
      · (intro w hSw; (try dsimp only at hSw); go_simp; (try with_reducible rfl))
      (try simp only [List.getElem_toArray, List.getElem_cons_succ, List.getElem_cons_zero, Act.put, List.setIfInBounds_toArray, List.set_cons_zero, List.set_cons_succ])
      refine wpAnyH_take (i := 13) (v := ?_) rfl (by kernel_rfl) (by kernel_rfl) (by kernel_rfl) (fun _ _ _ h => h) (Or.inl ⟨by rfl, ?_⟩) hHeld ?_
      rotate_left
      · (intro w hSw; (try dsimp only at hSw); go_simp; (try with_reducible rfl))
      (try simp only [List.getElem_toArray, List.getElem_cons_succ, List.getElem_cons_zero, Act.put, List.setIfInBounds_toArray, List.set_cons_zero, List.set_cons_succ])
      refine wpAnyH_take (i := 14) (v := ?_) rfl (by kernel_rfl) (by kernel_rfl) (by kernel_rfl) (fun _ _ _ h => h) (Or.inl ⟨by rfl, ?_⟩) hHeld ?_
      rotate_left
      · (intro w hSw; (try dsimp only at hSw); go_simp; (try with_reducible rfl))
      (try simp only [List.getElem_toArray, List.getElem_cons_succ, List.getElem_cons_zero, Act.put, List.setIfInBounds_toArray, List.set_cons_zero, List.set_cons_succ])
      refine wpAnyH_take (i := 15) (v := undef) rfl (by kernel_rfl) (by kernel_rfl) (by kernel_rfl) (fun _ _ _ h => h) (Or.inr ⟨by rfl, rfl⟩) hHeld ?_
      (try simp only [List.getElem_toArray, List.getElem_cons_succ, List.getElem_cons_zero, Act.put, List.setIfInBounds_toArray, List.set_cons_zero, List.set_cons_succ])
      refine wpAnyH_take (i := 16) (v := undef) rfl (by kernel_rfl) (by kernel_rfl) (by kernel_rfl) (fun _ _ _ h => h) (Or.inr ⟨by rfl, rfl⟩) hHeld ?_
      (try simp only [List.getElem_toArray, List.getElem_cons_succ, List.getElem_cons_zero, Act.put, List.setIfInBounds_toArray, List.set_cons_zero, List.set_cons_succ])
      refine wpAnyH_take (i := 17) (v := undef) rfl (by kernel_rfl) (by kernel_rfl) (by kernel_rfl) (fun _ _ _ h => h) (Or.inr ⟨by rfl, rfl⟩) hHeld ?_
      (try simp only [List.getElem_toArray, List.getElem_cons_succ, List.getElem_cons_zero, Act.put, List.setIfInBounds_toArray, List.set_cons_zero, List.set_cons_succ])
      refine wpAnyH_take (i := 18) (v := ?_) rfl (by kernel_rfl) (by kernel_rfl) (by kernel_rfl) (fun _ _ _ h => h) (Or.inl ⟨by rfl, ?_⟩) hHeld ?_
      rotate_left
      · (intro w hSw; (try dsimp only at hSw); go_simp; (try with_reducible rfl))
      (try simp only [List.getElem_toArray, List.getElem_cons_succ, List.getElem_cons_zero, Act.put, List.setIfInBounds_toArray, List.set_cons_zero, List.set_cons_succ])
      refine wpAnyH_take (i := 19) (v := ?_) rfl (by kernel_rfl) (by kernel_rfl) (by kernel_rfl) (fun _ _ _ h => h) (Or.inl ⟨by rfl, ?_⟩) hHeld ?_
      rotate_left
      · (intro w hSw; (try dsimp only at hSw); go_simp; (try with_reducible rfl))
      (try simp only [List.getElem_toArray, List.getElem_cons_succ, List.getElem_cons_zero, Act.put, List.setIfInBounds_toArray, List.set_cons_zero, List.set_cons_succ])
      refine wpAnyH_take (i := 20) (v := ?_) rfl (by kernel_rfl) (by kernel_rfl) (by kernel_rfl) (fun _ _ _ h => h) (Or.inl ⟨by rfl, ?_⟩) hHeld ?_
      rotate_left
      · (intro w hSw; (try dsimp only at hSw); go_simp; (try with_reducible rfl))
      (try simp only [List.getElem_toArray, List.getElem_cons_succ, List.getElem_cons_zero, Act.put, List.setIfInBounds_toArray, List.set_cons_zero, List.set_cons_succ])
      refine wpAnyH_take (i := 21) (v := ?_) rfl (by kernel_rfl) (by kernel_rfl) (by kernel_rfl) (fun _ _ _ h => h) (Or.inl ⟨by rfl, ?_⟩) hHeld ?_
      rotate_left
      · (intro w hSw; (try dsimp only at hSw); go_simp; (try with_reducible rfl))
      (try simp only [List.getElem_toArray, List.getElem_cons_succ, List.getElem_cons_zero, Act.put, List.setIfInBounds_toArray, List.set_cons_zero, List.set_cons_succ])
      refine wpAnyH_take (i := 22) (v := ?_) rfl (by kernel_rfl) (by kernel_rfl) (by kernel_rfl) (fun _ _ _ h => h) (Or.inl ⟨by rfl, ?_⟩) hHeld ?_
      rotate_left
      · (intro w hSw; (try dsimp only at hSw); go_simp; (try with_reducible rfl))
      (try simp only [List.getElem_toArray, List.getElem_cons_succ, List.getElem_cons_zero, Act.put, List.setIfInBounds_toArray, List.set_cons_zero, List.set_cons_succ])
      refine wpAnyH_take (i := 24) (v := ?_) rfl (by kernel_rfl) (by kernel_rfl) (by kernel_rfl) (fun _ _ _ h => h) (Or.inl ⟨by rfl, ?_⟩) hHeld ?_
      rotate_left
      · (intro w hSw; (try dsimp only at hSw); go_simp; (try with_reducible rfl))
      (try simp only [List.getElem_toArray, List.getElem_cons_succ, List.getElem_cons_zero, Act.put, List.setIfInBounds_toArray, List.set_cons_zero, List.set_cons_succ])
      refine wpAnyH_take (i := 25) (v := ?_) rfl (by kernel_rfl) (by kernel_rfl) (by kernel_rfl) (fun _ _ _ h => h) (Or.inl ⟨by rfl, ?_⟩) hHeld ?_
      rotate_left
      · (intro w hSw; (try dsimp only at hSw); go_simp; (try with_reducible rfl))
      (try simp only [List.getElem_toArray, List.getElem_cons_succ, List.getElem_cons_zero, Act.put, List.setIfInBounds_toArray, List.set_cons_zero, List.set_cons_succ])
      refine wpAnyH_ready (rs := [23]) (by kernel_rfl) (by simp) ?_
      refine AllReadyH.cons (o := _) rfl (fun K hK => ?_) ?_
      rotate_left
      · exact AllReadyH.nil
      go_simp
      (first | (go_at_call 35; refine (RR.out _).mono ?_; rintro e w1 ⟨rfl, hq⟩) | (go_at_call 29; refine (before_any _ _ (by omega) (by omega) (by omega) (by omega) _).mono ?_; rintro e w1 ⟨rfl, hq⟩) | (go_at_call 36; refine (rbefore_any _ _ (by omega) (by omega) (by omega) (by omega) _).mono ?_; rintro e w1 ⟨rfl, hq⟩) | (go_at_call 21; refine (awake_any _).mono ?_; rintro e w1 ⟨rfl, hq⟩))
      refine hK.out _ _ ?_ (fun hHeld => ?_)
      · (try dsimp only); exact keepS hHeld (by assumption) hl2 hl2
      clear hK K
      (try simp only [List.getElem_toArray, List.getElem_cons_succ, List.getElem_cons_zero, Act.put, List.setIfInBounds_toArray, List.set_cons_zero, List.set_cons_succ])
      refine wpAnyH_ready (rs := [26]) (by kernel_rfl) (by simp) ?_
      refine AllReadyH.cons (o := _) rfl (fun K hK => ?_) ?_
      rotate_left
      · exact AllReadyH.nil
      go_simp
      (first | (go_at_call 35; refine (RR.out _).mono ?_; rintro e w1 ⟨rfl, hq⟩) | (go_at_call 29; refine (before_any _ _ (by omega) (by omega) (by omega) (by omega) _).mono ?_; rintro e w1 ⟨rfl, hq⟩) | (go_at_call 36; refine (rbefore_any _ _ (by omega) (by omega) (by omega) (by omega) _).mono ?_; rintro e w1 ⟨rfl, hq⟩) | (go_at_call 21; refine (awake_any _).mono ?_; rintro e w1 ⟨rfl, hq⟩))
      refine hK.out _ _ ?_ (fun hHeld => ?_)
      · (try dsimp only); exact keepS hHeld (by assumption) hl2 hl2
      clear hK K
      (try simp only [List.getElem_toArray, List.getElem_cons_succ, List.getElem_cons_zero, Act.put, List.setIfInBounds_toArray, List.set_cons_zero, List.set_cons_succ])
      refine wpAnyH_take (i := 27) (v := ?_) rfl (by kernel_rfl) (by kernel_rfl) (by kernel_rfl) (fun _ _ _ h => h) (Or.inl ⟨by rfl, ?_⟩) hHeld ?_
      rotate_left
      · (intro w hSw; (try dsimp only at hSw); go_simp; (try with_reducible rfl))
      (try simp only [List.getElem_toArray, List.getElem_cons_succ, List.getElem_cons_zero, Act.put, List.setIfInBounds_toArray, List.set_cons_zero, List.set_cons_succ])
      refine wpAnyH_take (i := 28) (v := ?_) rfl (by kernel_rfl) (by kernel_rfl) (by kernel_rfl) (fun _ _ _ h => h) (Or.inl ⟨by rfl, ?_⟩) hHeld ?_
      rotate_left
      · (intro w hSw; (try dsimp only at hSw); go_simp; (try with_reducible rfl))
      (try simp only [List.getElem_toArray, List.getElem_cons_succ, List.getElem_cons_zero, Act.put, List.setIfInBounds_toArray, List.set_cons_zero, List.set_cons_succ])
      refine wpAnyH_take (i := 29) (v := ?_) rfl (by kernel_rfl) (by kernel_rfl) (by kernel_rfl) (fun _ _ _ h => h) (Or.inl ⟨by rfl, ?_⟩) hHeld ?_
      rotate_left
      · (intro w hSw; (try dsimp only at hSw); go_simp; (try with_reducible rfl))
      (try simp only [List.getElem_toArray, List.getElem_cons_succ, List.getElem_cons_zero, Act.put, List.setIfInBounds_toArray, List.set_cons_zero, List.set_cons_succ])
      refine wpAnyH_ready (rs := [30]) (by kernel_rfl) (by simp) ?_
      refine AllReadyH.cons (o := _) rfl (fun K hK => ?_) ?_
      rotate_left
      · exact AllReadyH.nil
      go_simp
      (first | (go_at_call 35; refine (RR.out _).mono ?_; rintro e w1 ⟨rfl, hq⟩) | (go_at_call 29; refine (before_any _ _ (by omega) (by omega) (by omega) (by omega) _).mono ?_; rintro e w1 ⟨rfl, hq⟩) | (go_at_call 36; refine (rbefore_any _ _ (by omega) (by omega) (by omega) (by omega) _).mono ?_; rintro e w1 ⟨rfl, hq⟩) | (go_at_call 21; refine (awake_any _).mono ?_; rintro e w1 ⟨rfl, hq⟩))
      refine hK.out _ _ ?_ (fun hHeld => ?_)
      · (try dsimp only); exact keepS hHeld (by assumption) hl2 hl2
      clear hK K
      (try simp only [List.getElem_toArray, List.getElem_cons_succ, List.getElem_cons_zero, Act.put, List.setIfInBounds_toArray, List.set_cons_zero, List.set_cons_succ])
      refine wpAnyH_take (i := 31) (v := ?_) rfl (by kernel_rfl) (by kernel_rfl) (by kernel_rfl) (fun _ _ _ h => h) (Or.inl ⟨by rfl, ?_⟩) hHeld ?_
      rotate_left
      · (intro w hSw; (try dsimp only at hSw); go_simp; (try with_reducible rfl))
      (try simp only [List.getElem_toArray, List.getElem_cons_succ, List.getElem_cons_zero, Act.put, List.setIfInBounds_toArray, List.set_cons_zero, List.set_cons_succ])
      refine wpAnyH_take (i := 32) (v := ?_) rfl (by kernel_rfl) (by kernel_rfl) (by kernel_rfl) (fun _ _ _ h => h) (Or.inl ⟨by rfl, ?_⟩) hHeld ?_
      rotate_left
      · (intro w hSw; (try dsimp only at hSw); go_simp; (try with_reducible rfl))
      (try simp only [List.getElem_toArray, List.getElem_cons_succ, List.getElem_cons_zero, Act.put, List.setIfInBounds_toArray, List.set_cons_zero, List.set_cons_succ])
      refine wpAnyH_done (by kernel_rfl) ?_ _
      go_wp2
      go_ret
      exact ⟨rfl, hw2.trans (hHeld.1.mono hw2.size)⟩

theorem i64_bd {t : Int} (h : (Lit.int .i64 t).wf = true) : -9223372036854775808 ≤ t ∧ t < 9223372036854775808 := by
  have := bounds_i64 h
  omega
theorem stamps_law (t i k n x y : Int) (ht : (Lit.int .u64 t).wf = true) (_ : (Lit.int .i64 i).wf = true) (hk : (Lit.int .i64 k).wf = true) (hn : (Lit.int .u64 n).wf = true) (hx : (Lit.int .u64 x).wf = true) (hy : (Lit.int .u64 y).wf = true) (w : World) :
    Calls Try.prog 9 #[.int .u64 t, .int .i64 i, .agg #[.int .i64 k, .int .u64 n], .int .u64 x, .int .u64 y] w fun e w' => e = .returned (.bool true) ∧ Below w.heap.size w w' :=
  stamps_core t i k n x y (u64_bd ht).1 (i64_bd hk).1 (i64_bd hk).2 (u64_bd hn).1 (u64_bd hn).2 (u64_bd hx).1 (u64_bd hx).2 (u64_bd hy).1 (u64_bd hy).2 w
end Go.Proofs.Ytplfhjahdepphaa.Word
