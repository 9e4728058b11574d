/- Texts of this claim, laid together: Hd, Hh, Hi, Hj, On, Oo, Pa, Pb. -/
import Derived.Test.YtdgombgcjeelpaaGreatM4er
import Derived.MapKept
import Derived.Laws.EntriesVeiled
import Derived.Laws.LoneSync
namespace Go.Proofs.YtdgombgcjeelpaaGreat.Em
open Go.ChangeShapes Go.WideShapes Go.ChangeAt Go.RowKit En
set_option linter.unusedVariables false
set_option linter.unusedSimpArgs false
set_option maxRecDepth 100000
set_option maxHeartbeats 1000000

theorem rd_one {x : Nat} (h1 : x ≤ 1099511627776) : rd x = (1, x) := if_pos h1
theorem rd_three : rd 2305843009213693952 = (3, 0) := by decide
theorem rd_two {x : Nat} (h3 : 4611686018427387904 < x ∧ x ≤ 4611686018427453439) : rd x = (2, x - 4611686018427387904) := by
  unfold rd tm ever txnBit
  rw [if_neg (by omega), if_neg (by omega), if_pos (by omega)]
theorem rd_none {x : Nat} (h1 : ¬ x ≤ 1099511627776) (h2 : ¬ x = 2305843009213693952) (h3 : ¬ (4611686018427387904 < x ∧ x ≤ 4611686018427453439)) : rd x = (0, 0) := by
  unfold rd tm ever txnBit
  rw [if_neg (by omega), if_neg (by omega), if_neg (by omega)]
theorem rd_cast (x : Nat) : Word.rdK (x : Int) = ((rd x).1 : Int) ∧ Word.rdN (x : Int) = ((rd x).2 : Int) := by
  unfold Word.rdK Word.rdN
  by_cases h1 : x ≤ 1099511627776
  · have i1 : (x : Int) ≤ 1099511627776 := by omega
    rw [rd_one h1]
    simp only [if_pos i1]
    exact ⟨rfl, trivial⟩
  · have i1 : ¬ (x : Int) ≤ 1099511627776 := by omega
    by_cases h2 : x = 2305843009213693952
    · subst h2
      rw [rd_three]
      exact ⟨by decide, by decide⟩
    · have i2 : ¬ (x : Int) = 2305843009213693952 := by omega
      by_cases h3 : 4611686018427387904 < x ∧ x ≤ 4611686018427453439
      · have i3 : 4611686018427387904 < (x : Int) ∧ (x : Int) ≤ 4611686018427453439 := by omega
        rw [rd_two h3]
        simp only [if_neg i1, if_neg i2, if_pos i3]
        exact ⟨rfl, by omega⟩
      · have i3 : ¬ (4611686018427387904 < (x : Int) ∧ (x : Int) ≤ 4611686018427453439) := by omega
        rw [rd_none h1 h2 h3]
        simp only [if_neg i1, if_neg i2, if_neg i3]
        exact ⟨rfl, rfl⟩
theorem rd_small (x : Nat) (hx : x < 18446744073709551616) : (rd x).1 ≤ 3 ∧ ((rd x).1 = 2 → (rd x).2 ≤ 65535) ∧ (rd x).2 < 18446744073709551616 := by
  by_cases h1 : x ≤ 1099511627776
  · rw [rd_one h1]; exact ⟨by simp only; omega, by simp only; omega, hx⟩
  · by_cases h2 : x = 2305843009213693952
    · subst h2; rw [rd_three]; exact ⟨by decide, by decide, by decide⟩
    · by_cases h3 : 4611686018427387904 < x ∧ x ≤ 4611686018427453439
      · rw [rd_two h3]; exact ⟨by simp only; omega, by simp only; omega, by simp only; omega⟩
      · rw [rd_none h1 h2 h3]; exact ⟨by simp only; omega, by simp only; omega, by simp only; omega⟩
theorem rd_any (x : Nat) (hx : x < 18446744073709551616) (w : World) : Calls Tryz.prog 88 #[.int .u64 (x : Int)] w fun e w' => e = .returned (.agg #[.int .i64 ((rd x).1 : Int), .int .u64 ((rd x).2 : Int)]) ∧ Below w.heap.size w w' := by
  have h := Word.read_any (x : Int) (by omega) (by omega) w
  rw [(rd_cast x).1, (rd_cast x).2] at h
  exact h
theorem Box.below {L : Lab} {w w' : World} {b : Nat} {v : Value} (h : Box L w b v) (g : Below w.heap.size w w') : Box L w' b v := h.grow (Grow.below g)
theorem Fix.cell {L : Lab} {w : World} {b : Nat} {cs : Array Value} {T : TypeId} (h : Fix L w b (.cells cs T)) (i : Nat) {v : Value} (hv : cs[i]? = some v) : w.cell? ⟨b, i, none⟩ = some v := by rw [cell_of_row w b i _ _ _ h.2]; exact hv

theorem begin_any {A : Book} {σ : St} {w : World} (hR : Rep A σ w) (s : Nat) (t : Txn) (ht : σ.txns.getD s none = some t) (bh : Nat) (hu : Hunt) (hh : HuntAt (kp A σ s) A.L w bh hu) (link x : Nat) (hx : x < 18446744073709551616) :
    Calls Tryz.prog 177 #[.pointer (some ⟨bh, 0, none⟩), .int .u64 (link : Int), .int .u64 (x : Int)] w (Tells A w s (σ, σ.beginK s hu link x)) := by
  obtain ⟨hk3, hk2, hnb⟩ := rd_small x hx
  have hrd := rd_any x hx
  obtain ⟨r1, g1, f0, f1⟩ := allocs2 hR #[.pointer (some ⟨bh, 0, none⟩)] 224 #[.int .u64 (link : Int)] 24
  have hid : (σ.t s).id = t.id := by rw [txn_get ht]
  unfold St.beginK
  rw [hid]
  generalize hK : (rd x).1 = k at *
  generalize hN : (rd x).2 = n at *
  have hh1 := hh.grow g1
  have HR := Lib.hid (And.intro r1 g1)
  have HX := Lib.hid hrd
  have HF := Lib.hid (And.intro f0 (And.intro f1 hh1))
  have HT := Lib.hid ht
  clear r1 g1 f0 f1 hh1 hh hR hrd ht hx hK hN hid
  by_cases k1 : k = 1
  · subst k1
    clear hk3 hk2
    by_cases hn : n ≤ hu.at_
    · rw [if_pos ⟨rfl, hn⟩]
      have d1 : decide ((n : Int) ≤ (hu.at_ : Int)) = true := by simpa using hn
      have d2 : decide (n ≤ hu.at_) = true := by simpa using hn
      clear hn hnb
      go_enter Tryz.func177, Tryz.ntmps177
      go_wp2_with (go_at_call 88; refine (HX.out _).mono ?_; rintro e w2 ⟨rfl, hq⟩)
      obtain ⟨r1, g1⟩ := HR.out
      obtain ⟨f0, f1, hh1⟩ := HF.out
      obtain ⟨r3, g3, f2⟩ := allocs1 (r1.below hq) #[.int .i64 1, .int .u64 (n : Int)] 179
      have gq := (Grow.below (L := A.L) hq).trans g3
      have F0 := f0.grow gq
      have F1 := f1.grow gq
      have hh3 := hh1.grow gq
      have c0 := F0.cell 0 rfl
      have c1 := F1.cell 0 rfl
      have s0 := f2.cell 0 rfl
      have s1 := f2.cell 1 rfl
      obtain ⟨vt, HTy, fh, hth⟩ := hh3
      have h0 : (w2.alloc (.cells #[.int .i64 1, .int .u64 (n : Int)] 179)).cell? ⟨bh, 1, none⟩ = some (.pointer (some ⟨A.bt s, 0, none⟩)) := fh.cell 1 rfl
      have h3 := fh.cell 3 (v := .int .u64 (hu.at_ : Int)) rfl
      have t0 : (w2.alloc (.cells #[.int .i64 1, .int .u64 (n : Int)] 179)).cell? ⟨A.bt s, 0, none⟩ = some (.int .i64 (t.id : Int)) := r3.txn HT.out 0 rfl
      have GG := Lib.hid (And.intro r3 (And.intro (g1.trans gq) (And.intro F0 (And.intro F1 (show HuntAt (kp A σ s) A.L _ bh hu from ⟨vt, HTy, fh, hth⟩)))))
      clear r1 g1 f0 f1 hh1 r3 g3 gq F0 F1 f2 fh hth hq
      generalize w2.heap.size = b2 at *
      generalize w2.alloc (.cells #[.int .i64 1, .int .u64 (n : Int)] 179) = w3 at *
      go_quiet (fail)
      go_wp2_with (go_at_call 193; refine (ended_any (GG.out.1.drewN _) s bh hu (GG.out.2.2.2.2.grow (Grow.drewN _ _ _)) link 0).mono ?_; rintro e w4 ⟨A', v, rfl, q1, q2, q3, q4⟩)
      go_ret
      exact ⟨A', v, rfl, q1, (GG.out.2.1.trans (Grow.drewN _ _ _)).trans q2, q3, q4⟩
    · rw [if_neg (fun e => hn e.2), if_pos (Or.inl (by omega))]
      have d1 : decide ((n : Int) ≤ (hu.at_ : Int)) = false := by simpa using hn
      have d2 : decide (n ≤ hu.at_) = false := by simpa using hn
      clear hn hnb
      go_enter Tryz.func177, Tryz.ntmps177
      go_wp2_with (go_at_call 88; refine (HX.out _).mono ?_; rintro e w2 ⟨rfl, hq⟩)
      obtain ⟨r1, g1⟩ := HR.out
      obtain ⟨f0, f1, hh1⟩ := HF.out
      obtain ⟨r3, g3, f2⟩ := allocs1 (r1.below hq) #[.int .i64 1, .int .u64 (n : Int)] 179
      have gq := (Grow.below (L := A.L) hq).trans g3
      have F0 := f0.grow gq
      have F1 := f1.grow gq
      have hh3 := hh1.grow gq
      have c0 := F0.cell 0 rfl
      have c1 := F1.cell 0 rfl
      have s0 := f2.cell 0 rfl
      have s1 := f2.cell 1 rfl
      obtain ⟨vt, HTy, fh, hth⟩ := hh3
      have h0 : (w2.alloc (.cells #[.int .i64 1, .int .u64 (n : Int)] 179)).cell? ⟨bh, 1, none⟩ = some (.pointer (some ⟨A.bt s, 0, none⟩)) := fh.cell 1 rfl
      have h3 := fh.cell 3 (v := .int .u64 (hu.at_ : Int)) rfl
      have t0 : (w2.alloc (.cells #[.int .i64 1, .int .u64 (n : Int)] 179)).cell? ⟨A.bt s, 0, none⟩ = some (.int .i64 (t.id : Int)) := r3.txn HT.out 0 rfl
      have GG := Lib.hid (And.intro r3 (And.intro (g1.trans gq) (And.intro F0 (And.intro F1 (show HuntAt (kp A σ s) A.L _ bh hu from ⟨vt, HTy, fh, hth⟩)))))
      clear r1 g1 f0 f1 hh1 r3 g3 gq F0 F1 f2 fh hth hq
      generalize w2.heap.size = b2 at *
      generalize w2.alloc (.cells #[.int .i64 1, .int .u64 (n : Int)] 179) = w3 at *
      go_quiet (fail)
      go_wp2_with fail
      go_quiet (fail)
      go_wp2_with fail
      go_wp2_with (go_at_call 194; refine (older_any (GG.out.1.drewN _) s bh hu (GG.out.2.2.2.2.grow (Grow.drewN _ _ _)) link).mono ?_; rintro e w4 ⟨A', v, rfl, q1, q2, q3, q4⟩)
      go_ret
      exact ⟨A', v, rfl, q1, (GG.out.2.1.trans (Grow.drewN _ _ _)).trans q2, q3, q4⟩
  · by_cases k2 : k = 2
    · subst k2
      have hn5 := hk2 rfl
      rw [if_neg (by omega)]
      have ew : IntKind.i64.wrap (n : Int) = (n : Int) := by rw [IntKind.wrap_i64]; omega
      clear hk3 hk2 k1 hnb
      by_cases hn : n = t.id
      · rw [if_pos (Or.inr hn)]
        have d1 : ((n : Int) == (t.id : Int)) = true := by simp; omega
        have d2 : ((n : Int) = (t.id : Int)) = True := by simp; omega
        clear hn hn5
        go_enter Tryz.func177, Tryz.ntmps177
        go_wp2_with (go_at_call 88; refine (HX.out _).mono ?_; rintro e w2 ⟨rfl, hq⟩)
        obtain ⟨r1, g1⟩ := HR.out
        obtain ⟨f0, f1, hh1⟩ := HF.out
        obtain ⟨r3, g3, f2⟩ := allocs1 (r1.below hq) #[.int .i64 2, .int .u64 (n : Int)] 179
        have gq := (Grow.below (L := A.L) hq).trans g3
        have F0 := f0.grow gq
        have F1 := f1.grow gq
        have hh3 := hh1.grow gq
        have c0 := F0.cell 0 rfl
        have c1 := F1.cell 0 rfl
        have s0 := f2.cell 0 rfl
        have s1 := f2.cell 1 rfl
        obtain ⟨vt, HTy, fh, hth⟩ := hh3
        have h0 : (w2.alloc (.cells #[.int .i64 2, .int .u64 (n : Int)] 179)).cell? ⟨bh, 1, none⟩ = some (.pointer (some ⟨A.bt s, 0, none⟩)) := fh.cell 1 rfl
        have h3 := fh.cell 3 (v := .int .u64 (hu.at_ : Int)) rfl
        have t0 : (w2.alloc (.cells #[.int .i64 2, .int .u64 (n : Int)] 179)).cell? ⟨A.bt s, 0, none⟩ = some (.int .i64 (t.id : Int)) := r3.txn HT.out 0 rfl
        have GG := Lib.hid (And.intro r3 (And.intro (g1.trans gq) (And.intro F0 (And.intro F1 (show HuntAt (kp A σ s) A.L _ bh hu from ⟨vt, HTy, fh, hth⟩)))))
        clear r1 g1 f0 f1 hh1 r3 g3 gq F0 F1 f2 fh hth hq
        generalize w2.heap.size = b2 at *
        generalize w2.alloc (.cells #[.int .i64 2, .int .u64 (n : Int)] 179) = w3 at *
        go_quiet (fail)
        go_wp2_with fail
        go_quiet (fail)
        go_wp2_with (go_at_call 194; refine (older_any (GG.out.1.drewN _) s bh hu (GG.out.2.2.2.2.grow (Grow.drewN _ _ _)) link).mono ?_; rintro e w4 ⟨A', v, rfl, q1, q2, q3, q4⟩)
        go_ret
        exact ⟨A', v, rfl, q1, (GG.out.2.1.trans (Grow.drewN _ _ _)).trans q2, q3, q4⟩
      · rw [if_neg (by omega)]
        have d1 : ((n : Int) == (t.id : Int)) = false := by simp; omega
        have d2 : ((n : Int) = (t.id : Int)) = False := by simp; omega
        clear hn hn5
        go_enter Tryz.func177, Tryz.ntmps177
        go_wp2_with (go_at_call 88; refine (HX.out _).mono ?_; rintro e w2 ⟨rfl, hq⟩)
        obtain ⟨r1, g1⟩ := HR.out
        obtain ⟨f0, f1, hh1⟩ := HF.out
        obtain ⟨r3, g3, f2⟩ := allocs1 (r1.below hq) #[.int .i64 2, .int .u64 (n : Int)] 179
        have gq := (Grow.below (L := A.L) hq).trans g3
        have F0 := f0.grow gq
        have F1 := f1.grow gq
        have hh3 := hh1.grow gq
        have c0 := F0.cell 0 rfl
        have c1 := F1.cell 0 rfl
        have s0 := f2.cell 0 rfl
        have s1 := f2.cell 1 rfl
        obtain ⟨vt, HTy, fh, hth⟩ := hh3
        have h0 : (w2.alloc (.cells #[.int .i64 2, .int .u64 (n : Int)] 179)).cell? ⟨bh, 1, none⟩ = some (.pointer (some ⟨A.bt s, 0, none⟩)) := fh.cell 1 rfl
        have h3 := fh.cell 3 (v := .int .u64 (hu.at_ : Int)) rfl
        have t0 : (w2.alloc (.cells #[.int .i64 2, .int .u64 (n : Int)] 179)).cell? ⟨A.bt s, 0, none⟩ = some (.int .i64 (t.id : Int)) := r3.txn HT.out 0 rfl
        have GG := Lib.hid (And.intro r3 (And.intro (g1.trans gq) (And.intro F0 (And.intro F1 (show HuntAt (kp A σ s) A.L _ bh hu from ⟨vt, HTy, fh, hth⟩)))))
        clear r1 g1 f0 f1 hh1 r3 g3 gq F0 F1 f2 fh hth hq
        generalize w2.heap.size = b2 at *
        generalize w2.alloc (.cells #[.int .i64 2, .int .u64 (n : Int)] 179) = w3 at *
        have GA : ∀ q, Rep A σ (w3.drewN q) ∧ Grow A.L w A.L (w3.drewN q) ∧ Fix A.L (w3.drewN q) w.heap.size (.cells #[.pointer (some ⟨bh, 0, none⟩)] 224) ∧ Fix A.L (w3.drewN q) (w.heap.size + 1) (.cells #[.int .u64 (link : Int)] 24) ∧ HuntAt (kp A σ s) A.L (w3.drewN q) bh hu := fun q =>
          ⟨GG.out.1.drewN q, GG.out.2.1.trans (Grow.drewN _ _ q), GG.out.2.2.1.grow (Grow.drewN _ _ q), GG.out.2.2.2.1.grow (Grow.drewN _ _ q), GG.out.2.2.2.2.grow (Grow.drewN _ _ q)⟩
        have HA := Lib.hid GA
        clear GA
        go_quiet (fail)
        go_wp2_with fail
        go_quiet (fail)
        generalize hw : (w3.drewN _).drewN _ = w5
        have GB : Rep A σ w5 ∧ Grow A.L w A.L w5 ∧ Fix A.L w5 w.heap.size (.cells #[.pointer (some ⟨bh, 0, none⟩)] 224) ∧ Fix A.L w5 (w.heap.size + 1) (.cells #[.int .u64 (link : Int)] 24) ∧ HuntAt (kp A σ s) A.L w5 bh hu := by
          rw [← hw]
          obtain ⟨p1, p2, p3, p4, p5⟩ := HA.out _
          exact ⟨p1.drewN _, p2.trans (Grow.drewN _ _ _), p3.grow (Grow.drewN _ _ _), p4.grow (Grow.drewN _ _ _), p5.grow (Grow.drewN _ _ _)⟩
        have s15 : w5.cell? ⟨b2, 1, none⟩ = some (.int .u64 (n : Int)) := by rw [← hw]; exact s1
        have HM := Lib.hid (allocs1 GB.1 #[.int .i64 (n : Int)] 3)
        have HB := Lib.hid GB
        clear GB hw
        go_wp2_with fail
        go_ret
        obtain ⟨m1, m2, m3⟩ := HM.out
        obtain ⟨_, p2, p3, p4, p5⟩ := HB.out
        exact ⟨A, _, rfl, m1, p2.trans m2, Stay.refl _ _, _, _, _, rfl, ⟨_, (p3.grow m2).box, p5.grow m2⟩, m3.box, (p4.grow m2).box⟩
    · rw [if_neg (fun e => k1 e.1), if_pos (Or.inl k2)]
      have d1 : ((k : Int) == 1) = false := by simp; omega
      have d2 : ((k : Int) = 1) = False := by simp; omega
      have d3 : ((k : Int) == 2) = false := by simp; omega
      have d4 : ((k : Int) = 2) = False := by simp; omega
      have d5 : ((k : Int) != 2) = true := by simp; omega
      clear k1 k2 hk2 hk3 hnb
      go_enter Tryz.func177, Tryz.ntmps177
      go_wp2_with (go_at_call 88; refine (HX.out _).mono ?_; rintro e w2 ⟨rfl, hq⟩)
      obtain ⟨r1, g1⟩ := HR.out
      obtain ⟨f0, f1, hh1⟩ := HF.out
      obtain ⟨r3, g3, f2⟩ := allocs1 (r1.below hq) #[.int .i64 (k : Int), .int .u64 (n : Int)] 179
      have gq := (Grow.below (L := A.L) hq).trans g3
      have F0 := f0.grow gq
      have F1 := f1.grow gq
      have hh3 := hh1.grow gq
      have c0 := F0.cell 0 rfl
      have c1 := F1.cell 0 rfl
      have s0 := f2.cell 0 rfl
      have s1 := f2.cell 1 rfl
      obtain ⟨vt, HTy, fh, hth⟩ := hh3
      have h0 : (w2.alloc (.cells #[.int .i64 (k : Int), .int .u64 (n : Int)] 179)).cell? ⟨bh, 1, none⟩ = some (.pointer (some ⟨A.bt s, 0, none⟩)) := fh.cell 1 rfl
      have h3 := fh.cell 3 (v := .int .u64 (hu.at_ : Int)) rfl
      have t0 : (w2.alloc (.cells #[.int .i64 (k : Int), .int .u64 (n : Int)] 179)).cell? ⟨A.bt s, 0, none⟩ = some (.int .i64 (t.id : Int)) := r3.txn HT.out 0 rfl
      have GG := Lib.hid (And.intro r3 (And.intro (g1.trans gq) (And.intro F0 (And.intro F1 (show HuntAt (kp A σ s) A.L _ bh hu from ⟨vt, HTy, fh, hth⟩)))))
      clear r1 g1 f0 f1 hh1 r3 g3 gq F0 F1 f2 fh hth hq
      generalize w2.heap.size = b2 at *
      generalize w2.alloc (.cells #[.int .i64 (k : Int), .int .u64 (n : Int)] 179) = w3 at *
      go_quiet (fail)
      go_wp2_with fail
      go_quiet (fail)
      go_wp2_with (go_at_call 194; refine (older_any (GG.out.1.drewN _) s bh hu (GG.out.2.2.2.2.grow (Grow.drewN _ _ _)) link).mono ?_; rintro e w4 ⟨A', v, rfl, q1, q2, q3, q4⟩)
      go_ret
      exact ⟨A', v, rfl, q1, (GG.out.2.1.trans (Grow.drewN _ _ _)).trans q2, q3, q4⟩
end Go.Proofs.YtdgombgcjeelpaaGreat.Em

namespace Go.Proofs.YtdgombgcjeelpaaGreat.Em
open Go.ChangeShapes Go.WideShapes Go.ChangeAt Go.RowKit En
set_option linter.unusedVariables false
set_option linter.unusedSimpArgs false
set_option maxRecDepth 100000
set_option maxHeartbeats 1000000

/-- Entries by whole numbers. -/
def ent (f : Nat → Nat) (p : Nat × Nat) : MapEntry := ⟨.int .i64 (p.1 : Int), ptr (f p.1), p.2⟩
theorem findNow_ent (f : Nat → Nat) (key : Nat) : ∀ (l : List (Nat × Nat)) (i : Nat), Instr.findNow (.int .i64) (.int .i64 (key : Int)) (l.map (ent f)) i = some none ∧ (∀ p ∈ l, p.1 ≠ key) ∨
    ∃ j, Instr.findNow (.int .i64) (.int .i64 (key : Int)) (l.map (ent f)) i = some (some (j, ptr (f key))) ∧ ∃ p ∈ l, p.1 = key
  | [], i => .inl ⟨rfl, by simp⟩
  | p :: l, i => by
    by_cases h : p.1 = key
    · right
      refine ⟨i, ?_, p, by simp, h⟩
      rw [List.map_cons]
      unfold Instr.findNow
      simp [ent, Instr.sameNow, h]
    · rcases findNow_ent f key l (i + 1) with ⟨h1, h2⟩ | ⟨j, h1, q, hq, hk⟩
      · left
        refine ⟨?_, fun q hq => (List.mem_cons.1 hq).elim (fun e => e ▸ h) (h2 q)⟩
        rw [List.map_cons]
        unfold Instr.findNow
        have hne : ((key : Int) == (p.1 : Int)) = false := by simp; omega
        simp [ent, Instr.sameNow, hne]
        exact h1
      · right
        refine ⟨j, ?_, q, by simp [hq], hk⟩
        rw [List.map_cons]
        unfold Instr.findNow
        have hne : ((key : Int) == (p.1 : Int)) = false := by simp; omega
        simp [ent, Instr.sameNow, hne]
        exact h1
theorem mapEs_ent (A : Book) (s : Nat) (t : Txn) : mapEs A s t = (t.cells.reverse.zipIdx.map fun p => (p.1.1, p.2)).map (ent (A.bx s)) := by
  unfold mapEs
  rw [List.map_map]
  rfl
theorem lookup_mem {l : List (Nat × Cel)} {key : Nat} {x : Cel} (h : l.lookup key = some x) : (key, x) ∈ l := by
  induction l with
  | nil => cases h
  | cons a l ih =>
    obtain ⟨k, y⟩ := a
    rw [List.lookup_cons] at h
    by_cases hk : key = k
    · subst hk
      simp at h
      subst h
      simp
    · rw [beq_false_of_ne hk] at h
      exact List.mem_cons_of_mem _ (ih h)
theorem cell_keys (t : Txn) (key : Nat) : (∃ p ∈ (t.cells.reverse.zipIdx.map fun p => (p.1.1, p.2)), p.1 = key) ↔ (t.cell key).isSome = true := by
  constructor
  · rintro ⟨p, hp, hk⟩
    obtain ⟨q, hq, rfl⟩ := List.mem_map.1 hp
    have h1 := List.mem_reverse.1 (List.fst_mem_of_mem_zipIdx hq)
    cases hc : t.cell key with
    | some x => rfl
    | none => exact absurd hk (lookup_none hc _ h1)
  · intro h
    cases hc : t.cell key with
    | none => rw [hc] at h; cases h
    | some x =>
      have h1 : (key, x) ∈ t.cells := by
        unfold Txn.cell at hc
        exact lookup_mem hc
      obtain ⟨i, hi⟩ := List.getElem?_of_mem (List.mem_reverse.2 h1)
      refine ⟨(key, i), List.mem_map.2 ⟨((key, x), i), ?_, rfl⟩, rfl⟩
      rw [List.mem_zipIdx_iff_getElem?]
      exact hi
def Book.px (A : Book) (s : Nat) (t : Txn) (key : Nat) : Value := if (t.cell key).isSome then ptr (A.bx s key) else .pointer none
theorem lookup_run {A : Book} {σ : St} {w : World} (hR : Rep A σ w) {s : Nat} {t : Txn} (ht : σ.txns.getD s none = some t) (key : Nat) :
    (Instr.lookup 106 (.map (some (A.bm s))) (.int .i64 (key : Int)) false).run Tryz.prog w = .ok (A.px s t key) w := by
  have hb := hR.map ht
  have hz : (zeroValue 193).run Tryz.prog w = .ok (.pointer none) w := by kernel_rfl
  have hck : ∀ e, (Instr.checkKey e 10000 3 (.int .i64 (key : Int))).run Tryz.prog w = .ok () w := by
    intro e
    unfold Instr.checkKey
    simp [run_underlying Tryz.underlying3]
  rw [mapEs_ent] at hb
  rcases findNow_ent (A.bx s) key (t.cells.reverse.zipIdx.map fun p => (p.1.1, p.2)) 0 with ⟨h1, h2⟩ | ⟨j, h1, h2⟩
  · have e : A.px s t key = .pointer none := by
      unfold Book.px
      rw [if_neg]
      intro h
      obtain ⟨p, hp, hk⟩ := (cell_keys t key).2 h
      exact h2 p hp hk
    rw [e]
    clear h2 e
    generalize (t.cells.reverse.zipIdx.map fun p => (p.1.1, p.2)).map (ent (A.bx s)) = es at *
    simp [Instr.lookup, run_underlying Tryz.underlying106, run_underlying Tryz.underlying3, MapKept.run_getObj_map hb, hck, Instr.findKey, h1, hz, Result.andThen]
  · have e : A.px s t key = ptr (A.bx s key) := by
      unfold Book.px
      rw [if_pos ((cell_keys t key).1 h2)]
    rw [e]
    clear h2 e
    generalize (t.cells.reverse.zipIdx.map fun p => (p.1.1, p.2)).map (ent (A.bx s)) = es at *
    simp [Instr.lookup, run_underlying Tryz.underlying106, run_underlying Tryz.underlying3, MapKept.run_getObj_map hb, hck, Instr.findKey, h1, Result.andThen]
end Go.Proofs.YtdgombgcjeelpaaGreat.Em

namespace Go.Proofs.YtdgombgcjeelpaaGreat.Em
open Go.ChangeShapes Go.WideShapes Go.ChangeAt Go.RowKit En
set_option linter.unusedVariables false
set_option linter.unusedSimpArgs false
set_option maxRecDepth 100000
set_option maxHeartbeats 1000000

theorem needs_any {A : Book} {σ : St} {w : World} (hR : Rep A σ w) (s : Nat) (t : Txn) (ht : σ.txns.getD s none = some t) (key link : Nat) (got : Bool) :
    Calls Tryz.prog 136 #[.pointer (some ⟨A.bt s, 0, none⟩), .agg #[.int .i64 (key : Int), .int .u64 (link : Int), .bool got]] w fun e w' => e = .returned (.bool (t.needs (key, link, got))) ∧ Below w.heap.size w w' := by
  obtain ⟨r1, g1, f0⟩ := allocs1 hR #[.int .i64 (key : Int), .int .u64 (link : Int), .bool got] 228
  have hbl : Below w.heap.size w (w.alloc (.cells #[.int .i64 (key : Int), .int .u64 (link : Int), .bool got] 228)) := (Below.refl _ _).alloc (Nat.le_refl _) _
  have c0 := f0.cell 0 (v := .int .i64 (key : Int)) rfl
  have c2 := f0.cell 2 (v := .bool got) rfl
  have t7 := r1.txn ht 7 (v := .map (some (A.bm s))) rfl
  have t1 := r1.txn ht 1 (v := .int .i64 (t.level : Int)) rfl
  have hlk : ∀ n, (Instr.lookup 106 (.map (some (A.bm s))) (.int .i64 (key : Int)) false).run Tryz.prog ((w.alloc (.cells #[.int .i64 (key : Int), .int .u64 (link : Int), .bool got] 228)).drewN n) = .ok (A.px s t key) ((w.alloc (.cells #[.int .i64 (key : Int), .int .u64 (link : Int), .bool got] 228)).drewN n) := fun n => lookup_run (r1.drewN n) ht key
  have HBL := Lib.hid hbl
  clear hR ht r1 g1 f0 hbl
  unfold Txn.needs
  unfold Book.px at hlk
  generalize t.level = lv at *
  by_cases hx : (t.cell key).isSome = true
  · rw [if_pos hx] at hlk
    have hnone : (t.cell key).isNone = false := by cases h : t.cell key <;> simp [h] at hx ⊢
    have HN := Lib.hid hnone
    clear hx hnone
    go_enter Tryz.func136, Tryz.ntmps136
    go_wp2_with fail
    generalize w.alloc (.cells #[.int .i64 (key : Int), .int .u64 (link : Int), .bool got] 228) = w2 at *
    go_quiet (fail)
    go_wp2_with fail
    go_ret
    exact ⟨by simp [HN.out], HBL.out.trans ⟨rfl, rfl, rfl, Nat.le_refl _, fun _ _ => rfl⟩⟩
  · rw [if_neg hx] at hlk
    have hnone : (t.cell key).isNone = true := by cases h : t.cell key <;> simp [h] at hx ⊢
    have HN := Lib.hid hnone
    clear hx hnone
    by_cases h3 : lv = 3
    · have H3 := Lib.hid h3
      have a3 : ((lv : Int) == 3) = true := by simp; omega
      have b3 : ((lv : Int) = 3) = True := by simp; omega
      clear h3
      go_enter Tryz.func136, Tryz.ntmps136
      go_wp2_with fail
      generalize w.alloc (.cells #[.int .i64 (key : Int), .int .u64 (link : Int), .bool got] 228) = w2 at *
      go_quiet (fail)
      go_wp2_with fail
      go_ret
      exact ⟨by simp [HN.out, H3.out], HBL.out.trans ⟨rfl, rfl, rfl, Nat.le_refl _, fun _ _ => rfl⟩⟩
    · by_cases h2 : lv = 2
      · have H3 := Lib.hid h2
        have a3 : ((lv : Int) == 3) = false := by simp; omega
        have b3 : ((lv : Int) = 3) = False := by simp; omega
        have a2 : ((lv : Int) == 2) = true := by simp; omega
        have b2 : ((lv : Int) = 2) = True := by simp; omega
        clear h3 h2
        go_enter Tryz.func136, Tryz.ntmps136
        go_wp2_with fail
        generalize w.alloc (.cells #[.int .i64 (key : Int), .int .u64 (link : Int), .bool got] 228) = w2 at *
        go_quiet (fail)
        go_wp2_with fail
        go_ret
        exact ⟨by simp [HN.out, H3.out], HBL.out.trans ⟨rfl, rfl, rfl, Nat.le_refl _, fun _ _ => rfl⟩⟩
      · have H3 := Lib.hid (And.intro h3 h2)
        have a3 : ((lv : Int) == 3) = false := by simp; omega
        have b3 : ((lv : Int) = 3) = False := by simp; omega
        have a2 : ((lv : Int) == 2) = false := by simp; omega
        have b2 : ((lv : Int) = 2) = False := by simp; omega
        clear h3 h2
        go_enter Tryz.func136, Tryz.ntmps136
        go_wp2_with fail
        generalize w.alloc (.cells #[.int .i64 (key : Int), .int .u64 (link : Int), .bool got] 228) = w2 at *
        go_quiet (fail)
        go_wp2_with fail
        go_ret
        exact ⟨by simp [HN.out, H3.out.1, H3.out.2], HBL.out.trans ⟨rfl, rfl, rfl, Nat.le_refl _, fun _ _ => rfl⟩⟩
theorem mine_any {A : Book} {σ : St} {w : World} (hR : Rep A σ w) (s : Nat) (t : Txn) (ht : σ.txns.getD s none = some t) (h1 : 1 ≤ t.id) (h2 : t.id ≤ 65535) :
    Calls Tryz.prog 116 #[.pointer (some ⟨A.bt s, 0, none⟩)] w fun e w' => e = .returned (.int .u64 ((mine t : Nat) : Int)) ∧ w = w' := by
  have c0 : w.cell? ⟨A.bt s, 0, none⟩ = some (.int .i64 (t.id : Int)) := hR.txn ht 0 rfl
  have e : ((mine t : Nat) : Int) = 4611686018427387904 + (t.id : Int) := by unfold mine txnBit; omega
  have hw := Word.txn_yes (t.id : Int) (by omega) (by omega) w
  rw [e]
  have HW := Lib.hid hw
  clear hR ht h1 h2 e hw
  go_enter Tryz.func116, Tryz.ntmps116
  go_wp2_with (go_at_call 141; refine HW.out.mono ?_; rintro e w' ⟨rfl, rfl⟩)
  go_ret
  exact ⟨rfl, rfl⟩
end Go.Proofs.YtdgombgcjeelpaaGreat.Em

namespace Go.Proofs.YtdgombgcjeelpaaGreat.Em
open Go.ChangeShapes Go.WideShapes Go.ChangeAt Go.RowKit En
set_option linter.unusedVariables false
set_option linter.unusedSimpArgs false
set_option maxRecDepth 100000
set_option maxHeartbeats 1000000

theorem wait_any {A : Book} {σ : St} {w : World} (hR : Rep A σ w) (s : Nat) (t : Txn) (ht : σ.txns.getD s none = some t) (i : Nat) :
    Calls Tryz.prog 137 #[.pointer (some ⟨A.be, 0, none⟩), .pointer (some ⟨A.bt s, 0, none⟩), .pointer (some ⟨A.bc s, 0, none⟩), .int .i64 (i : Int)] w (Tells A w s (σ, waitK t i)) := by
  obtain ⟨r4, g4, f0, f1, f2, f3⟩ := allocs4 hR #[.pointer (some ⟨A.be, 0, none⟩)] 27 #[.pointer (some ⟨A.bt s, 0, none⟩)] 93 #[.pointer (some ⟨A.bc s, 0, none⟩)] 98 #[.int .i64 (i : Int)] 3
  have c0 := f0.cell 0 (v := .pointer (some ⟨A.be, 0, none⟩)) rfl
  have c1 := f1.cell 0 (v := .pointer (some ⟨A.bt s, 0, none⟩)) rfl
  have c2 := f2.cell 0 (v := .pointer (some ⟨A.bc s, 0, none⟩)) rfl
  have c3 := f3.cell 0 (v := .int .i64 (i : Int)) rfl
  have t9 := r4.txn ht 9 (v := A.vbonds s) rfl
  have hown := (r4.mem.all (.bonds s))
  rw [mem_bonds ht] at hown
  obtain ⟨av, capv, hv, _⟩ := Ow.own_form hown.1
  rw [hv] at t9
  have HR := Lib.hid (And.intro r4 (And.intro g4 (And.intro f0 (And.intro f1 (And.intro f2 f3)))))
  clear hR ht r4 g4 f0 f1 f2 f3 hown hv
  unfold waitK
  generalize t.bonds.length = n at *
  by_cases hi : i = n
  · rw [if_pos hi]
    have d1 : ((i : Int) == (n : Int)) = true := by simp; omega
    have d2 : (i == n) = true := by simp; omega
    have d3 : ((i : Int) = (n : Int)) = True := by simp; omega
    clear hi
    go_enter Tryz.func137, Tryz.ntmps137
    go_wp2_with fail
    generalize (((w.alloc _).alloc _).alloc _).alloc _ = w4 at *
    go_quiet (fail)
    go_wp2_with (go_at_call 158; refine (commit_any (HR.out.1.drewN _) s).mono ?_; rintro e w2 ⟨A2, v, rfl, p1, p2, p3, p4⟩)
    go_ret
    exact ⟨A2, v, rfl, p1, (HR.out.2.1.trans (Grow.drewN _ _ _)).trans p2, p3, p4⟩
  · rw [if_neg hi]
    have d1 : ((i : Int) == (n : Int)) = false := by simp; omega
    have d2 : (i == n) = false := by simp; omega
    have d3 : ((i : Int) = (n : Int)) = False := by simp; omega
    clear hi
    go_enter Tryz.func137, Tryz.ntmps137
    go_wp2_with fail
    generalize hw4 : (((w.alloc _).alloc _).alloc _).alloc _ = w4 at *
    have hz : w4.heap.size = w.heap.size + 1 + 1 + 1 + 1 := by rw [← hw4]; simp
    have HZ := Lib.hid hz
    clear hz hw4
    go_quiet (fail)
    generalize hw : w4.drewN _ = w5
    obtain ⟨r, g, f0, f1, f2, f3⟩ := HR.out
    have g5 : Grow A.L w4 A.L w5 := by rw [← hw]; exact Grow.drewN _ _ _
    have r5 : Rep A σ w5 := by rw [← hw]; exact r.drewN _
    obtain ⟨r6, g6, f4⟩ := allocs1 r5 #[.func (.func 159) #[] #[.pointer (some ⟨w.heap.size, 0, none⟩), .pointer (some ⟨w.heap.size + 1, 0, none⟩), .pointer (some ⟨w.heap.size + 1 + 1 + 1, 0, none⟩), .pointer (some ⟨w.heap.size + 1 + 1, 0, none⟩), .pointer (some ⟨w5.heap.size, 0, none⟩)]] 123
    have gg := g5.trans g6
    have HQ := Lib.hid (And.intro r6 (And.intro (g.trans gg) (And.intro (f0.grow gg) (And.intro (f1.grow gg) (And.intro (f3.grow gg) (And.intro (f2.grow gg) f4))))))
    clear r g f0 f1 f2 f3 g5 r5 r6 g6 f4 gg hw
    go_wp2_with fail
    go_ret
    obtain ⟨q1, q2, q3, q4, q5, q6, q7⟩ := HQ.out
    exact ⟨A, _, rfl, q1, q2, Stay.refl _ _, _, _, _, _, _, rfl, q3.box, q4.box, q5.box, q6.box, q7.box⟩
end Go.Proofs.YtdgombgcjeelpaaGreat.Em

namespace Go.Proofs.YtdgombgcjeelpaaGreat.Em
open Go.ChangeShapes Go.WideShapes Go.ChangeAt Go.RowKit En
set_option linter.unusedVariables false
set_option linter.unusedSimpArgs false
set_option maxRecDepth 100000
set_option maxHeartbeats 1600000

theorem disable (w : World) : (callFunc 209 #[]).run Tryz.prog w = .ok (.value (.tuple #[])) w := run_call_mark0 Tryz.func209 (by kernel_rfl) (by kernel_rfl) (by kernel_rfl) .disable (by kernel_rfl) w
theorem enable (w : World) : (callFunc 211 #[]).run Tryz.prog w = .ok (.value (.tuple #[])) w := run_call_mark0 Tryz.func211 (by kernel_rfl) (by kernel_rfl) (by kernel_rfl) .enable (by kernel_rfl) w
theorem acquire (a : Addr) (w : World) : (callFunc 212 #[.pointer (some a)]).run Tryz.prog w = .ok (.value (.tuple #[])) w := run_call_marked Tryz.func212 (by kernel_rfl) (by kernel_rfl) (by kernel_rfl) .acquire (by kernel_rfl) a w
theorem releaseMerge (a : Addr) (w : World) : (callFunc 214 #[.pointer (some a)]).run Tryz.prog w = .ok (.value (.tuple #[])) w := run_call_marked Tryz.func214 (by kernel_rfl) (by kernel_rfl) (by kernel_rfl) .releaseMerge (by kernel_rfl) a w
theorem store_deferred (a : Addr) (x : Value) (u : FrameMode) (w : World) (hc : w.cell? a = some x) (hz : w.frozen? a = false) :
    CallsD Tryz.prog 183 #[.pointer (some a), .bool true] u w fun e u' w' => u' = u ∧ (e = .returned (.tuple #[]) ∧ w' = w.drew.setCell a (.int .u32 1)) := by
  have hc' : w.drew.cell? a = some x := by go_simp
  have hz' : w.drew.frozen? a = false := by go_simp
  have hst := run_call_store (P := Tryz.prog) Tryz.func198 (by kernel_rfl) (by kernel_rfl) (by kernel_rfl) (by kernel_rfl) (k := .u32) (y := 1) hc' hz'
  go_enter_d Tryz.func183, Tryz.ntmps183
  go_wp2
  go_region_calls
  all_goals (go_end0; exact ⟨rfl, rfl⟩)
theorem unlock_deferred (a : Addr) (u : FrameMode) (w : World) (hc : w.cell? a = some (.int .i32 1)) (hz : w.frozen? a = false) :
    CallsD Tryz.prog 182 #[.pointer (some a)] u w fun e u' w' => u' = u ∧ (e = .returned (.tuple #[]) ∧ w' = w.setCell a (.int .i32 0)) := by
  have hd := disable
  have he := enable
  have hr := releaseMerge
  have hadd := run_call_add (P := Tryz.prog) Tryz.func215 (by kernel_rfl) (by kernel_rfl) (by kernel_rfl) .i32 (by kernel_rfl) (y := -1) (s := 0) hc hz (by simp [go_sem]; rfl)
  have hcv := run_convert_to_unsafe (P := Tryz.prog) (src := 264) (dst := 268) Tryz.underlying264 Tryz.underlying268 (by kernel_rfl) hc
  go_enter_d Tryz.func182, Tryz.ntmps182
  go_wp2
  go_end0
  go_wp2
  go_end0
  exact ⟨rfl, rfl⟩
theorem lock_free (a : Addr) (w : World) (hc : w.cell? a = some (.int .i32 0)) (hz : w.frozen? a = false) :
    Calls Tryz.prog 181 #[.pointer (some a)] w fun e w' => e = .returned (.tuple #[]) ∧ w' = w.setCell a (.int .i32 1) := by
  have hd := disable
  have he := enable
  have ha := acquire
  have hcas := run_call_cas_hit (P := Tryz.prog) Tryz.func210 (by kernel_rfl) (by kernel_rfl) (by kernel_rfl) .i32 (by kernel_rfl) (y := 1) hc hz
  have hc' : (w.setCell a (.int .i32 1)).cell? a = some (.int .i32 1) := World.cell?_setCell_same w a _ hc
  have hcv := run_convert_to_unsafe (P := Tryz.prog) (src := 264) (dst := 268) Tryz.underlying264 Tryz.underlying268 (by kernel_rfl) hc'
  go_enter Tryz.func181, Tryz.ntmps181
  go_wp2
  first | go_end0 | (simp only [Exit.inBlock, Exit.then]; refine bodyPost_ret (results_none rfl _ _ _) rfl ?_) | refine bodyPost_ret (results_none rfl _ _ _) rfl ?_
  go_wp2
  go_end0
  exact ⟨rfl, rfl⟩
end Go.Proofs.YtdgombgcjeelpaaGreat.Em

namespace Go.Proofs.YtdgombgcjeelpaaGreat.Em
open Go.ChangeShapes Go.WideShapes Go.ChangeAt Go.RowKit En
set_option linter.unusedVariables false
set_option linter.unusedSimpArgs false
set_option maxRecDepth 100000
set_option maxHeartbeats 1600000

/-- What a Once that is being done looks like behind the function. -/
structure Held (b off : Nat) (w : World) : Prop where
  d : w.cell? ⟨b, off, none⟩ = some (.int .u32 0)
  m : w.cell? ⟨b, off + 1, none⟩ = some (.int .i32 1)
  zd : w.frozen? ⟨b, off, none⟩ = false
  zm : w.frozen? ⟨b, off + 1, none⟩ = false
def onceEnd (b off : Nat) (w : World) : World := (w.drew.setCell ⟨b, off, none⟩ (.int .u32 1)).setCell ⟨b, off + 1, none⟩ (.int .i32 0)
theorem slow_any (b off fc : Nat) (caps : Array Value) (w : World) (Q : World → Prop) (h0 : w.cell? ⟨b, off, none⟩ = some (.int .u32 0)) (h1 : w.cell? ⟨b, off + 1, none⟩ = some (.int .i32 0))
    (f0 : w.frozen? ⟨b, off, none⟩ = false) (f1 : w.frozen? ⟨b, off + 1, none⟩ = false)
    (he : ∀ w, (callFunc fc caps).run Tryz.prog w = .ok (.enter fc caps) w)
    (hf : Calls Tryz.prog fc caps (w.setCell ⟨b, off + 1, none⟩ (.int .i32 1)) fun e w' => e = .returned (.tuple #[]) ∧ Q w') (hq : ∀ w', Q w' → Held b off w') :
    Calls Tryz.prog 161 #[.pointer (some ⟨b, off, none⟩), .func (.func fc) #[] caps] w fun e w' => e = .returned (.tuple #[]) ∧ ∃ w2, Q w2 ∧ w' = onceEnd b off w2 := by
  have hl := run_call_load (P := Tryz.prog) Tryz.func180 (by kernel_rfl) (by kernel_rfl) (by kernel_rfl) .u32 (by kernel_rfl) (w := w.setCell ⟨b, off + 1, none⟩ (.int .i32 1)) (a := ⟨b, off, none⟩) (x := 0) ((World.cell?_setCell_other _ ⟨b, off + 1, none⟩ ⟨b, off, none⟩ _ (by simp)).trans h0)
  have hnot : ∀ (x : Bool) (w : World), (Op.unary .not (.bool x)).run Tryz.prog w = .ok (.bool (!x)) w := fun _ _ => rfl
  have HF := Lib.hid hf
  have HQ := Lib.hid hq
  clear hf hq
  go_enter_defers Tryz.func161, Tryz.ntmps161
  go_wp2_with (first | (go_at_call 181; refine (lock_free ⟨b, off + 1, none⟩ _ (by go_simp) (by go_simp)).mono ?_; rintro e w' ⟨rfl, rfl⟩) | (go_at_call 160; go_in))
  refine HF.out.mono ?_
  rintro e w2 ⟨rfl, hw2⟩
  go_wp2
  refine leaves_cons (f := 183) (args := #[.pointer (some ⟨b, off, none⟩), .bool true]) (by simp) (by simp [go_sem]) ?_
  have HH := HQ.out w2 hw2
  refine (store_deferred ⟨b, off, none⟩ (.int .u32 0) .returning _ HH.d HH.zd).mono ?_
  rintro e u' w'' ⟨rfl, rfl, rfl⟩
  refine leaves_cons (f := 182) (args := #[.pointer (some ⟨b, off + 1, none⟩)]) (by simp [settle]) (by simp [go_sem]) ?_
  refine (unlock_deferred ⟨b, off + 1, none⟩ _ _ ?_ ?_).mono ?_
  · refine (World.cell?_setCell_other _ ⟨b, off, none⟩ ⟨b, off + 1, none⟩ _ (by simp)).trans ?_
    rw [World.cell?_drew]
    exact HH.m
  · simp [HH.zm]
  rintro e u' w'' ⟨rfl, rfl, rfl⟩
  simp [Leaves, settle, results, Tryz.results161]
  exact ⟨w2, hw2, rfl⟩
theorem do_first (b off fc : Nat) (caps : Array Value) (w : World) (Q : World → Prop) (h0 : w.cell? ⟨b, off, none⟩ = some (.int .u32 0)) (h1 : w.cell? ⟨b, off + 1, none⟩ = some (.int .i32 0))
    (f0 : w.frozen? ⟨b, off, none⟩ = false) (f1 : w.frozen? ⟨b, off + 1, none⟩ = false)
    (he : ∀ w, (callFunc fc caps).run Tryz.prog w = .ok (.enter fc caps) w)
    (hf : Calls Tryz.prog fc caps (w.setCell ⟨b, off + 1, none⟩ (.int .i32 1)) fun e w' => e = .returned (.tuple #[]) ∧ Q w') (hq : ∀ w', Q w' → Held b off w') :
    Calls Tryz.prog 139 #[.pointer (some ⟨b, off, none⟩), .func (.func fc) #[] caps] w fun e w' => e = .returned (.tuple #[]) ∧ ∃ w2, Q w2 ∧ w' = onceEnd b off w2 := by
  have HS := Lib.hid (slow_any b off fc caps w Q h0 h1 f0 f1 he hf hq)
  have hl := run_call_load (P := Tryz.prog) Tryz.func180 (by kernel_rfl) (by kernel_rfl) (by kernel_rfl) .u32 (by kernel_rfl) h0
  have hnot : ∀ (x : Bool) (w : World), (Op.unary .not (.bool x)).run Tryz.prog w = .ok (.bool (!x)) w := fun _ _ => rfl
  clear he hf hq
  go_enter Tryz.func139, Tryz.ntmps139
  go_wp2_with (first | (go_at_call 161; refine HS.out.mono ?_; rintro e w' ⟨rfl, hw⟩) | (go_at_call 160; go_in))
  go_end0
  exact ⟨rfl, hw⟩
theorem enter_list (caps : Array Value) (w : World) : (callFunc 151 caps).run Tryz.prog w = .ok (.enter 151 caps) w := by kernel_rfl
theorem enter_tell (caps : Array Value) (w : World) : (callFunc 140 caps).run Tryz.prog w = .ok (.enter 140 caps) w := by kernel_rfl
theorem do_done (a : Addr) (fv : Value) (w : World) (h0 : w.cell? a = some (.int .u32 1)) :
    Calls Tryz.prog 139 #[.pointer (some a), fv] w fun e w' => e = .returned (.tuple #[]) ∧ w' = w := by
  have hl := run_call_load (P := Tryz.prog) Tryz.func180 (by kernel_rfl) (by kernel_rfl) (by kernel_rfl) .u32 (by kernel_rfl) h0
  have hnot : ∀ (x : Bool) (w : World), (Op.unary .not (.bool x)).run Tryz.prog w = .ok (.bool (!x)) w := fun _ _ => rfl
  go_enter Tryz.func139, Tryz.ntmps139
  go_wp2
  go_end0
  exact ⟨rfl, rfl⟩
end Go.Proofs.YtdgombgcjeelpaaGreat.Em

namespace Go.Proofs.YtdgombgcjeelpaaGreat.Em
open Go.ChangeShapes Go.WideShapes Go.ChangeAt Go.RowKit En
set_option linter.unusedVariables false
set_option linter.unusedSimpArgs false
set_option maxRecDepth 100000
set_option maxHeartbeats 1600000

theorem infoI : (Tryz.prog.info? 3).map (fun i => (i.zero, i.size, i.bytes)) = some (some (.int .i64 0), 1, 8) := by kernel_rfl
/-- Only the pool's list has turned. -/
def FreeOnly (A A' : Book) : Prop := ∃ L v, A' = { A with L := L, vfree := v }
def freeTo (σ : St) (k : Nat) : St := { σ with free := σ.free ++ (List.range σ.slots).reverse.take k }
theorem freeTo_succ (σ : St) (k : Nat) (hk : k < σ.slots) : (freeTo σ (k + 1)).free = (freeTo σ k).free ++ [σ.slots - 1 - k] := by
  unfold freeTo
  simp only
  rw [List.take_succ_eq_append_getElem (by simpa using hk), List.append_assoc]
  simp
theorem free_row {A : Book} {σ : St} {w : World} (h : Rep A σ w) : w.ownsRow 0 3 1 A.vfree σ.free.length (σ.free.map i64) := (h.mem.all .free).1
/-- A number is put behind the list of free slots. -/
theorem free_step {A : Book} {σ : St} {w : World} (hR : Rep A σ w) (i : Nat) :
    ∃ av capv, A.vfree = .slice av σ.free.length capv ∧ ∀ v' w2, w2.ownsRow 0 3 1 v' (σ.free.length + 1) (σ.free.map i64 ++ [.int .i64 (i : Int)]) → (w.alloc (.cells #[.int .i64 (i : Int)] 3)).grownBy w2 A.vfree.ownBlock → (v'.ownBlock = A.vfree.ownBlock ∨ ∀ g, v'.ownBlock = some g → (w.alloc (.cells #[.int .i64 (i : Int)] 3)).heap.size ≤ g) →
      (∃ A', FreeOnly A A' ∧ Rep A' { σ with free := σ.free ++ [i] } (w2.setCell ⟨A.bp, 2, none⟩ v') ∧ Grow A.L w A'.L (w2.setCell ⟨A.bp, 2, none⟩ v')) ∧ w2.cell? ⟨A.bp, 2, none⟩ = some A.vfree ∧ w2.frozen? ⟨A.bp, 2, none⟩ = false ∧ (∀ b u, A.L b = none → w.cell? ⟨b, 0, none⟩ = some u → w2.cell? ⟨b, 0, none⟩ = some u) := by
  obtain ⟨av, capv, hv, _⟩ := Ow.own_form (free_row hR)
  refine ⟨av, capv, hv, fun v' w2 q1 q2 q3 => ?_⟩
  obtain ⟨r1, g1, _⟩ := allocs1 hR #[.int .i64 (i : Int)] 3
  obtain ⟨p1, p2, p3, p4⟩ := r1.freeOn (σ.free ++ [i]) v' q2 (by simpa using q1) q3
  refine ⟨⟨_, ⟨_, _, rfl⟩, p1, g1.trans p2⟩, p3, p4, fun b u hl hc => ?_⟩
  have hc1 : (w.alloc (.cells #[.int .i64 (i : Int)] 3)).cell? ⟨b, 0, none⟩ = some u := by
    rw [World.cell?_alloc_past _ _ _ (World.block_lt_of_cell? w _ hc)]; exact hc
  refine q2.cell hc1 fun e => ?_
  have := (hR.mem.all .free).2 b e.symm
  rw [hl] at this
  cases this
theorem list_body {A : Book} {σ : St} {w : World} (hR : Rep A σ w) (b0 : Nat) (B0 : Box A.L w b0 (.pointer (some ⟨A.bp, 0, none⟩))) (hn : σ.free.length < 100000) :
    Calls Tryz.prog 151 #[.pointer (some ⟨b0, 0, none⟩)] w fun e w' => e = .returned (.tuple #[]) ∧ ∃ A', FreeOnly A A' ∧ Rep A' (freeTo σ σ.slots) w' ∧ Grow A.L w A'.L w' := by
  have c0 := B0.cell
  have p0 : w.cell? ⟨A.bp, 0, none⟩ = some (.slice (some ⟨A.bs, 0, none⟩) σ.slots σ.slots) := hR.pool 0 rfl
  have hsl := hR.sl
  have HR := Lib.hid hR
  have HB := Lib.hid B0
  have HN := Lib.hid (And.intro hn hsl)
  have hw1 : IntKind.i64.wrap ((σ.slots : Int) - 1) = (σ.slots : Int) - 1 := by rw [IntKind.wrap_i64]; omega
  clear hR B0 hn hsl
  go_enter Tryz.func151, Tryz.ntmps151
  go_wp2_with fail
  go_loopw [1] (fun i wr => ∃ k : Nat, k ≤ σ.slots ∧ i = .int .i64 ((σ.slots : Int) - 1 - (k : Int)) ∧ ∃ A', FreeOnly A A' ∧ Rep A' (freeTo σ k) wr ∧ Grow A.L w A'.L wr) (fun i _ => (intOf i + 1).toNat)
  case atStart => exact ⟨0, Nat.zero_le _, by simp, A, ⟨_, _, rfl⟩, by simpa [freeTo] using HR.out, Grow.refl _ _⟩
  case round =>
    obtain ⟨k, hk, rfl, A', ⟨L', v1, rfl⟩, hr, hg⟩ := hrel
    by_cases hlt : k < σ.slots
    · obtain ⟨j, hj⟩ : ∃ j : Nat, j = σ.slots - 1 - k := ⟨_, rfl⟩
      have ej : (σ.slots : Int) - 1 - (k : Int) = (j : Int) := by omega
      rw [ej]
      have d1 : (0 : Int) ≤ (j : Int) := by omega
      have d2 : IntKind.i64.wrap ((j : Int) - 1) = (j : Int) - 1 := by rw [IntKind.wrap_i64]; have := HN.out.2; omega
      have B1 := HB.out.grow hg
      obtain ⟨av, capv, hv, hstep⟩ := free_step hr j
      obtain ⟨r1, g1, _⟩ := allocs1 hr #[.int .i64 (j : Int)] 3
      have c0 := B1.cell
      have c1 := (B1.grow g1).cell
      have hb0 : L' b0 = none := by obtain ⟨_, hx⟩ := B1; exact hx.1
      have HB0 := Lib.hid (And.intro hb0 c0)
      clear hb0
      have p2 : wr.cell? ⟨A.bp, 2, none⟩ = some v1 := hr.pool 2 rfl
      have p3 : (wr.alloc (.cells #[.int .i64 (j : Int)] 3)).cell? ⟨A.bp, 2, none⟩ = some v1 := r1.pool 2 rfl
      have hown : (wr.alloc (.cells #[.int .i64 (j : Int)] 3)).ownsRow 0 3 1 v1 (freeTo σ k).free.length ((freeTo σ k).free.map i64) := free_row r1
      have hv' : v1 = .slice av (freeTo σ k).free.length capv := hv
      have hfl : (freeTo σ k).free.length = σ.free.length + k := by unfold freeTo; simp; omega
      rw [hv'] at p2 p3 hown
      have HST := Lib.hid hstep
      have HV := Lib.hid hv'
      have HO := Lib.hid hown
      have HL := Lib.hid (And.intro hlt (And.intro hj (And.intro ej (And.intro hfl hg))))
      have hlen : (freeTo σ k).free.length < 200000 := by have := HN.out.1; have := HN.out.2; omega
      clear hr hg B1 r1 g1 hstep hv hv' hown hfl hlt hj ej hk
      generalize (freeTo σ k).free.length = len at *
      obtain ⟨i0, hi, hz0, hz1, hz2⟩ := info_parts infoI
      go_wp2_with fail
      go_region_law (first | (refine Ow.wp_append_to _ (.tmp 16) (.tmp 18) 33 rfl 0 _ i0 _ 1 8 Tryz.underlying33 hi hz0 hz1 hz2 rfl (by decide) (.slice av len capv) len ((freeTo σ k).free.map i64) rfl HO.out ⟨wr.heap.size, 0, none⟩ 1 1 (by omega) [.int .i64 (j : Int)] rfl rfl (by intro j' u hu; exact Ow.new_row wr [.int .i64 (j : Int)] _ _ rfl j' u hu) (by intro u hu; obtain rfl := List.mem_singleton.1 hu; rfl) (by unfold maxLen; omega) (by omega) (Nat.zero_le _) ?_; intro v' w2 q1 q2 q3; obtain ⟨r1, r2, r3, r4⟩ := HST.out v' w2 q1 (by show (wr.alloc _).grownBy w2 v1.ownBlock; rw [HV.out]; exact grown_drew q2) (by show v'.ownBlock = v1.ownBlock ∨ _; rw [HV.out]; exact q3); obtain ⟨a4, cap4, rfl, _⟩ := Ow.own_form q1; have R1 := Lib.hid r1; have c02 := r4 b0 _ HB0.out.1 HB0.out.2; clear r1 r4 q1 q2 q3))
      all_goals
        go_wp2_with fail
        go_roundw
        case rel =>
          obtain ⟨h1, h2, h3, h4, h5⟩ := HL.out
          obtain ⟨A2, ⟨L2, v2, rfl⟩, q1, q2⟩ := R1.out
          refine ⟨k + 1, by omega, by rw [show (σ.slots : Int) - 1 - ((k + 1 : Nat) : Int) = (j : Int) - 1 by omega], _, ⟨L2, v2, rfl⟩, ?_, h5.trans q2⟩
          have e : freeTo σ (k + 1) = { freeTo σ k with free := (freeTo σ k).free ++ [j] } := by
            have := freeTo_succ σ k h1
            unfold freeTo at this ⊢
            simp only at this ⊢
            rw [this, h2]
          rw [e]
          exact q1
        case measure => simp [intOf] <;> omega
    · obtain rfl : k = σ.slots := by omega
      have em : (σ.slots : Int) - 1 - (σ.slots : Int) = -1 := by omega
      rw [em]
      have HL := Lib.hid (And.intro hr hg)
      clear hr hg hlt hk em
      go_wp2_with fail
      go_end0
      exact ⟨rfl, _, ⟨L', v1, rfl⟩, HL.out.1, HL.out.2⟩
end Go.Proofs.YtdgombgcjeelpaaGreat.Em

namespace Go.Proofs.YtdgombgcjeelpaaGreat.Em
open Go.ChangeShapes Go.WideShapes Go.ChangeAt Go.RowKit En
set_option linter.unusedVariables false
set_option linter.unusedSimpArgs false
set_option maxRecDepth 100000
set_option maxHeartbeats 1600000

/-- The pool has been turned: nothing else. -/
structure PoolOnly (A A' : Book) : Prop where
  ex : ∃ L v m, A' = { A with L := L, vfree := v, mp := m }
  mp : A'.mp = A.mp
theorem PoolOnly.refl (A : Book) : PoolOnly A A := ⟨⟨_, _, _, rfl⟩, rfl⟩
theorem PoolOnly.trans {A B C : Book} (h : PoolOnly A B) (k : PoolOnly B C) : PoolOnly A C := by
  obtain ⟨⟨L, v, m, rfl⟩, h2⟩ := h
  obtain ⟨⟨L', v', m', rfl⟩, k2⟩ := k
  exact ⟨⟨_, _, _, rfl⟩, k2.trans h2⟩
def Pooled (A : Book) (w : World) (σ' : St) (v : Value) : Ending → World → Prop := fun e w' => e = .returned v ∧ ∃ A', PoolOnly A A' ∧ Rep A' σ' w' ∧ Grow A.L w A'.L w'
theorem list_any {A : Book} {σ : St} {w : World} (hR : Rep A σ w) (hm : A.mp = 0) (hn : σ.free.length < 100000) :
    Calls Tryz.prog 125 #[.pointer (some ⟨A.bp, 0, none⟩)] w (Pooled A w σ.list (.tuple #[])) := by
  obtain ⟨r1, g1, f0⟩ := allocs1 hR #[.pointer (some ⟨A.bp, 0, none⟩)] 95
  have c0 := f0.cell 0 (v := .pointer (some ⟨A.bp, 0, none⟩)) rfl
  by_cases hl : σ.listed = true
  · have p4 : (w.alloc (.cells #[.pointer (some ⟨A.bp, 0, none⟩)] 95)).cell? ⟨A.bp, 4, none⟩ = some (.int .u32 1) := r1.pool 4 (by simp [poolCs, onceCs, hl])
    have hd := do_done ⟨A.bp, 4, none⟩ (.func (.func 151) #[] #[.pointer (some ⟨w.heap.size, 0, none⟩)]) _ p4
    have e : σ.list = σ := by unfold St.list; rw [if_pos hl]
    rw [e]
    have HR := Lib.hid (And.intro r1 g1)
    have HD := Lib.hid hd
    clear hR r1 g1 f0 hd e hl hn p4 hm
    go_enter Tryz.func125, Tryz.ntmps125
    go_wp2_with (go_at_call 139; refine HD.out.mono ?_; rintro e w' ⟨rfl, rfl⟩)
    go_end0
    exact ⟨rfl, A, PoolOnly.refl A, HR.out.1, HR.out.2⟩
  · have hl' : σ.listed = false := by simpa using hl
    have p4 : (w.alloc (.cells #[.pointer (some ⟨A.bp, 0, none⟩)] 95)).cell? ⟨A.bp, 4, none⟩ = some (.int .u32 0) := r1.pool 4 (by simp [poolCs, onceCs, hl'])
    have p5 : (w.alloc (.cells #[.pointer (some ⟨A.bp, 0, none⟩)] 95)).cell? ⟨A.bp, 5, none⟩ = some (.int .i32 0) := r1.pool 5 (by simp [poolCs, onceCs, hm])
    obtain ⟨r2, g2⟩ := r1.poolLock 1
    have hb := list_body r2 w.heap.size (f0.box.grow g2) hn
    have hd := do_first A.bp 4 151 #[.pointer (some ⟨w.heap.size, 0, none⟩)] (w.alloc (.cells #[.pointer (some ⟨A.bp, 0, none⟩)] 95))
      (fun w' => ∃ A', FreeOnly { A with mp := 1 } A' ∧ Rep A' (freeTo σ σ.slots) w' ∧ Grow A.L w A'.L w') p4 p5 (r1.poolF 4) (r1.poolF 5) (enter_list _)
      (hb.mono fun e w' ⟨h1, A', h2, h3, h4⟩ => ⟨h1, A', h2, h3, (g1.trans g2).trans h4⟩)
      (by
        rintro w' ⟨A', ⟨L, v, rfl⟩, h3, h4⟩
        exact ⟨h3.pool 4 (by simp [poolCs, onceCs, freeTo, hl']), h3.pool 5 (by simp [poolCs, onceCs]), h3.poolF 4, h3.poolF 5⟩)
    have e : σ.list = { freeTo σ σ.slots with listed := true } := by
      have ht : (List.range σ.slots).reverse.take σ.slots = (List.range σ.slots).reverse := List.take_of_length_le (by simp)
      unfold St.list freeTo
      rw [if_neg hl, ht]
    rw [e]
    have HD := Lib.hid hd
    have HM := Lib.hid hm
    clear hR r1 g1 f0 hd e hl hn p4 p5 r2 g2 hb hl' hm
    go_enter Tryz.func125, Tryz.ntmps125
    go_wp2_with (go_at_call 139; refine HD.out.mono ?_; rintro e w' ⟨rfl, w2, ⟨A', ⟨L, v, rfl⟩, h3, h4⟩, rfl⟩)
    go_end0
    obtain ⟨k1, q1⟩ := h3.drew.poolDone
    obtain ⟨k2, q2⟩ := k1.poolLock 0
    exact ⟨rfl, _, ⟨⟨L, v, 0, rfl⟩, HM.out.symm⟩, k2, ((h4.trans (Grow.drew _ _)).trans q1).trans q2⟩
theorem link_any {A : Book} {σ : St} {w : World} (hR : Rep A σ w) (i : Nat) (hi : i < σ.slots) (ht : (σ.tags.getD i (0, false)).1 ≤ 65535) :
    Calls Tryz.prog 173 #[.pointer (some ⟨A.bp, 0, none⟩), .int .i64 (i : Int)] w fun e w' => e = .returned (.int .u64 ((σ.linkAt i : Nat) : Int)) ∧ w = w' := by
  have p0 : w.cell? ⟨A.bp, 0, none⟩ = some (.slice (some ⟨A.bs, 0, none⟩) σ.slots σ.slots) := hR.pool 0 rfl
  have t0 := (hR.tag hi).1
  have t0' := t0
  rw [Nat.mul_comm] at t0'
  have hsl := hR.sl
  have e : ((σ.linkAt i : Nat) : Int) = ((σ.tags.getD i (0, false)).1 : Int) * 131072 + ((i : Int) + 1) := by unfold St.linkAt linkOf; omega
  have hk := Word.link_yes (i : Int) ((σ.tags.getD i (0, false)).1 : Int) (by omega) (by omega) (by omega) (by omega) w
  rw [e]
  have b1 : (i : Int) < (σ.slots : Int) := by omega
  have b0 : (0 : Int) ≤ (i : Int) := by omega
  have HK := Lib.hid hk
  clear hR hi ht hsl e hk
  generalize (σ.tags.getD i (0, false)).1 = tg at *
  generalize σ.slots = n at *
  go_enter Tryz.func173, Tryz.ntmps173
  go_wp2_with (go_at_call 189; refine HK.out.mono ?_; rintro e w' ⟨rfl, rfl⟩)
  go_ret
  exact ⟨rfl, rfl⟩
end Go.Proofs.YtdgombgcjeelpaaGreat.Em
