/- Texts of this claim, laid together: Fuw. -/
import Derived.Test.YtbefcdjcefmicaaGreatGll3
import Derived.Test.YtbefcdjcefmicaaGreatBase18
namespace Go.Proofs.YtbefcdjcefmicaaGreat.Em
open Go.ChangeShapes Go.WideShapes Go.ChangeAt Go.RowKit En
set_option linter.unusedVariables false
set_option linter.unusedSimpArgs false
set_option maxRecDepth 100000
set_option maxHeartbeats 1600000

theorem objc' {w : World} {g : Nat} {cs : Array Value} {T : TypeId} (h : w.heap[g]? = some (.cells cs T)) (i : Nat) {v : Value} (hv : cs[i]? = some v) : w.cell? ⟨g, i, none⟩ = some v := by
  rw [cell_of_row w g i _ _ _ h]; exact hv
theorem usedE' {b : Nat} {w0 w : World} {ks : List Kept} {σ : St} (h : EKt b w0 ks σ w) (hu : usedOk σ = true) {n : Nat} (hn : σ.used = n) : Calls Tryz.prog 28 #[.pointer (some ⟨b, 0, none⟩)] w (EV b w0 ks σ.list (.int .i64 (n : Int))) := by
  obtain ⟨u1, u2⟩ := and_ok hu
  have hh := used_kt h (of_decide_eq_true u1) (of_decide_eq_true u2)
  rw [hn] at hh
  exact hh
theorem two_rs {rs : List Res} (h : rs.length = 2) : rs[1]? = some (resAt rs 1) := by
  unfold resAt
  rw [List.getD_eq_getElem?_getD, List.getElem?_eq_getElem (by omega)]
  rfl
theorem one_rs {rs : List Res} (h : rs.length = 1) : rs[0]? = some (resAt rs 0) := by
  unfold resAt
  rw [List.getD_eq_getElem?_getD, List.getElem?_eq_getElem (by omega)]
  rfl
/-- A whole transaction of one call that commits. -/
theorem wholeC {b : Nat} {w0 w : World} {ks : List Kept} {σ σ' : St} {rs : List Res} (h : EKt b w0 ks σ w) {L : Nat} {o : En.Op} (hr : runWhole 1000 σ 0 L [o] = some (σ', rs, 0)) (hl : rs.length = 2) (hov : (resAt rs 1).over = 3) (xs : Array Value) (hx : xs = (opsCs [o]).toArray) :
    Calls Tryz.prog 34 #[.pointer (some ⟨b, 0, none⟩), .int .i64 0, .int .i64 (L : Int), .slice (some ⟨w.heap.size, 0, none⟩) 1 1] (w.alloc (.cells xs 31)) fun e w' => ∃ rb ro rc, e = .returned (.tuple #[.slice (some ⟨rb, ro, none⟩) 2 rc, .int .i64 0]) ∧ EKt b w0 ks σ' w' ∧ w'.cell? ⟨rb, ro + 5 + 3, none⟩ = some (.int .i64 3) := by
  refine (whole_kt h (ops := [o]) (level := L) (s := 0) xs 1 (by decide) (by decide : (1000 : Nat) ≤ _) hr hx rfl (by decide) (by omega)).mono ?_
  rintro e w' ⟨rb, ro, rc, rfl, q1, q2⟩
  have c := (q2 1 _ (two_rs hl)).2.2.1
  rw [hov] at c
  rw [hl]
  exact ⟨rb, ro, rc, rfl, q1, c⟩
theorem wholeA {b : Nat} {w0 w : World} {ks : List Kept} {σ σ' : St} {rs : List Res} (h : EKt b w0 ks σ w) {L : Nat} {o : En.Op} (hr : runWhole 1000 σ 0 L [o] = some (σ', rs, 0)) (hl : rs.length = 1) (hov : (resAt rs 0).over = 4) (hre : (resAt rs 0).reason = 5) (he : (resAt rs 0).e = 14) (xs : Array Value) (hx : xs = (opsCs [o]).toArray) :
    Calls Tryz.prog 34 #[.pointer (some ⟨b, 0, none⟩), .int .i64 0, .int .i64 (L : Int), .slice (some ⟨w.heap.size, 0, none⟩) 1 1] (w.alloc (.cells xs 31)) fun e w' => ∃ rb ro rc, e = .returned (.tuple #[.slice (some ⟨rb, ro, none⟩) 1 rc, .int .i64 0]) ∧ EKt b w0 ks σ' w' ∧ w'.cell? ⟨rb, ro, none⟩ = some (.int .i64 14) ∧ w'.cell? ⟨rb, ro + 3, none⟩ = some (.int .i64 4) ∧ w'.cell? ⟨rb, ro + 4, none⟩ = some (.int .i64 5) := by
  refine (whole_kt h (ops := [o]) (level := L) (s := 0) xs 1 (by decide) (by decide : (1000 : Nat) ≤ _) hr hx rfl (by decide) (by omega)).mono ?_
  rintro e w' ⟨rb, ro, rc, rfl, q1, q2⟩
  obtain ⟨c0, _, c3, c4⟩ := q2 0 _ (one_rs hl)
  rw [he] at c0
  rw [hov] at c3
  rw [hre] at c4
  rw [hl]
  exact ⟨rb, ro, rc, rfl, q1, c0, c3, c4⟩
theorem fullCol_ok {n L : Nat} {σ : St} (h : fullCol n L σ = true) : ∃ τ υ rs, usedOk σ = true ∧ σ.list.sw = none ∧ σ.list.cut = [] ∧ σ.used = n ∧ collN 100000 0 σ.list = some τ ∧ usedOk τ = true ∧ τ.used + 1 = n ∧ runWhole 1000 τ.list 0 L [⟨2, 60, 0, 1⟩] = some (υ, rs, 0) ∧ rs.length = 2 ∧ (resAt rs 1).over = 3 ∧ υ.used = n ∧ usedOk υ = true := by
  unfold fullCol at h
  obtain ⟨h1, h⟩ := and_ok h
  obtain ⟨h2, h⟩ := and_ok h
  obtain ⟨τ, h3, h⟩ := thn_ok h
  obtain ⟨h4, h⟩ := and_ok h
  obtain ⟨h5, h⟩ := and_ok h
  obtain ⟨⟨υ, rs, e⟩, h6, h⟩ := thn_ok h
  obtain ⟨h7, hZ⟩ := and_ok h
  replace h2 := of_decide_eq_true h2
  replace h7 := of_decide_eq_true h7
  simp only at h7
  obtain ⟨rfl, g1, g2, g3⟩ := h7
  exact ⟨τ, υ, rs, h1, h2.1, h2.2.1, h2.2.2, collRun_ok h3, h4, of_decide_eq_true h5, h6, g1, g2, g3, hZ⟩
theorem fullEnd_ok {n L : Nat} {σ : St} (h : fullEnd n L σ = true) : ∃ σ1 r1 σ2 σ3 r3 σ4 r4, okPairs σ = true ∧ runWhole 1000 σ 0 L [⟨2, 60, 0, 1⟩] = some (σ1, r1, 0) ∧ r1.length = 1 ∧ (resAt r1 0).over = 4 ∧ (resAt r1 0).reason = 5 ∧ (resAt r1 0).e = 14 ∧ okPairs σ1 = true ∧ σ1.pairs = σ.pairs ∧ σ1.used = n ∧ (σ1.list.status 5).live = true ∧ usedOk σ1 = true ∧
    issueOk σ1.list 5 ⟨6, 0, 0, 0⟩ = some σ2 ∧ runDo 1000 σ2 5 = some (σ3, r3, 0) ∧ r3.over = 3 ∧ runWhole 1000 σ3 0 L [⟨4, 0, 0, 0⟩] = some (σ4, r4, 0) ∧ r4.length = 2 ∧ (resAt r4 1).over = 3 ∧ fullCol n L σ4 = true := by
  unfold fullEnd at h
  obtain ⟨h1, h⟩ := and_ok h
  obtain ⟨⟨σ1, r1, e1⟩, h2, h⟩ := thn_ok h
  obtain ⟨h3, h⟩ := and_ok h
  obtain ⟨h4, h⟩ := and_ok h
  obtain ⟨h5, h⟩ := and_ok h
  obtain ⟨h6, h⟩ := and_ok h
  obtain ⟨σ2, h7, h⟩ := thn_ok h
  obtain ⟨⟨σ3, r3, e3⟩, h8, h⟩ := thn_ok h
  obtain ⟨h9, h⟩ := and_ok h
  obtain ⟨⟨σ4, r4, e4⟩, h10, h⟩ := thn_ok h
  obtain ⟨h11, hZ⟩ := and_ok h
  rw [forceW_eq] at hZ
  replace h3 := of_decide_eq_true h3
  replace h5 := of_decide_eq_true h5
  replace h9 := of_decide_eq_true h9
  replace h11 := of_decide_eq_true h11
  simp only at h3 h5 h9 h11
  obtain ⟨rfl, a1, a2, a3, a4⟩ := h3
  obtain ⟨rfl, b1⟩ := h9
  obtain ⟨rfl, c1, c2⟩ := h11
  exact ⟨σ1, r1, σ2, σ3, r3, σ4, r4, h1, h2, a1, a2, a3, a4, h4, h5.1, h5.2.1, h5.2.2, h6, h7, h8, b1, h10, c1, c2, hZ⟩
theorem fullTrail_next {n L m i : Nat} {σ : St} (h : fullTrail n L (m + 1) i σ = true) : ∃ σ1 rs, runWhole 1000 σ 0 L [⟨2, i, 0, i⟩] = some (σ1, rs, 0) ∧ rs.length = 2 ∧ (resAt rs 1).over = 3 ∧ fullTrail n L m (i + 1) σ1 = true := by
  unfold fullTrail at h
  obtain ⟨⟨σ1, rs, e⟩, h1, h⟩ := thn_ok h
  obtain ⟨h2, hZ⟩ := and_ok h
  rw [forceW_eq] at hZ
  replace h2 := of_decide_eq_true h2
  simp only at h2
  obtain ⟨rfl, a1, a2⟩ := h2
  exact ⟨σ1, rs, h1, a1, a2, hZ⟩
theorem full_law (s' l' : Int) (w : World) : Calls Tryz.prog 13 #[.int .i64 s', .int .i64 l'] w fun e w' => e = .returned (.bool true) ∧ Below w.heap.size w w' := by
  obtain ⟨c, hc, hcs⟩ := mask_to l' 3 (by decide)
  obtain ⟨m, hm, hms⟩ := mask_to s' 20 (by decide)
  replace hcs : (bits .and .i64 l' 255).tmod 3 = (c : Int) := hcs
  replace hms : (bits .and .i64 s' 255).tmod 20 = (m : Int) := hms
  have n1 : IntKind.i64.wrap ((c : Int) + 1) = (c : Int) + 1 := by rw [IntKind.wrap_i64]; omega
  have n2 : IntKind.i64.wrap ((m : Int) + 1) = (m : Int) + 1 := by rw [IntKind.wrap_i64]; omega
  obtain ⟨L, hL1, hLv⟩ : ∃ L : Nat, (1 ≤ L ∧ L ≤ 3) ∧ (L : Int) = (c : Int) + 1 := ⟨c + 1, by omega, rfl⟩
  obtain ⟨n, hn1, hnv⟩ : ∃ n : Nat, (1 ≤ n ∧ n ≤ 20) ∧ (n : Int) = (m : Int) + 1 := ⟨m + 1, by omega, rfl⟩
  have hrun := full_all n L hn1.1 hn1.2 hL1.1 hL1.2
  unfold fullRun at hrun
  obtain ⟨⟨σ0, i0⟩, h0, htr⟩ := thn_ok hrun
  have HN : Hid (∀ w, Calls Tryz.prog 26 #[.agg #[.int .i64 ((m : Int) + 1), .int .u64 1000]] w fun e w' => ∃ b, e = .returned (.tuple #[.pointer (some ⟨b, 0, none⟩), .int .i64 0]) ∧ EKt b w [] (new n 1000) w') := fun w => by
    rw [← hnv]
    exact (new_at n 1000 (by omega) (by omega) (by omega) (by omega) w).mono fun e w' ⟨b, h, q⟩ => ⟨b, h, q.kt⟩
  have HAW := Lib.hid awake24
  have HLM := Lib.hid (And.intro hLv (And.intro hnv hn1))
  have H0 := Lib.hid (And.intro h0 htr)
  clear hc hm hL1 hn1 hrun h0 htr hLv hnv
  go_enter Tryz.func13, Tryz.ntmps13
  go_upto_region 5 with (go_at_call 26; refine (HN.out _).mono ?_; rintro e w1 ⟨b, rfl, q⟩; have T0 := Lib.hid q; clear q)
  clear HN hcs hms n1 n2
  obtain ⟨hLv, hnv, hn1⟩ := HLM.out
  generalize hlv : (c : Int) + 1 = lv at *
  generalize hnz : (m : Int) + 1 = nz at *
  have HLV := Lib.hid hLv
  have HNV := Lib.hid (And.intro hnv hn1)
  clear hlv hnz HLM hLv hnv hn1
  have HB : Hid (∀ ks w1, EKt b w ks (new n 1000) w1 → Calls Tryz.prog 41 #[.pointer (some ⟨b, 0, none⟩), .int .i64 5, .int .i64 lv] w1 (EV b w ks σ0 (.tuple #[.int .i64 (i0 : Int), .int .i64 0]))) := fun ks w1 h => by
    rw [← HLV.out]
    exact begin_kt (s := 5) h (by decide) H0.out.1
  go_upto_region 9 with (go_at_call 41; refine (HB.out _ _ T0.out).mono ?_; clear T0; rintro e w2 ⟨rfl, q⟩; have T1 := Lib.hid q; clear q)
  go_loopw [9] (fun i wr => ∃ (k : Nat) (σ : St) (ks : List Kept), i = .int .i64 (k : Int) ∧ k ≤ n ∧ fullTrail n L (n - k) k σ = true ∧ EKt b w ks σ wr) (fun i _ => n - (intOf i).toNat)
  case atStart => exact ⟨0, σ0, [], rfl, Nat.zero_le _, H0.out.2, T1.out⟩
  case round =>
    clear T1 HB H0
    obtain ⟨k, σ, ks, rfl, hkm, htr, hw⟩ := hrel
    obtain ⟨hnv, hn1, hn2⟩ := HNV.out
    by_cases hlt : k < n
    · obtain ⟨j, hj⟩ : ∃ j, n - k = j + 1 := ⟨n - k - 1, by omega⟩
      rw [hj] at htr
      obtain ⟨σ1, rs, h1, h2, h3, htr2⟩ := fullTrail_next htr
      have hj2 : n - (k + 1) = j := by omega
      have b0 : ((k : Int) < nz) = True := by simp; omega
      have b1 : (k : Int) < nz := by omega
      have n3 : IntKind.i64.wrap ((k : Int) + 1) = (k : Int) + 1 := by rw [IntKind.wrap_i64]; omega
      have HX := Lib.hid (And.intro hlt (And.intro hj2 htr2))
      have T1 := Lib.hid hw
      have HW1 : Hid (∀ ks w1, EKt b w ks σ w1 → Calls Tryz.prog 34 #[.pointer (some ⟨b, 0, none⟩), .int .i64 0, .int .i64 lv, .slice (some ⟨w1.heap.size, 0, none⟩) 1 1] (w1.alloc (.cells #[.int .i64 2, .int .i64 (k : Int), .int .i64 0, .int .i64 (k : Int)] 31)) fun e w' => ∃ rb ro rc, e = .returned (.tuple #[.slice (some ⟨rb, ro, none⟩) 2 rc, .int .i64 0]) ∧ EKt b w ks σ1 w' ∧ w'.cell? ⟨rb, ro + 5 + 3, none⟩ = some (.int .i64 3)) := fun ks w1 h => by
        rw [← HLV.out]
        exact wholeC h (o := ⟨2, k, 0, k⟩) h1 h2 h3 #[.int .i64 2, .int .i64 (k : Int), .int .i64 0, .int .i64 (k : Int)] rfl
      clear htr hw hkm hlt hj hj2 htr2 h1 h2 h3 hnv hn1 hn2
      go_wp2_with (go_at_call 34; refine (HW1.out _ _ T1.out).mono ?_; clear T1; rintro e w3 ⟨rb, ro, rc, rfl, q, c3⟩; have T2 := Lib.hid q; clear q)
      go_roundw
      case rel => exact ⟨k + 1, σ1, _, rfl, by have := HX.out.1; omega, by rw [HX.out.2.1]; exact HX.out.2.2, T2.out⟩
      case measure => have := HX.out.1; simp [intOf]; omega
    · obtain rfl : k = n := by omega
      rw [Nat.sub_self] at htr
      obtain ⟨σ1, r1, σ2, σ3, r3, σ4, r4, h1, h2, a1, a2, a3, a4, h4, h5, h6, h7, h8, h9, h10, b1, h11, c1, c2, hcol⟩ := fullEnd_ok htr
      obtain ⟨τ, υ, rs, u1, u2, u3, u4, u5, u6, u7, u8, u9, u10, u11, u12⟩ := fullCol_ok hcol
      have b0 : ((k : Int) < nz) = False := by simp; omega
      have b2 : decide ((k : Int) < nz) = false := by simp; omega
      have hnz2 : (k : Int) = nz := hnv
      have T1 := Lib.hid hw.drop
      have HP : Hid (∀ w1, EKt b w [] σ w1 → Calls Tryz.prog 32 #[.pointer (some ⟨b, 0, none⟩)] w1 fun e w' => ∃ av ac, e = .returned (.slice av σ.pairs.length ac) ∧ EKt b w [.row 2 (.slice av σ.pairs.length ac) (pairCs σ.pairs)] σ w') := fun w1 h => pairs_kt h h1
      have HWA : Hid (∀ ks w1, EKt b w ks σ w1 → Calls Tryz.prog 34 #[.pointer (some ⟨b, 0, none⟩), .int .i64 0, .int .i64 lv, .slice (some ⟨w1.heap.size, 0, none⟩) 1 1] (w1.alloc (.cells #[.int .i64 2, .int .i64 60, .int .i64 0, .int .i64 1] 31)) fun e w' => ∃ rb ro rc, e = .returned (.tuple #[.slice (some ⟨rb, ro, none⟩) 1 rc, .int .i64 0]) ∧ EKt b w ks σ1 w' ∧ w'.cell? ⟨rb, ro, none⟩ = some (.int .i64 14) ∧ w'.cell? ⟨rb, ro + 3, none⟩ = some (.int .i64 4) ∧ w'.cell? ⟨rb, ro + 4, none⟩ = some (.int .i64 5)) := fun ks w1 h => by
        rw [← HLV.out]
        exact wholeA h (o := ⟨2, 60, 0, 1⟩) h2 a1 a2 a3 a4 #[.int .i64 2, .int .i64 60, .int .i64 0, .int .i64 1] rfl
      have HP1 : Hid (∀ ks w1, EKt b w ks σ1 w1 → Calls Tryz.prog 32 #[.pointer (some ⟨b, 0, none⟩)] w1 fun e w' => ∃ av ac, e = .returned (.slice av σ.pairs.length ac) ∧ EKt b w (.row 2 (.slice av σ.pairs.length ac) (pairCs σ.pairs) :: ks) σ1 w') := fun ks w1 h => by
        have hh := pairs_kt h h4
        rw [h5] at hh
        exact hh
      have HU1 : Hid (∀ ks w1, EKt b w ks σ1 w1 → Calls Tryz.prog 28 #[.pointer (some ⟨b, 0, none⟩)] w1 (EV b w ks σ1.list (.int .i64 nz))) := fun ks w1 h => by
        have hh := usedE' h h8 h6
        rw [hnz2] at hh
        exact hh
      have HS1 : Hid (∀ ks w1, EKt b w ks σ1.list w1 → Calls Tryz.prog 18 #[.pointer (some ⟨b, 0, none⟩), .int .i64 5] w1 fun e w' => ∃ y1 y2 y3 y4 y5 y6 y7 y8, e = .returned (.agg #[.bool true, y1, y2, y3, y4, y5, y6, y7, y8]) ∧ EKt b w ks σ1.list w') := fun ks w1 h => by
        have hh := stLive_kt (s := 5) h (by decide)
        rw [h7] at hh
        exact hh
      have HD : Hid (∀ ks w1, EKt b w ks σ1.list w1 → Calls Tryz.prog 37 #[.pointer (some ⟨b, 0, none⟩), .int .i64 5, .agg #[.int .i64 6, .int .i64 0, .int .i64 0, .int .i64 0]] w1 (fun e w' => ∃ va vc, e = .returned (.tuple #[.agg #[.int .i64 (r3.e : Int), .int .i64 (r3.value : Int), .slice va r3.pairs.length vc, .int .i64 3, .int .i64 (r3.reason : Int)], .int .i64 0]) ∧ EKt b w (.row 2 (.slice va r3.pairs.length vc) (pairCs r3.pairs) :: ks) σ3 w')) := fun ks w1 h => by
        refine (do_kt (s := 5) h (o := ⟨6, 0, 0, 0⟩) (by decide) h9 (by decide : (1000 : Nat) ≤ _) h10).mono ?_
        rintro e w' ⟨va, vn, vc, rfl, hvn, q⟩
        rw [b1]
        subst hvn
        exact ⟨va, vc, rfl, q⟩
      have HWD : Hid (∀ ks w1 g, g = w1.heap.size → EKt b w ks σ3 w1 → Calls Tryz.prog 34 #[.pointer (some ⟨b, 0, none⟩), .int .i64 0, .int .i64 lv, .slice (some ⟨g, 0, none⟩) 1 1] (w1.alloc (.cells #[.int .i64 4, .int .i64 0, .int .i64 0, .int .i64 0] 31)) fun e w' => ∃ rb ro rc, e = .returned (.tuple #[.slice (some ⟨rb, ro, none⟩) 2 rc, .int .i64 0]) ∧ EKt b w ks σ4 w' ∧ w'.cell? ⟨rb, ro + 5 + 3, none⟩ = some (.int .i64 3)) := fun ks w1 g hg h => by
        subst hg
        rw [← HLV.out]
        exact wholeC h (o := ⟨4, 0, 0, 0⟩) h11 c1 c2 #[.int .i64 4, .int .i64 0, .int .i64 0, .int .i64 0] rfl
      have HC : Hid (∀ ks w1, EKt b w ks σ4 w1 → Calls Tryz.prog 47 #[.pointer (some ⟨b, 0, none⟩)] w1 (EV b w ks τ.list (.int .i64 1))) := fun ks w1 h => by
        have hh := collect_kt h u2 u3 u1 u5 u6 (by omega) (by omega)
        rw [show σ4.used - τ.used = 1 by omega] at hh
        exact hh
      have HWZ : Hid (∀ ks w1, EKt b w ks τ.list w1 → Calls Tryz.prog 34 #[.pointer (some ⟨b, 0, none⟩), .int .i64 0, .int .i64 lv, .slice (some ⟨w1.heap.size, 0, none⟩) 1 1] (w1.alloc (.cells #[.int .i64 2, .int .i64 60, .int .i64 0, .int .i64 1] 31)) fun e w' => ∃ rb ro rc, e = .returned (.tuple #[.slice (some ⟨rb, ro, none⟩) 2 rc, .int .i64 0]) ∧ EKt b w ks υ w' ∧ w'.cell? ⟨rb, ro + 5 + 3, none⟩ = some (.int .i64 3)) := fun ks w1 h => by
        rw [← HLV.out]
        exact wholeC h (o := ⟨2, 60, 0, 1⟩) u8 u9 u10 #[.int .i64 2, .int .i64 60, .int .i64 0, .int .i64 1] rfl
      have HUZ : Hid (∀ ks w1, EKt b w ks υ w1 → Calls Tryz.prog 28 #[.pointer (some ⟨b, 0, none⟩)] w1 (EV b w ks υ.list (.int .i64 nz))) := fun ks w1 h => by
        have hh := usedE' h u12 u11
        rw [hnz2] at hh
        exact hh
      have HSP := Lib.hid (fun va vb w1 hA hB => same_pairs va vb σ.pairs 0 0 w1 hA hB)
      clear htr hw hkm hlt h1 h2 a1 a2 a3 a4 h4 h5 h6 h7 h8 h9 h10 b1 h11 c1 c2 hcol u1 u2 u3 u4 u5 u6 u7 u8 u9 u10 u11 u12 hnv hn1 hn2 hnz2 HNV
      generalize σ.pairs.length = pl at *
      go_wp2_with (first | (go_at_call 32; refine (HP.out _ T1.out).mono ?_; clear T1; rintro e w3 ⟨av, ac, rfl, q⟩; have T2 := Lib.hid q; clear q) | (go_at_call 34; refine (HWA.out _ _ T2.out).mono ?_; clear T2; rintro e w4 ⟨rb, ro, rc, rfl, q, c0, c3, c4⟩; have T3 := Lib.hid q; clear q) | (go_at_call 32; refine (HP1.out _ _ T3.out).mono ?_; clear T3; rintro e w5 ⟨bv, bc, rfl, q⟩; have T4 := Lib.hid q; clear q) | (go_at_call 46; refine (HSP.out _ _ _ (T4.out.row List.mem_cons_self) (T4.out.row (List.mem_cons_of_mem _ List.mem_cons_self))).mono ?_; rintro e w6 ⟨rfl, hb⟩; have T5 := Lib.hid (T4.out.below hb); clear hb T4) | (go_at_call 28; refine (HU1.out _ _ T5.out).mono ?_; clear T5; rintro e w7 ⟨rfl, q⟩; have T6 := Lib.hid q; clear q) | (go_at_call 18; refine (HS1.out _ _ T6.out).mono ?_; clear T6; rintro e w8 ⟨y1, y2, y3, y4, y5, y6, y7, y8, rfl, q⟩; have hf := fld_live (.bool true) y1 y2 y3 y4 y5 y6 y7 y8; have T7 := Lib.hid q; clear q) | (go_at_call 37; refine (HD.out _ _ T7.out).mono ?_; clear T7; rintro e w9 ⟨va, vc, rfl, q⟩; have q2 := q.alloc (.cells #[.int .i64 (r3.e : Int), .int .i64 (r3.value : Int), .slice va r3.pairs.length vc, .int .i64 3, .int .i64 (r3.reason : Int)] 42); have z3 := objc' (q2.obj List.mem_cons_self) 3 rfl; have T8 := Lib.hid q2; clear q q2) | (go_at_call 34; refine (HWD.out _ _ (w9.heap.size + 1) (by simp) T8.out).mono ?_; clear T8; rintro e w10 ⟨rd, rq, rx, rfl, q, d3⟩; have T9 := Lib.hid q; clear q) | (go_at_call 47; refine (HC.out _ _ T9.out).mono ?_; clear T9; rintro e w11 ⟨rfl, q⟩; have T10 := Lib.hid q; clear q) | (go_at_call 34; refine (HWZ.out _ _ T10.out).mono ?_; clear T10; rintro e w12 ⟨re, rr, ry, rfl, q, e3⟩; have T11 := Lib.hid q; clear q) | (go_at_call 28; refine (HUZ.out _ _ T11.out).mono ?_; clear T11; rintro e w13 ⟨rfl, q⟩; have T12 := Lib.hid q; clear q) | (go_at_call 35; refine (HAW.out _).mono ?_; rintro e w14 ⟨rfl, hb⟩; have T13 := Lib.hid (T12.out.below hb); clear hb T12))
      go_ret
      exact ⟨rfl, T13.out.toBelow⟩
end Go.Proofs.YtbefcdjcefmicaaGreat.Em
