/- Contract of explore.Nth. -/
import Derived.Test.YtplfhjahdepphaaExS
namespace Go.Proofs.Ytplfhjahdepphaa.Ex
open Go.ChangeShapes Go.WideShapes Go.ChangeAt Go.RowKit
set_option linter.unusedVariables false
set_option linter.unusedSimpArgs false
set_option maxRecDepth 100000

theorem nth_no (v : Value) (l : List Nat) (hs : Sm l) (b : Nat) (m : Int) (h : m < 0 ∨ (cN l : Int) ≤ m) (w : World) (hr : Ow.Row w b 1 v (nats l)) :
    Calls Try.prog 50 #[v, .int .i64 m] w fun e w' => e = .returned (.tuple #[.slice none 0 0, .bool false]) ∧ w = w' := by
  have HC := Lib.hid (fun W h => count_any v l (by have := hs.1; omega) (fun k hk => by have := hs.2 k hk; omega) W h)
  rw [sm_cntI hs] at HC
  have HR := Lib.hid (Plan.row_weak hr (Nat.zero_le _))
  clear hs hr
  by_cases h0 : m < 0
  · clear h
    go_enter Try.func50, Try.ntmps50
    go_wp2_with fail
    go_ret2
    exact ⟨rfl, rfl⟩
  · have h1 : (cN l : Int) ≤ m := by omega
    clear h
    go_enter Try.func50, Try.ntmps50
    go_wp2_with fail
    refine (HC.out _ HR.out).mono ?_
    rintro z w1 ⟨rfl, rfl⟩
    go_wp2_with fail
    go_ret2
    exact ⟨rfl, rfl⟩

theorem pick_cons (k : Nat) (ks : List Nat) (n i : Nat) : pick (k :: ks) n i = if n < k then (i, n) else pick ks (n - k) (i + 1) := rfl
theorem pick_nil (n i : Nat) : pick [] n i = (i, n) := rfl

/-- What Nth answers. -/
def NthP (w : World) (xs : List Nat) (z : Ending) (w' : World) : Prop :=
  ∃ a n cap, z = .returned (.tuple #[.slice a n n, .bool true]) ∧ w'.ownsRow w.heap.size 3 1 (.slice a n cap) n (nats xs) ∧ Below w.heap.size w w'
/-- What the outer loop of Nth keeps. -/
def NRel (w : World) (B : Nat) (l : List Nat) (m t : Nat) (v6 : Value) (k : Nat) (n out i : Value) (wr : World) : Prop :=
  ∃ (N : Nat) (L acc : List Nat), k ≤ t ∧ i = .int .i64 k ∧ n = .int .i64 N ∧ Sm L ∧ L.length = l.length ∧ sum L + k = t ∧ N < cN L ∧ acc.length = k ∧ acc ++ nthF (t - k) L N = nthF t l m ∧
    wr.ownsRow w.heap.size 3 1 v6 L.length (nats L) ∧ wr.ownsRow B 3 1 out k (nats acc) ∧ Below w.heap.size w wr ∧ B ≤ wr.heap.size
/-- What its inner loop keeps. -/
def NRel2 (L : List Nat) (N : Nat) (n i j : Value) : Prop :=
  ∃ N' J : Nat, J ≤ L.length ∧ n = .int .i64 N' ∧ i = .int .i64 J ∧ j = .int .i64 J ∧ N' ≤ 400000 ∧ pick ((leftL L).drop J) N' J = pick (leftL L) N 0

theorem own_mono {w : World} {base b2 : Nat} {e : TypeId} {size : Nat} {v : Value} {n : Nat} {xs : List Value} (h : w.ownsRow base e size v n xs) (hb : b2 ≤ base) : w.ownsRow b2 e size v n xs := by
  refine ⟨h.1, ?_⟩
  rcases h.2 with h0 | ⟨g, cap, cur, h1, h2, h3⟩
  · exact .inl h0
  · exact .inr ⟨g, cap, cur, h1, by omega, h3⟩
/-- A row whose block lies below is kept. -/
theorem own_under {w w1 : World} {base B : Nat} {e : TypeId} {size : Nat} {v : Value} {n : Nat} {xs : List Value} (h : w.ownsRow base e size v n xs) (hB : ∀ k, v.ownBlock = some k → k < B) (hb : Below B w w1) : w1.ownsRow base e size v n xs := by
  refine ⟨h.1, ?_⟩
  rcases h.2 with h0 | ⟨g, cap, cur, h1, h2, h3, h4⟩
  · exact .inl h0
  · refine .inr ⟨g, cap, cur, h1, h2, ?_, h4⟩
    rw [hb.block g (hB g (by subst h1; rfl)), h3]

set_option maxHeartbeats 4000000 in
theorem nth_yes (v : Value) (l : List Nat) (hs : Sm l) (b : Nat) (m : Nat) (h : m < cN l) (w : World) (hr : Ow.Row w b 1 v (nats l)) :
    Calls Try.prog 50 #[v, .int .i64 (m : Int)] w (NthP w (nthF (sum l) l m)) := by
  have HC := Lib.hid (fun W h => count_any v l (by have := hs.1; omega) (fun k hk => by have := hs.2 k hk; omega) W h)
  rw [sm_cntI hs] at HC
  have HR := Lib.hid hr
  have hc4 := (sm_cnt hs).2.2
  have h1 : (m : Int) < (cN l : Int) := by omega
  have HCL := Lib.hid (fun W h => clone_any v (nats l) (oneCell_nats l) (by rw [nats_length]; have := hs.1; omega) b W h)
  have HT := Lib.hid (fun W h => total_any v l (by have := hs.1; omega) (fun k hk => by have := hs.2 k hk; omega) b W h)
  have HS := Lib.hid hs
  have h12 := sm_sum12 hs
  have HM := Lib.hid h
  obtain ⟨t, ht⟩ : ∃ t, sum l = t := ⟨_, rfl⟩
  have HTT := Lib.hid ht
  rw [ht] at HT h12 ⊢
  clear hs hr ht h
  go_enter Try.func50, Try.ntmps50
  go_wp2_with fail
  refine (HC.out _ (Plan.row_weak HR.out (Nat.zero_le _))).mono ?_
  rintro z w1 ⟨rfl, rfl⟩
  go_wp2_with fail
  refine (HCL.out _ HR.out).mono ?_
  rintro z w2 ⟨v6, rfl, hown6, hb⟩
  rw [nats_length] at hown6
  have hB6 : ∀ k, v6.ownBlock = some k → k < w2.heap.size := fun k hk => (hown6.lt k hk).2
  go_wp2_with fail
  refine (HT.out _ (HR.out.below hb)).mono ?_
  rintro z w3 ⟨rfl, rfl⟩
  obtain ⟨B, hBdef⟩ : ∃ B, w2.heap.size = B := ⟨_, rfl⟩
  have HBD := Lib.hid hBdef
  rw [hBdef] at hB6
  have HB6 := Lib.hid hB6
  have hstart : NRel w B l m t v6 0 (.int .i64 (m : Int)) (.slice none 0 0) (.int .i64 0) w2 :=
    ⟨m, l, [], by omega, rfl, rfl, HS.out, rfl, HTT.out, HM.out, rfl, by simp, hown6, World.ownsRow_nil _ _ _ _, hb, by omega⟩
  have HST := Lib.hid hstart
  clear hstart hown6 hb hB6 hBdef
  go_wp2_with fail
  go_loopw [1, 7, 23] (fun n out i wr => ∃ k, NRel w B l m t v6 k n out i wr) (fun _ _ i _ => t - (intOf i).toNat)
  case atStart => exact ⟨0, HST.out⟩
  case round =>
    obtain ⟨k, N, L, acc, hkt, rfl, rfl, hL, hLl, hsL, hN, hacc, heq, hown6, hown7, hb, hBw⟩ := hrel
    by_cases hlt : k < t
    · have i2 : (k : Int) < (t : Int) := by omega
      obtain ⟨q1, q2, q3, q4, q5⟩ := sm_pick hL (by omega) hN
      have hNb := (sm_cnt hL).2.2
      have hL0 : 0 < L.length := by omega
      have hnext : nthF (t - k) L N = (pick (leftL L) N 0).1 :: nthF (t - (k + 1)) (lset L (pick (leftL L) N 0).1) (pick (leftL L) N 0).2 := by
        rw [show t - k = (t - (k + 1)) + 1 by omega]; rfl
      rw [hnext] at heq
      obtain ⟨a7, cap7, rfl, hn7, hm7, -⟩ := Ow.own_form hown7
      obtain ⟨g6, cap6, rfl, hg6, hg6'⟩ := hown6.form hL0
      have hg6B : g6 < B := HB6.out g6 rfl
      have HLF := Lib.hid (fun W h => left_any (.slice (some ⟨g6, 0, none⟩) L.length cap6) L hL 0 W h)
      have HLE := Lib.hid (leftL_le hL)
      have HPK := Lib.hid (show pick ((leftL L).drop 0) N 0 = pick (leftL L) N 0 from rfl)
      obtain ⟨P, hP⟩ : ∃ P, pick (leftL L) N 0 = P := ⟨_, rfl⟩
      rw [hP] at q1 q2 q3 q4 q5 heq
      obtain ⟨p, N2⟩ := P
      simp only at q1 q2 q3 q4 q5 heq
      have HP := Lib.hid hP
      have HEQ := Lib.hid heq
      have HL := Lib.hid hL
      obtain ⟨n, hn⟩ : ∃ n, L.length = n := ⟨_, rfl⟩
      have HLN := Lib.hid hn
      have hn4 : n ≤ 4 := by rw [← hn]; exact hL.1
      rw [hn] at q1 hown6 hL0 HLF ⊢
      have hlleft := leftL_length L
      rw [hn] at hlleft
      have HLL := Lib.hid hlleft
      clear hP heq hnext hL hn hlleft q5
      go_wp2_with fail
      refine (HLF.out _ (Plan.row_weak (Plan.own_row hown6) (Nat.zero_le _))).mono ?_
      rintro z w4 ⟨v8, rfl, hrow8, hq⟩
      have hown6b := Ow.own_below hown6 hq
      have hown7b := Ow.own_below hown7 hq
      have hb4 := hb.trans (hq.mono hb.size)
      have hBw4 := Nat.le_trans hBw hq.size
      clear hown6 hown7 hb hBw hq HLF
      obtain ⟨a8, n8, c8, rfl, hl8, hc8, hm8, hcell8⟩ := hrow8
      rw [nats_length, HLL.out, Nat.mul_one] at hl8
      obtain rfl : n8 = n := hl8.symm
      rcases hcell8 with h0 | ⟨g8, off8, rfl, _, hg8, hcell8⟩
      · omega
      have HCE := Lib.hid hcell8
      clear hcell8 hm8
      have HN9 : Hid (N ≤ 400000) := by show _ ≤ _; omega
      go_wp2_with fail
      go_loop [1, 8, 28] (fun n i j => NRel2 L N n i j) (fun _ _ j => n8 - (intOf j).toNat)
      case atStart => exact ⟨N, 0, Nat.zero_le _, rfl, rfl, rfl, HN9.out, HPK.out⟩
      case round =>
        obtain ⟨N', J, hJ, rfl, rfl, rfl, hN4, hpk⟩ := hrel
        rw [HLN.out] at hJ
        by_cases hJn : J < n8
        · have j1 : (0 : Int) ≤ (J : Int) := by omega
          have j2 : (J : Int) < (n8 : Int) := by omega
          have c := HCE.out J (by omega)
          rw [nats_get (leftL L) J (by rw [HLL.out]; exact hJn)] at c
          have hd : (leftL L).drop J = (leftL L).getD J 0 :: (leftL L).drop (J + 1) := by
            have hjl : J < (leftL L).length := by rw [HLL.out]; exact hJn
            rw [show (leftL L).getD J 0 = (leftL L)[J] by simp [List.getD_eq_getElem?_getD, List.getElem?_eq_getElem hjl]]
            exact List.drop_eq_getElem_cons _
          rw [hd, pick_cons] at hpk
          generalize (leftL L).getD J 0 = x at *
          by_cases hx : N' < x
          · rw [if_pos hx, HP.out] at hpk
            simp only [Prod.mk.injEq] at hpk
            obtain ⟨rfl, rfl⟩ := hpk
            have hxI : (N' : Int) < (x : Int) := by omega
            have HRES := Lib.hid (show NRel w B l m t (.slice (some ⟨g6, 0, none⟩) n8 cap6) k (.int .i64 (N : Int)) (.slice a7 k cap7) (.int .i64 (k : Int)) w4 → True from fun _ => trivial)
            have hg6w : g6 < w4.heap.size := Nat.lt_of_lt_of_le hg6B hBw4
            have HY : Hid ((nats L)[J]? = some (.int .i64 ((L.getD J 0 : Nat) : Int))) := nats_get L J (by rw [HLN.out]; exact hJn)
            have HSET : Hid (∀ y, L.getD J 0 = y → (nats L).set J (.int .i64 ((y : Int) - 1)) = nats (lset L J)) := by
              intro y hy
              unfold lset nats
              rw [List.map_set]
              congr 1
              rw [hy]
              have : ((y - 1 : Nat) : Int) = (y : Int) - 1 := by omega
              rw [this]
            obtain ⟨y, hy⟩ : ∃ y, L.getD J 0 = y := ⟨_, rfl⟩
            have HYY := Lib.hid hy
            rw [hy] at HY q2
            have hy3 : y ≤ 3 := by
              rw [← hy, List.getD_eq_getElem?_getD, List.getElem?_eq_getElem (by rw [HLN.out]; exact hJn)]
              exact HL.out.2 _ (List.getElem_mem _)
            have y1 : (1 : Int) ≤ (y : Int) := by omega
            have y3 : (y : Int) ≤ 3 := by omega
            have hw1 := hBw4
            clear hd hy HRES
            go_wp2_with (at_builtin; refine append_IR _ rfl (.tmp 41) (.tmp 43) rfl B (.slice a7 k cap7) k _ rfl (hown7b.alloc _) _ _ (nats [J]) rfl (row_lit w4 #[.int .i64 (J : Int)] _ 1 rfl (by omega)) (oneCell_nats _) ?hn ?hb ?_)
            case hn => rw [nats_length]; simp; omega
            case hb => first | omega | (simp; omega)
            intro v7 w5 hown7c hg7
            have hB5 : Below B w4 w5 := Ow.grown_below (hown7b.alloc _) ((Below.refl _ _).alloc hBw4 _) (by simp; omega) hg7
            have hown6c := own_under hown6b (fun k hk => by simp [Value.ownBlock] at hk; subst hk; exact hg6B) hB5
            have hsz5 := hB5.size
            have hb5 : Below w.heap.size w w5 := hb4.trans (hB5.mono (by omega))
            rw [← nats_append, show k + (nats [J]).length = k + 1 from rfl] at hown7c
            have xc : w5.cell? ⟨g6, J, none⟩ = some (.int .i64 (y : Int)) := (hown6c.cellAt J (by omega)).trans HY.out
            have xf := hown6c.frozenAt J
            obtain ⟨hst, hgr⟩ := hown6c.stored J (.int .i64 ((y : Int) - 1))
            rw [HSET.out y HYY.out] at hst
            have hown7d := hown7c.kept hgr (by
              cases hv : v7.ownBlock with
              | none => exact .inl rfl
              | some k =>
                right
                intro h
                have := (hown7c.lt k hv).1
                simp only [Option.some.injEq] at h
                omega)
            have hb6 : Below w.heap.size w (w5.setCell ⟨g6, J, none⟩ (.int .i64 ((y : Int) - 1))) := hb5.setCell (by show w.heap.size ≤ g6; omega) _
            have hB6 : B ≤ (w5.setCell ⟨g6, J, none⟩ (.int .i64 ((y : Int) - 1))).heap.size := by simp; omega
            have HFIN : Hid (NRel w B l m t (.slice (some ⟨g6, 0, none⟩) n8 cap6) (k + 1) (.int .i64 (N' : Int)) v7 (.int .i64 ((k + 1 : Nat) : Int)) (w5.setCell ⟨g6, J, none⟩ (.int .i64 ((y : Int) - 1)))) :=
              ⟨N', lset L J, acc ++ [J], by omega, rfl, rfl, sm_lset HL.out J, by rw [lset_length]; exact hLl, by omega, q3, by simp; omega, by rw [List.append_assoc]; exact HEQ.out, by rw [lset_length, HLN.out]; exact hst, hown7d, hb6, hB6⟩
            clear hst hgr hown7c hown7d hb6 hB6 hown6c hB5 hg7 hb5 hown6b hown7b hb4
            go_wp2_with fail
            exact ⟨⟨k + 1, by first | exact HFIN.out | (have h := HFIN.out; push_cast at h; exact h)⟩, by simp [intOf]; omega⟩
          · rw [if_neg hx] at hpk
            have HPK2 := Lib.hid hpk
            have hxI : (x : Int) ≤ (N' : Int) := by omega
            have x0 : (0 : Int) ≤ (x : Int) := by omega
            have n40 : (N' : Int) ≤ 400000 := by omega
            clear hd hpk
            go_wp2
            go_round
            case rel => exact ⟨N' - x, J + 1, by rw [HLN.out]; omega, by go_num, by go_num, by go_num, by omega, HPK2.out⟩
            case measure => simp [intOf]; omega
        · exfalso
          obtain rfl : J = n8 := by omega
          rw [List.drop_eq_nil_of_le (by rw [HLL.out]; exact Nat.le_refl _), pick_nil, HP.out] at hpk
          simp only [Prod.mk.injEq] at hpk
          omega
    · obtain rfl : k = t := by omega
      rw [Nat.sub_self] at heq
      have hacc2 : acc = nthF k l m := by rw [← heq]; show acc = acc ++ []; simp
      rw [hacc2] at hown7
      obtain ⟨a7, cap7, rfl, hn7, hm7, hrow7⟩ := Ow.own_form hown7
      have HF : Hid (wr.ownsRow w.heap.size 3 1 (.slice a7 k cap7) k (nats (nthF k l m))) := own_mono hown7 (by have h := HST.out; obtain ⟨_, _, _, _, _, _, _, _, _, _, _, _, _, _, hb, hB⟩ := h; have := hb.size; have := HBD.out; omega)
      clear heq hown7 hrow7 hown6 hlt hacc2 hacc
      go_wp2_with (go_at_call 63; refine (clip_any _ _ _ hn7 hm7 _).mono ?_; rintro e w' ⟨rfl, rfl⟩)
      go_ret2
      exact ⟨_, _, _, rfl, HF.out, hb⟩
end Go.Proofs.Ytplfhjahdepphaa.Ex
