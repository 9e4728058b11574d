/- Contract of the document's Nth of schedules. -/
import Derived.Test.YtplfhjahdepphaaExK
import Derived.Test.YtplfhjahdepphaaExListsP
namespace Go.Proofs.Ytplfhjahdepphaa.Ex
open Go.ChangeShapes Go.WideShapes Go.ChangeAt Go.RowKit
set_option linter.unusedVariables false
set_option linter.unusedSimpArgs false
set_option maxRecDepth 100000

theorem sum_zero_get (l : List Nat) (h : sum l = 0) : ∀ j, l.getD j 0 = 0 := by
  induction l with
  | nil => intro j; simp
  | cons x l ih =>
    intro j
    rw [sum_cons] at h
    cases j with
    | zero => simp only [List.getD_cons_zero]; omega
    | succ j => simp only [List.getD_cons_succ]; exact ih (by omega) j
theorem lset_back (l : List Nat) (j x : Nat) (hj : j < l.length) (hx : l.getD j 0 = x) (h1 : 1 ≤ x) : (lset l j).set j (x - 1 + 1) = l := by
  unfold lset
  rw [hx, List.set_set, Nat.sub_add_cancel h1]
  refine ext_getD (by rw [List.length_set]) fun i hi => ?_
  rw [getD_set _ _ _ _ hj]
  by_cases h : i = j
  · rw [if_pos h, h, hx]
  · rw [if_neg h]

/-- What the document's Nth answers. -/
def RNthP (w : World) (xs : List Nat) (z : Ending) (w' : World) : Prop :=
  ∃ v', z = .returned (.tuple #[v', .bool true]) ∧ Ow.Row w' w.heap.size 1 v' (nats xs) ∧ Below w.heap.size w w'
/-- What its outer loop keeps. -/
def QRel (w : World) (B : Nat) (l : List Nat) (m t : Nat) (v7 : Value) (n out : Value) (wr : World) : Prop :=
  ∃ (k N : Nat) (L acc : List Nat), k ≤ t ∧ n = .int .i64 N ∧ Sm L ∧ L.length = l.length ∧ sum L + k = t ∧ N < cN L ∧ acc.length = k ∧ acc ++ nthF (t - k) L N = nthF t l m ∧
    wr.ownsRow w.heap.size 3 1 v7 L.length (nats L) ∧ wr.ownsRow B 3 1 out k (nats acc) ∧ Below w.heap.size w wr ∧ B ≤ wr.heap.size
/-- What its inner loop keeps. -/
def QRel2 (w : World) (B k : Nat) (L acc : List Nat) (v7 out : Value) (p N2 : Nat) (n next i : Value) (wr : World) : Prop :=
  ∃ J : Nat, J ≤ L.length ∧ i = .int .i64 J ∧ wr.ownsRow B 3 1 out k (nats acc) ∧ Below w.heap.size w wr ∧ B ≤ wr.heap.size ∧
    ((next = .int .i64 (-1) ∧ ∃ N' : Nat, n = .int .i64 N' ∧ N' ≤ 400000 ∧ wr.ownsRow w.heap.size 3 1 v7 L.length (nats L) ∧ pick ((leftL L).drop J) N' J = (p, N2)) ∨
      (next = .int .i64 p ∧ n = .int .i64 N2 ∧ wr.ownsRow w.heap.size 3 1 v7 L.length (nats (lset L p))))

set_option maxHeartbeats 4000000 in
theorem rnth_yes (v : Value) (l : List Nat) (hs : Sm l) (b : Nat) (m : Nat) (h : m < cN l) (w : World) (hr : Ow.Row w b 1 v (nats l)) :
    Calls Try.prog 54 #[v, .int .i64 (m : Int)] w (RNthP w (nthF (sum l) l m)) := by
  have HC := Lib.hid (fun W h => rcount_any v l hs W h)
  have HR := Lib.hid hr
  have hc4 := (sm_cnt hs).2.2
  have h1 : (m : Int) < (cN l : Int) := by omega
  have HS := Lib.hid hs
  have h12 := sm_sum12 hs
  have hl4 := hs.1
  have HM := Lib.hid h
  obtain ⟨t, ht⟩ : ∃ t, sum l = t := ⟨_, rfl⟩
  have HTT := Lib.hid ht
  rw [ht] at h12 ⊢
  clear hs hr ht h
  go_enter Try.func54, Try.ntmps54
  go_wp2_with fail
  refine (HC.out _ (Plan.row_weak HR.out (Nat.zero_le _))).mono ?_
  rintro z w1 ⟨rfl, rfl⟩
  go_wp2_with (at_builtin; refine append_IR _ rfl (.tmp 21) (.tmp 22) rfl w.heap.size (.slice (some ⟨w.heap.size, 0, none⟩) 0 0) 0 [] rfl (World.ownsRow_lit w #[] 0 (Nat.le_refl _) (Nat.zero_le _) rfl) _ _ (nats l) rfl (HR.out.below (Plan.below_allocs1 w _)) (oneCell_nats l) ?hn ?hb ?_)
  case hn => rw [nats_length]; omega
  case hb => simp
  intro v7 w2 hown7 hg7
  have hb : Below w.heap.size w w2 := ((Below.refl _ _).alloc (Nat.le_refl _) _).grown hg7 (by simp) (by intro k hk; simp [Value.ownBlock] at hk; subst hk; exact Nat.le_refl _)
  have hown7' : w2.ownsRow w.heap.size 3 1 v7 l.length (nats l) := by
    have h := hown7
    simp only [nats_length, Nat.zero_add, List.nil_append] at h
    exact h
  have hB7 : ∀ k, v7.ownBlock = some k → k < w2.heap.size := fun k hk => (hown7'.lt k hk).2
  have hstart : QRel w w2.heap.size l m t v7 (.int .i64 (m : Int)) (.slice none 0 0) w2 :=
    ⟨0, m, l, [], by omega, rfl, HS.out, rfl, HTT.out, HM.out, rfl, by simp, hown7', World.ownsRow_nil _ _ _ _, hb, by omega⟩
  obtain ⟨B, hBdef⟩ : ∃ B, w2.heap.size = B := ⟨_, rfl⟩
  have hBw0 : w.heap.size ≤ B := hBdef ▸ hb.size
  rw [hBdef] at hB7 hstart
  have HB7 := Lib.hid hB7
  have HST := Lib.hid hstart
  clear hstart hown7 hown7' hb hB7 hBdef hg7
  go_wp2_with fail
  go_loopw [1, 8] (fun n out wr => QRel w B l m t v7 n out wr) (fun _ out _ => match out with | .slice _ n _ => t - n | _ => 0)
  case atStart => exact HST.out
  case round =>
    obtain ⟨k, N, L, acc, hkt, rfl, hL, hLl, hsL, hN, hacc, heq, hown7, hown8, hb, hBw⟩ := hrel
    obtain ⟨a8, cap8, rfl, hn8, hm8, -⟩ := Ow.own_form hown8
    have hLn : L.length ≤ 4 := hL.1
    obtain ⟨n, hn⟩ : ∃ n, L.length = n := ⟨_, rfl⟩
    have HLN := Lib.hid hn
    by_cases hlt : k < t
    · obtain ⟨q1, q2, q3, q4, q5⟩ := sm_pick hL (by omega) hN
      have hNb := (sm_cnt hL).2.2
      have hnext : nthF (t - k) L N = (pick (leftL L) N 0).1 :: nthF (t - (k + 1)) (lset L (pick (leftL L) N 0).1) (pick (leftL L) N 0).2 := by
        rw [show t - k = (t - (k + 1)) + 1 by omega]; rfl
      rw [hnext] at heq
      have hL0 : 0 < L.length := by omega
      obtain ⟨g7, cap7, rfl, hg7, hg7'⟩ := hown7.form hL0
      have hg7B : g7 < B := HB7.out g7 rfl
      obtain ⟨P, hP⟩ : ∃ P, pick (leftL L) N 0 = P := ⟨_, rfl⟩
      rw [hP] at q1 q2 q3 q4 q5 heq
      obtain ⟨p, N2⟩ := P
      simp only at q1 q2 q3 q4 q5 heq
      have HP := Lib.hid hP
      have HEQ := Lib.hid heq
      have HL := Lib.hid hL
      have HACC := Lib.hid hacc
      have HLL : Hid ((leftL L).length = n) := by show _ = _; rw [leftL_length, hn]
      have HST2 : Hid (QRel2 w B k L acc (.slice (some ⟨g7, 0, none⟩) L.length cap7) (.slice a8 k cap8) p N2 (.int .i64 (N : Int)) (.int .i64 (-1)) (.int .i64 0) wr) :=
        ⟨0, Nat.zero_le _, rfl, hown8, hb, hBw, .inl ⟨rfl, N, rfl, by omega, hown7, hP⟩⟩
      rw [hn] at HST2 q1 hL0 ⊢
      clear hP heq hnext hL q5 hown7 hown8 hb hBw hacc
      go_wp2_with fail
      go_loopw [1, 9, 10] (fun n' next i w3 => QRel2 w B k L acc (.slice (some ⟨g7, 0, none⟩) n cap7) (.slice a8 k cap8) p N2 n' next i w3) (fun _ _ i _ => n - (intOf i).toNat)
      case atStart => exact HST2.out
      case round =>
        obtain ⟨J, hJ, rfl, hown8, hb, hBw, hcase⟩ := hrel
        rw [HLN.out] at hJ
        have j0 : (0 : Int) ≤ (J : Int) := by omega
        rcases hcase with ⟨rfl, N', rfl, hN4, hown7, hpk⟩ | ⟨rfl, rfl, hown7⟩
        · rw [HLN.out] at hown7
          by_cases hJn : J < n
          · have j2 : (J : Int) < (n : Int) := by omega
            have hJL : J < L.length := by rw [HLN.out]; exact hJn
            have c := (hown7.cellAt J (by omega)).trans (nats_get L J hJL)
            have xf := hown7.frozenAt J
            have hd : (leftL L).drop J = (leftL L).getD J 0 :: (leftL L).drop (J + 1) := by
              have hjl : J < (leftL L).length := by rw [HLL.out]; exact hJn
              rw [show (leftL L).getD J 0 = (leftL L)[J] by simp [List.getD_eq_getElem?_getD, List.getElem?_eq_getElem hjl]]
              exact List.drop_eq_getElem_cons _
            rw [hd, pick_cons, leftL_get L J hJL] at hpk
            have hx3 : L.getD J 0 ≤ 3 := by
              rw [List.getD_eq_getElem?_getD, List.getElem?_eq_getElem hJL]
              exact HL.out.2 _ (List.getElem_mem _)
            obtain ⟨x, hx⟩ : ∃ x, L.getD J 0 = x := ⟨_, rfl⟩
            have HGX := Lib.hid hx
            rw [hx] at c hx3 hpk
            clear hd hx
            by_cases hx0 : x = 0
            · subst hx0
              rw [if_pos rfl, if_neg (by omega), Nat.sub_zero] at hpk
              have HFIN : Hid (QRel2 w B k L acc (.slice (some ⟨g7, 0, none⟩) n cap7) (.slice a8 k cap8) p N2 (.int .i64 (N' : Int)) (.int .i64 (-1)) (.int .i64 ((J + 1 : Nat) : Int)) wr) :=
                ⟨J + 1, by rw [HLN.out]; omega, rfl, hown8, hb, hBw, .inl ⟨rfl, N', rfl, hN4, by rw [HLN.out]; exact hown7, hpk⟩⟩
              have c' : wr.cell? ⟨g7, J, none⟩ = some (.int .i64 0) := c
              clear hpk hown7 hown8 hb c
              go_wp2_with fail
              exact ⟨by first | exact HFIN.out | (have h := HFIN.out; push_cast at h; exact h), by simp [intOf]; omega⟩
            · obtain ⟨y, rfl⟩ : ∃ y, x = y + 1 := ⟨x - 1, by omega⟩
              rw [if_neg hx0] at hpk
              have e1 : ((y + 1 : Nat) : Int) = (y : Int) + 1 := by omega
              rw [e1] at c
              have hls : L.set J y = lset L J := by unfold lset; rw [HGX.out]; rfl
              have hlb : (lset L J).set J (y + 1) = L := lset_back L J (y + 1) hJL HGX.out (by omega)
              have hly : (lset L J).getD J 0 = y := by rw [← hls, getD_set _ _ _ _ hJL, if_pos rfl]
              obtain ⟨hst, hgr⟩ := hown7.stored J (.int .i64 (y : Int))
              rw [nats_set, hls] at hst
              have hk8 := hown8.kept hgr (by
                cases hv : (Value.slice a8 k cap8).ownBlock with
                | none => exact .inl rfl
                | some k' =>
                  right
                  intro h
                  have := (hown8.lt k' hv).1
                  simp only [Option.some.injEq] at h
                  omega)
              have hb6 : Below w.heap.size w (wr.setCell ⟨g7, J, none⟩ (.int .i64 (y : Int))) := hb.setCell (by show w.heap.size ≤ g7; exact hg7) _
              have hB6 : B ≤ (wr.setCell ⟨g7, J, none⟩ (.int .i64 (y : Int))).heap.size := by simpa using hBw
              have hrw := Plan.row_weak (Plan.own_row hst) (Nat.zero_le _)
              have y0 : (0 : Int) ≤ (y : Int) := by omega
              have y2 : (y : Int) ≤ 2 := by omega
              have xz : ((y : Int) + 1 == 0) = false := by simp; omega
              have hK := (sm_cnt (sm_lset HL.out J)).2.2
              have HRC := Lib.hid (fun W h => rcount_any (.slice (some ⟨g7, 0, none⟩) n cap7) (lset L J) (sm_lset HL.out J) W h)
              obtain ⟨K, hKd⟩ : ∃ K, cN (lset L J) = K := ⟨_, rfl⟩
              rw [hKd] at hpk hK HRC
              clear hgr hown8 hown7 hb hBw hls hKd e1
              go_wp2_with fail
              clear c xf
              generalize wr.setCell ⟨g7, J, none⟩ (.int .i64 (y : Int)) = w5 at *
              refine (HRC.out _ hrw).mono ?_
              rintro z w6 ⟨rfl, rfl⟩
              by_cases hNK : N' < K
              · rw [if_pos hNK] at hpk
                simp only [Prod.mk.injEq] at hpk
                obtain ⟨rfl, rfl⟩ := hpk
                have HFIN : Hid (QRel2 w B k L acc (.slice (some ⟨g7, 0, none⟩) n cap7) (.slice a8 k cap8) J N' (.int .i64 (N' : Int)) (.int .i64 (J : Int)) (.int .i64 ((J + 1 : Nat) : Int)) w5) :=
                  ⟨J + 1, by rw [HLN.out]; omega, rfl, hk8, hb6, hB6, .inr ⟨rfl, rfl, by rw [HLN.out]; exact hst⟩⟩
                have hNKI : (N' : Int) < (K : Int) := by omega
                clear hst hk8 hb6 hB6 hrw
                go_wp2_with fail
                exact ⟨by first | exact HFIN.out | (have h := HFIN.out; push_cast at h; exact h), by simp [intOf]; omega⟩
              · rw [if_neg hNK] at hpk
                have hNKI : (K : Int) ≤ (N' : Int) := by omega
                have hN4I : (N' : Int) ≤ 400000 := by omega
                have hjl2 : J < (lset L J).length := by rw [lset_length]; exact hJL
                have c2 := (hst.cellAt J (by omega)).trans (nats_get (lset L J) J hjl2)
                rw [hly] at c2
                have xf2 := hst.frozenAt J
                obtain ⟨hst2, hgr2⟩ := hst.stored J (.int .i64 ((y : Int) + 1))
                have e2 : (nats (lset L J)).set J (.int .i64 ((y : Int) + 1)) = nats L := by
                  have := nats_set (lset L J) J (y + 1)
                  rw [hlb] at this
                  rw [← this]
                  rfl
                rw [e2] at hst2
                have hk9 := hk8.kept hgr2 (by
                  cases hv : (Value.slice a8 k cap8).ownBlock with
                  | none => exact .inl rfl
                  | some k' =>
                    right
                    intro h
                    have := (hk8.lt k' hv).1
                    simp only [Option.some.injEq] at h
                    omega)
                have hb7 : Below w.heap.size w (w5.setCell ⟨g7, J, none⟩ (.int .i64 ((y : Int) + 1))) := hb6.setCell (by show w.heap.size ≤ g7; exact hg7) _
                have hB7' : B ≤ (w5.setCell ⟨g7, J, none⟩ (.int .i64 ((y : Int) + 1))).heap.size := by simpa using hB6
                have HFIN : Hid (QRel2 w B k L acc (.slice (some ⟨g7, 0, none⟩) n cap7) (.slice a8 k cap8) p N2 (.int .i64 ((N' - K : Nat) : Int)) (.int .i64 (-1)) (.int .i64 ((J + 1 : Nat) : Int)) (w5.setCell ⟨g7, J, none⟩ (.int .i64 ((y : Int) + 1)))) :=
                  ⟨J + 1, by rw [HLN.out]; omega, rfl, hk9, hb7, hB7', .inl ⟨rfl, N' - K, rfl, by omega, by rw [HLN.out]; exact hst2, hpk⟩⟩
                have e3 : ((N' - K : Nat) : Int) = (N' : Int) - (K : Int) := by omega
                rw [e3] at HFIN
                clear hst hst2 hgr2 hk8 hk9 hb6 hb7 hB6 hB7' hrw e3 e2
                go_wp2_with fail
                exact ⟨by first | exact HFIN.out | (have h := HFIN.out; push_cast at h; exact h), by simp [intOf]; omega⟩
          · exfalso
            obtain rfl : n = J := by omega
            rw [List.drop_eq_nil_of_le (by rw [HLL.out]; exact Nat.le_refl _), pick_nil] at hpk
            simp only [Prod.mk.injEq] at hpk
            omega
        · rw [HLN.out] at hown7
          have hpI : ¬ ((p : Int) < 0) := by omega
          have hpd : decide ((p : Int) < 0) = false := decide_eq_false hpI
          have HN : Hid (nats (acc ++ [p]) = nats acc ++ nats [p]) := nats_append _ _
          have hsz := hBw
          rcases Nat.lt_or_ge J n with hJn | hJn
          all_goals
            have hJI : ((J : Int) < (n : Int)) ∨ ¬ ((J : Int) < (n : Int)) := by omega
            first
              | have j2 : (J : Int) < (n : Int) := by omega
              | have j2 : ¬ ((J : Int) < (n : Int)) := by omega
            clear hJI
            go_wp2_with (at_builtin; refine append_IR _ rfl (.tmp 63) (.tmp 65) rfl B (.slice a8 k cap8) k _ rfl (hown8.alloc _) _ _ (nats [p]) rfl (row_lit wr #[.int .i64 (p : Int)] _ 1 rfl (by omega)) (oneCell_nats _) ?hn ?hb ?_)
            case hn => rw [nats_length]; simp; omega
            case hb => first | omega | (simp; omega)
            intro v8 w8 hown9 hg9
            have hBq : Below B wr w8 := Ow.grown_below (hown8.alloc _) ((Below.refl _ _).alloc hsz _) (by simp; omega) hg9
            have hown7b := own_under hown7 (fun k hk => by simp [Value.ownBlock] at hk; subst hk; exact hg7B) hBq
            have hb9 : Below w.heap.size w w8 := hb.trans (hBq.mono hBw0)
            rw [← HN.out, show k + (nats [p]).length = k + 1 from rfl] at hown9
            obtain ⟨a9, cap9, rfl, hn9, hm9, -⟩ := Ow.own_form hown9
            have hsz9 := hBq.size
            have HFIN : Hid (QRel w B l m t (.slice (some ⟨g7, 0, none⟩) n cap7) (.int .i64 (N2 : Int)) (.slice a9 (k + 1) cap9) w8) :=
              ⟨k + 1, N2, lset L p, acc ++ [p], by omega, rfl, sm_lset HL.out p, by rw [lset_length]; exact hLl, by omega, q3, by rw [List.length_append, HACC.out]; rfl, by rw [List.append_assoc]; exact HEQ.out, by rw [lset_length, HLN.out]; exact hown7b, hown9, hb9, by omega⟩
            clear hown9 hg9 hBq hown7 hown7b hb9 hown8 hb
            go_wp2_with fail
            exact ⟨HFIN.out, by simp; omega⟩
    · obtain rfl : t = k := by omega
      have hs0 : sum L = 0 := by omega
      have HZ := Lib.hid (sum_zero_get L hs0)
      rw [Nat.sub_self] at heq
      have hacc2 : acc = nthF t l m := by rw [← heq]; show acc = acc ++ []; simp
      rw [hacc2] at hown8
      have HF : Hid (Ow.Row wr w.heap.size 1 (.slice a8 t cap8) (nats (nthF t l m))) := Plan.row_weak (Plan.own_row hown8) hBw0
      obtain ⟨a7, c7, rfl, -⟩ := Ow.own_form hown7
      have hcell : ∀ j, j < n → ∃ g, a7 = some ⟨g, 0, none⟩ ∧ wr.cell? ⟨g, j, none⟩ = some (.int .i64 0) := by
        intro j hj
        obtain ⟨g7, cap7, hv, _, _⟩ := hown7.form (by omega)
        simp only [Value.slice.injEq, true_and] at hv
        obtain ⟨rfl, rfl⟩ := hv
        refine ⟨g7, rfl, ?_⟩
        have hjL : j < L.length := by omega
        have c := (hown7.cellAt j (by omega)).trans (nats_get L j hjL)
        rw [HZ.out j] at c
        exact c
      have HCE := Lib.hid hcell
      rw [hn] at HST HB7 ⊢
      have hn4 : n ≤ 4 := by omega
      clear heq hown7 hown8 hacc hacc2 hcell hlt hn
      go_wp2_with fail
      go_loop [1, 9, 10] (fun n' next i => ∃ J : Nat, J ≤ n ∧ i = .int .i64 J ∧ next = .int .i64 (-1) ∧ n' = .int .i64 (N : Int)) (fun _ _ i => n - (intOf i).toNat)
      case atStart => exact ⟨0, Nat.zero_le _, rfl, rfl, rfl⟩
      case round =>
        obtain ⟨J, hJ, rfl, rfl, rfl⟩ := hrel
        have j0 : (0 : Int) ≤ (J : Int) := by omega
        by_cases hJn : J < n
        · have j2 : (J : Int) < (n : Int) := by omega
          obtain ⟨g, rfl, c⟩ := HCE.out J hJn
          go_wp2
          go_round
          case rel => exact ⟨J + 1, by omega, by go_num, rfl, rfl⟩
          case measure => simp [intOf]; omega
        · obtain rfl : n = J := by omega
          clear hJn
          go_wp2
          go_ret2
          exact ⟨_, rfl, HF.out, hb⟩
end Go.Proofs.Ytplfhjahdepphaa.Ex
