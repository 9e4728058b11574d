/- Small lists of lengths, all of them; how many schedules are behind each first number; contract of explore.left. -/
import Derived.Test.YtplfhjahdepphaaExB
namespace Go.Proofs.Ytplfhjahdepphaa.Ex
open Go.ChangeShapes Go.WideShapes Go.ChangeAt Go.RowKit
set_option linter.unusedVariables false
set_option linter.unusedSimpArgs false
set_option maxRecDepth 100000

/-- At most four lengths, each at most three. -/
def Sm (l : List Nat) : Prop := l.length ≤ 4 ∧ ∀ x ∈ l, x ≤ 3
/-- A test on all of them that begin with some. -/
def goS (p : List Nat → Bool) : Nat → List Nat → Bool
  | 0, acc => p acc
  | n + 1, acc => p acc && (goS p n (acc ++ [0]) && (goS p n (acc ++ [1]) && (goS p n (acc ++ [2]) && goS p n (acc ++ [3]))))
theorem goS_spec (p : List Nat → Bool) : ∀ n acc, goS p n acc = true → ∀ l : List Nat, l.length ≤ n → (∀ x ∈ l, x ≤ 3) → p (acc ++ l) = true := by
  intro n
  induction n with
  | zero =>
    intro acc h l hl _
    obtain rfl : l = [] := List.eq_nil_of_length_eq_zero (by omega)
    unfold goS at h
    simpa using h
  | succ n ih =>
    intro acc h l hl hx
    unfold goS at h
    simp only [Bool.and_eq_true] at h
    obtain ⟨h0, h1, h2, h3, h4⟩ := h
    cases l with
    | nil => simpa using h0
    | cons x l =>
      have hx0 := hx x (List.mem_cons_self ..)
      have hr := fun z hz => hx z (List.mem_cons_of_mem x hz)
      have hll : l.length ≤ n := by simpa using hl
      have e : acc ++ x :: l = (acc ++ [x]) ++ l := by simp
      rw [e]
      match x, hx0 with
      | 0, _ => exact ih _ h1 l hll hr
      | 1, _ => exact ih _ h2 l hll hr
      | 2, _ => exact ih _ h3 l hll hr
      | 3, _ => exact ih _ h4 l hll hr
theorem sm_all (p : List Nat → Bool) (h : goS p 4 [] = true) (l : List Nat) (hs : Sm l) : p l = true := by
  simpa using goS_spec p 4 [] h l hs.1 hs.2

def cN (l : List Nat) : Nat := (cntF l 1 0).getD 0
/-- One number less. -/
def lset (l : List Nat) (i : Nat) : List Nat := l.set i (l.getD i 0 - 1)
def leftL (l : List Nat) : List Nat := (List.range l.length).map fun i => if l.getD i 0 = 0 then 0 else cN (lset l i)

theorem cnt_ok : goS (fun l => match cntF l 1 0 with | none => false | some n => decide (1 ≤ n) && decide (n ≤ 369600)) 4 [] = true := by decide +kernel
theorem sm_cnt {l : List Nat} (h : Sm l) : cntF l 1 0 = some (cN l) ∧ 1 ≤ cN l ∧ cN l ≤ 369600 := by
  have := sm_all _ cnt_ok l h
  unfold cN
  cases hc : cntF l 1 0 with
  | none => rw [hc] at this; simp at this
  | some n => rw [hc] at this; simp at this; exact ⟨rfl, this.1, this.2⟩
theorem sm_cntI {l : List Nat} (h : Sm l) : cnt l = (cN l : Int) := by unfold cnt; rw [(sm_cnt h).1]; rfl

theorem lset_length (l : List Nat) (i : Nat) : (lset l i).length = l.length := by unfold lset; rw [List.length_set]
theorem sm_lset {l : List Nat} (h : Sm l) (i : Nat) : Sm (lset l i) := by
  refine ⟨by rw [lset_length]; exact h.1, fun x hx => ?_⟩
  unfold lset at hx
  rcases List.mem_or_eq_of_mem_set hx with hx | rfl
  · exact h.2 x hx
  · by_cases hi : i < l.length
    · have : l.getD i 0 ≤ 3 := by
        rw [List.getD_eq_getElem?_getD, List.getElem?_eq_getElem hi]
        exact h.2 _ (List.getElem_mem _)
      omega
    · rw [List.getD_eq_getElem?_getD, List.getElem?_eq_none (by omega)]; simp
theorem leftL_length (l : List Nat) : (leftL l).length = l.length := by unfold leftL; simp
theorem leftL_get (l : List Nat) (i : Nat) (hi : i < l.length) : (leftL l).getD i 0 = if l.getD i 0 = 0 then 0 else cN (lset l i) := by
  unfold leftL
  rw [List.getD_eq_getElem?_getD, List.getElem?_map, List.getElem?_range hi]; rfl
theorem leftL_take (l : List Nat) (k : Nat) (hk : k < l.length) : (leftL l).take (k + 1) = (leftL l).take k ++ [if l.getD k 0 = 0 then 0 else cN (lset l k)] := by
  have h2 : k < (leftL l).length := by rw [leftL_length]; exact hk
  rw [List.take_succ_eq_append_getElem h2, ← leftL_get l k hk]
  simp [List.getD_eq_getElem?_getD, List.getElem?_eq_getElem h2]
theorem leftL_le {l : List Nat} (h : Sm l) : ∀ x ∈ leftL l, x ≤ 369600 := by
  intro x hx
  unfold leftL at hx
  rw [List.mem_map] at hx
  obtain ⟨i, _, rfl⟩ := hx
  split
  · omega
  · exact (sm_cnt (sm_lset h i)).2.2

/-- What the loop of left keeps. -/
def LRel (w : World) (l : List Nat) (k : Nat) (v i : Value) (wr : World) : Prop :=
  k ≤ l.length ∧ i = .int .i64 k ∧ wr.ownsRow w.heap.size 3 1 v k (nats ((leftL l).take k)) ∧ Below w.heap.size w wr
/-- What left answers. -/
def LeftP (w : World) (l : List Nat) (z : Ending) (w' : World) : Prop :=
  ∃ v', z = .returned v' ∧ Ow.Row w' w.heap.size 1 v' (nats (leftL l)) ∧ Below w.heap.size w w'

set_option maxHeartbeats 2000000 in
theorem left_any (v : Value) (l : List Nat) (hs : Sm l) (b : Nat) (w : World) (hr : Ow.Row w b 1 v (nats l)) :
    Calls Try.prog 62 #[v] w (LeftP w l) := by
  have HR := Lib.hid hr
  obtain ⟨a, n, cap, rfl, hn, hc, hm, ha⟩ := hr
  rw [nats_length, Nat.mul_one] at hn
  subst hn
  obtain ⟨n, hlen⟩ : ∃ n, l.length = n := ⟨_, rfl⟩
  have HN := Lib.hid hlen
  have HS := Lib.hid hs
  have hn4 : n ≤ 4 := by rw [← hlen]; exact hs.1
  rw [hlen] at hc ha HR ⊢
  clear hm hlen hs
  go_enter Try.func62, Try.ntmps62
  go_wp2
  go_loopw [3, 9] (fun v i wr => ∃ k, LRel w l k v i wr) (fun _ i _ => n - (intOf i).toNat)
  case atStart => exact ⟨0, by omega, rfl, World.ownsRow_nil _ _ _ _, Below.refl _ _⟩
  case round =>
    obtain ⟨k, hkl, rfl, hown, hbel⟩ := hrel
    have hkn : k ≤ n := by rw [HN.out] at hkl; exact hkl
    obtain ⟨a2, cap2, rfl, hn2, hm2, hrow⟩ := Ow.own_form hown
    by_cases hlt : k < n
    · rcases ha with ha | ⟨g, off, rfl, _, hg, hcell⟩
      · omega
      have i1 : (0 : Int) ≤ (k : Int) := by omega
      have i2 : (k : Int) < (n : Int) := by omega
      have c := hcell k (by omega)
      rw [nats_get l k (by rw [HN.out]; exact hlt)] at c
      replace c := (hbel.cell (p := ⟨g, off + k, none⟩) hg).trans c
      have ht := leftL_take l k (by rw [HN.out]; exact hlt)
      have hlk : Hid (k + 1 ≤ l.length) := by show _ ≤ _; rw [HN.out]; exact hlt
      have hsz := hbel.size
      have hlen1 : (nats ((leftL l).take k)).length = k := by rw [nats_length, List.length_take, leftL_length, HN.out]; omega
      by_cases hx0 : l.getD k 0 = 0
      · rw [if_pos hx0] at ht
        rw [hx0] at c
        have HT := Lib.hid ht
        have c' : wr.cell? ⟨g, off + k, none⟩ = some (.int .i64 0) := c
        clear ht c hcell hrow hx0
        go_wp2_with (at_builtin; refine append_IR _ rfl (.tmp 16) (.tmp 17) rfl w.heap.size (.slice a2 k cap2) k _ rfl (hown.alloc _) _ _ (nats [0]) rfl (row_lit wr #[.int .i64 0] _ 1 rfl (by omega)) (oneCell_nats _) ?hn ?hb ?_)
        case hn => rw [nats_length]; simp; omega
        case hb => simp; omega
        intro v' w2 hown2 hg2
        have hbel2 : Below w.heap.size w w2 := Ow.grown_below (hown.alloc _) (hbel.alloc hsz _) (by simp; omega) hg2
        rw [← nats_append, ← HT.out] at hown2
        clear hg2 hown hbel
        go_wp2_with fail
        exact ⟨⟨k + 1, hlk.out, by go_num, hown2, hbel2⟩, by simp [intOf]; omega⟩
      · rw [if_neg hx0] at ht
        have HT := Lib.hid ht
        have hx3 : l.getD k 0 ≤ 3 := by
          rw [List.getD_eq_getElem?_getD, List.getElem?_eq_getElem (by rw [HN.out]; exact hlt)]
          exact HS.out.2 _ (List.getElem_mem _)
        have HX : Hid ((nats l)[k]? = some (.int .i64 ((l.getD k 0 : Nat) : Int))) := nats_get l k (by rw [HN.out]; exact hlt)
        have HSET : Hid (∀ x, l.getD k 0 = x → (nats l).set k (.int .i64 ((x : Int) - 1)) = nats (lset l k)) := by
          intro x hx
          unfold lset nats
          rw [List.map_set]
          congr 1
          rw [hx]
          have : ((x - 1 : Nat) : Int) = (x : Int) - 1 := by omega
          rw [this]
        have HCN := Lib.hid (sm_cntI (sm_lset HS.out k))
        have HSL := Lib.hid (sm_lset HS.out k)
        obtain ⟨x, hx⟩ : ∃ x, l.getD k 0 = x := ⟨_, rfl⟩
        have HGX := Lib.hid hx
        rw [hx] at c hx3 HX hx0
        have x1 : ((x : Int) == 0) = false := by simp; omega
        have x2 : (1 : Int) ≤ (x : Int) := by omega
        have x3 : (x : Int) ≤ 3 := by omega
        have HRW := Lib.hid (HR.out.below hbel)
        clear ht hcell hrow hx hx0
        go_wp2_with fail
        refine (clone_any _ (nats l) (oneCell_nats l) (by rw [nats_length, HN.out]; omega) _ _ HRW.out).mono ?_
        rintro z w1 ⟨v1, rfl, hown1, hq⟩
        rw [nats_length, HN.out] at hown1
        obtain ⟨g1, cap1, rfl, hg1, hg1'⟩ := hown1.form (by omega)
        have xc : w1.cell? ⟨g1, k, none⟩ = some (.int .i64 (x : Int)) := (hown1.cellAt k (by omega)).trans HX.out
        have xf := hown1.frozenAt k
        have hst := (hown1.stored k (.int .i64 ((x : Int) - 1))).1
        rw [HSET.out x HGX.out] at hst
        have hrow2 := Plan.row_weak (Plan.own_row hst) (Nat.zero_le _)
        have hb2 : Below wr.heap.size wr (w1.setCell ⟨g1, k, none⟩ (.int .i64 ((x : Int) - 1))) := hq.setCell (by show wr.heap.size ≤ g1; exact hg1) _
        have hown2 := Ow.own_below hown hb2
        have hbel2 := Ow.below_base hbel hb2
        clear hst hq hown hbel HRW hg1
        go_wp2_with fail
        clear hown1 xc xf
        generalize w1.setCell ⟨g1, k, none⟩ (.int .i64 ((x : Int) - 1)) = w5 at *
        refine (count_any _ (lset l k) (by rw [lset_length, HN.out]; omega) (fun z hz => by have := HSL.out.2 z hz; omega) _ hrow2).mono ?_
        rintro z w6 ⟨rfl, rfl⟩
        rw [HCN.out]
        have hsz2 := hbel2.size
        go_wp2_with (at_builtin; refine append_IR _ rfl (.tmp 27) (.tmp 30) rfl w.heap.size (.slice a2 k cap2) k _ rfl (hown2.alloc _) _ _ (nats [cN (lset l k)]) rfl (row_lit w5 #[.int .i64 ((cN (lset l k) : Nat) : Int)] _ 1 rfl (by omega)) (oneCell_nats _) ?hn ?hb ?_)
        case hn => rw [nats_length]; simp; omega
        case hb => simp; omega
        intro v' w2 hown3 hg2
        have hbel3 : Below w.heap.size w w2 := Ow.grown_below (hown2.alloc _) (hbel2.alloc hsz2 _) (by simp; omega) hg2
        rw [← nats_append, ← HT.out] at hown3
        clear hg2 hown2 hbel2 hrow2 hb2
        go_wp2_with fail
        exact ⟨⟨k + 1, hlk.out, by go_num, hown3, hbel3⟩, by simp [intOf]; omega⟩
    · obtain rfl : k = n := by omega
      rw [List.take_of_length_le (by rw [leftL_length, HN.out]; exact Nat.le_refl _)] at hown
      have HF := Lib.hid (Plan.own_row hown)
      clear hown hrow hlt
      go_wp2
      go_ret
      exact ⟨_, rfl, HF.out, hbel⟩
end Go.Proofs.Ytplfhjahdepphaa.Ex
