/- Contracts of explore.total, explore.left, and of Clone and Clip of integers. -/
import Derived.Test.YtplfhjahdepphaaExA
import Derived.Deep.AppendLies
namespace Go.Proofs.Ytplfhjahdepphaa.Ex
open Go.ChangeShapes Go.WideShapes Go.ChangeAt Go.RowKit
set_option linter.unusedVariables false
set_option linter.unusedSimpArgs false
set_option maxRecDepth 100000

theorem run_eqIn_nil (w : World) (d : Nat) (t e : TypeId) (a : Option Addr) (l c : Nat) (h : Try.prog.underlying t = some (.slice e)) : (Op.equalIn (d + 1) t (.slice a l c) (.slice none 0 0)).run Try.prog w = .ok a.isNone w := by
  cases a <;> simp [Op.equalIn, run_underlying h]
theorem run_equal_nil (w : World) (t e : TypeId) (a : Option Addr) (l c : Nat) (h : Try.prog.underlying t = some (.slice e)) : (Op.equal t (.slice a l c) (.slice none 0 0)).run Try.prog w = .ok a.isNone w := run_eqIn_nil w _ t e a l c h
theorem run_eql_nil (w : World) (t e : TypeId) (a : Option Addr) (l c : Nat) (h : Try.prog.underlying t = some (.slice e)) : (binOp .eql t (.slice a l c) (.slice none 0 0)).run Try.prog w = .ok (.bool a.isNone) w := by
  simp [binOp, run_equal_nil w t e a l c h]

theorem infoI : (Try.prog.info? 3).map (fun i => (i.zero, i.size, i.bytes)) = some (some (.int .i64 0), 1, 8) := by kernel_rfl

/-- Integers that lie somewhere are put behind a row of integers. -/
theorem append_IR {ops : Array Oper} {rest : List Oper} {o : Oper} {a : Act} {Q : Exit → Act → World → Prop} (w : World) (hgd : o.guard = none) (s x : Operand)
    (ho : o.op = .call { callee := .builtin .append, args := #[s, x], argTypes := #[65, 65] })
    (base : Nat) (v : Value) (n : Nat) (xs : List Value) (hs : a.eval s = v) (hown : w.ownsRow base 3 1 v n xs)
    (bx : Nat) (xv : Value) (news : List Value) (hx : a.eval x = xv) (hr : Ow.Row w bx 1 xv news) (h1 : ∀ u ∈ news, u.oneCell' = true)
    (hn : n + news.length < 1000000) (hbase : base ≤ w.heap.size)
    (h : ∀ v' w', w'.ownsRow base 3 1 v' (n + news.length) (xs ++ news) → w.grownBy w' v.ownBlock → wpList Try.prog ops Q rest (a.put o.dst v') w') : wpList Try.prog ops Q (o :: rest) a w := by
  obtain ⟨i0, hi, hz0, hz1, hz2⟩ := info_parts infoI
  exact Ow.wpList_append_row w hgd s x _ ho base _ i0 _ 1 8 Try.underlying65 hi hz0 hz1 hz2 rfl (by decide) v n xs hs hown bx xv news hx hr news.length (by omega) h1 (by unfold maxLen; omega) (by omega) hbase h

/-- A row that was just laid. -/
theorem row_lit (w : World) (cs : Array Value) (T : TypeId) (n : Nat) (hn : cs.size = n) (hm : n ≤ 1000000) : Ow.Row (w.alloc (.cells cs T)) 0 1 (.slice (some ⟨w.heap.size, 0, none⟩) n n) cs.toList :=
  Plan.row_weak (Plan.own_row (World.ownsRow_lit (e := T) (size := 1) (base := w.heap.size) w cs n (Nat.le_refl _) (by unfold maxLen; omega) (by omega))) (Nat.zero_le _)

theorem clip_any (a : Option Addr) (n cap : Nat) (h : n ≤ cap) (hm : cap ≤ 9223372036854775807) (w : World) :
    Calls Try.prog 63 #[.slice a n cap] w fun e w' => e = .returned (.slice a n n) ∧ w = w' := by
  have h1 : (n : Int) ≤ (cap : Int) := by omega
  go_enter Try.func63, Try.ntmps63
  go_wp2
  go_ret
  exact ⟨rfl, rfl⟩

/-- What Clone answers. -/
def CloneP (w : World) (xs : List Value) (z : Ending) (w' : World) : Prop :=
  ∃ v', z = .returned v' ∧ w'.ownsRow w.heap.size 3 1 v' xs.length xs ∧ Below w.heap.size w w'

theorem clone_any (v : Value) (xs : List Value) (h1 : ∀ u ∈ xs, u.oneCell' = true) (hl : xs.length < 1000000) (b : Nat) (w : World) (hr : Ow.Row w b 1 v xs) :
    Calls Try.prog 60 #[v] w (CloneP w xs) := by
  have HR := Lib.hid hr
  have H1 := Lib.hid h1
  obtain ⟨a, n, cap, rfl, hn, hc, hm, ha⟩ := hr
  rw [Nat.mul_one] at hn
  cases a with
  | none =>
    have hx : xs = [] := by
      rcases ha with ha | ⟨g, off, ha, _⟩
      · exact List.eq_nil_of_length_eq_zero (by omega)
      · cases ha
    subst hx
    have he := fun W => run_eql_nil W 65 3 none n cap Try.underlying65
    simp only [Option.isNone_none] at he
    clear ha hm
    go_enter Try.func60, Try.ntmps60
    go_wp2
    go_ret
    exact ⟨_, rfl, World.ownsRow_nil _ _ _ _, Below.refl _ _⟩
  | some ad =>
    have HL := Lib.hid hl
    have he := fun W => run_eql_nil W 65 3 (some ad) n cap Try.underlying65
    simp only [Option.isNone_some] at he
    clear ha hm h1 hl
    go_enter Try.func60, Try.ntmps60
    go_wp2_with (at_builtin; refine append_IR _ rfl (.tmp 5) (.tmp 6) rfl w.heap.size (.slice (some ⟨w.heap.size, 0, none⟩) 0 0) 0 [] rfl (World.ownsRow_lit w #[] 0 (Nat.le_refl _) (Nat.zero_le _) rfl) _ _ xs rfl (HR.out.below (Plan.below_allocs1 w _)) H1.out (by have := HL.out; omega) (by simp) ?_)
    intro v' w' hown hg
    have hb : Below w.heap.size w w' := ((Below.refl _ _).alloc (Nat.le_refl _) _).grown hg (by simp) (by intro k hk; simp [Value.ownBlock] at hk; subst hk; exact Nat.le_refl _)
    have HO := Lib.hid hown
    clear hg hown
    go_wp2
    go_ret
    exact ⟨v', rfl, by have h := HO.out; first | exact h | (rw [hn]; exact h) | simpa using h, hb⟩

def sum (l : List Nat) : Nat := l.foldl (· + ·) 0
theorem sum_take (l : List Nat) (k : Nat) (hk : k < l.length) : sum (l.take (k + 1)) = sum (l.take k) + l.getD k 0 := by
  unfold sum
  rw [List.take_succ_eq_append_getElem hk, List.foldl_append]
  simp [List.getD_eq_getElem?_getD, List.getElem?_eq_getElem hk]
theorem sum_le (l : List Nat) (c : Nat) (h : ∀ x ∈ l, x ≤ c) : ∀ k, sum (l.take k) ≤ c * k := by
  intro k
  induction k with
  | zero => simp [sum]
  | succ k ih =>
    by_cases hk : k < l.length
    · rw [sum_take l k hk]
      have : l.getD k 0 ≤ c := by
        rw [List.getD_eq_getElem?_getD, List.getElem?_eq_getElem hk]
        exact h _ (List.getElem_mem _)
      rw [Nat.mul_succ]; omega
    · rw [List.take_of_length_le (by omega)] at ih ⊢
      rw [Nat.mul_succ]; omega

set_option maxHeartbeats 1000000 in
theorem total_any (v : Value) (l : List Nat) (hl : l.length ≤ 1000) (hk : ∀ k ∈ l, k ≤ 1000000) (b : Nat) (w : World) (hr : Ow.Row w b 1 v (nats l)) :
    Calls Try.prog 61 #[v] w fun e w' => e = .returned (.int .i64 (sum l : Nat)) ∧ w = w' := by
  obtain ⟨a, n, cap, rfl, hn, hc, hm, ha⟩ := hr
  rw [nats_length, Nat.mul_one] at hn
  subst hn
  obtain ⟨n, hlen⟩ : ∃ n, l.length = n := ⟨_, rfl⟩
  have HN := Lib.hid hlen
  rw [hlen] at hl hc ha ⊢
  have HK := Lib.hid (sum_le l 1000000 hk)
  clear hm hlen hk
  go_enter Try.func61, Try.ntmps61
  go_wp2
  go_loop [3, 8] (fun s i => ∃ k : Nat, k ≤ n ∧ i = .int .i64 k ∧ s = .int .i64 (sum (l.take k) : Nat)) (fun _ i => n - (intOf i).toNat)
  case atStart => exact ⟨0, by omega, rfl, rfl⟩
  case round =>
    obtain ⟨k, hkn, rfl, rfl⟩ := hrel
    by_cases hlt : k < n
    · rcases ha with ha | ⟨g, off, rfl, _, hg, hcell⟩
      · omega
      have i1 : (0 : Int) ≤ (k : Int) := by omega
      have i2 : (k : Int) < (n : Int) := by omega
      have c := hcell k (by omega)
      rw [nats_get l k (by rw [HN.out]; exact hlt)] at c
      have hs := sum_take l k (by rw [HN.out]; exact hlt)
      have hb := HK.out (k + 1)
      rw [hs] at hb
      generalize l.getD k 0 = x at *
      have HS := Lib.hid hs
      have hb2 : (sum (l.take k) : Int) + (x : Int) ≤ 1000001000000 := by
        have : 1000000 * (k + 1) ≤ 1000000 * 1001 := Nat.mul_le_mul_left _ (by omega)
        omega
      generalize sum (l.take k) = s at *
      clear hs hb hcell
      go_wp2
      go_round
      case rel => exact ⟨k + 1, by omega, by go_num, by rw [HS.out]; go_num⟩
      case measure => simp [intOf]; omega
    · obtain rfl : k = n := by omega
      have HE : Hid (sum (l.take k) = sum l) := by show _ = _; rw [List.take_of_length_le (by rw [HN.out]; exact Nat.le_refl _)]
      rw [HE.out]
      clear hlt
      go_wp2
      go_ret
      exact ⟨rfl, rfl⟩
end Go.Proofs.Ytplfhjahdepphaa.Ex
