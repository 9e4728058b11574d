/- Contracts of Decode, of package plan and of the document's answer. -/
import Derived.Test.YtplfhjahdepphaaPlanD
import Derived.Test.YtplfhjahdepphaaPlanS
import Derived.LoopTactic
import Derived.Test.YtplfhjahdepphaaOwn
namespace Go.Proofs.Ytplfhjahdepphaa.Plan
open Go.ChangeShapes Go.WideShapes Go.ChangeAt Go.RowKit
set_option linter.unusedVariables false
set_option linter.unusedSimpArgs false
set_option maxRecDepth 100000
set_option maxHeartbeats 1000000

theorem infoE : (Try.prog.info? 47).map (fun i => (i.zero, i.size, i.bytes)) = some (some (.agg #[.int .i64 0, .int .i64 0, .int .i64 0, .int .i64 0, .int .i64 0, .int .i64 0, .int .i64 0]), 7, 56) := by kernel_rfl

/-- An entry is put behind a row of entries. -/
theorem append_E {ops : Array Oper} {rest : List Oper} {o : Oper} {a : Act} {Q : Exit → Act → World → Prop} (w : World) (hgd : o.guard = none) (s x : Operand)
    (ho : o.op = .call { callee := .builtin .append, args := #[s, x], argTypes := #[53, 53] })
    (base : Nat) (v : Value) (n : Nat) (xs : List Value) (hs : a.eval s = v) (hown : w.ownsRow base 47 7 v n xs)
    (ad : Addr) (c : Nat) (news : List Value) (hx : a.eval x = .slice (some ad) 1 c) (hl : news.length = 7) (hnews : ∀ j u, news[j]? = some u → w.cell? (ad.add j) = some u) (h1 : ∀ u ∈ news, u.oneCell' = true)
    (hn : n < 1000000) (hbase : base ≤ w.heap.size)
    (h : ∀ v' w', w'.ownsRow base 47 7 v' (n + 1) (xs ++ news) → w.grownBy w' v.ownBlock → wpList Try.prog ops Q rest (a.put o.dst v') w') : wpList Try.prog ops Q (o :: rest) a w := by
  obtain ⟨i0, hi, hz0, hz1, hz2⟩ := info_parts infoE
  exact wpList_append_own w hgd s x _ ho base _ i0 _ 7 56 Try.underlying53 hi hz0 hz1 hz2 rfl (by decide) v n xs hs hown ad 1 c news hx (by rw [hl]) hnews h1 (by unfold maxLen; omega) (by omega) hbase (fun v' w' h2 h3 _ => h v' w' h2 h3)

theorem oneCell_E (e : En) : ∀ u ∈ cellsE e, u.oneCell' = true := by
  intro u hu; simp [cellsE] at hu; rcases hu with rfl | rfl | rfl | rfl | rfl | rfl | rfl <;> rfl

theorem clip_any (a : Option Addr) (n cap : Nat) (h : n ≤ cap) (hm : cap ≤ 9223372036854775807) (w : World) :
    Calls Try.prog 57 #[.slice a n cap] w fun e w' => e = .returned (.slice a n n) ∧ w = w' := by
  have h1 : (n : Int) ≤ (cap : Int) := by omega
  go_enter Try.func57, Try.ntmps57
  go_wp2
  go_ret
  exact ⟨rfl, rfl⟩

/-- Bytes that lie in memory. -/
def Bytes (w : World) (a : Option Addr) (len cap : Nat) (bs : List Int) : Prop :=
  bs.length = len ∧ len ≤ cap ∧ cap ≤ 9223372036854775807 ∧ (len = 0 ∨ ∃ B off, a = some ⟨B, off, none⟩ ∧ B < w.heap.size ∧ ∀ i, i < len → w.cell? ⟨B, off + i, none⟩ = some (.int .u8 (bs.getD i 0)) ∧ 0 ≤ bs.getD i 0 ∧ bs.getD i 0 < 256)
theorem Bytes.below {w w1 : World} {a : Option Addr} {len cap : Nat} {bs : List Int} (h : Bytes w a len cap bs) (hb : Below w.heap.size w w1) : Bytes w1 a len cap bs := by
  obtain ⟨h1, h2, h3, h4⟩ := h
  refine ⟨h1, h2, h3, ?_⟩
  rcases h4 with h4 | ⟨B, off, e1, e2, e3⟩
  · exact .inl h4
  · exact .inr ⟨B, off, e1, Nat.lt_of_lt_of_le e2 hb.size, fun i hi => ⟨by rw [hb.cell (p := ⟨B, off + i, none⟩) e2]; exact (e3 i hi).1, (e3 i hi).2⟩⟩
theorem Bytes.next {w : World} {B off r c m : Nat} {bs : List Int} (h : Bytes w (some ⟨B, off, none⟩) r c bs) (hm : m ≤ r) : Bytes w (if c = m then some ⟨B, off, none⟩ else some ⟨B, off + m, none⟩) (r - m) (c - m) (bs.drop m) := by
  obtain ⟨h1, h2, h3, h4⟩ := h
  refine ⟨by rw [List.length_drop, h1], by omega, by omega, ?_⟩
  by_cases h0 : r - m = 0
  · exact .inl h0
  · rcases h4 with h4 | ⟨B', off', e1, e2, e3⟩
    · omega
    · simp only [Option.some.injEq, Addr.mk.injEq] at e1
      obtain ⟨rfl, rfl, _⟩ := e1
      rw [if_neg (by omega)]
      refine .inr ⟨B, off + m, rfl, e2, fun i hi => ?_⟩
      rw [getD_drop, Nat.add_assoc]
      exact e3 (m + i) (by omega)
/-- What the loop of Decode keeps. -/
def DecRel (w : World) (a : Option Addr) (len cap : Nat) (bs : List Int) (k : Nat) (b v : Value) (wr : World) : Prop :=
  ∃ acc r c' a', Told bs k acc ∧ b = .slice a' r c' ∧ wr.ownsRow w.heap.size 47 7 v k (flatE acc) ∧ Below w.heap.size w wr ∧ r = len - 5 * k ∧ Bytes w a' r c' (bs.drop (5 * k))

set_option maxHeartbeats 2000000 in
theorem decode_any (a : Option Addr) (len cap : Nat) (bs : List Int) (w : World) (hbs : Bytes w a len cap bs) :
    Calls Try.prog 42 #[.slice a len cap] w fun e w' => ∃ v, e = .returned v ∧ Ow.Row w' w.heap.size 7 v (flatE (dec 2000 bs)) ∧ Below w.heap.size w w' := by
  have hlen := hbs.1
  go_enter Try.func42, Try.ntmps42
  go_wp2
  go_loopw [0, 3] (fun b v wr => ∃ k, DecRel w a len cap bs k b v wr) (fun b _ _ => match b with | .slice _ n _ => n | _ => 0)
  case atStart => exact ⟨0, [], len, cap, a, Told.start bs, rfl, World.ownsRow_nil _ _ _ _, Below.refl _ _, by omega, by simpa using hbs⟩
  case round =>
    obtain ⟨k, acc, r, c', a', ht, rfl, hown, hbel, hr, hB⟩ := hrel
    obtain ⟨a2, cap2, rfl, hn2, hm2, hrow⟩ := Ow.own_form hown
    by_cases hstop : r = 0 ∨ k = 2000
    · have hfull := ht.full (by omega)
      rw [hfull] at hrow
      have hfin : Ow.Row wr w.heap.size 7 (.slice a2 k k) (flatE (dec 2000 bs)) ∧ Below w.heap.size w wr := ⟨hrow, hbel⟩
      have HF := Lib.hid hfin
      have HB := Lib.hid hbs
      clear ht hown hB hfull hrow hfin hr hbel hlen hbs
      rcases hstop with rfl | rfl
      · go_wp2_with (go_at_call 57; refine (clip_any _ _ _ hn2 hm2 _).mono ?_; rintro e w' ⟨rfl, rfl⟩)
        go_ret
        exact ⟨_, rfl, HF.out⟩
      · by_cases hr0 : 0 < r
        · have hr1 : (0 : Int) < (r : Int) := by omega
          go_wp2_with (go_at_call 57; refine (clip_any _ _ _ hn2 hm2 _).mono ?_; rintro e w' ⟨rfl, rfl⟩)
          go_ret
          exact ⟨_, rfl, HF.out⟩
        · obtain rfl : r = 0 := by omega
          go_wp2_with (go_at_call 57; refine (clip_any _ _ _ hn2 hm2 _).mono ?_; rintro e w' ⟨rfl, rfl⟩)
          go_ret
          exact ⟨_, rfl, HF.out⟩
    · have hr0 : 0 < r := by omega
      have hk0 : k < 2000 := by have := ht.2.1; omega
      have hr1 : (0 : Int) < (r : Int) := by omega
      have hk1 : (k : Int) < 2000 := by omega
      have hBr := hB.below hbel
      obtain ⟨hb1, hb2, hb3, hb4⟩ := hBr
      rcases hb4 with hb4 | ⟨B, off, rfl, hBl, hcell⟩
      · omega
      have HR := Lib.hid hr
      have HT := Lib.hid (ht.step hk0 (by omega))
      by_cases h5 : 5 ≤ r
      · have c0 := hcell 0 (by omega)
        have c1 := hcell 1 (by omega)
        have c2 := hcell 2 (by omega)
        have c3 := hcell 3 (by omega)
        have c4 := hcell 4 (by omega)
        rw [Nat.add_zero] at c0
        have HO := one_any B off r c' h5 hb2 hb3 _ _ _ _ _ c0.2.1 c0.2.2 c1.2.1 c1.2.2 c2.2.1 c2.2.2 c3.2.1 c3.2.2 c4.2.1 c4.2.2 wr c0.1 c1.1 c2.1 c3.1 c4.1
        have hh : hdE (bs.drop (5 * k)) = enE ((bs.drop (5 * k)).getD 0 0) ((bs.drop (5 * k)).getD 1 0) ((bs.drop (5 * k)).getD 2 0) ((bs.drop (5 * k)).getD 3 0) ((bs.drop (5 * k)).getD 4 0) := by
          unfold hdE; rw [if_neg (by omega)]
        rw [← hh] at HO
        generalize hdE (bs.drop (5 * k)) = E at *
        have HI := Lib.hid HO
        have HB := Lib.hid hB
        have HD : Hid (Bytes w (some ⟨B, off, none⟩) r c' (bs.drop (5 * k))) := hB
        clear HO hh c0 c1 c2 c3 c4 hcell ht hB hr hb1 hrow hstop
        obtain ⟨ek, es, elv, eok, eoy, eoh, eov⟩ := E
        go_wp2_with fail
        refine HI.out.mono ?_
        rintro e w1 ⟨rfl, hq⟩
        have hbel1 := Ow.below_base hbel hq
        have hown1 := Ow.own_below hown hq
        clear hown hbel hq
        go_wp2_with (at_builtin; refine append_E _ rfl (.tmp 22) (.tmp 24) rfl w.heap.size (.slice a2 k cap2) k (flatE acc) rfl ((hown1.alloc _).alloc _) ⟨w1.heap.size + 1, 0, none⟩ 1 (cellsE ⟨ek, es, elv, eok, eoy, eoh, eov⟩) rfl rfl ?c1 (oneCell_E _) (by omega) ?c5 ?_)
        case c1 => exact Ow.new_row (w1.alloc _) (cellsE ⟨ek, es, elv, eok, eoy, eoh, eov⟩) _ (w1.heap.size + 1) (by simp)
        case c5 => have := hbel1.size; simp; omega
        intro v' w2 hown2 hg2
        have hbel2 : Below w.heap.size w w2 := Ow.grown_below ((hown1.alloc _).alloc _) ((hbel1.alloc hbel1.size _).alloc (by have := hbel1.size; simp; omega) _) (by have := hbel1.size; simp; omega) hg2
        rw [← flatE_snoc] at hown2
        clear hg2 hown1 hbel1
        have h5i : (5 : Int) ≤ (r : Int) := by omega
        have h5j : (5 : Int) ≤ (c' : Int) := by omega
        go_wp2_with fail
        have hnext := (HD.out).next h5
        rw [List.drop_drop, show 5 * k + 5 = 5 * (k + 1) from by omega] at hnext
        exact ⟨⟨k + 1, _, r - 5, c' - 5, _, HT.out, rfl, hown2, hbel2, by have := HR.out; omega, hnext⟩, by simp; omega⟩
      · have h5i : (r : Int) < 5 := by omega
        have hh : hdE (bs.drop (5 * k)) = badE := by unfold hdE; rw [if_pos (by omega)]
        rw [hh] at HT
        have HB : Hid (Bytes w (some ⟨B, off, none⟩) r c' (bs.drop (5 * k))) := hB
        have HS := Lib.hid (fun w => one_short (some ⟨B, off, none⟩) r c' (by omega) w)
        have hrc : (r : Int) ≤ (c' : Int) := by omega
        clear hh hcell ht hB hr hb1 hrow hstop h5
        go_wp2_with (first | (go_at_call 38; refine (HS.out _).mono ?_; rintro e w' ⟨rfl, rfl⟩) | (go_at_call 56; refine (bad_any _).mono ?_; rintro e w' ⟨rfl, rfl⟩) | (at_builtin; refine append_E _ rfl (.tmp 22) (.tmp 24) rfl w.heap.size (.slice a2 k cap2) k (flatE acc) rfl ?own _ 1 (cellsE badE) rfl rfl ?c1 (oneCell_E _) (by omega) ?c5 ?_))
        case own => exact Ow.own_below hown (by (repeat (first | (with_reducible exact Below.refl _ _) | ((with_reducible refine Below.setCell ?_ ?_ _); rotate_left; focus (first | (simp; done) | (simp; omega))) | (with_reducible refine below_drewN ?_ _) | (with_reducible refine Below.drew ?_) | ((with_reducible refine Below.alloc ?_ ?_ _); rotate_left; focus (first | (simp; done) | (simp; omega))))))
        case c5 => have := hbel.size; simp; omega
        case c1 => exact Ow.new_row _ (cellsE badE) _ _ (by simp)
        intro v' w2 hown2 hg2
        have hbel2 : Below w.heap.size w w2 := Ow.grown_below (Ow.own_below hown (by (repeat (first | (with_reducible exact Below.refl _ _) | ((with_reducible refine Below.setCell ?_ ?_ _); rotate_left; focus (first | (simp; done) | (simp; omega))) | (with_reducible refine below_drewN ?_ _) | (with_reducible refine Below.drew ?_) | ((with_reducible refine Below.alloc ?_ ?_ _); rotate_left; focus (first | (simp; done) | (simp; omega))))))) (hbel.trans ((show Below wr.heap.size wr _ by (repeat (first | (with_reducible exact Below.refl _ _) | ((with_reducible refine Below.setCell ?_ ?_ _); rotate_left; focus (first | (simp; done) | (simp; omega))) | (with_reducible refine below_drewN ?_ _) | (with_reducible refine Below.drew ?_) | ((with_reducible refine Below.alloc ?_ ?_ _); rotate_left; focus (first | (simp; done) | (simp; omega)))))).mono hbel.size)) (by have := hbel.size; simp; omega) hg2
        rw [← flatE_snoc] at hown2
        clear hg2 hown hbel
        go_wp2_with fail
        have hlast : Bytes w (if c' = r then some ⟨B, off, none⟩ else some ⟨B, off + r, none⟩) 0 (c' - r) (bs.drop (5 * (k + 1))) :=
          ⟨by rw [List.length_drop]; have := HR.out; omega, by omega, by omega, .inl rfl⟩
        exact ⟨⟨k + 1, _, 0, c' - r, _, HT.out, rfl, hown2, hbel2, by have := HR.out; omega, hlast⟩, by simp; omega⟩
end Go.Proofs.Ytplfhjahdepphaa.Plan
