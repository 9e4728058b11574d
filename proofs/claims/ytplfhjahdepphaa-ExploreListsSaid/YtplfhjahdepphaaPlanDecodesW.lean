/- PlanDecodes: the walk: whatever bytes come in, the law answers true and writes nothing that was there. -/
import Derived.Test.YtplfhjahdepphaaPlanG
import Derived.Test.YtplfhjahdepphaaSl
namespace Go.Proofs.Ytplfhjahdepphaa.Plan
open Go.ChangeShapes Go.WideShapes Go.ChangeAt Go.RowKit
set_option linter.unusedVariables false
set_option linter.unusedSimpArgs false
set_option maxRecDepth 100000

/-- An entry's seven cells at the head of a block. -/
def At7 (w : World) (g : Nat) (e : En) : Prop := g < w.heap.size ∧ ∀ f, f < 7 → w.cell? ⟨g, f, none⟩ = (cellsE e)[f]?
theorem At7.below {w w1 : World} {g : Nat} {e : En} (h : At7 w g e) (hb : Below w.heap.size w w1) : At7 w1 g e :=
  ⟨Nat.lt_of_lt_of_le h.1 hb.size, fun f hf => by rw [hb.cell (p := ⟨g, f, none⟩) h.1]; exact h.2 f hf⟩
theorem At7.new (w : World) (e : En) (T : TypeId) (c : Array Value) (hc : c = (cellsE e).toArray) : At7 (w.alloc (.cells c T)) w.heap.size e := by
  subst hc
  refine ⟨by simp, fun f hf => ?_⟩
  rw [World.cell?_alloc_at _ _ _ _ rfl]
  simp
theorem At7.cells {w : World} {g : Nat} {ek es elv eok eoy eoh eov : Int} (h : At7 w g ⟨ek, es, elv, eok, eoy, eoh, eov⟩) :
    w.cell? ⟨g, 0, none⟩ = some (.int .i64 ek) ∧ w.cell? ⟨g, 1, none⟩ = some (.int .i64 es) ∧ w.cell? ⟨g, 2, none⟩ = some (.int .i64 elv) ∧ w.cell? ⟨g, 3, none⟩ = some (.int .i64 eok) ∧ w.cell? ⟨g, 4, none⟩ = some (.int .i64 eoy) ∧ w.cell? ⟨g, 5, none⟩ = some (.int .i64 eoh) ∧ w.cell? ⟨g, 6, none⟩ = some (.int .i64 eov) :=
  ⟨h.2 0 (by omega), h.2 1 (by omega), h.2 2 (by omega), h.2 3 (by omega), h.2 4 (by omega), h.2 5 (by omega), h.2 6 (by omega)⟩
/-- A call's four cells. -/
def At4 (w : World) (g : Nat) (a b c d : Int) : Prop := g < w.heap.size ∧ w.cell? ⟨g, 0, none⟩ = some (.int .i64 a) ∧ w.cell? ⟨g, 1, none⟩ = some (.int .i64 b) ∧ w.cell? ⟨g, 2, none⟩ = some (.int .i64 c) ∧ w.cell? ⟨g, 3, none⟩ = some (.int .i64 d)
theorem At4.below {w w1 : World} {g : Nat} {a b c d : Int} (h : At4 w g a b c d) (hb : Below w.heap.size w w1) : At4 w1 g a b c d :=
  ⟨Nat.lt_of_lt_of_le h.1 hb.size, by rw [hb.cell (p := ⟨g, 0, none⟩) h.1]; exact h.2.1, by rw [hb.cell (p := ⟨g, 1, none⟩) h.1]; exact h.2.2.1, by rw [hb.cell (p := ⟨g, 2, none⟩) h.1]; exact h.2.2.2.1, by rw [hb.cell (p := ⟨g, 3, none⟩) h.1]; exact h.2.2.2.2⟩
theorem At4.new (w : World) (T : TypeId) (a b c d : Int) : At4 (w.alloc (.cells #[.int .i64 a, .int .i64 b, .int .i64 c, .int .i64 d] T)) w.heap.size a b c d :=
  ⟨by simp, by go_simp, by go_simp, by go_simp, by go_simp⟩

set_option maxHeartbeats 2000000 in
/-- The law, once what One and Op tell is known. -/
theorem decodes_core (a : Option Addr) (len cap : Nat) (bs : List Int) (w : World) (hbs : Bytes w a len cap bs) (hlen : len ≤ 3000) (ek es elv eok eoy eoh eov p q r t : Int) (ok has : Bool)
    (H1 : Hid (∀ W, Bytes W a len cap bs → Calls Try.prog 38 #[.slice a len cap] W fun e w' => e = .returned (.tuple #[enV ⟨ek, es, elv, eok, eoy, eoh, eov⟩, .bool ok]) ∧ Below W.heap.size W w'))
    (H2 : Hid (∀ W, Bytes W a len cap bs → Calls Try.prog 39 #[.slice a len cap] W fun e w' => e = .returned (.tuple #[enV ⟨ek, es, elv, eok, eoy, eoh, eov⟩, .bool ok]) ∧ Below W.heap.size W w'))
    (H3 : Hid (∀ W, Calls Try.prog 40 #[enV ⟨ek, es, elv, eok, eoy, eoh, eov⟩] W fun e w' => e = .returned (.tuple #[.agg #[.int .i64 p, .int .i64 q, .int .i64 r, .int .i64 t], .bool has]) ∧ Below W.heap.size W w'))
    (h4 : (has = true ∧ (ek == 2) = true ∧ Hid (p = eok ∧ q = eoy ∧ r = eoh ∧ t = eov)) ∨ (has = false ∧ (ek == 2) = false ∧ Hid (p = 0 ∧ q = 0 ∧ r = 0 ∧ t = 0))) :
    Calls Try.prog 10 #[.slice a len cap] w fun e w' => e = .returned (.bool true) ∧ Below w.heap.size w w' := by
  have h0 : ((len : Nat) : Int) ≤ 3000 := by omega
  have HB := Lib.hid hbs
  clear hbs
  go_enter Try.func10, Try.ntmps10
  go_wp2_with fail
  refine (H1.out _ HB.out).mono ?_
  rintro e w1 ⟨rfl, hb⟩
  go_wp2_with fail
  have f1 := At7.new w1 ⟨ek, es, elv, eok, eoy, eoh, eov⟩ 47 _ rfl
  simp only [cellsE] at f1
  have hb1 : Below w.heap.size w (w1.alloc (.cells #[.int .i64 ek, .int .i64 es, .int .i64 elv, .int .i64 eok, .int .i64 eoy, .int .i64 eoh, .int .i64 eov] 47)) := hb.alloc hb.size _
  generalize w1.alloc (.cells #[.int .i64 ek, .int .i64 es, .int .i64 elv, .int .i64 eok, .int .i64 eoy, .int .i64 eoh, .int .i64 eov] 47) = A1 at *
  generalize w1.heap.size = g1 at *
  clear hb
  refine (H2.out _ (HB.out.below hb1)).mono ?_
  rintro e w2 ⟨rfl, hq⟩
  have f2 := f1.below hq
  have hb2 := hb1.trans (hq.mono hb1.size)
  clear f1 hb1 hq
  go_wp2_with fail
  have f3 := At7.new w2 ⟨ek, es, elv, eok, eoy, eoh, eov⟩ 47 _ rfl
  simp only [cellsE] at f3
  have f4 := f2.below (w1 := w2.alloc (.cells #[.int .i64 ek, .int .i64 es, .int .i64 elv, .int .i64 eok, .int .i64 eoy, .int .i64 eoh, .int .i64 eov] 47)) ((Below.refl _ _).alloc (Nat.le_refl _) _)
  have hb3 : Below w.heap.size w (w2.alloc (.cells #[.int .i64 ek, .int .i64 es, .int .i64 elv, .int .i64 eok, .int .i64 eoy, .int .i64 eoh, .int .i64 eov] 47)) := hb2.alloc hb2.size _
  generalize w2.alloc (.cells #[.int .i64 ek, .int .i64 es, .int .i64 elv, .int .i64 eok, .int .i64 eoy, .int .i64 eoh, .int .i64 eov] 47) = A2 at *
  generalize w2.heap.size = g2 at *
  clear f2 hb2
  refine (H3.out _).mono ?_
  rintro e w3 ⟨rfl, hq⟩
  have f5 := f3.below hq
  have f6 := f4.below hq
  have hb4 := hb3.trans (hq.mono hb3.size)
  clear f3 f4 hb3 hq
  obtain ⟨x0, x1, x2, x3, x4, x5, x6⟩ := f5.cells
  obtain ⟨y0, y1, y2, y3, y4, y5, y6⟩ := f6.cells
  have l1 := f6.1
  have l2 := f5.1
  go_wp2_with fail
  have f7 := At4.new w3 45 p q r t
  have f8 := f5.below (w1 := w3.alloc (.cells #[.int .i64 p, .int .i64 q, .int .i64 r, .int .i64 t] 45)) ((Below.refl _ _).alloc (Nat.le_refl _) _)
  have f9 := f6.below (w1 := w3.alloc (.cells #[.int .i64 p, .int .i64 q, .int .i64 r, .int .i64 t] 45)) ((Below.refl _ _).alloc (Nat.le_refl _) _)
  have hb5 : Below w.heap.size w (w3.alloc (.cells #[.int .i64 p, .int .i64 q, .int .i64 r, .int .i64 t] 45)) := hb4.alloc hb4.size _
  clear x0 x1 x2 x3 x4 x5 x6 y0 y1 y2 y3 y4 y5 y6 l1 l2 f5 f6 hb4
  generalize w3.alloc (.cells #[.int .i64 p, .int .i64 q, .int .i64 r, .int .i64 t] 45) = A3 at *
  generalize w3.heap.size = g3 at *
  refine (decode_any a len cap bs _ (HB.out.below hb5)).mono ?_
  rintro e w4 ⟨v4, rfl, hr4, hq⟩
  have f10 := f7.below hq
  have f11 := f8.below hq
  have f12 := f9.below hq
  have hb6 := hb5.trans (hq.mono hb5.size)
  clear f7 f8 f9 hb5 hq
  go_wp2_with fail
  refine (rdecode_any a len cap bs _ (HB.out.below hb6) (by omega)).mono ?_
  rintro e w5 ⟨v5, rfl, hr5, hq⟩
  have f13 := f10.below hq
  have f14 := f11.below hq
  have f15 := f12.below hq
  have hr6 := hr4.below hq
  have hb7 := hb6.trans (hq.mono hb6.size)
  clear f10 f11 f12 hb6 hq hr4
  go_wp2_with fail
  refine (same_yes v4 v5 _ _ _ _ hr6 hr5).mono ?_
  rintro e w6 ⟨rfl, hq⟩
  have f16 := f13.below hq
  have f17 := f14.below hq
  have hb8 := hb7.trans (hq.mono hb7.size)
  clear f13 f14 f15 hb7 hq hr5 hr6
  obtain ⟨x0, x1, x2, x3, x4, x5, x6⟩ := f17.cells
  obtain ⟨_, y0, y1, y2, y3⟩ := f16
  rcases h4 with ⟨rfl, hk, h4⟩ | ⟨rfl, hk, h4⟩
  all_goals
    have h4 := h4.out
    obtain ⟨rfl, rfl, rfl, rfl⟩ := h4
    go_wp2_with (go_at_call 37; refine (awake_any _).mono ?_; rintro e w7 ⟨rfl, hq⟩; replace hb8 := hb8.trans (hq.mono hb8.size))
    go_ret
    exact ⟨rfl, hb8⟩

theorem bytes_of {w : World} {a : Option Addr} {len cap : Nat} {zs : List Int} (h : Sl.IsRow .u8 w a len cap zs) : Bytes w a len cap (zs.take len) := by
  obtain ⟨h1, h2, h3, h4⟩ := h.plain
  refine ⟨h1, h2, h3, ?_⟩
  rcases h4 with h4 | ⟨B, off, e1, e2, e3⟩
  · exact .inl h4
  · exact .inr ⟨B, off, e1, e2, fun i hi => ⟨(e3 i hi).1, by have := bounds_u8 (e3 i hi).2; omega, by have := bounds_u8 (e3 i hi).2; omega⟩⟩

theorem decodes_law (a : Option Addr) (len cap : Nat) (zs : List Int) (w : World) (hr : Sl.IsRow .u8 w a len cap zs) :
    Calls Try.prog 10 #[.slice a len cap] w fun e w' => e = .returned (.bool true) ∧ Below w.heap.size w w' := by
  have hbs := bytes_of hr
  clear hr
  generalize zs.take len = bs at hbs
  by_cases hl : len ≤ 3000
  · by_cases h5 : len < 5
    · refine decodes_core a len cap bs w hbs hl 0 0 0 0 0 0 0 0 0 0 0 false false ?_ ?_ ?_ (.inr ⟨rfl, rfl, ⟨rfl, rfl, rfl, rfl⟩⟩)
      · exact fun W _ => (one_short a len cap h5 W).mono fun e w' ⟨h1, h2⟩ => ⟨h1, h2 ▸ below_allocs1 _ _⟩
      · exact fun W _ => (rone_short a len cap h5 W).mono fun e w' ⟨h1, h2⟩ => ⟨h1, h2 ▸ below_allocs1 _ _⟩
      · exact fun W => op_no 0 0 0 0 0 0 0 (by omega) W
    · have hcells : ∀ W, Bytes W a len cap bs → ∃ B off, a = some ⟨B, off, none⟩ ∧ (∀ i, i < 5 → W.cell? ⟨B, off + i, none⟩ = some (.int .u8 (bs.getD i 0)) ∧ 0 ≤ bs.getD i 0 ∧ bs.getD i 0 < 256) := by
        intro W hW
        rcases hW.2.2.2 with h0 | ⟨B, off, e1, _, e3⟩
        · omega
        · exact ⟨B, off, e1, fun i hi => e3 i (by omega)⟩
      have hlc := hbs.2.1
      have hcm := hbs.2.2.1
      have H1 : ∀ W, Bytes W a len cap bs → Calls Try.prog 38 #[.slice a len cap] W fun e w' => e = .returned (.tuple #[enV (enE (bs.getD 0 0) (bs.getD 1 0) (bs.getD 2 0) (bs.getD 3 0) (bs.getD 4 0)), .bool true]) ∧ Below W.heap.size W w' := by
        intro W hW
        obtain ⟨B, off, rfl, hc⟩ := hcells W hW
        have c0 := hc 0 (by omega)
        rw [Nat.add_zero] at c0
        have c1 := hc 1 (by omega)
        have c2 := hc 2 (by omega)
        have c3 := hc 3 (by omega)
        have c4 := hc 4 (by omega)
        exact one_any B off len cap (by omega) hlc hcm _ _ _ _ _ c0.2.1 c0.2.2 c1.2.1 c1.2.2 c2.2.1 c2.2.2 c3.2.1 c3.2.2 c4.2.1 c4.2.2 W c0.1 c1.1 c2.1 c3.1 c4.1
      have H2 : ∀ W, Bytes W a len cap bs → Calls Try.prog 39 #[.slice a len cap] W fun e w' => e = .returned (.tuple #[enV (enE (bs.getD 0 0) (bs.getD 1 0) (bs.getD 2 0) (bs.getD 3 0) (bs.getD 4 0)), .bool true]) ∧ Below W.heap.size W w' := by
        intro W hW
        obtain ⟨B, off, rfl, hc⟩ := hcells W hW
        have c0 := hc 0 (by omega)
        rw [Nat.add_zero] at c0
        have c1 := hc 1 (by omega)
        have c2 := hc 2 (by omega)
        have c3 := hc 3 (by omega)
        have c4 := hc 4 (by omega)
        exact rone_any B off len cap (by omega) (by omega) _ _ _ _ _ c0.2.1 c0.2.2 c1.2.1 c1.2.2 c2.2.1 c2.2.2 c3.2.1 c3.2.2 c4.2.1 c4.2.2 W c0.1 c1.1 c2.1 c3.1 c4.1
      generalize enE (bs.getD 0 0) (bs.getD 1 0) (bs.getD 2 0) (bs.getD 3 0) (bs.getD 4 0) = E at H1 H2
      obtain ⟨ek, es, elv, eok, eoy, eoh, eov⟩ := E
      by_cases hk : ek = 2
      · exact decodes_core a len cap bs w hbs hl ek es elv eok eoy eoh eov eok eoy eoh eov true true H1 H2 (fun W => op_yes ek es elv eok eoy eoh eov hk W) (.inl ⟨rfl, by rw [hk]; rfl, ⟨rfl, rfl, rfl, rfl⟩⟩)
      · exact decodes_core a len cap bs w hbs hl ek es elv eok eoy eoh eov 0 0 0 0 true false H1 H2 (fun W => op_no ek es elv eok eoy eoh eov hk W) (.inr ⟨rfl, beq_eq_false_iff_ne.2 hk, ⟨rfl, rfl, rfl, rfl⟩⟩)
  · have h0 : (3000 : Int) < (len : Int) := by omega
    have hb : Below w.heap.size w w := Below.refl _ _
    clear hbs
    go_enter Try.func10, Try.ntmps10
    go_wp2_with (go_at_call 37; refine (awake_any _).mono ?_; rintro e w7 ⟨rfl, hq⟩; replace hb := hb.trans (hq.mono hb.size))
    go_ret
    exact ⟨rfl, hb⟩
end Go.Proofs.Ytplfhjahdepphaa.Plan
