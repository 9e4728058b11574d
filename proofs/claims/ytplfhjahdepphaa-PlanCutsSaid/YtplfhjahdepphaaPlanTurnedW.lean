/- PlanTurned: the walk: whatever entries, place and byte come in, the law answers true and writes nothing that was there. -/
import Derived.Test.YtplfhjahdepphaaPlanT
import Derived.Deep.QuietTactic
import Derived.BigQuiet
import Derived.OpenShut
import Derived.Deep.AppendLies
namespace Go.Proofs.Ytplfhjahdepphaa.Plan
open Go.ChangeShapes Go.WideShapes Go.ChangeAt Go.RowKit
set_option linter.unusedVariables false
set_option linter.unusedSimpArgs false
set_option maxRecDepth 100000

theorem rok_v (e : En) (h : V e) (w : World) : Calls Try.prog 44 #[enV e] w fun z w' => z = .returned (.bool true) ∧ Below w.heap.size w w' := by
  obtain ⟨b, hb, hc⟩ := rok_any e w
  rw [hb.2 h] at hc
  exact hc
theorem rok_nv (e : En) (h : ¬ V e) (w : World) : Calls Try.prog 44 #[enV e] w fun z w' => z = .returned (.bool false) ∧ Below w.heap.size w w' := by
  obtain ⟨b, hb, hc⟩ := rok_any e w
  cases b
  · exact hc
  · exact absurd (hb.1 rfl) h

theorem row_one (w : World) (e : En) (T : TypeId) (c : Array Value) (hc : c = (cellsE e).toArray) : Ow.Row (w.alloc (.cells c T)) 0 7 (.slice (some ⟨w.heap.size, 0, none⟩) 1 1) (flatE [e]) := by
  have hf := At7.new w e T c hc
  refine ⟨_, 1, 1, rfl, rfl, by omega, by unfold maxLen; omega, .inr ⟨w.heap.size, 0, rfl, by omega, hf.1, fun j hj => ?_⟩⟩
  rw [Nat.zero_add, hf.2 j (by omega)]
  unfold flatE; simp

/-- Five bytes that were encoded. -/
theorem row_five {w : World} {b n : Nat} {a : Option Addr} {e : En} (h : Ow.Row w b 1 (.slice a n n) (u8s (bytesL [e]))) : n = 5 := by
  obtain ⟨a', n', c', he, hl, _⟩ := h
  simp only [Value.slice.injEq] at he
  obtain ⟨rfl, rfl, rfl⟩ := he
  rw [u8s_length, bytesL_length] at hl
  simp at hl
  omega

set_option maxHeartbeats 4000000 in
theorem turned_core (a b : En) (ha : V a) (hb' : V b) (ia : I64 a) (ib : I64 b) (t y : Int) (y0 : 0 ≤ y) (y1 : y < 256) (w : World) :
    Calls Try.prog 11 #[enV a, enV b, .int .i64 t, .int .u8 y] w fun e w' => e = .returned (.bool true) ∧ Below w.heap.size w w' := by
  obtain ⟨p, hp⟩ : ∃ p, bits .and .i64 t 255 = p := ⟨_, rfl⟩
  have p0 : 0 ≤ p := by rw [← hp, Bt.i64_and255]; omega
  have p1 : p < 256 := by rw [← hp, Bt.i64_and255]; omega
  obtain ⟨P, rfl⟩ := Int.eq_ofNat_of_zero_le p0
  obtain ⟨i, hi⟩ : ∃ i : Nat, (P : Int) % 5 = (i : Int) := ⟨P % 5, by omega⟩
  have i5 : i < 5 := by omega
  have HT := Lib.hid (turned a ha i i5 y y0 y1)
  have HS := Lib.hid (str_same a b ha hb')
  have HA := Lib.hid (fun W => rok_v a ha W)
  have HB := Lib.hid (fun W => rok_v b hb' W)
  have HEA := Lib.hid (fun v W h => encode_any v [a] (fun e he => by simp at he; subst he; exact ia) (by simp) W h)
  have HEB := Lib.hid (fun v W h => encode_any v [b] (fun e he => by simp at he; subst he; exact ib) (by simp) W h)
  have HVA := Lib.hid (show ∀ e ∈ [a], V e from fun e he => by simp at he; subst he; exact ha)
  have HVB := Lib.hid (show ∀ e ∈ [b], V e from fun e he => by simp at he; subst he; exact hb')
  have HBA : Hid (u8s (bytesL [a]) = u8s (bytesE a)) := by show _ = _; unfold bytesL; simp
  clear ha hb' ia ib
  have hlen5 : (bytesE a).length = 5 := rfl
  have HL5 := Lib.hid hlen5
  clear hlen5
  have hna : (bytesL [a]).length = 5 := by rw [bytesL_length]; rfl
  have HNA := Lib.hid hna
  clear hna
  obtain ⟨c, hc⟩ : ∃ c, eqB a b = c := ⟨_, rfl⟩
  rw [hc] at HS
  have hcmp := run_eqE a.k a.s a.lv a.ok a.oy a.oh a.ov b.k b.s b.lv b.ok b.oy b.oh b.ov
  rw [show eqB ⟨a.k, a.s, a.lv, a.ok, a.oy, a.oh, a.ov⟩ ⟨b.k, b.s, b.lv, b.ok, b.oy, b.oh, b.ov⟩ = c from hc] at hcmp
  have hcc : (c != c) = false := by cases c <;> rfl
  clear hc
  obtain ⟨x, hx⟩ : ∃ x, (bytesE a).getD i 0 = x := ⟨_, rfl⟩
  rw [hx] at HT
  have HX : Hid ((u8s (bytesE a))[i]? = some (.int .u8 x)) := by show _ = _; rw [u8s_get _ _ (by rw [HL5.out]; exact i5), hx]
  clear hx
  obtain ⟨v, hv⟩ : ∃ v, bits .xor .u8 x y = v := ⟨_, rfl⟩
  rw [hv] at HT
  have HSET : Hid ((u8s (bytesE a)).set i (.int .u8 v) = u8s ((bytesE a).set i v)) := by show _ = _; unfold u8s; rw [List.map_set]
  have HLS : Hid (((bytesE a).set i v).length = 5) := by show _ = _; rw [List.length_set]; exact HL5.out
  generalize hbs : (bytesE a).set i v = bs at *
  clear hbs
  obtain ⟨hrng, heq⟩ := HT.out
  have HRNG := Lib.hid hrng
  clear HT hrng
  obtain ⟨d, hd⟩ : ∃ d, eqB (fiveE bs) a = d := ⟨_, rfl⟩
  rw [hd] at heq
  have hcmp2 := run_eqE (fiveE bs).k (fiveE bs).s (fiveE bs).lv (fiveE bs).ok (fiveE bs).oy (fiveE bs).oh (fiveE bs).ov a.k a.s a.lv a.ok a.oy a.oh a.ov
  rw [show eqB ⟨(fiveE bs).k, (fiveE bs).s, (fiveE bs).lv, (fiveE bs).ok, (fiveE bs).oy, (fiveE bs).oh, (fiveE bs).ov⟩ ⟨a.k, a.s, a.lv, a.ok, a.oy, a.oh, a.ov⟩ = d from hd] at hcmp2
  clear hd
  have HF : Hid (∀ g cap W, 5 ≤ cap → cap ≤ 9223372036854775807 → (∀ j, j < 5 → W.cell? ⟨g, j, none⟩ = (u8s bs)[j]?) → Calls Try.prog 38 #[.slice (some ⟨g, 0, none⟩) 5 cap] W fun e w' => e = .returned (.tuple #[enV (fiveE bs), .bool true]) ∧ Below W.heap.size W w') := by
    intro g cap W h1 h2 hcell
    have hb : ∀ j, j < 5 → W.cell? ⟨g, j, none⟩ = some (.int .u8 (bs.getD j 0)) ∧ 0 ≤ bs.getD j 0 ∧ bs.getD j 0 < 256 := by
      intro j hj
      have hl := HLS.out
      refine ⟨by rw [hcell j hj, u8s_get bs j (by omega)], ?_⟩
      rw [List.getD_eq_getElem?_getD, List.getElem?_eq_getElem (by omega)]
      exact HRNG.out _ (List.getElem_mem _)
    have c0 := hb 0 (by omega)
    have c1 := hb 1 (by omega)
    have c2 := hb 2 (by omega)
    have c3 := hb 3 (by omega)
    have c4 := hb 4 (by omega)
    exact one_any g 0 5 cap (by omega) h1 h2 _ _ _ _ _ c0.2.1 c0.2.2 c1.2.1 c1.2.2 c2.2.1 c2.2.2 c3.2.1 c3.2.2 c4.2.1 c4.2.2 W c0.1 c1.1 c2.1 c3.1 c4.1
  generalize fiveE bs = F at *
  obtain ⟨fk, fs, flv, fok, foy, foh, fov⟩ := F
  obtain ⟨ak, asx, alv, aok, aoy, aoh, aov⟩ := a
  obtain ⟨bk, bs', blv, bok, boy, boh, bov⟩ := b
  simp only at hcmp hcmp2
  go_enter Try.func11, Try.ntmps11
  go_wp2_with fail
  obtain ⟨A0, hA0, fa, fb, hb⟩ : ∃ W, W = ((w.alloc (.cells #[.int .i64 ak, .int .i64 asx, .int .i64 alv, .int .i64 aok, .int .i64 aoy, .int .i64 aoh, .int .i64 aov] 47)).alloc (.cells #[.int .i64 bk, .int .i64 bs', .int .i64 blv, .int .i64 bok, .int .i64 boy, .int .i64 boh, .int .i64 bov] 47)) ∧ At7 W w.heap.size ⟨ak, asx, alv, aok, aoy, aoh, aov⟩ ∧ At7 W (w.heap.size + 1) ⟨bk, bs', blv, bok, boy, boh, bov⟩ ∧ Below w.heap.size w W :=
    ⟨_, rfl, (At7.new w ⟨ak, asx, alv, aok, aoy, aoh, aov⟩ _ _ rfl).below (below_allocs1 _ _), by simpa using At7.new (w.alloc (.cells #[.int .i64 ak, .int .i64 asx, .int .i64 alv, .int .i64 aok, .int .i64 aoy, .int .i64 aoh, .int .i64 aov] 47)) ⟨bk, bs', blv, bok, boy, boh, bov⟩ 47 #[.int .i64 bk, .int .i64 bs', .int .i64 blv, .int .i64 bok, .int .i64 boy, .int .i64 boh, .int .i64 bov] rfl, below_allocs2 _ _ _⟩
  rw [← hA0]
  clear hA0
  refine (HA.out _).mono ?_
  rintro z w1 ⟨rfl, hq⟩
  replace fa := fa.below hq
  replace fb := fb.below hq
  replace hb := hb.trans (hq.mono hb.size)
  clear hq
  have l1 := fb.1
  obtain ⟨x0, x1, x2, x3, x4, x5, x6⟩ := fb.cells
  go_wp2_with fail
  refine (HB.out _).mono ?_
  rintro z w2 ⟨rfl, hq⟩
  replace fa := fa.below hq
  replace fb := fb.below hq
  replace hb := hb.trans (hq.mono hb.size)
  clear hq l1 x0 x1 x2 x3 x4 x5 x6
  have l1 := fa.1
  obtain ⟨x0, x1, x2, x3, x4, x5, x6⟩ := fa.cells
  go_wp2_with fail
  refine (HEA.out _ _ (row_one w2 ⟨ak, asx, alv, aok, aoy, aoh, aov⟩ 47 _ rfl)).mono ?_
  rintro z w3 ⟨hq, h⟩
  rcases h with ⟨_, a3, n3, rfl, hx⟩ | ⟨hno, _⟩
  case inr => exact absurd HVA.out hno
  obtain rfl := row_five hx
  have hq' := (below_allocs1 w2 _).trans (hq.mono (by simp))
  replace fa := fa.below hq'
  replace fb := fb.below hq'
  replace hb := hb.trans (hq'.mono hb.size)
  clear hq hq' l1 x0 x1 x2 x3 x4 x5 x6
  have l1 := fb.1
  obtain ⟨x0, x1, x2, x3, x4, x5, x6⟩ := fb.cells
  go_wp2_with fail
  refine (HEB.out _ _ (row_one w3 ⟨bk, bs', blv, bok, boy, boh, bov⟩ 47 _ rfl)).mono ?_
  rintro z w4 ⟨hq, h⟩
  rcases h with ⟨_, a4, n4, rfl, hy⟩ | ⟨hno, _⟩
  case inr => exact absurd HVB.out hno
  obtain rfl := row_five hy
  have hq' := (below_allocs1 w3 _).trans (hq.mono (by simp))
  replace fa := fa.below hq'
  replace fb := fb.below hq'
  replace hx := hx.below hq'
  replace hb := hb.trans (hq'.mono hb.size)
  clear hq hq' l1 x0 x1 x2 x3 x4 x5 x6
  have s1 := fun n => run_str (hx.below (below_drewN (Below.refl _ _) n))
  have s2 := fun n => run_str (hy.below (below_drewN (Below.refl _ _) n))
  have hS := HS.out
  generalize strOfNums (bytesL [⟨ak, asx, alv, aok, aoy, aoh, aov⟩]) = S1 at s1 hS
  generalize strOfNums (bytesL [⟨bk, bs', blv, bok, boy, boh, bov⟩]) = S2 at s2 hS
  have l1 := fb.1
  have l2 := fa.1
  obtain ⟨x0, x1, x2, x3, x4, x5, x6⟩ := fb.cells
  obtain ⟨y0, y1, y2, y3, y4, y5, y6⟩ := fa.cells
  go_wp2_with fail
  go_quiet (fail)
  have hbl : Below w4.heap.size w4 (w4.drewN nq) := below_drewN (Below.refl _ _) nq
  replace fa := fa.below hbl
  replace hx := hx.below hbl
  replace hb := hb.trans (hbl.mono hb.size)
  clear s1 s2 hS fb hy hbl l1 l2 x0 x1 x2 x3 x4 x5 x6 y0 y1 y2 y3 y4 y5 y6
  generalize w4.drewN nq = w5 at *
  have hsz := hb.size
  go_wp2_with (at_builtin; refine append_BR _ rfl (.tmp 59) (.tmp 60) rfl w5.heap.size (.slice (some ⟨w5.heap.size, 0, none⟩) 0 0) 0 [] rfl ?own _ _ (bytesL [⟨ak, asx, alv, aok, aoy, aoh, aov⟩]) rfl (hx.below (below_allocs1 w5 _)) ?hn ?hbase ?_)
  case own => exact World.ownsRow_lit w5 #[] 0 (Nat.le_refl _) (Nat.zero_le _) rfl
  case hn => rw [HNA.out]; omega
  case hbase => simp
  intro v' w6 hown hg6
  have hq : Below w5.heap.size w5 w6 := ((Below.refl _ _).alloc (Nat.le_refl _) _).grown hg6 (by simp) (by intro k hk; simp [Value.ownBlock] at hk; subst hk; exact Nat.le_refl _)
  have hlt5 := fa.1
  replace fa := fa.below hq
  replace hb := hb.trans (hq.mono hb.size)
  rw [HNA.out, HBA.out] at hown
  clear hx hq hg6
  obtain ⟨g, cap, rfl, hg5, hg6⟩ := hown.form (by omega)
  obtain ⟨_, _, hsl, hc1, hc2, _⟩ := Ow.own_form hown
  simp only [Value.slice.injEq] at hsl
  obtain ⟨-, -, rfl⟩ := hsl
  have xc : w6.cell? ⟨g, i, none⟩ = some (.int .u8 x) := (hown.cellAt i (by omega)).trans HX.out
  have xf := hown.frozenAt i
  obtain ⟨hst, _⟩ := hown.stored i (.int .u8 v)
  have hcells := fun j (hj : j < 5) => hst.cellAt j (by omega)
  rw [HSET.out] at hcells
  have HCELLS := Lib.hid hcells
  have ia5 : (i : Int) < 5 := by omega
  have ia0 : (0 : Int) ≤ (i : Int) := by omega
  have hne : ¬ w.heap.size = g := by omega
  have hbs2 : Below w.heap.size w (w6.setCell ⟨g, i, none⟩ (.int .u8 v)) := hb.setCell (by show w.heap.size ≤ g; omega) _
  have fa2 : At7 (w6.setCell ⟨g, i, none⟩ (.int .u8 v)) w.heap.size ⟨ak, asx, alv, aok, aoy, aoh, aov⟩ := by
    have hk : Below (w.heap.size + 1) w6 (w6.setCell ⟨g, i, none⟩ (.int .u8 v)) := (Below.refl _ _).setCell (by show w.heap.size + 1 ≤ g; omega) _
    refine ⟨by simpa using fa.1, fun f hf => ?_⟩
    rw [hk.cell (p := ⟨w.heap.size, f, none⟩) (by show w.heap.size < w.heap.size + 1; omega)]
    exact fa.2 f hf
  clear hcells hst hown fa hg5 hb
  go_wp2_with fail
  refine (HF.out g cap _ hc1 hc2 HCELLS.out).mono ?_
  rintro z w7 ⟨rfl, hq⟩
  have fa := fa2.below hq
  have hb := hbs2.trans (hq.mono hbs2.size)
  have hsz7 := hb.size
  have l1 := fa.1
  obtain ⟨x0, x1, x2, x3, x4, x5, x6⟩ := fa.cells
  clear hq fa2 hbs2 xc xf HCELLS fa
  go_wp2_with fail
  refine (awake_any _).mono ?_
  rintro e w8 ⟨rfl, hq⟩
  have hb8 : Below w.heap.size w w8 := (hb.alloc hb.size _).trans (hq.mono (by simp; omega))
  clear hq
  go_wp2_with fail
  go_ret
  exact ⟨rfl, hb8⟩

theorem turned_no1 (a b : En) (ha : ¬ V a) (t y : Int) (w : World) :
    Calls Try.prog 11 #[enV a, enV b, .int .i64 t, .int .u8 y] w fun e w' => e = .returned (.bool true) ∧ Below w.heap.size w w' := by
  have HA := Lib.hid (fun W => rok_nv a ha W)
  clear ha
  obtain ⟨ak, asx, alv, aok, aoy, aoh, aov⟩ := a
  obtain ⟨bk, bs', blv, bok, boy, boh, bov⟩ := b
  go_enter Try.func11, Try.ntmps11
  go_wp2_with fail
  obtain ⟨A0, hA0, fa, fb, hb⟩ : ∃ W, W = ((w.alloc (.cells #[.int .i64 ak, .int .i64 asx, .int .i64 alv, .int .i64 aok, .int .i64 aoy, .int .i64 aoh, .int .i64 aov] 47)).alloc (.cells #[.int .i64 bk, .int .i64 bs', .int .i64 blv, .int .i64 bok, .int .i64 boy, .int .i64 boh, .int .i64 bov] 47)) ∧ At7 W w.heap.size ⟨ak, asx, alv, aok, aoy, aoh, aov⟩ ∧ At7 W (w.heap.size + 1) ⟨bk, bs', blv, bok, boy, boh, bov⟩ ∧ Below w.heap.size w W :=
    ⟨_, rfl, (At7.new w ⟨ak, asx, alv, aok, aoy, aoh, aov⟩ _ _ rfl).below (below_allocs1 _ _), by simpa using At7.new (w.alloc (.cells #[.int .i64 ak, .int .i64 asx, .int .i64 alv, .int .i64 aok, .int .i64 aoy, .int .i64 aoh, .int .i64 aov] 47)) ⟨bk, bs', blv, bok, boy, boh, bov⟩ 47 #[.int .i64 bk, .int .i64 bs', .int .i64 blv, .int .i64 bok, .int .i64 boy, .int .i64 boh, .int .i64 bov] rfl, below_allocs2 _ _ _⟩
  rw [← hA0]
  clear hA0
  refine (HA.out _).mono ?_
  rintro z w1 ⟨rfl, hq⟩
  replace hb := hb.trans (hq.mono hb.size)
  go_wp2_with (go_at_call 37; refine (awake_any _).mono ?_; rintro e w7 ⟨rfl, hq⟩; replace hb := hb.trans (hq.mono hb.size))
  go_ret
  exact ⟨rfl, hb⟩

theorem turned_no2 (a b : En) (ha : V a) (hb' : ¬ V b) (t y : Int) (w : World) :
    Calls Try.prog 11 #[enV a, enV b, .int .i64 t, .int .u8 y] w fun e w' => e = .returned (.bool true) ∧ Below w.heap.size w w' := by
  have HA := Lib.hid (fun W => rok_v a ha W)
  have HB := Lib.hid (fun W => rok_nv b hb' W)
  clear ha hb'
  obtain ⟨ak, asx, alv, aok, aoy, aoh, aov⟩ := a
  obtain ⟨bk, bs', blv, bok, boy, boh, bov⟩ := b
  go_enter Try.func11, Try.ntmps11
  go_wp2_with fail
  obtain ⟨A0, hA0, fa, fb, hb⟩ : ∃ W, W = ((w.alloc (.cells #[.int .i64 ak, .int .i64 asx, .int .i64 alv, .int .i64 aok, .int .i64 aoy, .int .i64 aoh, .int .i64 aov] 47)).alloc (.cells #[.int .i64 bk, .int .i64 bs', .int .i64 blv, .int .i64 bok, .int .i64 boy, .int .i64 boh, .int .i64 bov] 47)) ∧ At7 W w.heap.size ⟨ak, asx, alv, aok, aoy, aoh, aov⟩ ∧ At7 W (w.heap.size + 1) ⟨bk, bs', blv, bok, boy, boh, bov⟩ ∧ Below w.heap.size w W :=
    ⟨_, rfl, (At7.new w ⟨ak, asx, alv, aok, aoy, aoh, aov⟩ _ _ rfl).below (below_allocs1 _ _), by simpa using At7.new (w.alloc (.cells #[.int .i64 ak, .int .i64 asx, .int .i64 alv, .int .i64 aok, .int .i64 aoy, .int .i64 aoh, .int .i64 aov] 47)) ⟨bk, bs', blv, bok, boy, boh, bov⟩ 47 #[.int .i64 bk, .int .i64 bs', .int .i64 blv, .int .i64 bok, .int .i64 boy, .int .i64 boh, .int .i64 bov] rfl, below_allocs2 _ _ _⟩
  rw [← hA0]
  clear hA0
  refine (HA.out _).mono ?_
  rintro z w1 ⟨rfl, hq⟩
  replace fb := fb.below hq
  replace hb := hb.trans (hq.mono hb.size)
  clear hq
  have l1 := fb.1
  obtain ⟨x0, x1, x2, x3, x4, x5, x6⟩ := fb.cells
  go_wp2_with fail
  refine (HB.out _).mono ?_
  rintro z w2 ⟨rfl, hq⟩
  replace hb := hb.trans (hq.mono hb.size)
  clear hq
  go_wp2_with (go_at_call 37; refine (awake_any _).mono ?_; rintro e w7 ⟨rfl, hq⟩; replace hb := hb.trans (hq.mono hb.size))
  go_ret
  exact ⟨rfl, hb⟩

theorem turned_law (a b : En) (t y : Int) (w : World) (ia : I64 a) (ib : I64 b) (ht : (Lit.int .i64 t).wf = true) (hy : (Lit.int .u8 y).wf = true) :
    Calls Try.prog 11 #[enV a, enV b, .int .i64 t, .int .u8 y] w fun e w' => e = .returned (.bool true) ∧ Below w.heap.size w w' := by
  have hr := bounds_u8 hy
  by_cases ha : V a
  · by_cases hb : V b
    · exact turned_core a b ha hb ia ib t y hr.1 (by omega) w
    · exact turned_no2 a b ha hb t y w
  · exact turned_no1 a b ha t y w
end Go.Proofs.Ytplfhjahdepphaa.Plan
