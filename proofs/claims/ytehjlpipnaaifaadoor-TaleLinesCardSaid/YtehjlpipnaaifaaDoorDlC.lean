/- Deals: how many it tells. -/
import Derived.Test.YtehjlpipnaaifaaDoorDlB
namespace Go.Proofs.YtehjlpipnaaifaaDoor.Tl
open Go.ChangeShapes Go.WideShapes Go.ChangeAt Go.RowKit
set_option linter.unusedVariables false
set_option linter.unusedSimpArgs false
set_option maxRecDepth 100000
set_option maxHeartbeats 4000000

theorem Dls.op {wA w1 w2 : World} {base m : Nat} {ds : List Dl} {g cap : Nat} (h : Dls wA base m (.slice (some ⟨g, 0, none⟩) ds.length cap) ds) (hbase : base ≤ g) (hbs : base ≤ wA.heap.size) (i : Nat) (d : Dl) (hd : ds[i]? = some d)
    (nn : Nat) (xs : List Value) (hnn : nn ≤ m) (hop : wA.ownsRow base 67 9 d.v nn xs) (hb1 : Below wA.heap.size wA w1) {o : Obj} {v' : Value} {ys : List Value} (q1 : w2.ownsRow base 67 9 v' (nn + 1) ys) (q2 : (w1.alloc o).grownBy w2 d.v.ownBlock)
    (q3 : v'.ownBlock = d.v.ownBlock ∨ ∀ b, v'.ownBlock = some b → (w1.alloc o).heap.size ≤ b) :
    Dls (w2.setCell ⟨g, i * 6 + 5, none⟩ v') base (m + 1) (.slice (some ⟨g, 0, none⟩) ds.length cap) (ds.set i { d with v := v' }) ∧ w2.cell? ⟨g, i * 6 + 5, none⟩ = some d.v ∧ w2.frozen? ⟨g, i * 6 + 5, none⟩ = false ∧ Below base wA (w2.setCell ⟨g, i * 6 + 5, none⟩ v') := by
  have hk : ∀ k, k < wA.heap.size → some k ≠ d.v.ownBlock → w2.heap[k]? = wA.heap[k]? := fun k hk hne => by
    have hk1 : k < w1.heap.size := Nat.lt_of_lt_of_le hk hb1.size
    rw [q2.block k (by simp; omega) hne, heap_alloc_old _ _ hk1, hb1.block k hk]
  obtain ⟨cur, hcur⟩ := own_blk h.row (g := g) rfl
  have hg2 : w2.heap[g]? = wA.heap[g]? := hk g (lt_of hcur) (fun e => by
    obtain ⟨cur', hcur'⟩ := own_blk hop e.symm
    exact ty_ne hcur hcur' (by decide) rfl)
  refine ⟨h.upd (Nat.le_succ m) i d { d with v := v' } hd 5 (by omega) v' rfl hk ⟨nn + 1, ys, by omega, q1⟩ ?_, ?_, ?_, ?_⟩
  · rcases q3 with q3 | q3
    · exact .inl q3
    · exact .inr fun b hb => by have := q3 b hb; have := hb1.size; simp at *; omega
  · rw [cell_congr hg2, h.cell i d hd 5 (by omega)]; rfl
  · have : w2.heap[g]? = some (.cells cur 64 (0, 0)) := by rw [hg2]; exact hcur
    exact frozen_of_row w2 g _ _ _ this
  · have hs := hb1.size
    exact (((hb1.mono hbs).alloc (Nat.le_trans hbs hs) _).grown q2 (by simp; omega) (fun k hk => (hop.lt k hk).1)).setCell (p := ⟨g, i * 6 + 5, none⟩) hbase _
theorem cell_heap {W w : World} (h : W.heap = w.heap) (p : Addr) : W.cell? p = w.cell? p := by
  unfold World.cell?
  simp only [h]
def cnt (l : List Er) : Nat := (l.filter fun e => e.k == 1).length
theorem cnt_le (l : List Er) : cnt l ≤ l.length := List.length_filter_le _ _
theorem cnt_snoc (l : List Er) (e : Er) : cnt (l ++ [e]) = cnt l + (if e.k = 1 then 1 else 0) := by
  unfold cnt
  rw [List.filter_append, List.length_append]
  congr 1
  by_cases h : e.k = 1
  · simp [List.filter, h]
  · have : (e.k == 1) = false := by simpa using h
    simp [List.filter, h, this]
theorem take_shape {T T' : List Tx} {last last' : Nat} {e : Ev} (h : takeM T last e = some (T', last')) :
    (e.kind = 1 ∧ T'.length = T.length + 1) ∨ (e.kind ≠ 1 ∧ (e.kind = 2 ∨ e.kind = 3 ∨ e.kind = 4 ∨ e.kind = 5 ∨ e.kind = 6) ∧ T'.length = T.length ∧ 1 ≤ e.t ∧ e.t ≤ T.length) := by
  unfold takeM at h
  split at h
  · rename_i hk
    split at h
    · cases h; exact .inl ⟨hk, by simp⟩
    · cases h
  · rename_i hk
    split at h
    · cases h
    · rename_i i hi
      obtain ⟨x0, hx0, _, ht⟩ := getM_at hi
      have hil := (List.getElem?_eq_some_iff.1 hx0).1
      split at h
      · cases h
      · rename_i x hx
        right
        refine ⟨hk, ?_, ?_, by omega, by omega⟩
        · split at h
          · left; assumption
          · split at h
            · right; left; assumption
            · split at h
              · right; right; left; assumption
              · split at h
                · right; right; right; left; assumption
                · split at h
                  · right; right; right; right; assumption
                  · cases h
        · split at h
          · split at h
            · cases h; rfl
            · cases h
          · split at h
            · split at h
              · cases h; simp
              · cases h
            · split at h
              · cases hb : bondM T i x e.n with
                | none => rw [hb] at h; cases h
                | some l2 =>
                  rw [hb] at h; cases h
                  unfold bondM at hb
                  split at hb
                  · cases hb
                  · split at hb
                    · cases hb
                    · split at hb
                      · cases hb; simp
                      · cases hb
              · split at h
                · split at h
                  · cases h; simp
                  · cases h
                · split at h
                  · cases h; simp
                  · cases h

theorem ok_at {v : Value} {l : List Er} {w : World} (hrow : Evs w v l) (hn : ∀ e, e ∈ l → e.n < 18446744073709551616) (hlen : l.length ≤ 20000) (g : Bool) (k : Nat) (h : okM [] 0 0 (evs l) = if g then none else some k) :
    Calls Tryd.prog 7 #[v] w fun e w' => ∃ at' : Int, e = .returned (.tuple #[.bool g, .int .i64 at']) ∧ (g = false → at' = (k : Int)) ∧ (g = true → at' = -1) ∧ Below w.heap.size w w' := by
  refine (ok_any v l w hrow hn hlen).mono ?_
  rintro e w' ⟨he, hb⟩
  rw [h] at he
  cases g with
  | true => exact ⟨-1, he, fun h => (by cases h), fun _ => rfl, hb⟩
  | false => exact ⟨(k : Int), he, fun _ => rfl, fun h => (by cases h), hb⟩
/-- What Deals asks of an event. -/
def DlV (w : World) (e : Er) : Prop := (∃ ps, Prs w e ps) ∧ (e.pa = none → e.pl = 0 ∧ e.pc = 0)
theorem DlV.below {w w1 : World} {e : Er} (h : DlV w e) (hb : Below w.heap.size w w1) : DlV w1 e := ⟨by obtain ⟨ps, h1⟩ := h.1; exact ⟨ps, h1.below hb⟩, h.2⟩

theorem deals_bad (v : Value) (l : List Er) (w : World) (hrow : Evs w v l) (hn : ∀ e, e ∈ l → e.n < 18446744073709551616) (hlen : l.length ≤ 20000) (i : Nat) (hbad : okM [] 0 0 (evs l) = some i) :
    Calls Tryd.prog 11 #[v] w fun e w' => e = .returned (.slice none 0 0) ∧ Below w.heap.size w w' := by
  have hok := ok_at hrow hn hlen false i (by rw [hbad]; rfl)
  obtain ⟨a, cap, rfl, hc1, hc2, _⟩ := hrow.form
  have HOK := Lib.hid hok
  clear hok hrow hn hbad
  go_enter Tryd.func11, Tryd.ntmps11
  go_wp2_with (go_at_call 7; refine HOK.out.mono ?_; rintro e w1 ⟨at', rfl, _, _, hb⟩; have HB := Lib.hid hb; clear hb)
  go_ret
  exact ⟨rfl, HB.out⟩

theorem deals_any (v : Value) (l : List Er) (w : World) (hrow : Evs w v l) (hn : ∀ e, e ∈ l → e.n < 18446744073709551616) (hlen : l.length ≤ 20000) (hg : okM [] 0 0 (evs l) = none) (hv : ∀ e, e ∈ l → DlV w e) :
    Calls Tryd.prog 11 #[v] w fun e w' => ∃ a c, e = .returned (.slice a (cnt l) c) ∧ Below w.heap.size w w' := by
  have hok := ok_at hrow hn hlen true 0 (by rw [hg]; rfl)
  obtain ⟨a, cap, rfl, hc1, hc2, hat⟩ := hrow.form
  have HOK := Lib.hid hok
  have HAT := Lib.hid hat
  have HV := Lib.hid hv
  have HG := Lib.hid hg
  clear hok hrow hn hat hv hg
  obtain ⟨len, hll⟩ : ∃ len, len = l.length := ⟨_, rfl⟩
  rw [← hll] at hlen hc1 HOK ⊢
  have HLL := Lib.hid hll
  clear hll
  go_enter Tryd.func11, Tryd.ntmps11
  go_wp2_with (go_at_call 7; refine HOK.out.mono ?_; rintro e w0 ⟨at', rfl, _, _, hb⟩; have HB0 := Lib.hid hb; clear hb)
  go_loopw [5, 18] (fun v b wr => ∃ (k : Nat) (ds : List Dl) (T : List Tx) (last : Nat), b = .int .i64 (k : Int) ∧ k ≤ len ∧ okM T last k (evs (l.drop k)) = none ∧ T.length = ds.length ∧ ds.length = cnt (l.take k) ∧ Dls wr w.heap.size k v ds ∧ Below w.heap.size w wr) (fun _ b _ => match b with | .int _ i => len - i.toNat | _ => 0)
  case atStart => exact ⟨0, [], [], 0, rfl, Nat.zero_le _, HG.out, rfl, rfl, Dls.nil _ _ _, HB0.out⟩
  case round =>
    obtain ⟨k, ds, T, last, rfl, hk, hok, hTl, hcn, hD, hB⟩ := hrel
    by_cases hend : k = len
    · have b2 : ¬ ((k : Int) < (len : Int)) := by omega
      obtain ⟨av, cv, rfl, h1, h2, _⟩ := Ow.own_form hD.row
      rw [hend, HLL.out, List.take_length] at hcn
      rw [hcn] at *
      have HB := Lib.hid hB
      clear hD hB hend hk hok hTl
      go_wp2_with (go_at_call 17; refine (clipD_any _ _ _ h1 h2 _).mono ?_; rintro e w' ⟨rfl, rfl⟩)
      go_ret
      exact ⟨_, _, rfl, HB.out⟩
    · have hlt : k < len := by omega
      have hkl : k < l.length := by rw [← HLL.out]; exact hlt
      have he : l[k]? = some l[k] := List.getElem?_eq_getElem hkl
      obtain ⟨g, off, rfl, hg, hcell⟩ := HAT.out k _ he
      have hdrop : evs (l.drop k) = l[k].ev :: evs (l.drop (k + 1)) := by
        unfold evs; rw [List.drop_eq_getElem_cons hkl]; rfl
      have hcs : cnt (l.take (k + 1)) = cnt (l.take k) + (if l[k].k = 1 then 1 else 0) := by rw [List.take_add_one, he]; exact cnt_snoc _ _
      have hve := HV.out _ (List.getElem_mem hkl)
      rw [hdrop] at hok
      rw [← hcn] at hcs
      generalize l[k] = e at *
      have c0 := hcell 0 (by omega)
      have c1 := hcell 1 (by omega)
      have c2 := hcell 2 (by omega)
      have c3 := hcell 3 (by omega)
      have c4 := hcell 4 (by omega)
      have c5 := hcell 5 (by omega)
      have c6 := hcell 6 (by omega)
      have c7 := hcell 7 (by omega)
      have c8 := hcell 8 (by omega)
      have c9 := hcell 9 (by omega)
      have c10 := hcell 10 (by omega)
      have c11 := hcell 11 (by omega)
      have kp : ∀ i, wr.cell? ⟨g, i, none⟩ = w.cell? ⟨g, i, none⟩ := fun i => hB.cell (p := ⟨g, i, none⟩) hg
      rw [← kp] at c0 c1 c2 c3 c4 c5 c6 c7 c8 c9 c10 c11
      rw [Nat.add_zero] at c0
      obtain ⟨T', last', hT, hok'⟩ : ∃ T' last', takeM T last e.ev = some (T', last') ∧ okM T' last' (k + 1) (evs (l.drop (k + 1))) = none := by
        cases hT : takeM T last e.ev with
        | none => simp only [okM, hT] at hok; cases hok
        | some r => simp only [okM, hT] at hok; exact ⟨r.1, r.2, rfl, hok⟩
      have hsh := take_shape hT
      have b1 : (k : Int) < (len : Int) := by omega
      have b2 : (0 : Int) ≤ (k : Int) := by omega
      have hDA := hD.below (((Below.refl _ _).alloc (Nat.le_refl _) (.cells (evC e).toArray 30)) : Below wr.heap.size wr _)
      have hBA : Below w.heap.size w (wr.alloc (.cells (evC e).toArray 30)) := hB.alloc hB.size _
      have hdl : ds.length ≤ 20000 := by rw [hcn]; exact Nat.le_trans (cnt_le _) (by rw [List.length_take]; omega)
      have HVE := Lib.hid (hve.below hBA)
      have HOK' := Lib.hid hok'
      have HCS := Lib.hid hcs
      have HLT := Lib.hid hlt
      have HBA := Lib.hid hBA
      clear hok hdrop hcell hkl he hend hk hD hB hve hok' hcs hlt hBA hT kp hcn
      rcases hsh with ⟨hk1, hTl2⟩ | ⟨hk1, hks, hTl2, ht1, ht2⟩
      · obtain ⟨ek, et, en, o1, o2, o3, o4, re, rv, pa, pl, pc, ro, rr⟩ := e
        obtain rfl : ek = 1 := hk1
        simp only [evC, List.getElem?_cons_zero, List.getElem?_cons_succ] at c0 c1 c2 c3 c4 c5 c6 c7 c8 c9 c10 c11
        obtain ⟨av, cv, rfl, hv1, hv2, _⟩ := Ow.own_form hDA.row
        have HDA := Lib.hid hDA
        have hown := hDA.row.alloc (.cells (dC ⟨et, o4, 1, en, 0, .slice none 0 0⟩).toArray 64)
        have hbs : w.heap.size ≤ wr.heap.size + 1 + 1 := by have := HBA.out.size; simp at this; omega
        have hl' : ds.length < 1000000 := by omega
        clear hDA
        go_wp2_with (at_builtin; refine append_D _ rfl (.tmp 25) (.tmp 34) rfl w.heap.size (.slice av ds.length cv) ds.length (flatD ds) rfl hown ⟨wr.heap.size + 1, 0, none⟩ 1 ⟨et, o4, 1, en, 0, .slice none 0 0⟩ rfl rfl ?c1 hl' ?c5 ?_)
        case c1 => first | exact fun j u h => h | exact Ow.new_row (wr.alloc (.cells (evC ⟨1, et, en, o1, o2, o3, o4, re, rv, pa, pl, pc, ro, rr⟩).toArray 30)) (dC ⟨et, o4, 1, en, 0, .slice none 0 0⟩) _ _ (by simp)
        try (case c5 => simpa using hbs)
        intro v' w2 q1 q2
        have hD2 := (HDA.out.push ⟨et, o4, 1, en, 0, .slice none 0 0⟩ rfl q1 q2).more
        have hb2 : Below w.heap.size w w2 := (HBA.out.alloc HBA.out.size _).grown q2 (by simpa using hbs) (fun k hk => (hown.lt k hk).1)
        have HD2 := Lib.hid hD2
        have HB2 := Lib.hid hb2
        obtain ⟨a4, cap4, rfl, _, _, _⟩ := Ow.own_form q1
        clear q1 q2 hD2 hb2 hown
        go_wp2_with fail
        refine ⟨⟨k + 1, ds ++ [⟨et, o4, 1, en, 0, .slice none 0 0⟩], T', last', by rw [Int.natCast_add]; rfl, HLT.out, HOK'.out, by rw [hTl2, hTl]; simp, by rw [HCS.out]; simp, by simpa using HD2.out, HB2.out⟩, ?_⟩
        simp only
        have := HLT.out
        omega
      · replace ht1 : 1 ≤ e.t := ht1
        replace ht2 : e.t ≤ (T.length : Int) := ht2
        replace hk1 : e.k ≠ 1 := hk1
        replace hks : e.k = 2 ∨ e.k = 3 ∨ e.k = 4 ∨ e.k = 5 ∨ e.k = 6 := hks
        obtain ⟨i, hi⟩ : ∃ i : Nat, e.t = (i : Int) + 1 := ⟨(e.t - 1).toNat, by omega⟩
        have hil : i < ds.length := by rw [← hTl]; omega
        obtain ⟨g1, cap1, rfl, hg1, hc1', hgl, hcm1, hfz⟩ := hDA.form (by omega)
        have hd := List.getElem?_eq_getElem hil
        have hcell := hDA.cell i _ hd
        generalize ds[i] = d at *
        have hdm := List.mem_of_getElem? hd
        obtain ⟨nn, xs, hnn, hop⟩ := hDA.ops d hdm
        obtain ⟨id, lv, st, bgn, enn, dv⟩ := d
        obtain ⟨av, cv, hdv, _, _, _⟩ := Ow.own_form hop
        simp only at hop hdv
        subst hdv
        have hnd : (if e.k = 1 then 1 else 0) = 0 := if_neg hk1
        rw [hnd] at HCS
        obtain ⟨ek, et, en, o1, o2, o3, o4, re, rv, pa, pl, pc, ro, rr⟩ := e
        simp only at hk1 hks hi ht1 ht2
        subst hi
        simp only [evC, List.getElem?_cons_zero, List.getElem?_cons_succ] at c0 c1 c2 c3 c4 c5 c6 c7 c8 c9 c10 c11
        have hw : IntKind.i64.wrap ((i : Int) + 1 - 1) = (i : Int) := by rw [IntKind.wrap_i64]; omega
        have i1 : (i : Int) < (ds.length : Int) := by omega
        have i2 : (0 : Int) ≤ (i : Int) := by omega
        have d2 := hcell 2 (by omega)
        have d4 := hcell 4 (by omega)
        have d5 := hcell 5 (by omega)
        simp only [dC, List.getElem?_cons_zero, List.getElem?_cons_succ] at d2 d4 d5
        have z2 := hfz (i * 6 + 2)
        have z4 := hfz (i * 6 + 4)
        have z5 := hfz (i * 6 + 5)
        simp only [evC] at d2 d4 d5 z2 z4 z5
        have HD := Lib.hid hd
        have HDA := Lib.hid hDA
        have HOP := Lib.hid hop
        have hlen2 : ∀ d', (ds.set i d').length = ds.length := fun d' => by simp
        have hfin : ∀ (d' : Dl) (W : World), Dls W w.heap.size (k + 1) (.slice (some ⟨g1, 0, none⟩) ds.length cap1) (ds.set i d') → Below w.heap.size w W → ∃ (k2 : Nat) (ds' : List Dl) (T : List Tx) (last : Nat), Value.int .i64 ((k : Int) + 1) = .int .i64 (k2 : Int) ∧ k2 ≤ len ∧ okM T last k2 (evs (l.drop k2)) = none ∧ T.length = ds'.length ∧ ds'.length = cnt (l.take k2) ∧ Dls W w.heap.size k2 (.slice (some ⟨g1, 0, none⟩) ds.length cap1) ds' ∧ Below w.heap.size w W :=
          fun d' W q1 q2 => ⟨k + 1, ds.set i d', T', last', by rw [Int.natCast_add]; rfl, HLT.out, HOK'.out, by rw [hTl2, hTl, hlen2], by rw [HCS.out, hlen2]; rfl, q1, q2⟩
        have HFIN := Lib.hid hfin
        clear hfin hcell hfz hd hDA hop hdm HOK' HCS
        rcases hks with rfl | rfl | rfl | rfl | rfl
        · obtain ⟨⟨ps, hps⟩, hz⟩ := HVE.out
          have hcall := fun (W : World) (hW : Below (wr.alloc (.cells (evC ⟨2, (i : Int) + 1, en, o1, o2, o3, o4, re, rv, pa, pl, pc, ro, rr⟩).toArray 30)).heap.size (wr.alloc (.cells (evC ⟨2, (i : Int) + 1, en, o1, o2, o3, o4, re, rv, pa, pl, pc, ro, rr⟩).toArray 30)) W) => call_any ⟨2, (i : Int) + 1, en, o1, o2, o3, o4, re, rv, pa, pl, pc, ro, rr⟩ ps W (hps.below hW) hz
          simp only [evV, evC] at hcall
          have h5 : ∀ W : World, Below (wr.alloc (.cells (evC ⟨2, (i : Int) + 1, en, o1, o2, o3, o4, re, rv, pa, pl, pc, ro, rr⟩).toArray 30)).heap.size (wr.alloc (.cells (evC ⟨2, (i : Int) + 1, en, o1, o2, o3, o4, re, rv, pa, pl, pc, ro, rr⟩).toArray 30)) W → W.cell? ⟨g1, i * 6 + 5, none⟩ = some (.slice av nn cv) := fun W hW => by
            rw [hW.cell (p := ⟨g1, i * 6 + 5, none⟩) hgl]; exact d5
          have hall := fun (w1 : World) (hW : Below (wr.alloc (.cells (evC ⟨2, (i : Int) + 1, en, o1, o2, o3, o4, re, rv, pa, pl, pc, ro, rr⟩).toArray 30)).heap.size (wr.alloc (.cells (evC ⟨2, (i : Int) + 1, en, o1, o2, o3, o4, re, rv, pa, pl, pc, ro, rr⟩).toArray 30)) w1) (o : Obj) (v' : Value) (w2 : World) (ys : List Value) (q1 : w2.ownsRow w.heap.size 67 9 v' (nn + 1) ys) (q2 : (w1.alloc o).grownBy w2 (Value.slice av nn cv).ownBlock)
            (q3 : v'.ownBlock = (Value.slice av nn cv).ownBlock ∨ ∀ b, v'.ownBlock = some b → (w1.alloc o).heap.size ≤ b) => HDA.out.op hg1 HBA.out.size i _ HD.out nn xs hnn HOP.out hW q1 q2 q3
          have hopw := fun (w1 : World) (hW : Below (wr.alloc (.cells (evC ⟨2, (i : Int) + 1, en, o1, o2, o3, o4, re, rv, pa, pl, pc, ro, rr⟩).toArray 30)).heap.size (wr.alloc (.cells (evC ⟨2, (i : Int) + 1, en, o1, o2, o3, o4, re, rv, pa, pl, pc, ro, rr⟩).toArray 30)) w1) (o : Obj) (W : World) (hh : W.heap = (w1.alloc o).heap) => own_same (w' := W) ((Ow.own_below HOP.out hW).alloc o) (fun g _ => by rw [hh])
          have HCALL := Lib.hid hcall
          have H5 := Lib.hid h5
          have HALL := Lib.hid hall
          have HOPW := Lib.hid hopw
          have hnn2 : nn < 1000000 := by omega
          clear hcall h5 hall hopw HOP HD HVE hps hz HV
          go_wp2_with fail
          go_region_law (first
            | (refine wp_append_C _ (.tmp 49) (.tmp 52) rfl w.heap.size (.slice av nn cv) nn xs rfl (by refine HOW.out _ ?_; rfl) ⟨w1.heap.size, 0, none⟩ 1 [.int .i64 o1, .int .i64 o2, .int .i64 o3, .int .i64 o4, .int .i64 re, .int .i64 rv, .slice a1 n1 c1, .int .i64 ro, .int .i64 rr] rfl rfl (by refine HNW.out _ ?_; rfl) (by intro u hu; simp at hu; rcases hu with rfl | rfl | rfl | rfl | rfl | rfl | rfl | rfl | rfl <;> rfl) hnn2 (by simpa using HSZ.out) ?_
               intro v' w2 q1 q2 q3
               obtain ⟨h1, h2, h3, h4⟩ := HSN.out v' w2 _ q1 (by obtain ⟨z1, z2, z3, z4, z5⟩ := q2; exact ⟨z1, z2, z3, z4, z5⟩) q3
               obtain ⟨a4, cap4, rfl, _, _, _⟩ := Ow.own_form q1
               have HF := Lib.hid (HFIN.out _ _ h1 (HBA.out.trans h4))
               try simp only at h2
               clear h1 h4 q1 q2 q3)
            | (go_simp
               go_at_call 16
               refine (HCALL.out _ (by first | exact Below.refl _ _ | exact (Below.refl _ _).drew | exact ((Below.refl _ _).drew).drew)).mono ?_
               rintro e w1 ⟨a1, n1, c1, rfl, hb1⟩
               have hW : Below (wr.alloc (.cells (evC ⟨2, (i : Int) + 1, en, o1, o2, o3, o4, re, rv, pa, pl, pc, ro, rr⟩).toArray 30)).heap.size (wr.alloc (.cells (evC ⟨2, (i : Int) + 1, en, o1, o2, o3, o4, re, rv, pa, pl, pc, ro, rr⟩).toArray 30)) w1 := (by first | exact (Below.refl _ _).trans hb1 | exact (Below.refl _ _).drew.trans hb1 | exact ((Below.refl _ _).drew).drew.trans hb1)
               have k5 := H5.out w1 hW
               have k5a := fun o => H5.out (w1.alloc o) (hW.alloc hW.size o)
               have hOW := HOPW.out w1 hW (.cells ([.int .i64 o1, .int .i64 o2, .int .i64 o3, .int .i64 o4, .int .i64 re, .int .i64 rv, .slice a1 n1 c1, .int .i64 ro, .int .i64 rr] : List Value).toArray 67)
               have HOW := Lib.hid hOW
               have hNW : ∀ W : World, W.heap = (w1.alloc (.cells ([.int .i64 o1, .int .i64 o2, .int .i64 o3, .int .i64 o4, .int .i64 re, .int .i64 rv, .slice a1 n1 c1, .int .i64 ro, .int .i64 rr] : List Value).toArray 67)).heap → ∀ j u, ([.int .i64 o1, .int .i64 o2, .int .i64 o3, .int .i64 o4, .int .i64 re, .int .i64 rv, .slice a1 n1 c1, .int .i64 ro, .int .i64 rr] : List Value)[j]? = some u → W.cell? ((⟨w1.heap.size, 0, none⟩ : Addr).add j) = some u := fun W hh j u hu => by rw [cell_heap hh]; exact Ow.new_row w1 [.int .i64 o1, .int .i64 o2, .int .i64 o3, .int .i64 o4, .int .i64 re, .int .i64 rv, .slice a1 n1 c1, .int .i64 ro, .int .i64 rr] _ _ rfl j u hu
               have HNW := Lib.hid hNW
               have HSN := Lib.hid (HALL.out w1 hW (.cells ([.int .i64 o1, .int .i64 o2, .int .i64 o3, .int .i64 o4, .int .i64 re, .int .i64 rv, .slice a1 n1 c1, .int .i64 ro, .int .i64 rr] : List Value).toArray 67))
               have hsz : w.heap.size ≤ w1.heap.size + 1 := Nat.le_succ_of_le (Nat.le_trans HBA.out.size hW.size)
               have HSZ := Lib.hid hsz
               clear hb1 hW hOW hNW hsz))
          all_goals (go_wp2_with fail; refine ⟨HF.out, ?_⟩; simp only; have := HLT.out; omega)
        · have hD3 := HDA.out.upd (w2 := wr.alloc (.cells (evC ⟨3, (i : Int) + 1, en, o1, o2, o3, o4, re, rv, pa, pl, pc, ro, rr⟩).toArray 30)) (Nat.le_succ k) i _ ⟨id, lv, st, bgn, en, .slice av nn cv⟩ HD.out 4 (by omega) (.int .u64 (en : Int)) rfl (fun _ _ _ => rfl) ⟨nn, xs, by omega, HOP.out⟩ (.inl rfl)
          have HF := Lib.hid (HFIN.out _ _ hD3 (HBA.out.setCell (p := ⟨g1, i * 6 + 4, none⟩) hg1 _))
          clear hD3 HFIN HOP
          go_wp2_with fail
          refine ⟨HF.out, ?_⟩
          simp only
          have := HLT.out
          omega
        · have HF := Lib.hid (HFIN.out ⟨id, lv, st, bgn, enn, .slice av nn cv⟩ _ (by
            have : ds.set i ⟨id, lv, st, bgn, enn, .slice av nn cv⟩ = ds := by
              apply List.ext_getElem?
              intro j
              rw [List.getElem?_set]
              split
              · rename_i h; subst h; rw [HD.out]; try rw [if_pos hil]
              · rfl
            rw [this]; exact HDA.out.more) HBA.out)
          clear HFIN HOP
          go_wp2_with fail
          refine ⟨HF.out, ?_⟩
          simp only
          have := HLT.out
          omega
        · have hD3 := HDA.out.upd (w2 := wr.alloc (.cells (evC ⟨5, (i : Int) + 1, en, o1, o2, o3, o4, re, rv, pa, pl, pc, ro, rr⟩).toArray 30)) (Nat.le_succ k) i _ ⟨id, lv, 3, bgn, enn, .slice av nn cv⟩ HD.out 2 (by omega) (.int .i64 3) rfl (fun _ _ _ => rfl) ⟨nn, xs, by omega, HOP.out⟩ (.inl rfl)
          have HF := Lib.hid (HFIN.out _ _ hD3 (HBA.out.setCell (p := ⟨g1, i * 6 + 2, none⟩) hg1 _))
          clear hD3 HFIN HOP
          go_wp2_with fail
          refine ⟨HF.out, ?_⟩
          simp only
          have := HLT.out
          omega
        · have hD3 := HDA.out.upd (w2 := wr.alloc (.cells (evC ⟨6, (i : Int) + 1, en, o1, o2, o3, o4, re, rv, pa, pl, pc, ro, rr⟩).toArray 30)) (Nat.le_succ k) i _ ⟨id, lv, 4, bgn, enn, .slice av nn cv⟩ HD.out 2 (by omega) (.int .i64 4) rfl (fun _ _ _ => rfl) ⟨nn, xs, by omega, HOP.out⟩ (.inl rfl)
          have HF := Lib.hid (HFIN.out _ _ hD3 (HBA.out.setCell (p := ⟨g1, i * 6 + 2, none⟩) hg1 _))
          clear hD3 HFIN HOP
          go_wp2_with fail
          refine ⟨HF.out, ?_⟩
          simp only
          have := HLT.out
          omega
end Go.Proofs.YtehjlpipnaaifaaDoor.Tl
