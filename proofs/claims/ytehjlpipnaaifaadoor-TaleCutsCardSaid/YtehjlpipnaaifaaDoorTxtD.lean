/- A line of a tale: the walk. -/
import Derived.Test.YtehjlpipnaaifaaDoorTxtC
import Derived.BigRegion
namespace Go.Proofs.YtehjlpipnaaifaaDoor.Tl
open Go.ChangeShapes Go.WideShapes Go.ChangeAt Go.RowKit
set_option linter.unusedVariables false
set_option linter.unusedSimpArgs false
set_option maxRecDepth 100000
set_option maxHeartbeats 8000000

theorem line_any (e : Er) (ps : List (Int × Int)) (w : World) (hs : Sm e) (hp : Prs w e ps) (hk : 1 ≤ e.k ∧ e.k ≤ 6) :
    Calls Tryd.prog 14 #[evV e] w fun x w' => x = .returned (sv (lineOf e ps)) ∧ Below w.heap.size w w' := by
  obtain ⟨WS, hWS⟩ : ∃ WS, WS = wordsOf e ps := ⟨_, rfl⟩
  obtain ⟨L, hL⟩ : ∃ L, L = lineOf e ps := ⟨_, rfl⟩
  rw [← hL]
  have hL2 : L = Lib.join WS [32] ++ [10] := by rw [hL, hWS]; rfl
  have hwl := words_len hs hp
  rw [← hWS] at hwl
  have HWL := Lib.hid hwl
  have HWS := Lib.hid hWS
  have HLN := Lib.hid hL2
  clear hWS hL hL2 hwl
  obtain ⟨k, t, n, o1, o2, o3, o4, re, rv, pa, pl, pc, ro, rr⟩ := e
  obtain ⟨κ, rfl⟩ : ∃ κ : Nat, k = (κ : Int) := ⟨k.toNat, by have := hk.1; simp only at this; omega⟩
  have b1 : decide ((κ : Int) < 1) = false := by have := hk.1; simp only at this; simp; omega
  have b2 : decide ((6 : Int) < (κ : Int)) = false := by have := hk.2; simp only at this; simp; omega
  have b3 : (0 : Int) ≤ (κ : Int) := by omega
  have b4 : (κ : Int) < 7 := by have := hk.2; simp only at this; omega
  have HS := Lib.hid hs
  have HP := Lib.hid hp
  have HKK := Lib.hid hk
  clear hs hp hk
  unfold evV evC
  simp only
  go_enter Tryd.func14, Tryd.ntmps14
  go_upto_region 4 with (go_at_call 23; refine (names_any _).mono ?_; rintro e w1 ⟨rfl, hb1⟩; have HB1 := Lib.hid hb1; clear hb1; unfold namesC)
  have hb4 : Below w.heap.size w (w1.alloc (.cells namesC 78)) := (((Below.refl _ _).alloc (Nat.le_refl _) _).trans (HB1.out.mono (by simp))).alloc (by have := HB1.out.size; simp at this; omega) _
  have ev4 : (w1.alloc (.cells namesC 78)).heap[w.heap.size]? = some (.cells (evC ⟨κ, t, n, o1, o2, o3, o4, re, rv, pa, pl, pc, ro, rr⟩).toArray 30 (0, 0)) := by
    rw [heap_alloc_old _ _ (by have := HB1.out.size; simp at this; omega), HB1.out.block _ (by simp), heap_alloc_new]
    rfl
  have nm4 : (w1.alloc (.cells namesC 78)).cell? ⟨w1.heap.size, κ, none⟩ = some (sv (kw κ)) := by
    rw [World.cell?_alloc_at _ _ _ _ rfl]; exact names_at κ (by omega)
  have hg3 : w1.heap.size < (w1.alloc (.cells namesC 78)).heap.size := by simp
  obtain ⟨W4, hW4⟩ : ∃ W4, W4 = w1.alloc (.cells namesC 78) := ⟨_, rfl⟩
  rw [← hW4] at hb4 ev4 nm4 hg3
  unfold namesC at hW4
  rw [← hW4]
  generalize w1.heap.size = g3 at *
  clear HB1 hW4
  have e0 : W4.cell? ⟨w.heap.size, 0, none⟩ = some (.int .i64 (κ : Int)) := by rw [cell_of_row _ _ 0 _ _ _ ev4]; rfl
  have e1 : W4.cell? ⟨w.heap.size, 1, none⟩ = some (.int .i64 t) := by rw [cell_of_row _ _ 1 _ _ _ ev4]; rfl
  have HIT := Lib.hid (fun W => itoa_any t HS.out.t.1 HS.out.t.2 W)
  have HB4 := Lib.hid hb4
  have EV4 := Lib.hid ev4
  clear hb4 ev4
  have ke : ∀ o c, W4.cell? ⟨w.heap.size, c, none⟩ = (W4.alloc o).cell? ⟨w.heap.size, c, none⟩ := fun o c => (((Below.refl W4.heap.size W4).alloc (Nat.le_refl _) o).cell (p := ⟨w.heap.size, c, none⟩) (lt_of EV4.out)).symm
  have kn : ∀ o, W4.cell? ⟨g3, κ, none⟩ = (W4.alloc o).cell? ⟨g3, κ, none⟩ := fun o => (((Below.refl W4.heap.size W4).alloc (Nat.le_refl _) o).cell (p := ⟨g3, κ, none⟩) hg3).symm
  have ke2 : ∀ o o' c, W4.cell? ⟨w.heap.size, c, none⟩ = ((W4.alloc o).alloc o').cell? ⟨w.heap.size, c, none⟩ := fun o o' c => ((((Below.refl W4.heap.size W4).alloc (Nat.le_refl _) o).alloc (by simp) o').cell (p := ⟨w.heap.size, c, none⟩) (lt_of EV4.out)).symm
  have kn2 : ∀ o o', W4.cell? ⟨g3, κ, none⟩ = ((W4.alloc o).alloc o').cell? ⟨g3, κ, none⟩ := fun o o' => ((((Below.refl W4.heap.size W4).alloc (Nat.le_refl _) o).alloc (by simp) o').cell (p := ⟨g3, κ, none⟩) hg3).symm
  unfold sv at *
  have e0a := fun o => (ke o 0).symm.trans e0
  have e1a := fun o => (ke o 1).symm.trans e1
  have nma := fun o => (kn o).symm.trans nm4
  have e0b := fun o o' => (ke2 o o' 0).symm.trans e0
  have e1b := fun o o' => (ke2 o o' 1).symm.trans e1
  have nmb := fun o o' => (kn2 o o').symm.trans nm4
  clear ke kn ke2 kn2
  go_cut [4] from 9 (fun s4 wc => ∃ B, s4 = .pointer (some ⟨B, 0, none⟩) ∧ Wds w.heap.size B wc [kw κ, dd t] ∧ Below w.heap.size w wc ∧ wc.heap[w.heap.size]? = some (.cells (evC ⟨κ, t, n, o1, o2, o3, o4, re, rv, pa, pl, pc, ro, rr⟩).toArray 30 (0, 0)))
  case first =>
    go_region_law (go_simp; go_at_call 24; refine (HIT.out _).mono ?_; rintro e w' ⟨rfl, rfl⟩)
    all_goals (go_wp2_with fail; go_meet)
    all_goals (case rel => first
      | exact ⟨_, rfl, wds_new W4 _ HB4.out.size [kw κ, dd t] 2 rfl (by decide) _ rfl, (by first | exact ((HB4.out.alloc HB4.out.size _).alloc (Nat.le_trans HB4.out.size (by simp)) _) | exact ((HB4.out.alloc HB4.out.size _).alloc (Nat.le_trans HB4.out.size (by simp)) _).drew), by rw [← EV4.out]; exact (((Below.refl W4.heap.size W4).alloc (Nat.le_refl _) _).alloc (by simp) _).block _ (lt_of EV4.out)⟩
      | exact ⟨_, rfl, wds_new2 W4 _ HB4.out.size [kw κ, dd t] 2 rfl (by decide) _ rfl, (by first | exact ((HB4.out.alloc HB4.out.size _).alloc (Nat.le_trans HB4.out.size (by simp)) _) | exact ((HB4.out.alloc HB4.out.size _).alloc (Nat.le_trans HB4.out.size (by simp)) _).drew), by rw [← EV4.out]; exact (((Below.refl W4.heap.size W4).alloc (Nat.le_refl _) _).alloc (by simp) _).block _ (lt_of EV4.out)⟩)
  obtain ⟨B, rfl, hW, hB, hE⟩ := hcut
  clear nm4 e0 e1 e0a e1a nma e0b e1b nmb hg3 HB4 EV4 HIT b1 b2
  have f0 : wc.cell? ⟨w.heap.size, 0, none⟩ = some (.int .i64 (κ : Int)) := by rw [cell_of_row _ _ 0 _ _ _ hE]; rfl
  have f2 : wc.cell? ⟨w.heap.size, 2, none⟩ = some (.int .u64 (n : Int)) := by rw [cell_of_row _ _ 2 _ _ _ hE]; rfl
  have HN := Lib.hid (fun W => fuint_any (n : Int) (by omega) (by have := HS.out.n; simp only at this; omega) W)
  have HW := Lib.hid hW
  have HB := Lib.hid hB
  have HE := Lib.hid hE
  clear hW hB hE
  unfold sv at *
  go_upto_region 8 with (go_at_call 26; refine (HN.out _).mono ?_; rintro e w' ⟨rfl, rfl⟩)
  have hcs : κ = 1 ∨ κ = 2 ∨ κ = 3 ∨ κ = 4 ∨ κ = 5 ∨ κ = 6 := by have := HKK.out; omega
  have hbig : ¬ 9223372036854775807 < (Lib.join WS [32]).length + 1 := by have := join_len _ HWL.out.1; have := HWL.out.2.1; omega
  have HBIG := Lib.hid hbig
  clear hbig
  have hJ := fun (W : World) (B' : Nat) (hw : Wds w.heap.size B' W WS) (a : Option Addr) (cap : Nat) (c1 : W.cell? ⟨B', 0, none⟩ = some (.slice a WS.length cap)) => join_any hw HWL.out.2.2 (by have := HWL.out.2.1; omega) (by have := join_len _ HWL.out.1; have := HWL.out.2.1; omega) c1
  have HJ := Lib.hid hJ
  clear hJ
  rcases hcs with rfl | rfl | rfl | rfl | rfl | rfl
  · obtain ⟨av2, cap2, d1, hown2⟩ := HW.out.c1
    have hbs := HB.out.size
    have hws : WS = [kw 1, dd t, dd n, dd o4] := HWS.out
    have HWS2 := Lib.hid hws
    have hown3 := hown2.alloc (.cells #[.string ⟨(dd (n : Int)).toArray⟩] 9)
    clear hws hown2
    go_wp2_with (at_builtin; refine append_S _ rfl (.tmp 34) (.tmp 36) rfl w.heap.size (.slice av2 2 cap2) 2 (strs [kw 1, dd t]) rfl hown3 ⟨wc.heap.size, 0, none⟩ 1 (.string ⟨(dd (n : Int)).toArray⟩) rfl ?c1 rfl (by decide) ?c5 ?_)
    case c1 => exact Ow.new_row wc [.string ⟨(dd (n : Int)).toArray⟩] _ _ rfl
    case c5 => exact Nat.le_trans hbs (by simp)
    intro v' w2 q1 q2
    obtain ⟨h1, h2, h3, h4, h5⟩ := HW.out.snoc hbs d1 (dd (n : Int)) q1 q2
    obtain ⟨a4, cap4, rfl, _, _, _⟩ := Ow.own_form q1
    have HBW := Lib.hid (HB.out.trans h4)
    have H1 := Lib.hid h1
    have hE2 := h5 _ _ _ _ HE.out (by decide) (by decide)
    have f6 : (w2.setCell ⟨B, 0, none⟩ (.slice a4 (2 + 1) cap4)).cell? ⟨w.heap.size, 6, none⟩ = some (.int .i64 o4) := by rw [cell_of_row _ _ 6 _ _ _ hE2]; rfl
    have f0b : (w2.setCell ⟨B, 0, none⟩ (.slice a4 (2 + 1) cap4)).cell? ⟨w.heap.size, 0, none⟩ = some (.int .i64 1) := by rw [cell_of_row _ _ 0 _ _ _ hE2]; rfl
    clear h1 h4 h5 q1 q2 hE2 hown3 d1 f0 f2
    have hpu0 := put_at H1.out HBW.out.size [o4] 1 rfl (fun x hx => by obtain rfl := List.mem_singleton.1 hx; exact HS.out.o4) (by simp) #[.int .i64 o4] rfl
    rw [show (w2.setCell ⟨B, 0, none⟩ (.slice a4 (2 + 1) cap4)).heap.size = w2.heap.size by simp] at hpu0
    have HPU := Lib.hid hpu0
    clear hpu0
    go_upto_region 23 with (go_at_call 25; refine HPU.out.mono ?_; rintro e w3 ⟨rfl, h1, h4, h5⟩; have H6 := Lib.hid h1; have H4 := Lib.hid h4; clear h1 h4 h5)
    have HBV := Lib.hid (HBW.out.trans H4.out)
    clear HBW
    have HBW := HBV
    have hWd := H6.out
    have hws := HWS2.out
    rw [show [kw 1, dd t] ++ [dd (n : Int)] ++ [o4].map dd = WS from hws.symm] at hWd
    clear HWS2 H1 H6 f6 f0b HPU h2 h3
    obtain ⟨av, cap, c1, _⟩ := hWd.c1; have HJJ := Lib.hid (HJ.out _ _ hWd _ _ c1); have hbig := HBIG.out; clear hWd hws HJ HBIG; generalize Lib.join WS [32] = JS at *; unfold sv at *; go_wp2_with (go_at_call 27; refine HJJ.out.mono ?_; rintro e w5 ⟨rfl, hb5⟩; have HB5 := Lib.hid hb5; clear hb5); go_ret; exact ⟨by rw [HLN.out]; unfold sv; exact congrArg Ending.returned (bcat JS 10), HBW.out.trans (HB5.out.mono HBW.out.size)⟩
  · have f3 : wc.cell? ⟨w.heap.size, 3, none⟩ = some (.int .i64 o1) := by rw [cell_of_row _ _ 3 _ _ _ HE.out]; rfl
    have f4 : wc.cell? ⟨w.heap.size, 4, none⟩ = some (.int .i64 o2) := by rw [cell_of_row _ _ 4 _ _ _ HE.out]; rfl
    have f5 : wc.cell? ⟨w.heap.size, 5, none⟩ = some (.int .i64 o3) := by rw [cell_of_row _ _ 5 _ _ _ HE.out]; rfl
    have f6 : wc.cell? ⟨w.heap.size, 6, none⟩ = some (.int .i64 o4) := by rw [cell_of_row _ _ 6 _ _ _ HE.out]; rfl
    have f7 : wc.cell? ⟨w.heap.size, 7, none⟩ = some (.int .i64 re) := by rw [cell_of_row _ _ 7 _ _ _ HE.out]; rfl
    have f8 : wc.cell? ⟨w.heap.size, 8, none⟩ = some (.int .i64 rv) := by rw [cell_of_row _ _ 8 _ _ _ HE.out]; rfl
    have hws : WS = [kw 2, dd t] ++ [o1, o2, o3, o4, re, rv].map dd ++ ps.map (fun (p : Int × Int) => dd p.1 ++ [61] ++ dd p.2) := HWS.out
    have HPU := Lib.hid (put_at HW.out HB.out.size [o1, o2, o3, o4, re, rv] 6 rfl (fun x hx => by simp at hx; rcases hx with rfl | rfl | rfl | rfl | rfl | rfl <;> first | exact HS.out.o1 | exact HS.out.o2 | exact HS.out.o3 | exact HS.out.o4 | exact HS.out.re | exact HS.out.rv) (by simp) #[.int .i64 o1, .int .i64 o2, .int .i64 o3, .int .i64 o4, .int .i64 re, .int .i64 rv] rfl)
    have HWS2 := Lib.hid hws
    clear hws
    go_upto_region 13 with (go_at_call 25; refine HPU.out.mono ?_; rintro e w2 ⟨rfl, h1, h4, h5⟩; have H1 := Lib.hid h1; have H4 := Lib.hid h4; have H5 := Lib.hid h5; clear h1 h4 h5)
    have HBW := Lib.hid (HB.out.trans H4.out)
    have f9 : w2.cell? ⟨w.heap.size, 9, none⟩ = some (.slice pa pl pc) := by rw [cell_of_row _ _ 9 _ _ _ (H5.out _ _ _ _ HE.out (by decide) (by decide))]; rfl
    clear f0 f2 f3 f4 f5 f6 f7 f8 HPU H4 H5 HE
    obtain ⟨p1, p2, p3, p4, p5, p6⟩ := HP.out
    simp only at p1 p2 p3 p4 p5 p6
    have P1 := Lib.hid p1
    have P5 := Lib.hid p5
    have P6 := Lib.hid p6
    clear p1 p5 p6 HP
    generalize hPR : [kw 2, dd t] ++ [o1, o2, o3, o4, re, rv].map dd = PR at *
    have hPRl : PR.length = 8 := by rw [← hPR]; rfl
    clear hPR
    go_wp2_with fail
    go_loopw [71] (fun b wr => ∃ (k : Nat), b = .int .i64 (k : Int) ∧ k ≤ pl ∧ Wds w.heap.size B wr (PR ++ (ps.take k).map (fun (p : Int × Int) => dd p.1 ++ [61] ++ dd p.2)) ∧ Below w.heap.size w wr) (fun b _ => match b with | .int _ i => pl - i.toNat | _ => 0)
    case atStart => exact ⟨0, rfl, Nat.zero_le _, by simpa using H1.out, HBW.out⟩
    case round =>
      obtain ⟨k, rfl, hk, hW, hB⟩ := hrel
      by_cases hend : k = pl
      · have b2 : ¬ ((k : Int) < (pl : Int)) := by omega
        have hWd := hW
        rw [hend, ← P1.out, List.take_length] at hWd
        have hws := HWS2.out
        rw [← hws] at hWd
        clear HBW
        have HBW := Lib.hid hB
        clear hW hB hend hk HWS2
        obtain ⟨av, cap, c1, _⟩ := hWd.c1; have HJJ := Lib.hid (HJ.out _ _ hWd _ _ c1); have hbig := HBIG.out; clear hWd hws HJ HBIG; generalize Lib.join WS [32] = JS at *; unfold sv at *; go_wp2_with (go_at_call 27; refine HJJ.out.mono ?_; rintro e w5 ⟨rfl, hb5⟩; have HB5 := Lib.hid hb5; clear hb5); go_ret; exact ⟨by rw [HLN.out]; unfold sv; exact congrArg Ending.returned (bcat JS 10), HBW.out.trans (HB5.out.mono HBW.out.size)⟩
      · have hlt : k < pl := by omega
        have hkl : k < ps.length := by rw [P1.out]; exact hlt
        have hx := List.getElem?_eq_getElem hkl
        have hs := P5.out _ (List.getElem_mem hkl)
        obtain ⟨g, off, rfl, hg, hcell⟩ : ∃ g off, pa = some ⟨g, off, none⟩ ∧ g < w.heap.size ∧ ∀ i p, ps[i]? = some p → w.cell? ⟨g, off + i * 2, none⟩ = some (.int .i64 p.1) ∧ w.cell? ⟨g, off + i * 2 + 1, none⟩ = some (.int .i64 p.2) := by
          rcases P6.out with h | h
          · omega
          · exact h
        obtain ⟨c0, c1⟩ := hcell k _ hx
        rw [← hB.cell (p := ⟨g, off + k * 2, none⟩) hg] at c0
        rw [← hB.cell (p := ⟨g, off + k * 2 + 1, none⟩) hg] at c1
        have htake : (ps.take (k + 1)).map (fun (p : Int × Int) => dd p.1 ++ [61] ++ dd p.2) = (ps.take k).map (fun (p : Int × Int) => dd p.1 ++ [61] ++ dd p.2) ++ [dd ps[k].1 ++ [61] ++ dd ps[k].2] := by rw [List.take_add_one, hx, List.map_append]; rfl
        generalize ps[k] = pp at *
        obtain ⟨x, y⟩ := pp
        simp only at c0 c1 hs htake
        have hlenk : (PR ++ (ps.take k).map (fun (p : Int × Int) => dd p.1 ++ [61] ++ dd p.2)).length < 100000 := by simp; omega
        generalize hS : PR ++ (ps.take k).map (fun (p : Int × Int) => dd p.1 ++ [61] ++ dd p.2) = S at *
        obtain ⟨av, cv, d1, hown⟩ := hW.c1
        have lx := dd_len x hs.1.1 hs.1.2
        have ly := dd_len y hs.2.1 hs.2.2
        have bx : ¬ 9223372036854775807 < (dd x).length + 1 := by omega
        have bxy : ¬ 9223372036854775807 < (dd x).length + 1 + (dd y).length := by omega
        have HIX := Lib.hid (fun W => itoa_any x hs.1.1 hs.1.2 W)
        have HIY := Lib.hid (fun W => itoa_any y hs.2.1 hs.2.2 W)
        have b1 : (k : Int) < (pl : Int) := by omega
        have b2 : (0 : Int) ≤ (k : Int) := by omega
        have HSS := Lib.hid hS
        have HTAKE := Lib.hid htake
        have HW2 := Lib.hid hW
        have HB2 := Lib.hid hB
        have HLT := Lib.hid hlt
        have HOWN := Lib.hid hown
        clear hS htake hW hB hlt hown hcell hx hkl hs hend hk lx ly HWS2
        unfold sv at *
        generalize dd x = X at *
        generalize dd y = Y at *
        have hu := bcat3 X Y
        obtain ⟨u, huu⟩ : ∃ u, u = Value.string ((⟨X.toArray⟩ : ByteArray) ++ ⟨#[61]⟩ ++ ⟨Y.toArray⟩) := ⟨_, rfl⟩
        rw [← huu] at hu
        have hWa := HW2.out.alloc (.cells #[.int .i64 x, .int .i64 y] 51)
        have hbs : w.heap.size ≤ (wr.alloc (.cells #[.int .i64 x, .int .i64 y] 51)).heap.size := Nat.le_trans HB2.out.size (by simp)
        have d2 : (wr.alloc (.cells #[.int .i64 x, .int .i64 y] 51)).cell? ⟨B, 0, none⟩ = some (.slice av S.length cv) := by
          rw [((Below.refl wr.heap.size wr).alloc (Nat.le_refl _) _).cell (p := ⟨B, 0, none⟩) HW2.out.lt]; exact d1
        have d3 : ∀ o, ((wr.alloc (.cells #[.int .i64 x, .int .i64 y] 51)).alloc o).cell? ⟨B, 0, none⟩ = some (.slice av S.length cv) := fun o => by
          rw [(((Below.refl wr.heap.size wr).alloc (Nat.le_refl _) _).alloc (by simp) _).cell (p := ⟨B, 0, none⟩) HW2.out.lt]; exact d1
        have hsn := fun (v' : Value) (w2 : World) (q1 : w2.ownsRow w.heap.size 9 1 v' (S.length + 1) (strs S ++ [u])) (q2 : ((wr.alloc (.cells #[.int .i64 x, .int .i64 y] 51)).alloc (.cells #[u] 9)).grownBy w2 (Value.slice av S.length cv).ownBlock) => hWa.snoc hbs d2 (X ++ [61] ++ Y) (by unfold sv; rw [← hu]; exact q1) q2
        have hown' : ∀ W : World, W.heap = ((wr.alloc (.cells #[.int .i64 x, .int .i64 y] 51)).alloc (.cells #[u] 9)).heap → W.ownsRow w.heap.size 9 1 (.slice av S.length cv) S.length (strs S) := fun W hW => own_same ((HOWN.out.alloc _).alloc (.cells #[u] 9)) (fun g _ => by rw [hW])
        have hbs2 : w.heap.size ≤ wr.heap.size + 1 + 1 := by have := HB2.out.size; omega
        have hrn := fun (W : World) (hW : W.heap = ((wr.alloc (.cells #[.int .i64 x, .int .i64 y] 51)).alloc (.cells #[u] 9)).heap) => row_new2 (wr.alloc (.cells #[.int .i64 x, .int .i64 y] 51)) u 9 W (wr.heap.size + 1) (by simp) hW
        rw [huu] at hsn hown' hrn
        have HSN := Lib.hid hsn
        have HOW := Lib.hid hown'
        have HRN := Lib.hid hrn
        clear hsn hown' hrn hu huu hWa hbs
        have hl2 : S.length < 1000000 := by omega
        go_wp2_with fail
        go_region_law (first | (refine wp_append_S _ (.tmp 75) (.tmp 84) rfl w.heap.size (.slice av S.length cv) S.length (strs S) rfl (HOW.out _ rfl) (.slice (some ⟨wr.heap.size + 1, 0, none⟩) 1 1) (.string ((⟨X.toArray⟩ : ByteArray) ++ ⟨#[61]⟩ ++ ⟨Y.toArray⟩)) rfl (by refine HRN.out _ ?_; rfl) rfl hl2 (by simpa using hbs2) ?_; intro v' w2 q1 q2; obtain ⟨h1, h2, h3, h4, h5⟩ := HSN.out v' w2 q1 (by obtain ⟨z1, z2, z3, z4, z5⟩ := q2; exact ⟨z1, z2, z3, z4, z5⟩); obtain ⟨a4, cap4, rfl, _, _, _⟩ := Ow.own_form q1; have H6 := Lib.hid h1; have H4 := Lib.hid h4; clear h1 h4 h5 q1 q2) | (go_simp; go_at_call_of 24 x; refine (HIX.out _).mono ?_; rintro e w' ⟨rfl, rfl⟩) | (go_simp; go_at_call_of 24 y; refine (HIY.out _).mono ?_; rintro e w' ⟨rfl, rfl⟩))
        all_goals (go_wp2_with fail; refine ⟨⟨k + 1, by rw [Int.natCast_add]; rfl, HLT.out, by rw [HTAKE.out, ← List.append_assoc, HSS.out]; exact H6.out, (HB2.out.alloc HB2.out.size _).trans (H4.out)⟩, ?_⟩; simp only; have := HLT.out; omega)
  · obtain ⟨av2, cap2, d1, hown2⟩ := HW.out.c1
    have hbs := HB.out.size
    have hws : WS = [kw 3, dd t, dd n] := HWS.out
    have HWS2 := Lib.hid hws
    have hown3 := hown2.alloc (.cells #[.string ⟨(dd (n : Int)).toArray⟩] 9)
    clear hws hown2
    go_wp2_with (at_builtin; refine append_S _ rfl (.tmp 90) (.tmp 92) rfl w.heap.size (.slice av2 2 cap2) 2 (strs [kw 3, dd t]) rfl hown3 ⟨wc.heap.size, 0, none⟩ 1 (.string ⟨(dd (n : Int)).toArray⟩) rfl ?c1 rfl (by decide) ?c5 ?_)
    case c1 => exact Ow.new_row wc [.string ⟨(dd (n : Int)).toArray⟩] _ _ rfl
    case c5 => exact Nat.le_trans hbs (by simp)
    intro v' w2 q1 q2
    obtain ⟨h1, h2, h3, h4, h5⟩ := HW.out.snoc hbs d1 (dd (n : Int)) q1 q2
    obtain ⟨a4, cap4, rfl, _, _, _⟩ := Ow.own_form q1
    have HBW := Lib.hid (HB.out.trans h4)
    have H1 := Lib.hid h1
    have hE2 := h5 _ _ _ _ HE.out (by decide) (by decide)
    have f6 : (w2.setCell ⟨B, 0, none⟩ (.slice a4 (2 + 1) cap4)).cell? ⟨w.heap.size, 6, none⟩ = some (.int .i64 o4) := by rw [cell_of_row _ _ 6 _ _ _ hE2]; rfl
    have f0b : (w2.setCell ⟨B, 0, none⟩ (.slice a4 (2 + 1) cap4)).cell? ⟨w.heap.size, 0, none⟩ = some (.int .i64 3) := by rw [cell_of_row _ _ 0 _ _ _ hE2]; rfl
    clear h1 h4 h5 q1 q2 hE2 hown3 d1 f0 f2
    have hWd := H1.out
    have hws := HWS2.out
    rw [show [kw 3, dd t] ++ [dd (n : Int)] = WS from hws.symm] at hWd
    clear HWS2 H1
    obtain ⟨av, cap, c1, _⟩ := hWd.c1; have HJJ := Lib.hid (HJ.out _ _ hWd _ _ c1); have hbig := HBIG.out; clear hWd hws HJ HBIG; generalize Lib.join WS [32] = JS at *; unfold sv at *; go_wp2_with (go_at_call 27; refine HJJ.out.mono ?_; rintro e w5 ⟨rfl, hb5⟩; have HB5 := Lib.hid hb5; clear hb5); go_ret; exact ⟨by rw [HLN.out]; unfold sv; exact congrArg Ending.returned (bcat JS 10), HBW.out.trans (HB5.out.mono HBW.out.size)⟩
  · obtain ⟨av2, cap2, d1, hown2⟩ := HW.out.c1
    have hbs := HB.out.size
    have hws : WS = [kw 4, dd t, dd n] := HWS.out
    have HWS2 := Lib.hid hws
    have hown3 := hown2.alloc (.cells #[.string ⟨(dd (n : Int)).toArray⟩] 9)
    clear hws hown2
    go_wp2_with (at_builtin; refine append_S _ rfl (.tmp 90) (.tmp 92) rfl w.heap.size (.slice av2 2 cap2) 2 (strs [kw 4, dd t]) rfl hown3 ⟨wc.heap.size, 0, none⟩ 1 (.string ⟨(dd (n : Int)).toArray⟩) rfl ?c1 rfl (by decide) ?c5 ?_)
    case c1 => exact Ow.new_row wc [.string ⟨(dd (n : Int)).toArray⟩] _ _ rfl
    case c5 => exact Nat.le_trans hbs (by simp)
    intro v' w2 q1 q2
    obtain ⟨h1, h2, h3, h4, h5⟩ := HW.out.snoc hbs d1 (dd (n : Int)) q1 q2
    obtain ⟨a4, cap4, rfl, _, _, _⟩ := Ow.own_form q1
    have HBW := Lib.hid (HB.out.trans h4)
    have H1 := Lib.hid h1
    have hE2 := h5 _ _ _ _ HE.out (by decide) (by decide)
    have f6 : (w2.setCell ⟨B, 0, none⟩ (.slice a4 (2 + 1) cap4)).cell? ⟨w.heap.size, 6, none⟩ = some (.int .i64 o4) := by rw [cell_of_row _ _ 6 _ _ _ hE2]; rfl
    have f0b : (w2.setCell ⟨B, 0, none⟩ (.slice a4 (2 + 1) cap4)).cell? ⟨w.heap.size, 0, none⟩ = some (.int .i64 4) := by rw [cell_of_row _ _ 0 _ _ _ hE2]; rfl
    clear h1 h4 h5 q1 q2 hE2 hown3 d1 f0 f2
    have hWd := H1.out
    have hws := HWS2.out
    rw [show [kw 4, dd t] ++ [dd (n : Int)] = WS from hws.symm] at hWd
    clear HWS2 H1
    obtain ⟨av, cap, c1, _⟩ := hWd.c1; have HJJ := Lib.hid (HJ.out _ _ hWd _ _ c1); have hbig := HBIG.out; clear hWd hws HJ HBIG; generalize Lib.join WS [32] = JS at *; unfold sv at *; go_wp2_with (go_at_call 27; refine HJJ.out.mono ?_; rintro e w5 ⟨rfl, hb5⟩; have HB5 := Lib.hid hb5; clear hb5); go_ret; exact ⟨by rw [HLN.out]; unfold sv; exact congrArg Ending.returned (bcat JS 10), HBW.out.trans (HB5.out.mono HBW.out.size)⟩
  · have hWd := HW.out
    have hws : WS = [kw 5, dd t] := HWS.out
    rw [← hws] at hWd
    have HBW := HB
    obtain ⟨av, cap, c1, _⟩ := hWd.c1; have HJJ := Lib.hid (HJ.out _ _ hWd _ _ c1); have hbig := HBIG.out; clear hWd hws HJ HBIG; generalize Lib.join WS [32] = JS at *; unfold sv at *; go_wp2_with (go_at_call 27; refine HJJ.out.mono ?_; rintro e w5 ⟨rfl, hb5⟩; have HB5 := Lib.hid hb5; clear hb5); go_ret; exact ⟨by rw [HLN.out]; unfold sv; exact congrArg Ending.returned (bcat JS 10), HBW.out.trans (HB5.out.mono HBW.out.size)⟩
  · have f11 : wc.cell? ⟨w.heap.size, 11, none⟩ = some (.int .i64 rr) := by rw [cell_of_row _ _ 11 _ _ _ HE.out]; rfl
    have hws : WS = [kw 6, dd t, dd rr] := HWS.out
    have HPU := Lib.hid (put_at HW.out HB.out.size [rr] 1 rfl (fun x hx => by obtain rfl := List.mem_singleton.1 hx; exact HS.out.rr) (by simp) #[.int .i64 rr] rfl)
    have HWS2 := Lib.hid hws
    clear hws
    go_upto_region 23 with (go_at_call 25; refine HPU.out.mono ?_; rintro e w2 ⟨rfl, h1, h4, h5⟩; have H1 := Lib.hid h1; have H4 := Lib.hid h4; clear h1 h4 h5)
    have HBW := Lib.hid (HB.out.trans H4.out)
    have hWd := H1.out
    have hws := HWS2.out
    rw [show [kw 6, dd t] ++ [rr].map dd = WS from hws.symm] at hWd
    clear HWS2 H1 f0 f2 f11
    obtain ⟨av, cap, c1, _⟩ := hWd.c1; have HJJ := Lib.hid (HJ.out _ _ hWd _ _ c1); have hbig := HBIG.out; clear hWd hws HJ HBIG; generalize Lib.join WS [32] = JS at *; unfold sv at *; go_wp2_with (go_at_call 27; refine HJJ.out.mono ?_; rintro e w5 ⟨rfl, hb5⟩; have HB5 := Lib.hid hb5; clear hb5); go_ret; exact ⟨by rw [HLN.out]; unfold sv; exact congrArg Ending.returned (bcat JS 10), HBW.out.trans (HB5.out.mono HBW.out.size)⟩
end Go.Proofs.YtehjlpipnaaifaaDoor.Tl
