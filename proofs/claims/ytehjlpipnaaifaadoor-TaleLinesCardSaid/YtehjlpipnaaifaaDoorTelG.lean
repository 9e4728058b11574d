/- The teller's take at a begin. -/
import Derived.Test.YtehjlpipnaaifaaDoorTelF
import Derived.BigRegion
namespace Go.Proofs.YtehjlpipnaaifaaDoor.Tl
open Go.ChangeShapes Go.WideShapes Go.ChangeAt Go.RowKit
set_option linter.unusedVariables false
set_option linter.unusedSimpArgs false
set_option maxRecDepth 100000
set_option maxHeartbeats 2000000

theorem cell_congr {w w' : World} {b k : Nat} (h : w'.heap[b]? = w.heap[b]?) : w'.cell? ⟨b, k, none⟩ = w.cell? ⟨b, k, none⟩ := by
  unfold World.cell?
  simp only [h]
theorem take_begin {w : World} {base gt : Nat} {lv : Value} {its : List It} {last : Nat} (h : Tel w base gt lv its last) (hbase : base ≤ w.heap.size) (hm : its.length ≤ 20000) (e : Er) (hk : e.k = 1) :
    Calls Tryd.prog 12 #[.pointer (some ⟨gt, 0, none⟩), evV e] w (Took base gt w (xs its) last e.ev) := by
  have hT : takeM (xs its) last e.ev = (if e.t = ((xs its).length : Int) + 1 ∧ last < e.n then some (xs its ++ [⟨0, 1, []⟩], e.n) else none) := by
    have : takeM (xs its) last ⟨e.k, e.t, e.n⟩ = (if e.t = ((xs its).length : Int) + 1 ∧ last < e.n then some (xs its ++ [⟨0, 1, []⟩], e.n) else none) := by
      unfold takeM; simp only [if_pos hk]
    exact this
  unfold Took
  rw [hT, xs_len]
  clear hT
  obtain ⟨R, hR⟩ : ∃ R, R = (if e.t = (its.length : Int) + 1 ∧ last < e.n then some (xs its ++ [⟨0, 1, []⟩], e.n) else none) := ⟨_, rfl⟩
  rw [← hR]
  have HR := Lib.hid hR
  clear hR
  obtain ⟨k, t, n, o1, o2, o3, o4, re, rv, pa, pl, pc, ro, rr⟩ := e
  unfold evV evC
  simp only at *
  subst hk
  obtain ⟨a, cap, hlv, hc1, hc2, hat⟩ := h.form
  have hA := h.alloc (.cells #[.int .i64 1, .int .i64 t, .int .u64 (n : Int), .int .i64 o1, .int .i64 o2, .int .i64 o3, .int .i64 o4, .int .i64 re, .int .i64 rv, .slice pa pl pc, .int .i64 ro, .int .i64 rr] 30)
  have k0 := hA.c0
  rw [hlv] at k0
  clear hat
  have HA := Lib.hid hA
  have HLV := Lib.hid hlv
  have HBASE := Lib.hid hbase
  clear hA h hlv hbase
  go_enter Tryd.func12, Tryd.ntmps12
  have hbase := HBASE.out
  have hown0 := HLV.out ▸ HA.out.row
  have hown3 := (hown0.alloc (.cells #[.int .u64 0, .int .i64 1, .slice none 0 0] 73)).alloc (.cells #[.pointer (some ⟨w.heap.size + 1, 0, none⟩)] 71)
  go_wp2_with (at_builtin; refine append_P _ rfl (.tmp 13) (.tmp 16) rfl base (.slice a its.length cap) its.length (ptrs its) rfl hown3 ⟨w.heap.size + 1 + 1, 0, none⟩ 1 [.pointer (some ⟨w.heap.size + 1, 0, none⟩)] rfl rfl ?c1 (by intro u hu; obtain rfl := List.mem_singleton.1 hu; rfl) (by omega) ?c5 ?_)
  case c1 => exact Ow.new_row ((w.alloc _).alloc _) [.pointer (some ⟨w.heap.size + 1, 0, none⟩)] _ _ (by simp)
  case c5 => simp; omega
  intro v' w2 hown2 hg2
  have hnb : ∀ k, k < w.heap.size + 2 → some k ≠ (Value.slice a its.length cap).ownBlock → w2.heap[k]? = (((w.alloc (.cells #[.int .i64 1, .int .i64 t, .int .u64 (n : Int), .int .i64 o1, .int .i64 o2, .int .i64 o3, .int .i64 o4, .int .i64 re, .int .i64 rv, .slice pa pl pc, .int .i64 ro, .int .i64 rr] 30)).alloc (.cells #[.int .u64 0, .int .i64 1, .slice none 0 0] 73)).alloc (.cells #[.pointer (some ⟨w.heap.size + 1, 0, none⟩)] 71)).heap[k]? := fun k hk h => hg2.block k (by simp; omega) h
  have hA := HA.out
  have hltgt : gt < w.heap.size + 1 := by have := lt_of hA.te; simpa using this
  have hown3lt : ∀ g, (Value.slice a its.length cap).ownBlock = some g → ∃ cur, (w.alloc (.cells #[.int .i64 1, .int .i64 t, .int .u64 (n : Int), .int .i64 o1, .int .i64 o2, .int .i64 o3, .int .i64 o4, .int .i64 re, .int .i64 rv, .slice pa pl pc, .int .i64 ro, .int .i64 rr] 30)).heap[g]? = some (.cells cur 71 (0, 0)) := fun g hg => own_blk hown0 hg
  have hevb : (w.alloc (.cells #[.int .i64 1, .int .i64 t, .int .u64 (n : Int), .int .i64 o1, .int .i64 o2, .int .i64 o3, .int .i64 o4, .int .i64 re, .int .i64 rv, .slice pa pl pc, .int .i64 ro, .int .i64 rr] 30)).heap[w.heap.size]? = some (.cells #[.int .i64 1, .int .i64 t, .int .u64 (n : Int), .int .i64 o1, .int .i64 o2, .int .i64 o3, .int .i64 o4, .int .i64 re, .int .i64 rv, .slice pa pl pc, .int .i64 ro, .int .i64 rr] 30 (0, 0)) := heap_alloc_new w _
  have ngt : some gt ≠ (Value.slice a its.length cap).ownBlock := by
    intro e
    obtain ⟨cur, hcur⟩ := hown3lt _ e.symm
    exact ty_ne hA.te hcur (by decide) rfl
  have nev : some w.heap.size ≠ (Value.slice a its.length cap).ownBlock := by
    intro e
    obtain ⟨cur, hcur⟩ := hown3lt _ e.symm
    exact ty_ne hevb hcur (by decide) rfl
  have nnew : some (w.heap.size + 1) ≠ (Value.slice a its.length cap).ownBlock := by
    intro e
    obtain ⟨cur, hcur⟩ := hown3lt _ e.symm
    have := lt_of hcur
    simp at this
  have blkgt : w2.heap[gt]? = some (.cells #[lv, .int .u64 (last : Int)] 46 (0, 0)) := by
    rw [hnb gt (by omega) ngt, heap_alloc_old _ _ (by simp; omega), heap_alloc_old _ _ (by simp; omega)]
    exact hA.te
  have blkev : w2.heap[w.heap.size]? = some (.cells #[.int .i64 1, .int .i64 t, .int .u64 (n : Int), .int .i64 o1, .int .i64 o2, .int .i64 o3, .int .i64 o4, .int .i64 re, .int .i64 rv, .slice pa pl pc, .int .i64 ro, .int .i64 rr] 30 (0, 0)) := by
    rw [hnb _ (by omega) nev, heap_alloc_old _ _ (by simp; omega), heap_alloc_old _ _ (by simp)]
    exact hevb
  have blknew : w2.heap[w.heap.size + 1]? = some (.cells #[.int .u64 0, .int .i64 1, .slice none 0 0] 73 (0, 0)) := by
    rw [hnb _ (by omega) nnew, heap_alloc_old _ _ (by simp)]
    have := heap_alloc_new (w.alloc (.cells #[.int .i64 1, .int .i64 t, .int .u64 (n : Int), .int .i64 o1, .int .i64 o2, .int .i64 o3, .int .i64 o4, .int .i64 re, .int .i64 rv, .slice pa pl pc, .int .i64 ro, .int .i64 rr] 30)) (.cells #[.int .u64 0, .int .i64 1, .slice none 0 0] 73)
    simpa using this
  have hgtne : gt ≠ w.heap.size := ty_ne hA.te hevb (by decide)
  have hT5 : Tel (w2.setCell ⟨gt, 0, none⟩ v') base gt v' (its ++ [⟨⟨0, 1, []⟩, w.heap.size + 1, .slice none 0 0⟩]) last := by
    refine hA.push ⟨⟨0, 1, []⟩, w.heap.size + 1, .slice none 0 0⟩ ?_ (own_same hown2 fun g hg => ?_) (fun k hk h1 h2 => ?_) ⟨by show base ≤ w.heap.size + 1; omega, ?_, ?_⟩ (by simp) rfl
    · rw [heap_setCell_same w2 gt 0 _ _ _ blkgt]; rfl
    · obtain ⟨cur, hcur⟩ := own_blk hown2 hg
      exact heap_setCell_other _ _ _ _ (ty_ne hcur blkgt (by decide))
    · rw [heap_setCell_other _ _ _ _ h1]
      have hk' : k < w.heap.size + 1 := by simpa using hk
      rw [hnb k (by omega) (by rw [HLV.out] at h2; exact h2), heap_alloc_old _ _ (by simp; omega), heap_alloc_old _ _ (by simp; omega)]
    · show (w2.setCell ⟨gt, 0, none⟩ v').heap[w.heap.size + 1]? = _
      rw [heap_setCell_other _ _ _ _ (by show w.heap.size + 1 ≠ gt; omega)]
      exact blknew
    · exact World.ownsRow_nil _ _ _ _
  have hB5 : Below base w (w2.setCell ⟨gt, 0, none⟩ v') := by
    have q : Below base w (((w.alloc (.cells #[.int .i64 1, .int .i64 t, .int .u64 (n : Int), .int .i64 o1, .int .i64 o2, .int .i64 o3, .int .i64 o4, .int .i64 re, .int .i64 rv, .slice pa pl pc, .int .i64 ro, .int .i64 rr] 30)).alloc (.cells #[.int .u64 0, .int .i64 1, .slice none 0 0] 73)).alloc (.cells #[.pointer (some ⟨w.heap.size + 1, 0, none⟩)] 71)) := (((Below.refl _ _).alloc hbase _).alloc (by simp; omega) _).alloc (by simp; omega) _
    exact (q.grown hg2 (by simp; omega) (fun k hk => (hown0.lt k hk).1)).setCell (p := ⟨gt, 0, none⟩) hA.hb _
  have e1 : (w2.setCell ⟨gt, 0, none⟩ v').cell? ⟨w.heap.size, 1, none⟩ = some (.int .i64 t) := by
    rw [cell_of_row _ w.heap.size 1 _ _ _ (by rw [heap_setCell_other _ _ _ _ (fun e => hgtne e.symm)]; exact blkev)]; rfl
  have e2 : (w2.setCell ⟨gt, 0, none⟩ v').cell? ⟨w.heap.size, 2, none⟩ = some (.int .u64 (n : Int)) := by
    rw [cell_of_row _ w.heap.size 2 _ _ _ (by rw [heap_setCell_other _ _ _ _ (fun e => hgtne e.symm)]; exact blkev)]; rfl
  have fz := frozen_of_row w2 gt 0 _ _ blkgt
  have c0 : w2.cell? ⟨gt, 0, none⟩ = some lv := by rw [cell_of_row _ gt 0 _ _ _ blkgt]; rfl
  obtain ⟨a4, cap4, rfl, h41, h42, _⟩ := Ow.own_form hown2
  have k5 := hT5.c0
  have HT := Lib.hid hT5
  have HB := Lib.hid hB5
  clear hT5 hB5 hown2 hown3 hown0 hg2 hnb hown3lt hevb ngt nev nnew blkgt blkev blknew k0 hA
  go_wp2_with fail
  generalize w2.setCell ⟨gt, 0, none⟩ (.slice a4 (its.length + 1) cap4) = w5 at *
  clear c0 fz
  by_cases ht : t = (its.length : Int) + 1
  · by_cases hlt : last < n
    · have hR : R = some (xs its ++ [⟨0, 1, []⟩], n) := by rw [HR.out, if_pos ⟨ht, hlt⟩]
      have hL := HT.out.last n
      have hBL := HB.out.setCell (p := ⟨gt, 1, none⟩) HT.out.hb (.int .u64 (n : Int))
      have d1 : (t == (its.length : Int) + 1) = true := by simpa using ht
      have d2 : decide (t = (its.length : Int) + 1) = true := by simpa using ht
      have d3 : (t == ((its.length + 1 : Nat) : Int)) = true := by simpa using ht
      clear HA HLV HR ht
      generalize its.length = len at *
      have HS : ∀ q, (fun w0 => w0.cell? ⟨gt, 0, none⟩ = some (.slice a4 (len + 1) cap4) ∧ w0.cell? ⟨w.heap.size, 1, none⟩ = some (.int .i64 t) ∧ w0.cell? ⟨w.heap.size, 2, none⟩ = some (.int .u64 (n : Int))) ((w5.drewN q).setCell ⟨gt, 1, none⟩ (.int .u64 (n : Int))) := fun q => by
        refine ⟨((HT.out.drewN q).last n).c0, ?_, ?_⟩
        · rw [cell_congr (heap_setCell_other (w5.drewN q) ⟨gt, 1, none⟩ w.heap.size _ (fun e => hgtne e.symm))]; exact e1
        · rw [cell_congr (heap_setCell_other (w5.drewN q) ⟨gt, 1, none⟩ w.heap.size _ (fun e => hgtne e.symm))]; exact e2
      refine wp_region_held_drew (S := (fun w0 => w0.cell? ⟨gt, 0, none⟩ = some (.slice a4 (len + 1) cap4) ∧ w0.cell? ⟨w.heap.size, 1, none⟩ = some (.int .i64 t) ∧ w0.cell? ⟨w.heap.size, 2, none⟩ = some (.int .u64 (n : Int)))) (by kernel_rfl) ?_ (fun hHeld => ?_)
      · (try dsimp only); exact ⟨k5, e1, e2⟩
      refine wpAnyH_take (i := 0) (v := ?_) rfl (by kernel_rfl) (by kernel_rfl) (by kernel_rfl) (fun _ _ _ h => h) (Or.inl ⟨by rfl, ?_⟩) hHeld ?_
      rotate_left
      · (intro w hSw; (try dsimp only at hSw); go_simp; (try with_reducible rfl))
      (try simp only [List.getElem_toArray, List.getElem_cons_succ, List.getElem_cons_zero, Act.put, List.setIfInBounds_toArray, List.set_cons_zero, List.set_cons_succ])
      refine wpAnyH_take (i := 1) (v := ?_) rfl (by kernel_rfl) (by kernel_rfl) (by kernel_rfl) (fun _ _ _ h => h) (Or.inl ⟨by rfl, ?_⟩) hHeld ?_
      rotate_left
      · (intro w hSw; (try dsimp only at hSw); go_simp; (try with_reducible rfl))
      (try simp only [List.getElem_toArray, List.getElem_cons_succ, List.getElem_cons_zero, Act.put, List.setIfInBounds_toArray, List.set_cons_zero, List.set_cons_succ])
      refine wpAnyH_take (i := 2) (v := ?_) rfl (by kernel_rfl) (by kernel_rfl) (by kernel_rfl) (fun _ _ _ h => h) (Or.inl ⟨by rfl, ?_⟩) hHeld ?_
      rotate_left
      · (intro w hSw; (try dsimp only at hSw); go_simp; (try with_reducible rfl))
      (try simp only [List.getElem_toArray, List.getElem_cons_succ, List.getElem_cons_zero, Act.put, List.setIfInBounds_toArray, List.set_cons_zero, List.set_cons_succ])
      refine wpAnyH_take (i := 3) (v := ?_) rfl (by kernel_rfl) (by kernel_rfl) (by kernel_rfl) (fun _ _ _ h => h) (Or.inl ⟨by rfl, ?_⟩) hHeld ?_
      rotate_left
      · (intro w hSw; (try dsimp only at hSw); go_simp; (try with_reducible rfl))
      (try simp only [List.getElem_toArray, List.getElem_cons_succ, List.getElem_cons_zero, Act.put, List.setIfInBounds_toArray, List.set_cons_zero, List.set_cons_succ])
      refine wpAnyH_take (i := 4) (v := ?_) rfl (by kernel_rfl) (by kernel_rfl) (by kernel_rfl) (fun _ _ _ h => h) (Or.inl ⟨by rfl, ?_⟩) hHeld ?_
      rotate_left
      · (intro w hSw; (try dsimp only at hSw); go_simp; (try with_reducible rfl))
      (try simp only [List.getElem_toArray, List.getElem_cons_succ, List.getElem_cons_zero, Act.put, List.setIfInBounds_toArray, List.set_cons_zero, List.set_cons_succ])
      refine wpAnyH_take (i := 5) (v := ?_) rfl (by kernel_rfl) (by kernel_rfl) (by kernel_rfl) (fun _ _ _ h => h) (Or.inl ⟨by rfl, ?_⟩) hHeld ?_
      rotate_left
      · (intro w hSw; (try dsimp only at hSw); go_simp; (try with_reducible rfl))
      (try simp only [List.getElem_toArray, List.getElem_cons_succ, List.getElem_cons_zero, Act.put, List.setIfInBounds_toArray, List.set_cons_zero, List.set_cons_succ])
      refine wpAnyH_ready (rs := [6]) (by kernel_rfl) (by simp) ?_
      refine AllReadyH.cons (o := _) rfl (fun K hK => ?_) ?_
      rotate_left
      · exact AllReadyH.nil
      go_simp
      (first | (go_at_call 18; refine (time_yes (HT.out.drewN _) n hlt).mono ?_; rintro e w6 ⟨rfl, rfl⟩) | skip)
      refine hK.out _ _ ?_ (fun hHeld => ?_)
      · (try dsimp only); (first | exact ⟨k5, e1, e2⟩ | exact HS _)
      clear hK K
      (try simp only [List.getElem_toArray, List.getElem_cons_succ, List.getElem_cons_zero, Act.put, List.setIfInBounds_toArray, List.set_cons_zero, List.set_cons_succ])
      refine wpAnyH_take (i := 7) (v := ?_) rfl (by kernel_rfl) (by kernel_rfl) (by kernel_rfl) (fun _ _ _ h => h) (Or.inl ⟨by rfl, ?_⟩) hHeld ?_
      rotate_left
      · (intro w hSw; (try dsimp only at hSw); go_simp; (try with_reducible rfl))
      (try simp only [List.getElem_toArray, List.getElem_cons_succ, List.getElem_cons_zero, Act.put, List.setIfInBounds_toArray, List.set_cons_zero, List.set_cons_succ])
      refine wpAnyH_take (i := 8) (v := ?_) rfl (by kernel_rfl) (by kernel_rfl) (by kernel_rfl) (fun _ _ _ h => h) (Or.inl ⟨by rfl, ?_⟩) hHeld ?_
      rotate_left
      · (intro w hSw; (try dsimp only at hSw); go_simp; (try with_reducible rfl))
      (try simp only [List.getElem_toArray, List.getElem_cons_succ, List.getElem_cons_zero, Act.put, List.setIfInBounds_toArray, List.set_cons_zero, List.set_cons_succ])
      refine wpAnyH_take (i := 9) (v := ?_) rfl (by kernel_rfl) (by kernel_rfl) (by kernel_rfl) (fun _ _ _ h => h) (Or.inl ⟨by rfl, ?_⟩) hHeld ?_
      rotate_left
      · (intro w hSw; (try dsimp only at hSw); go_simp; (try with_reducible rfl))
      (try simp only [List.getElem_toArray, List.getElem_cons_succ, List.getElem_cons_zero, Act.put, List.setIfInBounds_toArray, List.set_cons_zero, List.set_cons_succ])
      refine wpAnyH_take (i := 10) (v := ?_) rfl (by kernel_rfl) (by kernel_rfl) (by kernel_rfl) (fun _ _ _ h => h) (Or.inl ⟨by rfl, ?_⟩) hHeld ?_
      rotate_left
      · (intro w hSw; (try dsimp only at hSw); go_simp; (try with_reducible rfl))
      (try simp only [List.getElem_toArray, List.getElem_cons_succ, List.getElem_cons_zero, Act.put, List.setIfInBounds_toArray, List.set_cons_zero, List.set_cons_succ])
      refine wpAnyH_take (i := 11) (v := ?_) rfl (by kernel_rfl) (by kernel_rfl) (by kernel_rfl) (fun _ _ _ h => h) (Or.inl ⟨by rfl, ?_⟩) hHeld ?_
      rotate_left
      · (intro w hSw; (try dsimp only at hSw); go_simp; (try with_reducible rfl))
      (try simp only [List.getElem_toArray, List.getElem_cons_succ, List.getElem_cons_zero, Act.put, List.setIfInBounds_toArray, List.set_cons_zero, List.set_cons_succ])
      refine wpAnyH_ready (rs := [12]) (by kernel_rfl) (by simp) ?_
      refine AllReadyH.cons (o := _) rfl (fun K hK => ?_) ?_
      rotate_left
      · exact AllReadyH.nil
      go_simp
      (first | (go_at_call 18; refine (time_yes (HT.out.drewN _) n hlt).mono ?_; rintro e w6 ⟨rfl, rfl⟩) | skip)
      refine hK.out _ _ ?_ (fun hHeld => ?_)
      · (try dsimp only); (first | exact ⟨k5, e1, e2⟩ | exact HS _)
      clear hK K
      (try simp only [List.getElem_toArray, List.getElem_cons_succ, List.getElem_cons_zero, Act.put, List.setIfInBounds_toArray, List.set_cons_zero, List.set_cons_succ])
      refine wpAnyH_take (i := 13) (v := ?_) rfl (by kernel_rfl) (by kernel_rfl) (by kernel_rfl) (fun _ _ _ h => h) (Or.inl ⟨by rfl, ?_⟩) hHeld ?_
      rotate_left
      · (intro w hSw; (try dsimp only at hSw); go_simp; (try with_reducible rfl))
      (try simp only [List.getElem_toArray, List.getElem_cons_succ, List.getElem_cons_zero, Act.put, List.setIfInBounds_toArray, List.set_cons_zero, List.set_cons_succ])
      refine wpAnyH_take (i := 14) (v := ?_) rfl (by kernel_rfl) (by kernel_rfl) (by kernel_rfl) (fun _ _ _ h => h) (Or.inl ⟨by rfl, ?_⟩) hHeld ?_
      rotate_left
      · (intro w hSw; (try dsimp only at hSw); go_simp; (try with_reducible rfl))
      (try simp only [List.getElem_toArray, List.getElem_cons_succ, List.getElem_cons_zero, Act.put, List.setIfInBounds_toArray, List.set_cons_zero, List.set_cons_succ])
      refine wpAnyH_done (by kernel_rfl) ?_ _

      unfold Exit.then; dsimp only
      clear hHeld
      go_wp2_with fail
      go_ret
      exact ⟨rfl, (below_drewN HB.out _).setCell (p := ⟨gt, 1, none⟩) HT.out.hb _, _, _, by simp [xs], (HT.out.drewN _).last n⟩
    · have hR : R = none := by rw [HR.out, if_neg (fun h => hlt h.2)]
      have d1 : (t == (its.length : Int) + 1) = true := by simpa using ht
      have d2 : decide (t = (its.length : Int) + 1) = true := by simpa using ht
      have d3 : (t == ((its.length + 1 : Nat) : Int)) = true := by simpa using ht
      clear HA HLV HR ht
      generalize its.length = len at *
      refine wp_region_held_drew (S := (fun w0 => w0.cell? ⟨gt, 0, none⟩ = some (.slice a4 (len + 1) cap4) ∧ w0.cell? ⟨w.heap.size, 1, none⟩ = some (.int .i64 t) ∧ w0.cell? ⟨w.heap.size, 2, none⟩ = some (.int .u64 (n : Int)))) (by kernel_rfl) ?_ (fun hHeld => ?_)
      · (try dsimp only); exact ⟨k5, e1, e2⟩
      refine wpAnyH_take (i := 0) (v := ?_) rfl (by kernel_rfl) (by kernel_rfl) (by kernel_rfl) (fun _ _ _ h => h) (Or.inl ⟨by rfl, ?_⟩) hHeld ?_
      rotate_left
      · (intro w hSw; (try dsimp only at hSw); go_simp; (try with_reducible rfl))
      (try simp only [List.getElem_toArray, List.getElem_cons_succ, List.getElem_cons_zero, Act.put, List.setIfInBounds_toArray, List.set_cons_zero, List.set_cons_succ])
      refine wpAnyH_take (i := 1) (v := ?_) rfl (by kernel_rfl) (by kernel_rfl) (by kernel_rfl) (fun _ _ _ h => h) (Or.inl ⟨by rfl, ?_⟩) hHeld ?_
      rotate_left
      · (intro w hSw; (try dsimp only at hSw); go_simp; (try with_reducible rfl))
      (try simp only [List.getElem_toArray, List.getElem_cons_succ, List.getElem_cons_zero, Act.put, List.setIfInBounds_toArray, List.set_cons_zero, List.set_cons_succ])
      refine wpAnyH_take (i := 2) (v := ?_) rfl (by kernel_rfl) (by kernel_rfl) (by kernel_rfl) (fun _ _ _ h => h) (Or.inl ⟨by rfl, ?_⟩) hHeld ?_
      rotate_left
      · (intro w hSw; (try dsimp only at hSw); go_simp; (try with_reducible rfl))
      (try simp only [List.getElem_toArray, List.getElem_cons_succ, List.getElem_cons_zero, Act.put, List.setIfInBounds_toArray, List.set_cons_zero, List.set_cons_succ])
      refine wpAnyH_take (i := 3) (v := ?_) rfl (by kernel_rfl) (by kernel_rfl) (by kernel_rfl) (fun _ _ _ h => h) (Or.inl ⟨by rfl, ?_⟩) hHeld ?_
      rotate_left
      · (intro w hSw; (try dsimp only at hSw); go_simp; (try with_reducible rfl))
      (try simp only [List.getElem_toArray, List.getElem_cons_succ, List.getElem_cons_zero, Act.put, List.setIfInBounds_toArray, List.set_cons_zero, List.set_cons_succ])
      refine wpAnyH_take (i := 4) (v := ?_) rfl (by kernel_rfl) (by kernel_rfl) (by kernel_rfl) (fun _ _ _ h => h) (Or.inl ⟨by rfl, ?_⟩) hHeld ?_
      rotate_left
      · (intro w hSw; (try dsimp only at hSw); go_simp; (try with_reducible rfl))
      (try simp only [List.getElem_toArray, List.getElem_cons_succ, List.getElem_cons_zero, Act.put, List.setIfInBounds_toArray, List.set_cons_zero, List.set_cons_succ])
      refine wpAnyH_take (i := 5) (v := ?_) rfl (by kernel_rfl) (by kernel_rfl) (by kernel_rfl) (fun _ _ _ h => h) (Or.inl ⟨by rfl, ?_⟩) hHeld ?_
      rotate_left
      · (intro w hSw; (try dsimp only at hSw); go_simp; (try with_reducible rfl))
      (try simp only [List.getElem_toArray, List.getElem_cons_succ, List.getElem_cons_zero, Act.put, List.setIfInBounds_toArray, List.set_cons_zero, List.set_cons_succ])
      refine wpAnyH_ready (rs := [6]) (by kernel_rfl) (by simp) ?_
      refine AllReadyH.cons (o := _) rfl (fun K hK => ?_) ?_
      rotate_left
      · exact AllReadyH.nil
      go_simp
      (first | (go_at_call 18; refine (time_no (HT.out.drewN _) n hlt).mono ?_; rintro e w6 ⟨rfl, rfl⟩) | skip)
      refine hK.out _ _ ?_ (fun hHeld => ?_)
      · (try dsimp only); exact ⟨k5, e1, e2⟩
      clear hK K
      (try simp only [List.getElem_toArray, List.getElem_cons_succ, List.getElem_cons_zero, Act.put, List.setIfInBounds_toArray, List.set_cons_zero, List.set_cons_succ])
      refine wpAnyH_take (i := 7) (v := ?_) rfl (by kernel_rfl) (by kernel_rfl) (by kernel_rfl) (fun _ _ _ h => h) (Or.inl ⟨by rfl, ?_⟩) hHeld ?_
      rotate_left
      · (intro w hSw; (try dsimp only at hSw); go_simp; (try with_reducible rfl))
      (try simp only [List.getElem_toArray, List.getElem_cons_succ, List.getElem_cons_zero, Act.put, List.setIfInBounds_toArray, List.set_cons_zero, List.set_cons_succ])
      refine wpAnyH_take (i := 8) (v := ?_) rfl (by kernel_rfl) (by kernel_rfl) (by kernel_rfl) (fun _ _ _ h => h) (Or.inl ⟨by rfl, ?_⟩) hHeld ?_
      rotate_left
      · (intro w hSw; (try dsimp only at hSw); go_simp; (try with_reducible rfl))
      (try simp only [List.getElem_toArray, List.getElem_cons_succ, List.getElem_cons_zero, Act.put, List.setIfInBounds_toArray, List.set_cons_zero, List.set_cons_succ])
      refine wpAnyH_take (i := 9) (v := ?_) rfl (by kernel_rfl) (by kernel_rfl) (by kernel_rfl) (fun _ _ _ h => h) (Or.inl ⟨by rfl, ?_⟩) hHeld ?_
      rotate_left
      · (intro w hSw; (try dsimp only at hSw); go_simp; (try with_reducible rfl))
      (try simp only [List.getElem_toArray, List.getElem_cons_succ, List.getElem_cons_zero, Act.put, List.setIfInBounds_toArray, List.set_cons_zero, List.set_cons_succ])
      refine wpAnyH_take (i := 10) (v := ?_) rfl (by kernel_rfl) (by kernel_rfl) (by kernel_rfl) (fun _ _ _ h => h) (Or.inl ⟨by rfl, ?_⟩) hHeld ?_
      rotate_left
      · (intro w hSw; (try dsimp only at hSw); go_simp; (try with_reducible rfl))
      (try simp only [List.getElem_toArray, List.getElem_cons_succ, List.getElem_cons_zero, Act.put, List.setIfInBounds_toArray, List.set_cons_zero, List.set_cons_succ])
      refine wpAnyH_take (i := 11) (v := ?_) rfl (by kernel_rfl) (by kernel_rfl) (by kernel_rfl) (fun _ _ _ h => h) (Or.inl ⟨by rfl, ?_⟩) hHeld ?_
      rotate_left
      · (intro w hSw; (try dsimp only at hSw); go_simp; (try with_reducible rfl))
      (try simp only [List.getElem_toArray, List.getElem_cons_succ, List.getElem_cons_zero, Act.put, List.setIfInBounds_toArray, List.set_cons_zero, List.set_cons_succ])
      refine wpAnyH_ready (rs := [12]) (by kernel_rfl) (by simp) ?_
      refine AllReadyH.cons (o := _) rfl (fun K hK => ?_) ?_
      rotate_left
      · exact AllReadyH.nil
      go_simp
      (first | (go_at_call 18; refine (time_no (HT.out.drewN _) n hlt).mono ?_; rintro e w6 ⟨rfl, rfl⟩) | skip)
      refine hK.out _ _ ?_ (fun hHeld => ?_)
      · (try dsimp only); exact ⟨k5, e1, e2⟩
      clear hK K
      (try simp only [List.getElem_toArray, List.getElem_cons_succ, List.getElem_cons_zero, Act.put, List.setIfInBounds_toArray, List.set_cons_zero, List.set_cons_succ])
      refine wpAnyH_take (i := 13) (v := ?_) rfl (by kernel_rfl) (by kernel_rfl) (by kernel_rfl) (fun _ _ _ h => h) (Or.inl ⟨by rfl, ?_⟩) hHeld ?_
      rotate_left
      · (intro w hSw; (try dsimp only at hSw); go_simp; (try with_reducible rfl))
      (try simp only [List.getElem_toArray, List.getElem_cons_succ, List.getElem_cons_zero, Act.put, List.setIfInBounds_toArray, List.set_cons_zero, List.set_cons_succ])
      refine wpAnyH_take (i := 14) (v := ?_) rfl (by kernel_rfl) (by kernel_rfl) (by kernel_rfl) (fun _ _ _ h => h) (Or.inl ⟨by rfl, ?_⟩) hHeld ?_
      rotate_left
      · (intro w hSw; (try dsimp only at hSw); go_simp; (try with_reducible rfl))
      (try simp only [List.getElem_toArray, List.getElem_cons_succ, List.getElem_cons_zero, Act.put, List.setIfInBounds_toArray, List.set_cons_zero, List.set_cons_succ])
      refine wpAnyH_done (by kernel_rfl) ?_ _

      unfold Exit.then; dsimp only
      clear hHeld
      go_wp2_with fail
      go_ret
      exact ⟨by rw [hR]; rfl, below_drewN HB.out _, fun r hr => by rw [hR] at hr; cases hr⟩
  · have hR : R = none := by rw [HR.out, if_neg (fun h => ht h.1)]
    have d1 : (t == (its.length : Int) + 1) = false := by simpa using ht
    have d2 : decide (t = (its.length : Int) + 1) = false := by simpa using ht
    have d3 : (t == ((its.length + 1 : Nat) : Int)) = false := by simpa using ht
    clear HA HLV ht HR
    generalize its.length = len at *
    go_quiet (fail)
    go_wp2_with fail
    go_ret
    rw [hR]
    exact ⟨rfl, below_drewN HB.out _, fun r hr => by cases hr⟩
end Go.Proofs.YtehjlpipnaaifaaDoor.Tl
