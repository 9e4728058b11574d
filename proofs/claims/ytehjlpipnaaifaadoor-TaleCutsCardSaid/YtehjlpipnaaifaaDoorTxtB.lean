/- put: numbers as words behind the words. -/
import Derived.Test.YtehjlpipnaaifaaDoorTxtA
namespace Go.Proofs.YtehjlpipnaaifaaDoor.Tl
open Go.ChangeShapes Go.WideShapes Go.ChangeAt Go.RowKit
set_option linter.unusedVariables false
set_option linter.unusedSimpArgs false
set_option maxRecDepth 100000
set_option maxHeartbeats 1000000

theorem put_any {base B : Nat} {w : World} {ss : List (List UInt8)} (h : Wds base B w ss) (hbase : base ≤ w.heap.size) (g off n cap : Nat) (ns : List Int) (hn : ns.length = n) (hcap : n ≤ cap) (hcm : cap ≤ 9223372036854775807)
    {cs : Array Value} {f : Nat × Nat} (hblk : w.heap[g]? = some (.cells cs 3 f)) (hcell : ∀ i x, ns[i]? = some x → w.cell? ⟨g, off + i, none⟩ = some (.int .i64 x)) (hsm : ∀ x, x ∈ ns → 0 ≤ x ∧ x < 100) (hlen : ss.length + n < 100000) :
    Calls Tryd.prog 25 #[.slice (some ⟨g, off, none⟩) n cap, .pointer (some ⟨B, 0, none⟩)] w fun e w' => e = .returned (.tuple #[]) ∧ Wds base B w' (ss ++ ns.map dd) ∧ Below base w w' ∧ KeptT w w' := by
  have HBLK := Lib.hid hblk
  have HCELL := Lib.hid hcell
  have HSM := Lib.hid hsm
  have HN := Lib.hid hn
  have H := Lib.hid h
  have HBASE := Lib.hid hbase
  clear hblk hcell hsm hn h hbase
  go_enter Tryd.func25, Tryd.ntmps25
  go_wp2
  go_loopw [7] (fun b wr => ∃ (k : Nat), b = .int .i64 (k : Int) ∧ k ≤ n ∧ Wds base B wr (ss ++ (ns.take k).map dd) ∧ Below base w wr ∧ KeptT w wr) (fun b _ => match b with | .int _ i => n - i.toNat | _ => 0)
  case atStart => exact ⟨0, rfl, Nat.zero_le _, by simpa using H.out, Below.refl _ _, KeptT.refl _⟩
  case round =>
    obtain ⟨k, rfl, hk, hW, hB, hK⟩ := hrel
    by_cases hend : k = n
    · have b2 : ¬ ((k : Int) < (n : Int)) := by omega
      have hfin : Wds base B wr (ss ++ ns.map dd) := by
        rw [hend, ← HN.out, List.take_length] at hW; exact hW
      have HF := Lib.hid hfin
      have HB := Lib.hid hB
      have HK := Lib.hid hK
      clear hW hfin hB hK hend hlen hk
      go_wp2
      go_end0
      exact ⟨rfl, HF.out, HB.out, HK.out⟩
    · have hlt : k < n := by omega
      have hkl : k < ns.length := by rw [HN.out]; exact hlt
      have hx := List.getElem?_eq_getElem hkl
      have hc := HCELL.out k _ hx
      have hs := HSM.out _ (List.getElem_mem hkl)
      have c1 : wr.cell? ⟨g, off + k, none⟩ = some (.int .i64 ns[k]) := by rw [cell_congr ((hK _ _ _ _ HBLK.out (by decide) (by decide)).trans HBLK.out.symm)]; exact hc
      have htake : (ns.take (k + 1)).map dd = (ns.take k).map dd ++ [dd ns[k]] := by rw [List.take_add_one, hx, List.map_append]; rfl
      generalize ns[k] = x at *
      have hlenk : (ss ++ (ns.take k).map dd).length < 100000 := by simp; omega
      generalize hS : ss ++ (ns.take k).map dd = S at *
      have HSS := Lib.hid hS
      clear hS
      obtain ⟨av, cv, d1, hown⟩ := hW.c1
      have hit := fun W => itoa_any x hs.1 hs.2 W
      have b1 : (k : Int) < (n : Int) := by omega
      have b2 : (0 : Int) ≤ (k : Int) := by omega
      have HIT := Lib.hid hit
      have HOWN := Lib.hid hown
      have HW := Lib.hid hW
      have HB := Lib.hid hB
      have HK := Lib.hid hK
      have HLT := Lib.hid hlt
      have HTAKE := Lib.hid htake
      clear hit hown hW hB hK hlt htake hend hlen hk hkl hx hc hs
      generalize dd x = D at *
      unfold sv at *
      go_wp2_with fail
      have hsn := fun (v' : Value) (w2 : World) (q1 : w2.ownsRow base 9 1 v' (S.length + 1) (strs S ++ [.string ⟨D.toArray⟩])) (q2 : (wr.alloc (.cells #[.string ⟨D.toArray⟩] 9)).grownBy w2 (Value.slice av S.length cv).ownBlock) => HW.out.snoc (Nat.le_trans HBASE.out HB.out.size) d1 D q1 q2
      have hown : ∀ W : World, W.heap = (wr.alloc (.cells #[.string ⟨D.toArray⟩] 9)).heap → W.ownsRow base 9 1 (.slice av S.length cv) S.length (strs S) := fun W hW => own_same (HOWN.out.alloc (.cells #[.string ⟨D.toArray⟩] 9)) (fun g _ => by rw [hW])
      have hbs : base ≤ wr.heap.size + 1 := Nat.le_succ_of_le (Nat.le_trans HBASE.out HB.out.size)
      have HSN := Lib.hid hsn
      have HOW := Lib.hid hown
      clear hsn hown
      have hl2 : S.length < 1000000 := by omega
      have d2 : (wr.alloc (.cells #[.string ⟨D.toArray⟩] 9)).cell? ⟨B, 0, none⟩ = some (.slice av S.length cv) := by
        rw [((Below.refl wr.heap.size wr).alloc (Nat.le_refl _) (.cells #[.string ⟨D.toArray⟩] 9)).cell (p := ⟨B, 0, none⟩) HW.out.lt]; exact d1
      go_region_law (first | (refine wp_append_S _ (.tmp 11) (.tmp 14) rfl base (.slice av S.length cv) S.length (strs S) rfl (HOW.out _ rfl) (.slice (some ⟨wr.heap.size, 0, none⟩) 1 1) (.string ⟨D.toArray⟩) rfl (row_new wr _ 9 _ rfl) rfl hl2 (by simpa using hbs) ?_; intro v' w2 q1 q2; obtain ⟨h1, h2, h3, h4, h5⟩ := HSN.out v' w2 q1 (grown_drew q2); obtain ⟨a4, cap4, rfl, _, _, _⟩ := Ow.own_form q1; have H1 := Lib.hid h1; have H4 := Lib.hid h4; have H5 := Lib.hid h5; clear h1 h4 h5 q1 q2) | (go_simp; go_at_call 24; refine (HIT.out _).mono ?_; rintro e w' ⟨rfl, rfl⟩))
      all_goals (go_wp2_with fail; refine ⟨⟨k + 1, by rw [Int.natCast_add]; rfl, HLT.out, by rw [HTAKE.out, ← List.append_assoc, HSS.out]; exact H1.out, HB.out.trans (H4.out), HK.out.trans H5.out⟩, ?_⟩; simp only; have := HLT.out; omega)
end Go.Proofs.YtehjlpipnaaifaaDoor.Tl
