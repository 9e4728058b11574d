/- The teller's done. -/
import Derived.Test.YtehjlpipnaaifaaDoorTelD
namespace Go.Proofs.YtehjlpipnaaifaaDoor.Tl
open Go.ChangeShapes Go.WideShapes Go.ChangeAt Go.RowKit
set_option linter.unusedVariables false
set_option linter.unusedSimpArgs false
set_option maxRecDepth 100000
set_option maxHeartbeats 1000000

theorem Tel.setSt {w : World} {base gt : Nat} {lv : Value} {its : List It} {last : Nat} (h : Tel w base gt lv its last) (i : Nat) (it : It) (hi : its[i]? = some it) (s : Nat) :
    Tel (w.setCell ⟨it.p, 1, none⟩ (.int .i64 (s : Int))) base gt lv (its.set i ⟨{ it.x with st := s }, it.p, it.v⟩) last := by
  have hit := h.all it (List.mem_of_getElem? hi)
  refine h.upd i it _ hi rfl (fun k hk h1 h2 => heap_setCell_other _ _ _ _ h1) ⟨hit.hb, ?_, own_same hit.own fun g hg => ?_⟩ (.inl rfl)
  · rw [heap_setCell_same w it.p 1 _ _ _ hit.blk]; rfl
  · obtain ⟨cur, hcur⟩ := own_blk hit.own hg
    exact heap_setCell_other _ _ _ _ (ty_ne hcur hit.blk (by decide))
theorem Tel.setFin {w : World} {base gt : Nat} {lv : Value} {its : List It} {last : Nat} (h : Tel w base gt lv its last) (i : Nat) (it : It) (hi : its[i]? = some it) (s : Nat) :
    Tel (w.setCell ⟨it.p, 0, none⟩ (.int .u64 (s : Int))) base gt lv (its.set i ⟨{ it.x with fin := s }, it.p, it.v⟩) last := by
  have hit := h.all it (List.mem_of_getElem? hi)
  refine h.upd i it _ hi rfl (fun k hk h1 h2 => heap_setCell_other _ _ _ _ h1) ⟨hit.hb, ?_, own_same hit.own fun g hg => ?_⟩ (.inl rfl)
  · rw [heap_setCell_same w it.p 0 _ _ _ hit.blk]; rfl
  · obtain ⟨cur, hcur⟩ := own_blk hit.own hg
    exact heap_setCell_other _ _ _ _ (ty_ne hcur hit.blk (by decide))
theorem Tel.alloc {w : World} {base gt : Nat} {lv : Value} {its : List It} {last : Nat} (h : Tel w base gt lv its last) (o : Obj) : Tel (w.alloc o) base gt lv its last := h.below ((Below.refl _ _).alloc (Nat.le_refl _) _)
def fit (x : Tx) (l : List Tx) : Bool := !(x.fin == 0) && x.bonds.all (good l)
theorem done_any {w : World} {base gt : Nat} {lv : Value} {its : List It} {last : Nat} (h : Tel w base gt lv its last) (hbase : base ≤ w.heap.size) (hm : its.length ≤ 20000)
    (i : Nat) (it : It) (hi : its[i]? = some it) (hlb : it.x.bonds.length ≤ 20000) (hr : ∀ b ∈ it.x.bonds, 1 ≤ b ∧ b ≤ its.length) :
    Calls Tryd.prog 21 #[.pointer (some ⟨gt, 0, none⟩), .pointer (some ⟨it.p, 0, none⟩)] w
      fun e w' => e = .returned (.bool (fit it.x (xs its))) ∧ (fit it.x (xs its) = true → Tel w' base gt lv (its.set i ⟨{ it.x with st := 3 }, it.p, it.v⟩) last) ∧ Below base w w' := by
  have hA := h.alloc (.cells #[.pointer (some ⟨gt, 0, none⟩)] 70)
  have hbA : Below base w (w.alloc (.cells #[.pointer (some ⟨gt, 0, none⟩)] 70)) := (Below.refl _ _).alloc hbase _
  have hit := hA.all it (List.mem_of_getElem? hi)
  have x0 := hit.c0
  have x2 := hit.c2
  by_cases e1 : it.x.fin = 0
  · have hf : fit it.x (xs its) = false := by simp [fit, e1]
    rw [hf]
    rw [e1] at x0
    clear e1 hf hr hlb hm hA hit x2 hi h
    go_enter Tryd.func21, Tryd.ntmps21
    go_wp2
    go_ret
    exact ⟨rfl, (fun h => nomatch h), hbA⟩
  · have hcall := contains_any hA hm w.heap.size (by rw [World.cell?_alloc_at _ _ _ _ rfl]; rfl) it.v it.x.bonds hit.own hr hlb
    have hf : fit it.x (xs its) = it.x.bonds.all (good (xs its)) := by simp [fit, e1]
    rw [hf]
    have d1 : ((it.x.fin : Int) == 0) = false := by simp; omega
    have d2 : decide ((it.x.fin : Int) = 0) = false := by simp; omega
    obtain ⟨F, hF⟩ : ∃ F : Int, F = (it.x.fin : Int) := ⟨_, rfl⟩
    rw [← hF] at x0 d1 d2
    have HA := Lib.hid hA
    have HI := Lib.hid hi
    have HB := Lib.hid hbA
    have HIT := Lib.hid hit
    clear e1 hf hr hlb hm hA hit h hi hbA hF
    cases hg : it.x.bonds.all (good (xs its)) with
    | false =>
      rw [hg] at hcall
      go_enter Tryd.func21, Tryd.ntmps21
      go_wp2_with (go_at_call 30; refine hcall.mono ?_; rintro e w' ⟨rfl, q, rfl⟩)
      go_ret
      exact ⟨rfl, (fun h => nomatch h), below_drewN HB.out q⟩
    | true =>
      rw [hg] at hcall
      have fz : ∀ q, ((w.alloc (.cells #[.pointer (some ⟨gt, 0, none⟩)] 70)).drewN q).frozen? ⟨it.p, 1, none⟩ = false := fun q => frozen_of_row _ it.p 1 _ _ (HIT.out.blk)
      have c1 := HIT.out.c1
      go_enter Tryd.func21, Tryd.ntmps21
      go_wp2_with (go_at_call 30; refine hcall.mono ?_; rintro e w' ⟨rfl, q, rfl⟩; have fzq := fz q; clear fz)
      go_ret
      exact ⟨rfl, fun _ => (HA.out.drewN q).setSt i it HI.out 3, (below_drewN HB.out q).setCell (p := ⟨it.p, 1, none⟩) HIT.out.hb _⟩
end Go.Proofs.YtehjlpipnaaifaaDoor.Tl
