/- What the document fixes of tales: one begin, told, may be, one Deal. -/
import Derived.Test.YtehjlpipnaaifaaDoorDlC
import Derived.Test.YtehjlpipnaaifaaDoorTxtT
namespace Go.Proofs.YtehjlpipnaaifaaDoor.Tl
open Go.ChangeShapes Go.WideShapes Go.ChangeAt Go.RowKit
set_option linter.unusedVariables false
set_option linter.unusedSimpArgs false
set_option maxRecDepth 100000
set_option maxHeartbeats 1000000

def bg1 : Er := ⟨1, 1, 1, 0, 0, 0, 1, 0, 0, none, 0, 0, 0, 0⟩
theorem tx1 : textOf [(bg1, [])] = [98, 101, 103, 105, 110, 32, 49, 32, 49, 32, 49, 10] := by decide +kernel
theorem awake_any (w : World) : Calls Tryd.prog 8 #[] w fun e w' => e = .returned (.bool true) ∧ Below w.heap.size w w' := by
  have hev : Evs (w.alloc (.cells (evC bg1).toArray 30)) (.slice (some ⟨w.heap.size, 0, none⟩) 1 1) [bg1] := by
    refine ⟨0, _, _, _, rfl, by simp [flat, evC], Nat.le_refl _, by decide, .inr ⟨w.heap.size, 0, rfl, Nat.zero_le _, by simp, fun j hj => ?_⟩⟩
    rw [Nat.zero_add, World.cell?_alloc_at _ _ _ _ rfl]
    simp [flat]
  have hp : ∀ W : World, Prs W bg1 [] := fun W => ⟨rfl, Nat.le_refl _, by decide, by decide, fun p hp => (by cases hp), .inl rfl⟩
  have hsm : Sm bg1 := by constructor <;> decide
  have hb0 : Below w.heap.size w (w.alloc (.cells (evC bg1).toArray 30)) := (Below.refl _ _).alloc (Nat.le_refl _) _
  have hok := ok_at hev (by intro e he; obtain rfl := List.mem_singleton.1 he; decide) (by decide) true 0 rfl
  have htx := fun (W : World) (hW : Below (w.alloc (.cells (evC bg1).toArray 30)).heap.size (w.alloc (.cells (evC bg1).toArray 30)) W) => text_any _ [(bg1, [])] W (hev.below hW) (fun p hp2 => by obtain rfl := List.mem_singleton.1 hp2; exact ⟨hsm, ⟨by decide, by decide⟩, hp W⟩) (by decide)
  have hdl := fun (W : World) (hW : Below (w.alloc (.cells (evC bg1).toArray 30)).heap.size (w.alloc (.cells (evC bg1).toArray 30)) W) => deals_any _ [bg1] W (hev.below hW) (by intro e he; obtain rfl := List.mem_singleton.1 he; decide) (by decide) rfl (fun e he => by obtain rfl := List.mem_singleton.1 he; exact ⟨⟨[], hp W⟩, fun _ => ⟨rfl, rfl⟩⟩)
  rw [tx1] at htx
  simp only [sv, show cnt [bg1] = 1 from rfl] at htx hdl
  have HOK := Lib.hid hok
  have HTX := Lib.hid htx
  have HDL := Lib.hid hdl
  have HB0 := Lib.hid hb0
  clear hev hp hsm hok htx hdl hb0
  go_enter Tryd.func8, Tryd.ntmps8
  go_wp2_with (go_at_call 7; refine HOK.out.mono ?_; rintro e w1 ⟨at', rfl, _, hat, hb⟩; obtain rfl := hat rfl; have HB1 := Lib.hid hb; clear hb)
  refine (HTX.out _ HB1.out).mono ?_
  rintro e w2 ⟨rfl, hb2⟩
  have HB2 := Lib.hid (HB1.out.trans (hb2.mono HB1.out.size))
  clear hb2
  go_wp2_with (go_at_call 11; refine (HDL.out _ HB2.out).mono ?_; rintro e w3 ⟨a3, c3, rfl, hb3⟩; have HB3 := Lib.hid (HB2.out.trans (hb3.mono HB2.out.size)); clear hb3)
  go_ret
  exact ⟨rfl, HB0.out.trans (HB3.out.mono HB0.out.size)⟩
end Go.Proofs.YtehjlpipnaaifaaDoor.Tl
