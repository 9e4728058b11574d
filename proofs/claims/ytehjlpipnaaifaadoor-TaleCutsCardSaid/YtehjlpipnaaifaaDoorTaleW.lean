/- TaleCuts, TaleLines: the walks over Story's and awake's contracts, from rows of numbers that came in. -/
import Derived.Test.YtehjlpipnaaifaaDoorStoJ
import Derived.Test.YtehjlpipnaaifaaDoorCutsW
import Derived.Test.YtehjlpipnaaifaaDoorLinesW
import Derived.Test.YtehjlpipnaaifaaDoorAwk
import Derived.Test.YtehjlpipnaaifaaDoorSl
namespace Go.Proofs.YtehjlpipnaaifaaDoor.Tl
open Go.ChangeShapes Go.WideShapes Go.ChangeAt Go.RowKit
set_option linter.unusedVariables false

theorem ints_of_row {w : World} {a : Option Addr} {len cap : Nat} {zs : List Int} (h : Sl.IsRow .i64 w a len cap zs) : Ints w a len cap (zs.take len) := by
  obtain ⟨h1, h2, h3, h4⟩ := h.plain
  refine ⟨h1, h2, h3, ?_⟩
  rcases h4 with h4 | ⟨B, off, e1, e2, e3⟩
  · exact .inl h4
  · exact .inr ⟨B, off, e1, e2, fun i hi => (e3 i hi).1⟩
theorem cutsLaw (a : Option Addr) (len cap : Nat) (zs : List Int) (ct : Int) (w : World) (h : Sl.IsRow .i64 w a len cap zs) (hc : (Lit.int .i64 ct).wf = true) :
    Calls Tryd.prog 5 #[.slice a len cap, .int .i64 ct] w fun e w' => e = .returned (.bool true) ∧ Below w.heap.size w w' :=
  wCuts a len cap ct w (Lib.hid (story_any a len cap _ w (ints_of_row h))) (Lib.hid awake_any)
theorem linesLaw (a : Option Addr) (len cap : Nat) (zs : List Int) (p1 p2 : Int) (w : World) (h : Sl.IsRow .i64 w a len cap zs) (h1 : (Lit.int .i64 p1).wf = true) (h2 : (Lit.int .i64 p2).wf = true) :
    Calls Tryd.prog 4 #[.slice a len cap, .int .i64 p1, .int .i64 p2] w fun e w' => e = .returned (.bool true) ∧ Below w.heap.size w w' :=
  wLines a len cap p1 p2 w (Lib.hid (story_any a len cap _ w (ints_of_row h))) (Lib.hid awake_any)
end Go.Proofs.YtehjlpipnaaifaaDoor.Tl
