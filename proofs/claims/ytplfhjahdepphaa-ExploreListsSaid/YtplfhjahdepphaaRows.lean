/-
  No cell of these rows narrows 'for every input' (looked for: loops, veiled, ifaces, maps, wideKeys, modest, calm, conditions, laid).
  DERIVED. THE GIVEN ROWS OF THIS SEAT. 15 by the template 'for every input the law returns true; each argument reads behind the call as it read before'; 0 by the template 'total and deterministic' (their statements: YtplfhjahdepphaaTotals.lean).
  GIVEN WITH THE SEED: the statements are not yours to turn. If you find one false, say at which input.
  Laid BY PROGRAM, IN A SANDBOX (cutbox-rows.mjs): the forced cells as the released guide's own fill.sh prints them over the translation 71f4c7f44c1f6ed1… (all of the seat's roots in one cut). By AI agents, Wed Nov 11 2026. No macro, syntax, notation, axiom, sorry.
-/
import Derived.Test.YtplfhjahdepphaaChecked
import GoSem.Claim
import GoSem.ClaimJoined
import GoSem.ClaimMapViews
import Derived.JoinedTies
import Derived.KernelRfl
namespace Go.Proofs.Ytplfhjahdepphaa
/- THE CELL 'sum', in the pinned program and in every row, IS THE sha256 OF THE DUMP (.gsa) THAT YtplfhjahdepphaaProg.lean LOADS. Nothing in Lean hashes anything: it is a label: what it is worth is what the hold of that sum in a sandbox is worth. -/
noncomputable def Try.pinned : Pinned := { name := "ytplfhjahdepphaa", sum := "71f4c7f44c1f6ed1940ab5324960d4124d91d64aa1d98176e48766725c0bec4a", checked := Try.checked }
namespace Rows
def none {H : Type} : Left H := { results := [], args := [] }

/-- 'vinculumlaw1.WordKinds': WHATEVER THE INPUT: true; the input reads as it did. -/
def wordKindsSpec : ChangeSpec := { name := "wordKinds", fn := fun _ => fun
  | [d] => { results := [.lit (.bool true)], args := [d] }
  | _ => none }
def wordKindsRow : OpenClaim := { program := "ytplfhjahdepphaa", sum := "71f4c7f44c1f6ed1940ab5324960d4124d91d64aa1d98176e48766725c0bec4a", func := "vinculum/vinculumlaw1.WordKinds", spec := "wordKinds", apart := false }
def WordKindsSaid : Prop := wordKindsRow.holds Try.pinned (OpenSpec.ofChange wordKindsSpec)

/-- ITS FALSE NEIGHBOUR: 'it returns false'. Refute it at one input. -/
def wordKindsWrong : ChangeSpec := { name := "wordKinds", fn := fun _ => fun
  | [d] => { results := [.lit (.bool false)], args := [d] }
  | _ => none }
def WordKindsWrongFalsely : Prop := wordKindsRow.holds Try.pinned (OpenSpec.ofChange wordKindsWrong)

/-- 'vinculumlaw1.WordMarks': WHATEVER THE INPUT: true; the input reads as it did. -/
def wordMarksSpec : ChangeSpec := { name := "wordMarks", fn := fun _ => fun
  | [d1, d2, d3] => { results := [.lit (.bool true)], args := [d1, d2, d3] }
  | _ => none }
def wordMarksRow : OpenClaim := { program := "ytplfhjahdepphaa", sum := "71f4c7f44c1f6ed1940ab5324960d4124d91d64aa1d98176e48766725c0bec4a", func := "vinculum/vinculumlaw1.WordMarks", spec := "wordMarks", apart := false }
def WordMarksSaid : Prop := wordMarksRow.holds Try.pinned (OpenSpec.ofChange wordMarksSpec)

/-- ITS FALSE NEIGHBOUR: 'it returns false'. Refute it at one input. -/
def wordMarksWrong : ChangeSpec := { name := "wordMarks", fn := fun _ => fun
  | [d1, d2, d3] => { results := [.lit (.bool false)], args := [d1, d2, d3] }
  | _ => none }
def WordMarksWrongFalsely : Prop := wordMarksRow.holds Try.pinned (OpenSpec.ofChange wordMarksWrong)

/-- 'vinculumlaw1.WordLinks': WHATEVER THE INPUT: true; the input reads as it did. -/
def wordLinksSpec : ChangeSpec := { name := "wordLinks", fn := fun _ => fun
  | [d1, d2, d3] => { results := [.lit (.bool true)], args := [d1, d2, d3] }
  | _ => none }
def wordLinksRow : OpenClaim := { program := "ytplfhjahdepphaa", sum := "71f4c7f44c1f6ed1940ab5324960d4124d91d64aa1d98176e48766725c0bec4a", func := "vinculum/vinculumlaw1.WordLinks", spec := "wordLinks", apart := false }
def WordLinksSaid : Prop := wordLinksRow.holds Try.pinned (OpenSpec.ofChange wordLinksSpec)

/-- ITS FALSE NEIGHBOUR: 'it returns false'. Refute it at one input. -/
def wordLinksWrong : ChangeSpec := { name := "wordLinks", fn := fun _ => fun
  | [d1, d2, d3] => { results := [.lit (.bool false)], args := [d1, d2, d3] }
  | _ => none }
def WordLinksWrongFalsely : Prop := wordLinksRow.holds Try.pinned (OpenSpec.ofChange wordLinksWrong)

/-- 'vinculumlaw1.WordEnds': WHATEVER THE INPUT: true; the input reads as it did. -/
def wordEndsSpec : ChangeSpec := { name := "wordEnds", fn := fun _ => fun
  | [d1, d2, d3, d4] => { results := [.lit (.bool true)], args := [d1, d2, d3, d4] }
  | _ => none }
def wordEndsRow : OpenClaim := { program := "ytplfhjahdepphaa", sum := "71f4c7f44c1f6ed1940ab5324960d4124d91d64aa1d98176e48766725c0bec4a", func := "vinculum/vinculumlaw1.WordEnds", spec := "wordEnds", apart := false }
def WordEndsSaid : Prop := wordEndsRow.holds Try.pinned (OpenSpec.ofChange wordEndsSpec)

/-- ITS FALSE NEIGHBOUR: 'it returns false'. Refute it at one input. -/
def wordEndsWrong : ChangeSpec := { name := "wordEnds", fn := fun _ => fun
  | [d1, d2, d3, d4] => { results := [.lit (.bool false)], args := [d1, d2, d3, d4] }
  | _ => none }
def WordEndsWrongFalsely : Prop := wordEndsRow.holds Try.pinned (OpenSpec.ofChange wordEndsWrong)

/-- 'vinculumlaw1.WordApart': WHATEVER THE INPUT: true; the input reads as it did. -/
def wordApartSpec : ChangeSpec := { name := "wordApart", fn := fun _ => fun
  | [d1, d2, d3, d4, d5, d6] => { results := [.lit (.bool true)], args := [d1, d2, d3, d4, d5, d6] }
  | _ => none }
def wordApartRow : OpenClaim := { program := "ytplfhjahdepphaa", sum := "71f4c7f44c1f6ed1940ab5324960d4124d91d64aa1d98176e48766725c0bec4a", func := "vinculum/vinculumlaw1.WordApart", spec := "wordApart", apart := false }
def WordApartSaid : Prop := wordApartRow.holds Try.pinned (OpenSpec.ofChange wordApartSpec)

/-- ITS FALSE NEIGHBOUR: 'it returns false'. Refute it at one input. -/
def wordApartWrong : ChangeSpec := { name := "wordApart", fn := fun _ => fun
  | [d1, d2, d3, d4, d5, d6] => { results := [.lit (.bool false)], args := [d1, d2, d3, d4, d5, d6] }
  | _ => none }
def WordApartWrongFalsely : Prop := wordApartRow.holds Try.pinned (OpenSpec.ofChange wordApartWrong)

/-- 'vinculumlaw1.WordBefore': WHATEVER THE INPUT: true; the input reads as it did. -/
def wordBeforeSpec : ChangeSpec := { name := "wordBefore", fn := fun _ => fun
  | [d1, d2, d3] => { results := [.lit (.bool true)], args := [d1, d2, d3] }
  | _ => none }
def wordBeforeRow : OpenClaim := { program := "ytplfhjahdepphaa", sum := "71f4c7f44c1f6ed1940ab5324960d4124d91d64aa1d98176e48766725c0bec4a", func := "vinculum/vinculumlaw1.WordBefore", spec := "wordBefore", apart := false }
def WordBeforeSaid : Prop := wordBeforeRow.holds Try.pinned (OpenSpec.ofChange wordBeforeSpec)

/-- ITS FALSE NEIGHBOUR: 'it returns false'. Refute it at one input. -/
def wordBeforeWrong : ChangeSpec := { name := "wordBefore", fn := fun _ => fun
  | [d1, d2, d3] => { results := [.lit (.bool false)], args := [d1, d2, d3] }
  | _ => none }
def WordBeforeWrongFalsely : Prop := wordBeforeRow.holds Try.pinned (OpenSpec.ofChange wordBeforeWrong)

/-- 'vinculumlaw1.WordStamps': WHATEVER THE INPUT: true; the input reads as it did. -/
def wordStampsSpec : ChangeSpec := { name := "wordStamps", fn := fun _ => fun
  | [d1, d2, d3, d4, d5] => { results := [.lit (.bool true)], args := [d1, d2, d3, d4, d5] }
  | _ => none }
def wordStampsRow : OpenClaim := { program := "ytplfhjahdepphaa", sum := "71f4c7f44c1f6ed1940ab5324960d4124d91d64aa1d98176e48766725c0bec4a", func := "vinculum/vinculumlaw1.WordStamps", spec := "wordStamps", apart := false }
def WordStampsSaid : Prop := wordStampsRow.holds Try.pinned (OpenSpec.ofChange wordStampsSpec)

/-- ITS FALSE NEIGHBOUR: 'it returns false'. Refute it at one input. -/
def wordStampsWrong : ChangeSpec := { name := "wordStamps", fn := fun _ => fun
  | [d1, d2, d3, d4, d5] => { results := [.lit (.bool false)], args := [d1, d2, d3, d4, d5] }
  | _ => none }
def WordStampsWrongFalsely : Prop := wordStampsRow.holds Try.pinned (OpenSpec.ofChange wordStampsWrong)

/-- 'vinculumlaw25.PlanDecodes': WHATEVER THE INPUT: true; the input reads as it did. -/
def planDecodesSpec : ChangeSpec := { name := "planDecodes", fn := fun _ => fun
  | [d] => { results := [.lit (.bool true)], args := [d] }
  | _ => none }
def planDecodesRow : OpenClaim := { program := "ytplfhjahdepphaa", sum := "71f4c7f44c1f6ed1940ab5324960d4124d91d64aa1d98176e48766725c0bec4a", func := "vinculum/vinculumlaw25.PlanDecodes", spec := "planDecodes", apart := false }
def PlanDecodesSaid : Prop := planDecodesRow.holds Try.pinned (OpenSpec.ofChange planDecodesSpec)

/-- ITS FALSE NEIGHBOUR: 'it returns false'. Refute it at one input. -/
def planDecodesWrong : ChangeSpec := { name := "planDecodes", fn := fun _ => fun
  | [d] => { results := [.lit (.bool false)], args := [d] }
  | _ => none }
def PlanDecodesWrongFalsely : Prop := planDecodesRow.holds Try.pinned (OpenSpec.ofChange planDecodesWrong)

/-- 'vinculumlaw25.PlanTurned': WHATEVER THE INPUT: true; the input reads as it did. -/
def planTurnedSpec : ChangeSpec := { name := "planTurned", fn := fun _ => fun
  | [d1, d2, d3, d4] => { results := [.lit (.bool true)], args := [d1, d2, d3, d4] }
  | _ => none }
def planTurnedRow : OpenClaim := { program := "ytplfhjahdepphaa", sum := "71f4c7f44c1f6ed1940ab5324960d4124d91d64aa1d98176e48766725c0bec4a", func := "vinculum/vinculumlaw25.PlanTurned", spec := "planTurned", unfollowed := true, recurses := true, apart := false }
def PlanTurnedSaid : Prop := planTurnedRow.holds Try.pinned (OpenSpec.ofChange planTurnedSpec)

/-- ITS FALSE NEIGHBOUR: 'it returns false'. Refute it at one input. -/
def planTurnedWrong : ChangeSpec := { name := "planTurned", fn := fun _ => fun
  | [d1, d2, d3, d4] => { results := [.lit (.bool false)], args := [d1, d2, d3, d4] }
  | _ => none }
def PlanTurnedWrongFalsely : Prop := planTurnedRow.holds Try.pinned (OpenSpec.ofChange planTurnedWrong)

/-- 'vinculumlaw25.PlanCuts': WHATEVER THE INPUT: true; the input reads as it did. -/
def planCutsSpec : ChangeSpec := { name := "planCuts", fn := fun _ => fun
  | [d1, d2] => { results := [.lit (.bool true)], args := [d1, d2] }
  | _ => none }
def planCutsRow : OpenClaim := { program := "ytplfhjahdepphaa", sum := "71f4c7f44c1f6ed1940ab5324960d4124d91d64aa1d98176e48766725c0bec4a", func := "vinculum/vinculumlaw25.PlanCuts", spec := "planCuts", unfollowed := true, recurses := true, apart := false }
def PlanCutsSaid : Prop := planCutsRow.holds Try.pinned (OpenSpec.ofChange planCutsSpec)

/-- ITS FALSE NEIGHBOUR: 'it returns false'. Refute it at one input. -/
def planCutsWrong : ChangeSpec := { name := "planCuts", fn := fun _ => fun
  | [d1, d2] => { results := [.lit (.bool false)], args := [d1, d2] }
  | _ => none }
def PlanCutsWrongFalsely : Prop := planCutsRow.holds Try.pinned (OpenSpec.ofChange planCutsWrong)

/-- 'vinculumlaw25.PlanBounds': WHATEVER THE INPUT: true; the input reads as it did. -/
def planBoundsSpec : ChangeSpec := { name := "planBounds", fn := fun _ => fun
  | [d1, d2] => { results := [.lit (.bool true)], args := [d1, d2] }
  | _ => none }
def planBoundsRow : OpenClaim := { program := "ytplfhjahdepphaa", sum := "71f4c7f44c1f6ed1940ab5324960d4124d91d64aa1d98176e48766725c0bec4a", func := "vinculum/vinculumlaw25.PlanBounds", spec := "planBounds", unfollowed := true, recurses := true, apart := false }
def PlanBoundsSaid : Prop := planBoundsRow.holds Try.pinned (OpenSpec.ofChange planBoundsSpec)

/-- ITS FALSE NEIGHBOUR: 'it returns false'. Refute it at one input. -/
def planBoundsWrong : ChangeSpec := { name := "planBounds", fn := fun _ => fun
  | [d1, d2] => { results := [.lit (.bool false)], args := [d1, d2] }
  | _ => none }
def PlanBoundsWrongFalsely : Prop := planBoundsRow.holds Try.pinned (OpenSpec.ofChange planBoundsWrong)

/-- 'vinculumlaw25.PlanEncodes': WHATEVER THE INPUT: true; the input reads as it did. -/
def planEncodesSpec : ChangeSpec := { name := "planEncodes", fn := fun _ => fun
  | [d] => { results := [.lit (.bool true)], args := [d] }
  | _ => none }
def planEncodesRow : OpenClaim := { program := "ytplfhjahdepphaa", sum := "71f4c7f44c1f6ed1940ab5324960d4124d91d64aa1d98176e48766725c0bec4a", func := "vinculum/vinculumlaw25.PlanEncodes", spec := "planEncodes", unfollowed := true, recurses := true, apart := false }
def PlanEncodesSaid : Prop := planEncodesRow.holds Try.pinned (OpenSpec.ofChange planEncodesSpec)

/-- ITS FALSE NEIGHBOUR: 'it returns false'. Refute it at one input. -/
def planEncodesWrong : ChangeSpec := { name := "planEncodes", fn := fun _ => fun
  | [d] => { results := [.lit (.bool false)], args := [d] }
  | _ => none }
def PlanEncodesWrongFalsely : Prop := planEncodesRow.holds Try.pinned (OpenSpec.ofChange planEncodesWrong)

/-- 'vinculumlaw27.ExploreSums': WHATEVER THE INPUT: true; the input reads as it did. -/
def exploreSumsSpec : ChangeSpec := { name := "exploreSums", fn := fun _ => fun
  | [d] => { results := [.lit (.bool true)], args := [d] }
  | _ => none }
def exploreSumsRow : OpenClaim := { program := "ytplfhjahdepphaa", sum := "71f4c7f44c1f6ed1940ab5324960d4124d91d64aa1d98176e48766725c0bec4a", func := "vinculum/vinculumlaw27.ExploreSums", spec := "exploreSums", apart := false }
def ExploreSumsSaid : Prop := exploreSumsRow.holds Try.pinned (OpenSpec.ofChange exploreSumsSpec)

/-- ITS FALSE NEIGHBOUR: 'it returns false'. Refute it at one input. -/
def exploreSumsWrong : ChangeSpec := { name := "exploreSums", fn := fun _ => fun
  | [d] => { results := [.lit (.bool false)], args := [d] }
  | _ => none }
def ExploreSumsWrongFalsely : Prop := exploreSumsRow.holds Try.pinned (OpenSpec.ofChange exploreSumsWrong)

/-- 'vinculumlaw27.ExploreOrder': WHATEVER THE INPUT: true; the input reads as it did. -/
def exploreOrderSpec : ChangeSpec := { name := "exploreOrder", fn := fun _ => fun
  | [d1, d2, d3] => { results := [.lit (.bool true)], args := [d1, d2, d3] }
  | _ => none }
def exploreOrderRow : OpenClaim := { program := "ytplfhjahdepphaa", sum := "71f4c7f44c1f6ed1940ab5324960d4124d91d64aa1d98176e48766725c0bec4a", func := "vinculum/vinculumlaw27.ExploreOrder", spec := "exploreOrder", apart := false }
def ExploreOrderSaid : Prop := exploreOrderRow.holds Try.pinned (OpenSpec.ofChange exploreOrderSpec)

/-- ITS FALSE NEIGHBOUR: 'it returns false'. Refute it at one input. -/
def exploreOrderWrong : ChangeSpec := { name := "exploreOrder", fn := fun _ => fun
  | [d1, d2, d3] => { results := [.lit (.bool false)], args := [d1, d2, d3] }
  | _ => none }
def ExploreOrderWrongFalsely : Prop := exploreOrderRow.holds Try.pinned (OpenSpec.ofChange exploreOrderWrong)

/-- 'vinculumlaw27.ExploreLists': WHATEVER THE INPUT: true; the input reads as it did. -/
def exploreListsSpec : ChangeSpec := { name := "exploreLists", fn := fun _ => fun
  | [d1, d2] => { results := [.lit (.bool true)], args := [d1, d2] }
  | _ => none }
def exploreListsRow : OpenClaim := { program := "ytplfhjahdepphaa", sum := "71f4c7f44c1f6ed1940ab5324960d4124d91d64aa1d98176e48766725c0bec4a", func := "vinculum/vinculumlaw27.ExploreLists", spec := "exploreLists", apart := false }
def ExploreListsSaid : Prop := exploreListsRow.holds Try.pinned (OpenSpec.ofChange exploreListsSpec)

/-- ITS FALSE NEIGHBOUR: 'it returns false'. Refute it at one input. -/
def exploreListsWrong : ChangeSpec := { name := "exploreLists", fn := fun _ => fun
  | [d1, d2] => { results := [.lit (.bool false)], args := [d1, d2] }
  | _ => none }
def ExploreListsWrongFalsely : Prop := exploreListsRow.holds Try.pinned (OpenSpec.ofChange exploreListsWrong)

/- THE SECOND FORM. 'bulk': how many values and letters a reading holds, each counted each time it is reached (what is shared counts as often as it is met; a slice's spare places count too). A statement '..UptoSaid' is the law's where the arguments, and the package variables that the reading takes, are together of bulk at most 1048576: NARROWER than '..Said'. Prove '..Said' where nothing that the law and all that it calls make is longer than what came in: it says more and counts as full. Else prove '..UptoSaid'. A law counts once. -/
mutual
def uptoBulk {H : Type} : DataW H → Nat
  | .lit (.string bytes) => bytes.length + 1
  | .lit _ => 1
  | .nil => 1
  | .ptr d => uptoBulk d + 1
  | .slice elems spare => uptoBulkAll elems + uptoBulkAll spare + 1
  | .agg parts => uptoBulkAll parts + 1
  | .iface _ d => uptoBulk d + 1
  | .map entries => uptoBulkEntries entries + 1
  | .held _ => 1
def uptoBulkAll {H : Type} : List (DataW H) → Nat
  | [] => 0
  | d :: r => uptoBulk d + uptoBulkAll r
def uptoBulkEntries {H : Type} : List (Lit × DataW H) → Nat
  | [] => 0
  | x :: r => uptoBulkEntry x + uptoBulkEntries r
def uptoBulkEntry {H : Type} : Lit × DataW H → Nat
  | (.string bytes, d) => bytes.length + uptoBulk d + 1
  | (_, d) => uptoBulk d + 1
 end
def uptoSmall : (H : Type) → List (DataW H) → Bool := fun _ ds => decide (uptoBulkAll ds ≤ 1048576)
def OpenSpec.upto (s : _root_.Go.ChangeSpec) : _root_.Go.OpenSpec := { _root_.Go.OpenSpec.ofChange s with cond := some uptoSmall }

/-- 'vinculumlaw1.WordKinds', WHERE WHAT IT READS IS OF BULK AT MOST 1048576: true; the input reads as it did. -/
def wordKindsUptoRow : OpenClaim := { program := "ytplfhjahdepphaa", sum := "71f4c7f44c1f6ed1940ab5324960d4124d91d64aa1d98176e48766725c0bec4a", func := "vinculum/vinculumlaw1.WordKinds", spec := "wordKinds", apart := false, narrowed := true }
def WordKindsUptoSaid : Prop := wordKindsUptoRow.holds Try.pinned (OpenSpec.upto wordKindsSpec)

/-- 'vinculumlaw1.WordMarks', WHERE WHAT IT READS IS OF BULK AT MOST 1048576: true; the input reads as it did. -/
def wordMarksUptoRow : OpenClaim := { program := "ytplfhjahdepphaa", sum := "71f4c7f44c1f6ed1940ab5324960d4124d91d64aa1d98176e48766725c0bec4a", func := "vinculum/vinculumlaw1.WordMarks", spec := "wordMarks", apart := false, narrowed := true }
def WordMarksUptoSaid : Prop := wordMarksUptoRow.holds Try.pinned (OpenSpec.upto wordMarksSpec)

/-- 'vinculumlaw1.WordLinks', WHERE WHAT IT READS IS OF BULK AT MOST 1048576: true; the input reads as it did. -/
def wordLinksUptoRow : OpenClaim := { program := "ytplfhjahdepphaa", sum := "71f4c7f44c1f6ed1940ab5324960d4124d91d64aa1d98176e48766725c0bec4a", func := "vinculum/vinculumlaw1.WordLinks", spec := "wordLinks", apart := false, narrowed := true }
def WordLinksUptoSaid : Prop := wordLinksUptoRow.holds Try.pinned (OpenSpec.upto wordLinksSpec)

/-- 'vinculumlaw1.WordEnds', WHERE WHAT IT READS IS OF BULK AT MOST 1048576: true; the input reads as it did. -/
def wordEndsUptoRow : OpenClaim := { program := "ytplfhjahdepphaa", sum := "71f4c7f44c1f6ed1940ab5324960d4124d91d64aa1d98176e48766725c0bec4a", func := "vinculum/vinculumlaw1.WordEnds", spec := "wordEnds", apart := false, narrowed := true }
def WordEndsUptoSaid : Prop := wordEndsUptoRow.holds Try.pinned (OpenSpec.upto wordEndsSpec)

/-- 'vinculumlaw1.WordApart', WHERE WHAT IT READS IS OF BULK AT MOST 1048576: true; the input reads as it did. -/
def wordApartUptoRow : OpenClaim := { program := "ytplfhjahdepphaa", sum := "71f4c7f44c1f6ed1940ab5324960d4124d91d64aa1d98176e48766725c0bec4a", func := "vinculum/vinculumlaw1.WordApart", spec := "wordApart", apart := false, narrowed := true }
def WordApartUptoSaid : Prop := wordApartUptoRow.holds Try.pinned (OpenSpec.upto wordApartSpec)

/-- 'vinculumlaw1.WordBefore', WHERE WHAT IT READS IS OF BULK AT MOST 1048576: true; the input reads as it did. -/
def wordBeforeUptoRow : OpenClaim := { program := "ytplfhjahdepphaa", sum := "71f4c7f44c1f6ed1940ab5324960d4124d91d64aa1d98176e48766725c0bec4a", func := "vinculum/vinculumlaw1.WordBefore", spec := "wordBefore", apart := false, narrowed := true }
def WordBeforeUptoSaid : Prop := wordBeforeUptoRow.holds Try.pinned (OpenSpec.upto wordBeforeSpec)

/-- 'vinculumlaw1.WordStamps', WHERE WHAT IT READS IS OF BULK AT MOST 1048576: true; the input reads as it did. -/
def wordStampsUptoRow : OpenClaim := { program := "ytplfhjahdepphaa", sum := "71f4c7f44c1f6ed1940ab5324960d4124d91d64aa1d98176e48766725c0bec4a", func := "vinculum/vinculumlaw1.WordStamps", spec := "wordStamps", apart := false, narrowed := true }
def WordStampsUptoSaid : Prop := wordStampsUptoRow.holds Try.pinned (OpenSpec.upto wordStampsSpec)

/-- 'vinculumlaw25.PlanDecodes', WHERE WHAT IT READS IS OF BULK AT MOST 1048576: true; the input reads as it did. -/
def planDecodesUptoRow : OpenClaim := { program := "ytplfhjahdepphaa", sum := "71f4c7f44c1f6ed1940ab5324960d4124d91d64aa1d98176e48766725c0bec4a", func := "vinculum/vinculumlaw25.PlanDecodes", spec := "planDecodes", apart := false, narrowed := true }
def PlanDecodesUptoSaid : Prop := planDecodesUptoRow.holds Try.pinned (OpenSpec.upto planDecodesSpec)

/-- 'vinculumlaw25.PlanTurned', WHERE WHAT IT READS IS OF BULK AT MOST 1048576: true; the input reads as it did. -/
def planTurnedUptoRow : OpenClaim := { program := "ytplfhjahdepphaa", sum := "71f4c7f44c1f6ed1940ab5324960d4124d91d64aa1d98176e48766725c0bec4a", func := "vinculum/vinculumlaw25.PlanTurned", spec := "planTurned", unfollowed := true, recurses := true, apart := false, narrowed := true }
def PlanTurnedUptoSaid : Prop := planTurnedUptoRow.holds Try.pinned (OpenSpec.upto planTurnedSpec)

/-- 'vinculumlaw25.PlanCuts', WHERE WHAT IT READS IS OF BULK AT MOST 1048576: true; the input reads as it did. -/
def planCutsUptoRow : OpenClaim := { program := "ytplfhjahdepphaa", sum := "71f4c7f44c1f6ed1940ab5324960d4124d91d64aa1d98176e48766725c0bec4a", func := "vinculum/vinculumlaw25.PlanCuts", spec := "planCuts", unfollowed := true, recurses := true, apart := false, narrowed := true }
def PlanCutsUptoSaid : Prop := planCutsUptoRow.holds Try.pinned (OpenSpec.upto planCutsSpec)

/-- 'vinculumlaw25.PlanBounds', WHERE WHAT IT READS IS OF BULK AT MOST 1048576: true; the input reads as it did. -/
def planBoundsUptoRow : OpenClaim := { program := "ytplfhjahdepphaa", sum := "71f4c7f44c1f6ed1940ab5324960d4124d91d64aa1d98176e48766725c0bec4a", func := "vinculum/vinculumlaw25.PlanBounds", spec := "planBounds", unfollowed := true, recurses := true, apart := false, narrowed := true }
def PlanBoundsUptoSaid : Prop := planBoundsUptoRow.holds Try.pinned (OpenSpec.upto planBoundsSpec)

/-- 'vinculumlaw25.PlanEncodes', WHERE WHAT IT READS IS OF BULK AT MOST 1048576: true; the input reads as it did. -/
def planEncodesUptoRow : OpenClaim := { program := "ytplfhjahdepphaa", sum := "71f4c7f44c1f6ed1940ab5324960d4124d91d64aa1d98176e48766725c0bec4a", func := "vinculum/vinculumlaw25.PlanEncodes", spec := "planEncodes", unfollowed := true, recurses := true, apart := false, narrowed := true }
def PlanEncodesUptoSaid : Prop := planEncodesUptoRow.holds Try.pinned (OpenSpec.upto planEncodesSpec)

/-- 'vinculumlaw27.ExploreSums', WHERE WHAT IT READS IS OF BULK AT MOST 1048576: true; the input reads as it did. -/
def exploreSumsUptoRow : OpenClaim := { program := "ytplfhjahdepphaa", sum := "71f4c7f44c1f6ed1940ab5324960d4124d91d64aa1d98176e48766725c0bec4a", func := "vinculum/vinculumlaw27.ExploreSums", spec := "exploreSums", apart := false, narrowed := true }
def ExploreSumsUptoSaid : Prop := exploreSumsUptoRow.holds Try.pinned (OpenSpec.upto exploreSumsSpec)

/-- 'vinculumlaw27.ExploreOrder', WHERE WHAT IT READS IS OF BULK AT MOST 1048576: true; the input reads as it did. -/
def exploreOrderUptoRow : OpenClaim := { program := "ytplfhjahdepphaa", sum := "71f4c7f44c1f6ed1940ab5324960d4124d91d64aa1d98176e48766725c0bec4a", func := "vinculum/vinculumlaw27.ExploreOrder", spec := "exploreOrder", apart := false, narrowed := true }
def ExploreOrderUptoSaid : Prop := exploreOrderUptoRow.holds Try.pinned (OpenSpec.upto exploreOrderSpec)

/-- 'vinculumlaw27.ExploreLists', WHERE WHAT IT READS IS OF BULK AT MOST 1048576: true; the input reads as it did. -/
def exploreListsUptoRow : OpenClaim := { program := "ytplfhjahdepphaa", sum := "71f4c7f44c1f6ed1940ab5324960d4124d91d64aa1d98176e48766725c0bec4a", func := "vinculum/vinculumlaw27.ExploreLists", spec := "exploreLists", apart := false, narrowed := true }
def ExploreListsUptoSaid : Prop := exploreListsUptoRow.holds Try.pinned (OpenSpec.upto exploreListsSpec)

end Rows
end Go.Proofs.Ytplfhjahdepphaa
