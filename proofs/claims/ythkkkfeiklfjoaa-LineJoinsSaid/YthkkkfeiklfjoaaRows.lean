/-
  No cell of these rows narrows 'for every input' (looked for: loops, veiled, ifaces, maps, wideKeys, modest, calm, conditions, laid).
  DERIVED. THE GIVEN ROWS OF THIS SEAT. 4 by the template 'for every input the law returns true; each argument reads behind the call as it read before'; 0 by the template 'total and deterministic' (their statements: YthkkkfeiklfjoaaTotals.lean).
  GIVEN WITH THE SEED: the statements are not yours to turn. If you find one false, say at which input.
  Laid BY PROGRAM, IN A SANDBOX (cutbox-rows.mjs): the forced cells as the released guide's own fill.sh prints them over the translation 48c72d5809ad9717… (all of the seat's roots in one cut). By AI agents, Wed Nov 11 2026. No macro, syntax, notation, axiom, sorry.
-/
import Derived.Test.YthkkkfeiklfjoaaChecked
import GoSem.Claim
import GoSem.ClaimJoined
import GoSem.ClaimMapViews
import Derived.JoinedTies
import Derived.KernelRfl
namespace Go.Proofs.Ythkkkfeiklfjoaa
/- THE CELL 'sum', in the pinned program and in every row, IS THE sha256 OF THE DUMP (.gsa) THAT YthkkkfeiklfjoaaProg.lean LOADS. Nothing in Lean hashes anything: it is a label: what it is worth is what the hold of that sum in a sandbox is worth. -/
noncomputable def Try.pinned : Pinned := { name := "ythkkkfeiklfjoaa", sum := "48c72d5809ad9717dd0fa077c4f451e2cf166b3138c18435461ca8e97f463bf9", checked := Try.checked }
namespace Rows
def none {H : Type} : Left H := { results := [], args := [] }

/-- 'tollbarlaw05.LineCuts': WHATEVER THE INPUT: true; the input reads as it did. -/
def lineCutsSpec : ChangeSpec := { name := "lineCuts", fn := fun _ => fun
  | [d1, d2] => { results := [.lit (.bool true)], args := [d1, d2] }
  | _ => none }
def lineCutsRow : OpenClaim := { program := "ythkkkfeiklfjoaa", sum := "48c72d5809ad9717dd0fa077c4f451e2cf166b3138c18435461ca8e97f463bf9", func := "tollbar/tollbarlaw05.LineCuts", spec := "lineCuts", apart := false }
def LineCutsSaid : Prop := lineCutsRow.holds Try.pinned (OpenSpec.ofChange lineCutsSpec)

/-- ITS FALSE NEIGHBOUR: 'it returns false'. Refute it at one input. -/
def lineCutsWrong : ChangeSpec := { name := "lineCuts", fn := fun _ => fun
  | [d1, d2] => { results := [.lit (.bool false)], args := [d1, d2] }
  | _ => none }
def LineCutsWrongFalsely : Prop := lineCutsRow.holds Try.pinned (OpenSpec.ofChange lineCutsWrong)

/-- 'tollbarlaw05.LineGrows': WHATEVER THE INPUT: true; the input reads as it did. -/
def lineGrowsSpec : ChangeSpec := { name := "lineGrows", fn := fun _ => fun
  | [d1, d2, d3] => { results := [.lit (.bool true)], args := [d1, d2, d3] }
  | _ => none }
def lineGrowsRow : OpenClaim := { program := "ythkkkfeiklfjoaa", sum := "48c72d5809ad9717dd0fa077c4f451e2cf166b3138c18435461ca8e97f463bf9", func := "tollbar/tollbarlaw05.LineGrows", spec := "lineGrows", apart := false }
def LineGrowsSaid : Prop := lineGrowsRow.holds Try.pinned (OpenSpec.ofChange lineGrowsSpec)

/-- ITS FALSE NEIGHBOUR: 'it returns false'. Refute it at one input. -/
def lineGrowsWrong : ChangeSpec := { name := "lineGrows", fn := fun _ => fun
  | [d1, d2, d3] => { results := [.lit (.bool false)], args := [d1, d2, d3] }
  | _ => none }
def LineGrowsWrongFalsely : Prop := lineGrowsRow.holds Try.pinned (OpenSpec.ofChange lineGrowsWrong)

/-- 'tollbarlaw05.LineJoins': WHATEVER THE INPUT: true; the input reads as it did. -/
def lineJoinsSpec : ChangeSpec := { name := "lineJoins", fn := fun _ => fun
  | [d1, d2, d3] => { results := [.lit (.bool true)], args := [d1, d2, d3] }
  | _ => none }
def lineJoinsRow : OpenClaim := { program := "ythkkkfeiklfjoaa", sum := "48c72d5809ad9717dd0fa077c4f451e2cf166b3138c18435461ca8e97f463bf9", func := "tollbar/tollbarlaw05.LineJoins", spec := "lineJoins", apart := false }
def LineJoinsSaid : Prop := lineJoinsRow.holds Try.pinned (OpenSpec.ofChange lineJoinsSpec)

/-- ITS FALSE NEIGHBOUR: 'it returns false'. Refute it at one input. -/
def lineJoinsWrong : ChangeSpec := { name := "lineJoins", fn := fun _ => fun
  | [d1, d2, d3] => { results := [.lit (.bool false)], args := [d1, d2, d3] }
  | _ => none }
def LineJoinsWrongFalsely : Prop := lineJoinsRow.holds Try.pinned (OpenSpec.ofChange lineJoinsWrong)

/-- 'tollbarlaw02.SignClasses': WHATEVER THE INPUT: true; the input reads as it did. -/
def signClassesSpec : ChangeSpec := { name := "signClasses", fn := fun _ => fun
  | [d] => { results := [.lit (.bool true)], args := [d] }
  | _ => none }
def signClassesRow : OpenClaim := { program := "ythkkkfeiklfjoaa", sum := "48c72d5809ad9717dd0fa077c4f451e2cf166b3138c18435461ca8e97f463bf9", func := "tollbar/tollbarlaw02.SignClasses", spec := "signClasses", inPlace := ["internal/bytealg.IndexByteString"], unfollowed := true, recurses := true, apart := false }
def SignClassesSaid : Prop := signClassesRow.holds Try.pinned (OpenSpec.ofChange signClassesSpec)

/-- ITS FALSE NEIGHBOUR: 'it returns false'. Refute it at one input. -/
def signClassesWrong : ChangeSpec := { name := "signClasses", fn := fun _ => fun
  | [d] => { results := [.lit (.bool false)], args := [d] }
  | _ => none }
def SignClassesWrongFalsely : Prop := signClassesRow.holds Try.pinned (OpenSpec.ofChange signClassesWrong)

/- THE SECOND FORM. 'bulk': how many values and letters a reading holds, each counted each time it is reached (what is shared counts as often as it is met; a slice's spare places count too). A statement '..UptoSaid' is the law's where the arguments, and the package variables that the reading takes, are together of bulk at most 1048576: NARROWER than '..Said'. Prove '..Said' where nothing that the law and all that it calls make is longer than what came in: it says more and counts as full. Else prove '..UptoSaid'. A law counts once. -/
mutual
def uptoBulk {H : Type} : DataW H → Nat
  | .lit (.string bytes) => bytes.length + 1
  | .lit _ => 1
  | .nil => 1
  | .ptr d => uptoBulk d + 1
  | .slice elems spare => uptoBulkAll elems + uptoBulkAll spare + 1
  | .agg parts => uptoBulkAll parts + 1
  | .iface _ d => uptoBulk d + 1
  | .map entries => uptoBulkEntries entries + 1
  | .held _ => 1
def uptoBulkAll {H : Type} : List (DataW H) → Nat
  | [] => 0
  | d :: r => uptoBulk d + uptoBulkAll r
def uptoBulkEntries {H : Type} : List (Lit × DataW H) → Nat
  | [] => 0
  | x :: r => uptoBulkEntry x + uptoBulkEntries r
def uptoBulkEntry {H : Type} : Lit × DataW H → Nat
  | (.string bytes, d) => bytes.length + uptoBulk d + 1
  | (_, d) => uptoBulk d + 1
 end
def uptoSmall : (H : Type) → List (DataW H) → Bool := fun _ ds => decide (uptoBulkAll ds ≤ 1048576)
def OpenSpec.upto (s : _root_.Go.ChangeSpec) : _root_.Go.OpenSpec := { _root_.Go.OpenSpec.ofChange s with cond := some uptoSmall }

/-- 'tollbarlaw05.LineCuts', WHERE WHAT IT READS IS OF BULK AT MOST 1048576: true; the input reads as it did. -/
def lineCutsUptoRow : OpenClaim := { program := "ythkkkfeiklfjoaa", sum := "48c72d5809ad9717dd0fa077c4f451e2cf166b3138c18435461ca8e97f463bf9", func := "tollbar/tollbarlaw05.LineCuts", spec := "lineCuts", apart := false, narrowed := true }
def LineCutsUptoSaid : Prop := lineCutsUptoRow.holds Try.pinned (OpenSpec.upto lineCutsSpec)

/-- 'tollbarlaw05.LineGrows', WHERE WHAT IT READS IS OF BULK AT MOST 1048576: true; the input reads as it did. -/
def lineGrowsUptoRow : OpenClaim := { program := "ythkkkfeiklfjoaa", sum := "48c72d5809ad9717dd0fa077c4f451e2cf166b3138c18435461ca8e97f463bf9", func := "tollbar/tollbarlaw05.LineGrows", spec := "lineGrows", apart := false, narrowed := true }
def LineGrowsUptoSaid : Prop := lineGrowsUptoRow.holds Try.pinned (OpenSpec.upto lineGrowsSpec)

/-- 'tollbarlaw05.LineJoins', WHERE WHAT IT READS IS OF BULK AT MOST 1048576: true; the input reads as it did. -/
def lineJoinsUptoRow : OpenClaim := { program := "ythkkkfeiklfjoaa", sum := "48c72d5809ad9717dd0fa077c4f451e2cf166b3138c18435461ca8e97f463bf9", func := "tollbar/tollbarlaw05.LineJoins", spec := "lineJoins", apart := false, narrowed := true }
def LineJoinsUptoSaid : Prop := lineJoinsUptoRow.holds Try.pinned (OpenSpec.upto lineJoinsSpec)

/-- 'tollbarlaw02.SignClasses', WHERE WHAT IT READS IS OF BULK AT MOST 1048576: true; the input reads as it did. -/
def signClassesUptoRow : OpenClaim := { program := "ythkkkfeiklfjoaa", sum := "48c72d5809ad9717dd0fa077c4f451e2cf166b3138c18435461ca8e97f463bf9", func := "tollbar/tollbarlaw02.SignClasses", spec := "signClasses", inPlace := ["internal/bytealg.IndexByteString"], unfollowed := true, recurses := true, apart := false, narrowed := true }
def SignClassesUptoSaid : Prop := signClassesUptoRow.holds Try.pinned (OpenSpec.upto signClassesSpec)

end Rows
end Go.Proofs.Ythkkkfeiklfjoaa
