/- Each function below answers as its Lean twin says; a law answers true at every input that its row speaks of. No further condition. (Laid by this repo's seatprint.py.) -/
import Derived.Test.YthkkkfeiklfjoaaProg
import Derived.Below
import Derived.Deep.Draws
import Derived.Deep.AppendLies
import Derived.Maps.AppendAt
import Derived.OwnWalk
import Derived.Laws.BytesArg
import Derived.Laws.MakeOwn
import Derived.Laws.OwnMore
import Derived.Deep.OwnRows
import Derived.Tactics
import Derived.Lib.ConvBytes
import Derived.Laws.Slices
import Derived.WalkKit
import Derived.KernelRfl
import Derived.RowKit3
import Derived.Deep.LoopGhost
import Derived.Deep.QuietTactic
import Derived.BigQuiet
import Derived.WideLaws
import Derived.Deep.DeepCutAuto
import Derived.Deep.CutBlock
import Derived.Deep.RegionHeld3
import Derived.Laws.Rows
import Derived.Lib.AppendStr
import Derived.ArgAppend
import Derived.Laws.IdiomCopy
import Derived.OrdersHeld
import Derived.Laws.BitsLemmas
import Derived.RowKit
import Derived.Test.YthkkkfeiklfjoaaWWords
import Derived.Test.YthkkkfeiklfjoaaWLast
import Derived.Test.YthkkkfeiklfjoaaWTab
import Derived.Test.YthkkkfeiklfjoaaWFour
import Derived.Test.YthkkkfeiklfjoaaWQPut
import Derived.Test.YthkkkfeiklfjoaaWApart
import Derived.Test.YthkkkfeiklfjoaaWArr
import Derived.Test.YthkkkfeiklfjoaaWZeros
import Derived.Test.YthkkkfeiklfjoaaWFoot
import Derived.Test.YthkkkfeiklfjoaaWKept
import Derived.Test.YthkkkfeiklfjoaaWShare
import Derived.Test.YthkkkfeiklfjoaaWN
import Derived.Test.YthkkkfeiklfjoaaWFootNe
import Derived.Test.YthkkkfeiklfjoaaWAt
import Derived.Test.YthkkkfeiklfjoaaWEqStruct
import Derived.Test.YthkkkfeiklfjoaaWRepsOne
import Derived.Test.YthkkkfeiklfjoaaWInv
import Derived.Test.YthkkkfeiklfjoaaWInvWords
import Derived.Test.YthkkkfeiklfjoaaWGuard
import Derived.Test.YthkkkfeiklfjoaaWNEv
import Derived.Test.YthkkkfeiklfjoaaWMore
namespace Go.Proofs.Ythkkkfeiklfjoaa.P
open Go.RowKit Go.Proofs.YthkkkfeiklfjoaaW.PrintWords Go.Proofs.YthkkkfeiklfjoaaW.PrintLast Go.Proofs.YthkkkfeiklfjoaaW.PrintMore
attribute [local go_sem] max2_int min2_int max_two min_two max_three min_three max_four min_four   -- for this text's walks alone
set_option linter.unusedVariables false
set_option linter.unusedSimpArgs false



def errW : Option Int → Value
  | none => .nilIface
  | some c => .iface 0 (.int .i64 c)
theorem errW_none : errW none = .nilIface := rfl
theorem errW_some (c : Int) : errW (some c) = .iface 0 (.int .i64 c) := rfl

theorem info5 : (Try.prog.info? 5).map (fun i => (i.zero, i.size, i.bytes)) = some (some (.int .u8 0), 1, 1) := by kernel_rfl
-- the values' own types

end Go.Proofs.Ythkkkfeiklfjoaa.P
