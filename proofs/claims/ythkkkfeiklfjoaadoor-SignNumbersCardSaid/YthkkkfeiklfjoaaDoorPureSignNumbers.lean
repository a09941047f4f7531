/- Each function below answers as its Lean twin says; a law answers true at every input that its row speaks of. No further condition. (Laid by this repo's seatprint.py.) -/
import Derived.Test.YthkkkfeiklfjoaaDoorPx0
import Derived.Test.YthkkkfeiklfjoaaDoorFtollbarlaw02SignNumbers
import Derived.Test.YthkkkfeiklfjoaaDoorQNumber
import Derived.Test.YthkkkfeiklfjoaaDoorQNumbersAlive
import Derived.Test.YthkkkfeiklfjoaaDoorQRefNumber
namespace Go.Proofs.YthkkkfeiklfjoaaDoor.Pure
open Go.RowKit Go.Proofs.YthkkkfeiklfjoaaDoor.P Go.Proofs.YthkkkfeiklfjoaaDoorW.PrintWords Go.Proofs.YthkkkfeiklfjoaaDoorW.PrintLast Go.Proofs.YthkkkfeiklfjoaaDoorW.PrintMore
set_option linter.unusedVariables false
set_option linter.unusedSimpArgs false
theorem SignNumbers : tollbarlaw02_SignNumbers.Pure := by
  intro s hs
  refine ⟨2 * s.size + 60, ?_⟩
  unfold tollbarlaw02_SignNumbers.f
  rw [numbers_f _ (by omega), Option.bind_some, if_pos rfl, Decimal_f s (by omega) _ (by omega), Option.bind_some, refDecimal_f s _ (by omega) (by omega), Option.bind_some, Hex_f s (by omega) _ (by omega), Option.bind_some, refHex_f s _ (by omega) (by omega), Option.bind_some,
    if_pos rfl, if_pos (by simp), if_pos rfl]
  simp

end Go.Proofs.YthkkkfeiklfjoaaDoor.Pure
