/- Each function below answers as its Lean twin says; a law answers true at every input that its row speaks of. No further condition. (Laid by this repo's seatprint.py.) -/
import Derived.Test.YthkkkfeiklfjoaaPx0
import Derived.Test.YthkkkfeiklfjoaaFtollbarlaw02SignClasses
import Derived.Test.YthkkkfeiklfjoaaFtollbarlaw02classes
import Derived.Test.YthkkkfeiklfjoaaQRefSign
import Derived.Test.YthkkkfeiklfjoaaQSign
namespace Go.Proofs.Ythkkkfeiklfjoaa.Pure
open Go.RowKit Go.Proofs.Ythkkkfeiklfjoaa.P Go.Proofs.YthkkkfeiklfjoaaW.PrintWords Go.Proofs.YthkkkfeiklfjoaaW.PrintLast Go.Proofs.YthkkkfeiklfjoaaW.PrintMore
set_option linter.unusedVariables false
set_option linter.unusedSimpArgs false
theorem SignClasses : tollbarlaw02_SignClasses.Pure := by
  intro s hn
  refine ⟨s.size + 2, ?_⟩
  unfold tollbarlaw02_SignClasses.f
  rw [show tollbarlaw02_classes.f = some true by kernel_rfl, refToken_f s (by omega) _ (by omega), refValue_f s (by omega) _ (by omega), refTarget_f s (by omega) _ (by omega), Token_f s (by omega), Value_f s (by omega), Target_f s (by omega)]
  simp

end Go.Proofs.Ythkkkfeiklfjoaa.Pure
