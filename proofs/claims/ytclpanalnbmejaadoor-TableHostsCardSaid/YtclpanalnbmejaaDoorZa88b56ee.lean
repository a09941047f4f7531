/- Each function below answers as its Lean twin says; plain lemmas; a row where its theorem stands. No further condition. (Laid by this repo's pack.py out of its texts and of the print's words.) -/
import Derived.Test.YtclpanalnbmejaaDoorZ1cca9b69
namespace Go.Proofs.YtclpanalnbmejaaDoor.P
open Go.RowKit Go.Proofs.YtclpanalnbmejaaDoorW.PrintWords Go.Proofs.YtclpanalnbmejaaDoorW.PrintLast Go.Proofs.YtclpanalnbmejaaDoorW.PrintMore
attribute [local go_sem] max2_int min2_int max_two min_two max_three min_three max_four min_four
set_option linter.unusedVariables false
set_option linter.unusedSimpArgs false
end Go.Proofs.YtclpanalnbmejaaDoor.P
