/- Each function below answers as its Lean twin says; a law answers true at every input that its row speaks of. No further condition. (Laid by this repo's seatprint.py.) -/
import Derived.Test.YthkkkfeiklfjoaaDoorPx0
import Derived.Test.YthkkkfeiklfjoaaDoorFsignHexText
import Derived.Test.YthkkkfeiklfjoaaDoorFsignText
import Derived.Test.YthkkkfeiklfjoaaDoorFstrconvFormatInt29
import Derived.Test.YthkkkfeiklfjoaaDoorFstrconvFormatInt34
import Derived.Test.YthkkkfeiklfjoaaDoorFstrconvformatBits
namespace Go.Proofs.YthkkkfeiklfjoaaDoor.Pure
open Go.RowKit Go.Proofs.YthkkkfeiklfjoaaDoor.P Go.Proofs.YthkkkfeiklfjoaaDoorW.PrintWords Go.Proofs.YthkkkfeiklfjoaaDoorW.PrintLast Go.Proofs.YthkkkfeiklfjoaaDoorW.PrintMore
set_option linter.unusedVariables false
set_option linter.unusedSimpArgs false
theorem Text_f (n : Int) (h0 : -9223372036854775808 ≤ n) (h1 : n ≤ 9223372036854775807) : sign_Text.f n = some ⟨(Lib.itoa n).toArray⟩ := by
  unfold sign_Text.f strconv_FormatInt_29.f strconv_FormatInt_34.f
  rw [if_pos rfl, if_pos ⟨h0, h1⟩]
  rfl
theorem HexText_f (n : Int) (h1 : n ≤ 9223372036854775807) : sign_HexText.f n = some (strOfNums (hexD (mx n 0).toNat)) := by
  unfold sign_HexText.f strconv_FormatInt_29.f strconv_FormatInt_34.f
  rw [if_neg (by decide), if_pos rfl, if_pos ⟨by unfold mx; split <;> omega, by unfold mx; split <;> omega⟩]
  rfl

end Go.Proofs.YthkkkfeiklfjoaaDoor.Pure
