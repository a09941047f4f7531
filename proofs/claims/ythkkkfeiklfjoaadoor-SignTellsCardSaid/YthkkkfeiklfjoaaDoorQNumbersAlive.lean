/- Each function below answers as its Lean twin says; a law answers true at every input that its row speaks of. No further condition. (Laid by this repo's seatprint.py.) -/
import Derived.Test.YthkkkfeiklfjoaaDoorPx0
import Derived.Test.YthkkkfeiklfjoaaDoorFstrconvformatBits
import Derived.Test.YthkkkfeiklfjoaaDoorFtollbarlaw02numbers
import Derived.Test.YthkkkfeiklfjoaaDoorQBytes
import Derived.Test.YthkkkfeiklfjoaaDoorQNumber
import Derived.Test.YthkkkfeiklfjoaaDoorQText
namespace Go.Proofs.YthkkkfeiklfjoaaDoor.Pure
open Go.RowKit Go.Proofs.YthkkkfeiklfjoaaDoor.P Go.Proofs.YthkkkfeiklfjoaaDoorW.PrintWords Go.Proofs.YthkkkfeiklfjoaaDoorW.PrintLast Go.Proofs.YthkkkfeiklfjoaaDoorW.PrintMore
set_option linter.unusedVariables false
set_option linter.unusedSimpArgs false
theorem numbers_f (k : Nat) (hk : 20 ≤ k) : tollbarlaw02_numbers.f k = some true := by
  unfold tollbarlaw02_numbers.f
  have e1 : (⟨(Lib.itoa (-5)).toArray⟩ : ByteArray).toList = [45, 53] := by
    rw [toList_data]
    simp [Lib.itoa, Lib.decDigits_one]
  have e2 : strOfNums (hexD (mx 431 0).toNat) = ⟨#[49, 97, 102]⟩ := by
    rw [show (mx 431 0).toNat = 431 by decide, hexD_big 431 (by decide), hexD_big (431 / 16) (by decide), hexD_small (431 / 16 / 16) (by decide)]
    decide +kernel
  rw [Hex_f _ (by decide) k (by show 2 * 3 + 1 ≤ k; omega), Decimal_f _ (by decide) k (by show 2 * 2 + 1 ≤ k; omega), Decimal_f _ (by decide) k (by show 2 * 2 + 1 ≤ k; omega), Option.bind_some, Option.bind_some, Option.bind_some,
    show numSpec (⟨#[49, 97, 70]⟩ : ByteArray) 16 15 = (431, true) by decide +kernel, show numSpec (⟨#[49, 50]⟩ : ByteArray) 10 18 = (12, true) by decide +kernel, show numSpec (⟨#[43, 49]⟩ : ByteArray) 10 18 = (0, false) by decide +kernel,
    if_pos rfl, if_pos rfl, if_pos rfl, if_pos rfl, if_neg (by decide), Text_f _ (by decide) (by decide), Option.bind_some, if_pos e1, HexText_f _ (by decide), Option.bind_some, e2]
  decide +kernel

end Go.Proofs.YthkkkfeiklfjoaaDoor.Pure
