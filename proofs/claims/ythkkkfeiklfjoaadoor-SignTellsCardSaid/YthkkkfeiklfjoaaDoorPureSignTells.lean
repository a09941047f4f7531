/- Each function below answers as its Lean twin says; a law answers true at every input that its row speaks of. No further condition. (Laid by this repo's seatprint.py.) -/
import Derived.Test.YthkkkfeiklfjoaaDoorPx0
import Derived.Test.YthkkkfeiklfjoaaDoorFtollbarlaw02SignTells
import Derived.Test.YthkkkfeiklfjoaaDoorQBytes
import Derived.Test.YthkkkfeiklfjoaaDoorQDigits
import Derived.Test.YthkkkfeiklfjoaaDoorQNumber
import Derived.Test.YthkkkfeiklfjoaaDoorQNumbersAlive
import Derived.Test.YthkkkfeiklfjoaaDoorQRefText
import Derived.Test.YthkkkfeiklfjoaaDoorQText
namespace Go.Proofs.YthkkkfeiklfjoaaDoor.Pure
open Go.RowKit Go.Proofs.YthkkkfeiklfjoaaDoor.P Go.Proofs.YthkkkfeiklfjoaaDoorW.PrintWords Go.Proofs.YthkkkfeiklfjoaaDoorW.PrintLast Go.Proofs.YthkkkfeiklfjoaaDoorW.PrintMore
set_option linter.unusedVariables false
set_option linter.unusedSimpArgs false
theorem SignTells : tollbarlaw02_SignTells.Pure := by
  intro n hn
  have hr : -9223372036854775808 ≤ n ∧ n ≤ 9223372036854775807 := by simpa [Lit.wf, IntKind.min, IntKind.max, IntKind.signed, IntKind.bits] using hn
  refine ⟨102, ?_⟩
  unfold tollbarlaw02_SignTells.f
  rw [numbers_f _ (by decide), Option.bind_some, if_pos rfl, refText_f 102 (by decide) n hr.1 hr.2, refHexText_f 102 (by decide) n hr.2, Text_f n hr.1 hr.2, Option.bind_some, Option.bind_some, if_pos rfl, HexText_f n hr.2, Option.bind_some, Option.bind_some]
  simp only [tollbarlaw02_SignTells.j0]
  rw [if_neg (by simp)]
  by_cases h : n < 0
  · rw [if_pos h]
    simp only [tollbarlaw02_SignTells.j1]
    rfl
  · rw [if_neg h]
    simp only [tollbarlaw02_SignTells.j1]
    by_cases hb : n > 1000000000000000
    · rw [decide_eq_true hb, if_pos rfl]
    · rw [decide_eq_false hb, if_neg (by simp), Text_f n hr.1 hr.2, Option.bind_some, HexText_f n hr.2]
      have hi : Lib.itoa n = Lib.decDigits n.toNat := by unfold Lib.itoa; rw [if_neg h]
      have hm : (mx n 0).toNat = n.toNat := by unfold mx; rw [if_neg h]
      have c1 : (10 : Nat) ^ 18 = 1000000000000000000 := by decide
      have c2 : (16 : Nat) ^ 15 = 1152921504606846976 := by decide
      have l1 := dec_len 17 n.toNat (by omega)
      have l2 := hex_len 14 n.toNat (by omega)
      rw [hi, dec_str, hm, Decimal_f _ (by rw [str_size]; omega) 100 (by rw [str_size]; omega), Option.bind_some, Option.bind_some, Hex_f _ (by rw [str_size]; omega) 100 (by rw [str_size]; omega), Option.bind_some, dec_spec n.toNat (by omega), hex_spec n.toNat (by omega),
        if_pos rfl, if_pos rfl, if_pos (by show ((n.toNat : Nat) : Int) = n; omega)]
      congr 1
      rw [beq_iff_eq]
      show ((n.toNat : Nat) : Int) = n
      omega

end Go.Proofs.YthkkkfeiklfjoaaDoor.Pure
