/- Each function below answers as its Lean twin says; a law answers true at every input that its row speaks of. No further condition. (Laid by this repo's seatprint.py.) -/
import Derived.Test.YthkkkfeiklfjoaaPx0
namespace Go.Proofs.Ythkkkfeiklfjoaa.Pure
open Go.RowKit Go.Proofs.Ythkkkfeiklfjoaa.P Go.Proofs.YthkkkfeiklfjoaaW.PrintWords Go.Proofs.YthkkkfeiklfjoaaW.PrintLast Go.Proofs.YthkkkfeiklfjoaaW.PrintMore
set_option linter.unusedVariables false
set_option linter.unusedSimpArgs false
theorem and_mask (x : Int) (j : Nat) (hj : j ≤ 62) : Go.bits .and .i64 x (2 ^ j - 1) = x % 2 ^ j := by
  have hpos : 0 < 2 ^ j := Nat.two_pow_pos j
  have hlt : 2 ^ j ≤ 2 ^ 62 := Nat.pow_le_pow_right (by decide) hj
  have hc : ((2 : Int) ^ j - 1) = ((2 ^ j - 1 : Nat) : Int) := by rw [Int.natCast_sub hpos]; simp
  have hb : (2 ^ j - 1) % 2 ^ 64 = 2 ^ j - 1 := Nat.mod_eq_of_lt (by omega)
  have hd : ((2 : Int) ^ j) ∣ 2 ^ 64 := ⟨2 ^ (64 - j), by rw [← Int.pow_add]; congr 1; omega⟩
  have hk : (BitVec.ofInt 64 x &&& BitVec.ofInt 64 ((2 ^ j - 1 : Nat) : Int)).toNat = (x % ((2 ^ 64 : Nat) : Int)).toNat % 2 ^ j := by
    rw [BitVec.toNat_and, BitVec.ofInt_natCast, BitVec.toNat_ofNat, hb, Nat.and_two_pow_sub_one_eq_mod, BitVec.toNat_ofInt]
  have hg : bits .and .i64 x (2 ^ j - 1) = IntKind.i64.wrap (((BitVec.ofInt 64 x &&& BitVec.ofInt 64 ((2 ^ j - 1 : Nat) : Int)).toNat : Nat) : Int) := by rw [hc]; rfl
  have hx : (((x % ((2 ^ 64 : Nat) : Int)).toNat % 2 ^ j : Nat) : Int) = x % 2 ^ j := by
    rw [Int.natCast_emod, Int.toNat_of_nonneg (Int.emod_nonneg _ (by decide))]
    have := Int.emod_emod_of_dvd x hd
    simpa using this
  rw [hg, hk, hx, IntKind.wrap_i64]
  have h1 : 0 ≤ x % (2 : Int) ^ j := Int.emod_nonneg _ (by have : (0 : Int) < 2 ^ j := by exact_mod_cast hpos
                                                           omega)
  have h2 : x % (2 : Int) ^ j < 2 ^ j := Int.emod_lt_of_pos _ (by exact_mod_cast hpos)
  have h3 : (2 : Int) ^ j ≤ 2 ^ 62 := by exact_mod_cast hlt
  have h4 : (2 : Int) ^ 62 = 4611686018427387904 := by decide
  omega
theorem and_1 (x : Int) : Go.bits .and .i64 x 1 = x % 2 := and_mask x 1 (by decide)
theorem and_7 (x : Int) : Go.bits .and .i64 x 7 = x % 8 := and_mask x 3 (by decide)
theorem and_63 (x : Int) : Go.bits .and .i64 x 63 = x % 64 := and_mask x 6 (by decide)
theorem and_511 (x : Int) : Go.bits .and .i64 x 511 = x % 512 := and_mask x 9 (by decide)
theorem and_1023 (x : Int) : Go.bits .and .i64 x 1023 = x % 1024 := and_mask x 10 (by decide)
theorem and_1048575 (x : Int) : Go.bits .and .i64 x 1048575 = x % 1048576 := and_mask x 20 (by decide)

end Go.Proofs.Ythkkkfeiklfjoaa.Pure
