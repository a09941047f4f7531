/- Each function below answers as its Lean twin says; a law answers true at every input that its row speaks of. No further condition. (Laid by this repo's seatprint.py.) -/
import Derived.Test.YthkkkfeiklfjoaaDoorPx0
import Derived.Test.YthkkkfeiklfjoaaDoorFstrconvformatBits
import Derived.Test.YthkkkfeiklfjoaaDoorQBytes
import Derived.Test.YthkkkfeiklfjoaaDoorQFold
import Derived.Test.YthkkkfeiklfjoaaDoorQNumber
namespace Go.Proofs.YthkkkfeiklfjoaaDoor.Pure
open Go.RowKit Go.Proofs.YthkkkfeiklfjoaaDoor.P Go.Proofs.YthkkkfeiklfjoaaDoorW.PrintWords Go.Proofs.YthkkkfeiklfjoaaDoorW.PrintLast Go.Proofs.YthkkkfeiklfjoaaDoorW.PrintMore
set_option linter.unusedVariables false
set_option linter.unusedSimpArgs false
theorem numL_snoc (b : Int) (xs : List Int) (c : Int) : ∀ n, numL b (xs ++ [c]) n = (numL b xs n).bind fun v => if 0 ≤ digV c ∧ digV c < b then some (v * b + digV c) else none := by
  induction xs with
  | nil => intro n; simp [numL]
  | cons x xs ih =>
    intro n
    simp only [List.cons_append, numL]
    by_cases h : 0 ≤ digV x ∧ digV x < b
    · rw [if_pos h, if_pos h, ih]
    · rw [if_neg h, if_neg h]; rfl
/-- The decimal digits, as numbers. -/
def decI (u : Nat) : List Int := (Lib.decDigits u).map fun b => (b.toNat : Int)
theorem decI_small (u : Nat) (h : u < 10) : decI u = [48 + (u : Int)] := by
  unfold decI
  rw [Lib.decDigits_one h, List.map_cons, List.map_nil]
  congr 1
  rw [UInt8.toNat_ofNat']
  omega
theorem decI_big (u : Nat) (h : 10 ≤ u) : decI u = decI (u / 10) ++ [48 + ((u % 10 : Nat) : Int)] := by
  unfold decI
  rw [Lib.decDigits, dif_neg (by omega), List.map_append, List.map_cons, List.map_nil]
  congr 2
  rw [UInt8.toNat_ofNat']
  omega
theorem dec_str (u : Nat) : (⟨(Lib.decDigits u).toArray⟩ : ByteArray) = strOfNums (decI u) := by
  unfold decI strOfNums
  congr 2
  rw [List.map_map]
  conv => lhs; rw [← List.map_id (Lib.decDigits u)]
  exact List.map_congr_left fun b _ => by simp
theorem dig_dec (d : Nat) (h : d < 10) : digV (48 + (d : Int)) = d := by
  have : ∀ m : Fin 10, digV (48 + (m.val : Int)) = (m.val : Int) := by decide +kernel
  exact this ⟨d, h⟩
theorem dig_hex (d : Nat) (h : d < 16) : digV (hexd d) = d := by
  have : ∀ m : Fin 16, digV (hexd m.val) = (m.val : Int) := by decide +kernel
  exact this ⟨d, h⟩
theorem dec_back (u : Nat) : numL 10 (decI u) 0 = some (u : Int) := by
  induction u using Nat.strongRecOn with
  | _ u ih =>
    by_cases h : u < 10
    · rw [decI_small u h]
      simp only [numL, dig_dec u h]
      rw [if_pos (by omega)]
      congr 1
      omega
    · rw [decI_big u (by omega), numL_snoc, ih (u / 10) (by omega), Option.bind_some, dig_dec (u % 10) (by omega), if_pos (by omega)]
      congr 1
      omega
theorem hex_back (u : Nat) : numL 16 (hexD u) 0 = some (u : Int) := by
  induction u using Nat.strongRecOn with
  | _ u ih =>
    by_cases h : u < 16
    · rw [hexD_small u h]
      simp only [numL, dig_hex u h]
      rw [if_pos (by omega)]
      congr 1
      omega
    · rw [hexD_big u (by omega), numL_snoc, ih (u / 16) (by omega), Option.bind_some, dig_hex (u % 16) (by omega), if_pos (by omega)]
      congr 1
      omega
theorem dec_len (d : Nat) : ∀ u, u < 10 ^ (d + 1) → 1 ≤ (decI u).length ∧ (decI u).length ≤ d + 1 := by
  induction d with
  | zero => intro u h; rw [decI_small u (by simpa using h)]; simp
  | succ d ih =>
    intro u h
    by_cases h1 : u < 10
    · rw [decI_small u h1]; simp
    · have h2 : u / 10 < 10 ^ (d + 1) := (Nat.div_lt_iff_lt_mul (by decide)).2 (by rwa [← Nat.pow_succ])
      have := ih _ h2
      rw [decI_big u (by omega), List.length_append]
      simp
      omega
theorem hex_len (d : Nat) : ∀ u, u < 16 ^ (d + 1) → 1 ≤ (hexD u).length ∧ (hexD u).length ≤ d + 1 := by
  induction d with
  | zero => intro u h; rw [hexD_small u (by simpa using h)]; simp
  | succ d ih =>
    intro u h
    by_cases h1 : u < 16
    · rw [hexD_small u h1]; simp
    · have h2 : u / 16 < 16 ^ (d + 1) := (Nat.div_lt_iff_lt_mul (by decide)).2 (by rwa [← Nat.pow_succ])
      have := ih _ h2
      rw [hexD_big u (by omega), List.length_append]
      simp
      omega
theorem bytes_decI (u : Nat) : Bytes (decI u) := by
  intro x hx
  obtain ⟨b, _, rfl⟩ := List.mem_map.1 hx
  have := b.toNat_lt
  omega
theorem bytes_hexD (u : Nat) : Bytes (hexD u) := by
  induction u using Nat.strongRecOn with
  | _ u ih =>
    have hd : ∀ d, d < 16 → 0 ≤ hexd d ∧ hexd d ≤ 255 := by intro d hd; unfold hexd; split <;> omega
    by_cases h : u < 16
    · rw [hexD_small u h]; intro x hx; rw [List.mem_singleton.1 hx]; exact hd u h
    · rw [hexD_big u (by omega)]
      intro x hx
      rcases List.mem_append.1 hx with hx | hx
      · exact ih (u / 16) (by omega) x hx
      · rw [List.mem_singleton.1 hx]; exact hd _ (by omega)
theorem dec_spec (u : Nat) (h : u < 10 ^ 18) : numSpec (strOfNums (decI u)) 10 18 = ((u : Int), true) := by
  have hl := dec_len 17 u h
  unfold numSpec
  rw [str_size, if_neg (by omega), bytes_str (bytes_decI u), dec_back]
theorem hex_spec (u : Nat) (h : u < 16 ^ 15) : numSpec (strOfNums (hexD u)) 16 15 = ((u : Int), true) := by
  have hl := hex_len 14 u h
  unfold numSpec
  rw [str_size, if_neg (by omega), bytes_str (bytes_hexD u), hex_back]

end Go.Proofs.YthkkkfeiklfjoaaDoor.Pure
