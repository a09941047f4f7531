/- Each function below answers as its Lean twin says; a law answers true at every input that its row speaks of. No further condition. (Laid by this repo's seatprint.py.) -/
import Derived.Test.YthkkkfeiklfjoaaDoorPx0
import Derived.Test.YthkkkfeiklfjoaaDoorFtollbarref02Decimal
import Derived.Test.YthkkkfeiklfjoaaDoorFtollbarref02Digit
import Derived.Test.YthkkkfeiklfjoaaDoorFtollbarref02Hex
import Derived.Test.YthkkkfeiklfjoaaDoorQNumber
namespace Go.Proofs.YthkkkfeiklfjoaaDoor.Pure
open Go.RowKit Go.Proofs.YthkkkfeiklfjoaaDoor.P Go.Proofs.YthkkkfeiklfjoaaDoorW.PrintWords Go.Proofs.YthkkkfeiklfjoaaDoorW.PrintLast Go.Proofs.YthkkkfeiklfjoaaDoorW.PrintMore
set_option linter.unusedVariables false
set_option linter.unusedSimpArgs false
theorem dec_fact (c : Int) (h0 : 0 ≤ c) (h1 : c ≤ 255) : tollbarref02_Digit.f c = some (decide (0 ≤ digV c ∧ digV c < 10)) ∧ ((0 ≤ digV c ∧ digV c < 10) → (c - 48) % 256 = digV c) := by
  obtain ⟨n, rfl⟩ := Int.eq_ofNat_of_zero_le h0
  have h : ∀ m : Fin 256, tollbarref02_Digit.f (m.val : Int) = some (decide (0 ≤ digV (m.val : Int) ∧ digV (m.val : Int) < 10)) ∧ ((0 ≤ digV (m.val : Int) ∧ digV (m.val : Int) < 10) → ((m.val : Int) - 48) % 256 = digV (m.val : Int)) := by decide +kernel
  exact h ⟨n, by omega⟩
theorem hex_fact (c : Int) (h0 : 0 ≤ c) (h1 : c ≤ 255) : ((c ≥ 97 ∧ c ≤ 102) → (c - 97) % 256 + 10 = digV c) ∧ ((c ≥ 65 ∧ c ≤ 70) → (c - 65) % 256 + 10 = digV c) ∧ (¬ (0 ≤ digV c ∧ digV c < 10) → ¬ (c ≥ 97 ∧ c ≤ 102) → ¬ (c ≥ 65 ∧ c ≤ 70) → digV c < 0) := by
  obtain ⟨n, rfl⟩ := Int.eq_ofNat_of_zero_le h0
  have h : ∀ m : Fin 256, (((m.val : Int) ≥ 97 ∧ (m.val : Int) ≤ 102) → ((m.val : Int) - 97) % 256 + 10 = digV (m.val : Int)) ∧ (((m.val : Int) ≥ 65 ∧ (m.val : Int) ≤ 70) → ((m.val : Int) - 65) % 256 + 10 = digV (m.val : Int)) ∧ (¬ (0 ≤ digV (m.val : Int) ∧ digV (m.val : Int) < 10) → ¬ ((m.val : Int) ≥ 97 ∧ (m.val : Int) ≤ 102) → ¬ ((m.val : Int) ≥ 65 ∧ (m.val : Int) ≤ 70) → digV (m.val : Int) < 0) := by decide +kernel
  exact h ⟨n, by omega⟩
/-- What a loop over digits tells. -/
def told (r : Option Int) : Int × Bool := match r with | some v => (v, true) | none => (0, false)
theorem refDec_l0 (s : ByteArray) (hm : s.size ≤ 18) (d : Nat) : ∀ (k : Nat) (n : Int) (i : Nat), i + d = s.size → d + 1 ≤ k → 0 ≤ n → n + 1 ≤ 10 ^ i →
    tollbarref02_Decimal.l0 k s n i = some (told (numL 10 ((bytesOf s).drop i) n)) := by
  induction d with
  | zero =>
    intro k n i hi hk h0 hn
    obtain ⟨k, rfl⟩ : ∃ m, k = m + 1 := ⟨k - 1, by omega⟩
    rw [List.drop_of_length_le (by rw [bytesOf_length]; omega)]
    simp only [tollbarref02_Decimal.l0, numL]
    rw [if_neg (by omega)]
    rfl
  | succ d ih =>
    intro k n i hi hk h0 hn
    obtain ⟨k, rfl⟩ : ∃ m, k = m + 1 := ⟨k - 1, by omega⟩
    have hw : wrap64 ((i : Int) + 1) = ((i + 1 : Nat) : Int) := by unfold wrap64; omega
    have hl : i < (bytesOf s).length := by rw [bytesOf_length]; omega
    have hg : (bytesOf s)[i] = bt s i := by rw [← rd_bytesOf]; simp [rd, List.getD_eq_getElem?_getD, List.getElem?_eq_getElem hl]
    have hr := bt_range s i
    obtain ⟨f1, f2⟩ := dec_fact _ hr.1 hr.2
    have hP : (10 : Int) ^ (i + 1) = 10 ^ i * 10 := Int.pow_succ _ _
    have hle := pow_mono' 10 (by decide) (i + 1) (18 - (i + 1))
    rw [show i + 1 + (18 - (i + 1)) = 18 by omega, hP] at hle
    have hc : (10 : Int) ^ 18 = 1000000000000000000 := by decide
    rw [List.drop_eq_getElem_cons hl, hg]
    simp only [tollbarref02_Decimal.l0, numL]
    rw [if_pos (by omega), if_pos (by omega), f1, Option.bind_some]
    by_cases hv : 0 ≤ digV (bt s i) ∧ digV (bt s i) < 10
    · rw [decide_eq_true hv, if_pos rfl, if_pos hv, f2 hv, hw]
      have e1 : wrap64 (wrap64 (n * 10) + digV (bt s i)) = n * 10 + digV (bt s i) := by unfold wrap64; omega
      rw [e1]
      exact ih k _ (i + 1) (by omega) (by omega) (by omega) (by omega)
    · rw [decide_eq_false hv, if_neg (by simp), if_neg hv]
      rfl
theorem refDecimal_f (s : ByteArray) (k : Nat) (hk : 40 ≤ k) (hs : s.size ≤ 140737488355327) : tollbarref02_Decimal.f k s = some (numSpec s 10 18) := by
  obtain ⟨k, rfl⟩ : ∃ m, k = m + 1 := ⟨k - 1, by omega⟩
  unfold tollbarref02_Decimal.f numSpec
  by_cases h0 : s.size = 0
  · rw [if_pos (by omega), if_pos (Or.inl h0)]
    simp only [tollbarref02_Decimal.j0]
    rfl
  · rw [if_neg (by omega)]
    by_cases h1 : s.size > 18
    · rw [decide_eq_true (by omega), if_pos (Or.inr h1)]
      simp only [tollbarref02_Decimal.j0]
      rfl
    · rw [decide_eq_false (by omega), if_neg (by omega)]
      simp only [tollbarref02_Decimal.j0]
      rw [if_neg (by simp)]
      have := refDec_l0 s (by omega) s.size k 0 0 (by omega) (by omega) (by omega) (by simp)
      rw [show ((0 : Nat) : Int) = 0 from rfl, List.drop_zero] at this
      exact this
theorem refHex_l0 (s : ByteArray) (hm : s.size ≤ 15) (d : Nat) : ∀ (k : Nat) (n : Int) (i : Nat), i + d = s.size → 2 * d + 1 ≤ k → 0 ≤ n → n + 1 ≤ 16 ^ i →
    tollbarref02_Hex.l0 k s n i = some (told (numL 16 ((bytesOf s).drop i) n)) := by
  induction d with
  | zero =>
    intro k n i hi hk h0 hn
    obtain ⟨k, rfl⟩ : ∃ m, k = m + 1 := ⟨k - 1, by omega⟩
    rw [List.drop_of_length_le (by rw [bytesOf_length]; omega)]
    simp only [tollbarref02_Hex.l0, numL]
    rw [if_neg (by omega)]
    rfl
  | succ d ih =>
    intro k n i hi hk h0 hn
    obtain ⟨k, rfl⟩ : ∃ m, k = m + 1 := ⟨k - 1, by omega⟩
    have hw : wrap64 ((i : Int) + 1) = ((i + 1 : Nat) : Int) := by unfold wrap64; omega
    have hl : i < (bytesOf s).length := by rw [bytesOf_length]; omega
    have hg : (bytesOf s)[i] = bt s i := by rw [← rd_bytesOf]; simp [rd, List.getD_eq_getElem?_getD, List.getElem?_eq_getElem hl]
    have hr := bt_range s i
    obtain ⟨f1, f2⟩ := dec_fact _ hr.1 hr.2
    obtain ⟨g1, g2, g3⟩ := hex_fact _ hr.1 hr.2
    have hlt := digV_lt _ hr.1 hr.2
    have hP : (16 : Int) ^ (i + 1) = 16 ^ i * 16 := Int.pow_succ _ _
    have hle := pow_mono' 16 (by decide) (i + 1) (15 - (i + 1))
    rw [show i + 1 + (15 - (i + 1)) = 15 by omega, hP] at hle
    have hc : (16 : Int) ^ 15 = 1152921504606846976 := by decide
    have ih1 := fun k (hk : 2 * d + 1 ≤ k) (h : 0 ≤ digV (bt s i)) => ih k (n * 16 + digV (bt s i)) (i + 1) (by omega) hk (by omega) (by omega)
    rw [List.drop_eq_getElem_cons hl, hg]
    simp only [tollbarref02_Hex.l0, numL]
    rw [if_pos (by omega), if_pos (by omega), f1, Option.bind_some]
    by_cases hv : 0 ≤ digV (bt s i) ∧ digV (bt s i) < 10
    · have hp : 0 ≤ digV (bt s i) ∧ digV (bt s i) < 16 := ⟨hv.1, hlt⟩
      rw [decide_eq_true hv, if_pos rfl, if_pos hp, f2 hv, hw]
      have e1 : wrap64 (wrap64 (n * 16) + digV (bt s i)) = n * 16 + digV (bt s i) := by unfold wrap64; omega
      rw [e1]
      exact ih1 k (by omega) hv.1
    · obtain ⟨k, rfl⟩ : ∃ m, k = m + 1 := ⟨k - 1, by omega⟩
      rw [decide_eq_false hv, if_neg (by simp)]
      simp only [tollbarref02_Hex.j2]
      by_cases ha : bt s i ≥ 97 ∧ bt s i ≤ 102
      · have e := g1 ha
        have hp : 0 ≤ digV (bt s i) ∧ digV (bt s i) < 16 := ⟨by omega, hlt⟩
        rw [if_pos ha.1, decide_eq_true ha.2, if_pos rfl, if_pos hp, hw]
        have e1 : wrap64 (wrap64 (wrap64 (n * 16) + (bt s i - 97) % 256) + 10) = n * 16 + digV (bt s i) := by unfold wrap64; omega
        rw [e1]
        exact ih1 k (by omega) (by omega)
      · by_cases hA : bt s i ≥ 65 ∧ bt s i ≤ 70
        · have e := g2 hA
          have hp : 0 ≤ digV (bt s i) ∧ digV (bt s i) < 16 := ⟨by omega, hlt⟩
          have h97 : ¬ (bt s i ≥ 97) := by omega
          rw [if_neg h97, if_neg (by simp), if_pos hA.1, if_pos hA.2, if_pos hp, hw]
          have e1 : wrap64 (wrap64 (wrap64 (n * 16) + (bt s i - 65) % 256) + 10) = n * 16 + digV (bt s i) := by unfold wrap64; omega
          rw [e1]
          exact ih1 k (by omega) (by omega)
        · have e := g3 hv ha hA
          have hp : ¬ (0 ≤ digV (bt s i) ∧ digV (bt s i) < 16) := by omega
          rw [if_neg hp]
          have ht : told none = ((0 : Int), false) := rfl
          rw [ht]
          by_cases h97 : bt s i ≥ 97
          · rw [if_pos h97, decide_eq_false (by omega), if_neg (by simp)]
            repeat' split
            all_goals first | rfl | (exfalso; omega)
          · rw [if_neg h97, if_neg (by simp)]
            repeat' split
            all_goals first | rfl | (exfalso; omega)
theorem refHex_f (s : ByteArray) (k : Nat) (hk : 40 ≤ k) (hs : s.size ≤ 140737488355327) : tollbarref02_Hex.f k s = some (numSpec s 16 15) := by
  obtain ⟨k, rfl⟩ : ∃ m, k = m + 1 := ⟨k - 1, by omega⟩
  unfold tollbarref02_Hex.f numSpec
  by_cases h0 : s.size = 0
  · rw [if_pos (by omega), if_pos (Or.inl h0)]
    simp only [tollbarref02_Hex.j0]
    rfl
  · rw [if_neg (by omega)]
    by_cases h1 : s.size > 15
    · rw [decide_eq_true (by omega), if_pos (Or.inr h1)]
      simp only [tollbarref02_Hex.j0]
      rfl
    · rw [decide_eq_false (by omega), if_neg (by omega)]
      simp only [tollbarref02_Hex.j0]
      rw [if_neg (by simp)]
      have := refHex_l0 s (by omega) s.size k 0 0 (by omega) (by omega) (by omega) (by simp)
      rw [show ((0 : Nat) : Int) = 0 from rfl, List.drop_zero] at this
      exact this

end Go.Proofs.YthkkkfeiklfjoaaDoor.Pure
