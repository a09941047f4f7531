/- Each function below answers as its Lean twin says; a law answers true at every input that its row speaks of. No further condition. (Laid by this repo's seatprint.py.) -/
import Derived.Test.YthkkkfeiklfjoaaDoorPx0
import Derived.Test.YthkkkfeiklfjoaaDoorFsignHexText
import Derived.Test.YthkkkfeiklfjoaaDoorFsignText
import Derived.Test.YthkkkfeiklfjoaaDoorFstrconvformatBits
import Derived.Test.YthkkkfeiklfjoaaDoorFtollbarref02HexText
import Derived.Test.YthkkkfeiklfjoaaDoorFtollbarref02Text
import Derived.Test.YthkkkfeiklfjoaaDoorQBytes
import Derived.Test.YthkkkfeiklfjoaaDoorQDigits
import Derived.Test.YthkkkfeiklfjoaaDoorQText
namespace Go.Proofs.YthkkkfeiklfjoaaDoor.Pure
open Go.RowKit Go.Proofs.YthkkkfeiklfjoaaDoor.P Go.Proofs.YthkkkfeiklfjoaaDoorW.PrintWords Go.Proofs.YthkkkfeiklfjoaaDoorW.PrintLast Go.Proofs.YthkkkfeiklfjoaaDoorW.PrintMore
set_option linter.unusedVariables false
set_option linter.unusedSimpArgs false
theorem str_ne (xs : List Int) (h : xs ≠ []) : ¬ ((strOfNums xs).toList = []) := by
  intro e
  rw [toList_data] at e
  have := data_length (strOfNums xs)
  rw [e, str_size] at this
  exact h (List.eq_nil_of_length_eq_zero this.symm)
theorem refText_step (k u : Nat) (xs : List Int) (hx : xs.length ≤ 100) (hu : u ≤ 9223372036854775807) (hp : xs = [] ∨ 0 < u) :
    ∀ R, tollbarref02_Text.l0 k ((u / 10 : Nat) : Int) (strOfNums ((48 + ((u % 10 : Nat) : Int)) :: xs)) = R → tollbarref02_Text.l0 (k + 1) (u : Int) (strOfNums xs) = R := by
  intro R hR
  have e1 : Int.tmod (u : Int) 10 = ((u % 10 : Nat) : Int) := by rw [Int.tmod_eq_emod_of_nonneg (by omega)]; omega
  have e2 : Int.tdiv (u : Int) 10 = ((u / 10 : Nat) : Int) := by rw [Int.tdiv_eq_ediv_of_nonneg (by omega)]; omega
  have e3 : wrap64 (48 + ((u % 10 : Nat) : Int)) % 256 = 48 + ((u % 10 : Nat) : Int) := by unfold wrap64; omega
  have e4 : wrap64 ((u / 10 : Nat) : Int) = ((u / 10 : Nat) : Int) := by unfold wrap64; omega
  have e5 : strOfNums [48 + ((u % 10 : Nat) : Int)] ++ strOfNums xs = strOfNums ((48 + ((u % 10 : Nat) : Int)) :: xs) := by rw [← str_append]; rfl
  have e6 : (strOfNums [48 + ((u % 10 : Nat) : Int)]).size + (strOfNums xs).size ≤ 9223372036854775807 := by rw [str_size, str_size, List.length_singleton]; omega
  simp only [tollbarref02_Text.l0]
  rw [e1, e2, e3, e4, Option.bind_some, if_pos e6, e5, hR]
  rcases hp with hp | hp
  · rw [if_pos (by rw [hp, toList_data]; rfl)]
  · rw [if_pos (show (u : Int) > 0 by omega)]
    split <;> rfl
theorem refText_end (k : Nat) (xs : List Int) (hx : xs ≠ []) : tollbarref02_Text.l0 (k + 1) 0 (strOfNums xs) = some (strOfNums xs) := by
  simp only [tollbarref02_Text.l0]
  rw [if_neg (str_ne xs hx), if_neg (by decide)]
theorem refText_l0 (d : Nat) : ∀ (k u : Nat) (xs : List Int), u < 10 ^ d → d + 1 ≤ k → u ≤ 9223372036854775807 → xs.length + d ≤ 100 → xs ≠ [] →
    tollbarref02_Text.l0 k (u : Int) (strOfNums xs) = some (strOfNums ((if u = 0 then [] else decI u) ++ xs)) := by
  induction d with
  | zero =>
    intro k u xs hu hk hb hx hne
    obtain ⟨k, rfl⟩ : ∃ m, k = m + 1 := ⟨k - 1, by omega⟩
    obtain rfl : u = 0 := by simpa using hu
    rw [if_pos rfl]
    exact refText_end k xs hne
  | succ d ih =>
    intro k u xs hu hk hb hx hne
    obtain ⟨k, rfl⟩ : ∃ m, k = m + 1 := ⟨k - 1, by omega⟩
    by_cases h0 : u = 0
    · subst h0
      rw [if_pos rfl]
      exact refText_end k xs hne
    · refine refText_step k u xs (by omega) hb (Or.inr (by omega)) _ ?_
      have h2 : u / 10 < 10 ^ d := (Nat.div_lt_iff_lt_mul (by decide)).2 (by rwa [← Nat.pow_succ])
      rw [ih k (u / 10) _ h2 (by omega) (by omega) (by rw [List.length_cons]; omega) (by simp), if_neg h0]
      by_cases h1 : u < 10
      · rw [if_pos (by omega), decI_small u h1, show u % 10 = u by omega]
        rfl
      · rw [if_neg (by omega), decI_big u (by omega), List.append_assoc]
        rfl
theorem refText_nat (k u : Nat) (hk : 30 ≤ k) (hu : u ≤ 9223372036854775807) : tollbarref02_Text.l0 k (u : Int) (⟨#[]⟩ : ByteArray) = some (strOfNums (decI u)) := by
  obtain ⟨k, rfl⟩ : ∃ m, k = m + 1 := ⟨k - 1, by omega⟩
  have hs : (⟨#[]⟩ : ByteArray) = strOfNums [] := rfl
  rw [hs]
  refine refText_step k u [] (by simp) hu (Or.inl rfl) _ ?_
  have h3 : (10 : Nat) ^ 19 = 10000000000000000000 := by decide
  rw [refText_l0 19 k (u / 10) _ (by omega) (by omega) (by omega) (by simp) (by simp)]
  by_cases h1 : u < 10
  · rw [if_pos (by omega), decI_small u h1, show u % 10 = u by omega]
    rfl
  · rw [if_neg (by omega), decI_big u (by omega)]
theorem hex_hi (m : Nat) (h : m < 16) (h9 : 9 < m) : wrap64 (wrap64 (97 + (m : Int)) - 10) % 256 = hexd m := by
  have a : wrap64 (97 + (m : Int)) = 97 + (m : Int) := by unfold wrap64; omega
  have b : wrap64 (97 + (m : Int) - 10) = 97 + (m : Int) - 10 := by unfold wrap64; omega
  have c : hexd m = 87 + (m : Int) := by unfold hexd; rw [if_neg (by omega)]
  rw [a, b, c]
  omega
theorem hex_lo (m : Nat) (h9 : ¬ 9 < m) : wrap64 (48 + (m : Int)) % 256 = hexd m := by
  have a : wrap64 (48 + (m : Int)) = 48 + (m : Int) := by unfold wrap64; omega
  have c : hexd m = 48 + (m : Int) := by unfold hexd; rw [if_pos (by omega)]
  rw [a, c]
  omega
theorem refHex_step (k u : Nat) (xs : List Int) (hx : xs.length ≤ 100) (hu : u ≤ 9223372036854775807) (hp : xs = [] ∨ 0 < u) :
    ∀ R, tollbarref02_HexText.l0 k ((u / 16 : Nat) : Int) (strOfNums (hexd (u % 16) :: xs)) = R → tollbarref02_HexText.l0 (k + 2) (u : Int) (strOfNums xs) = R := by
  intro R hR
  have e1 : Int.tmod (u : Int) 16 = ((u % 16 : Nat) : Int) := by rw [Int.tmod_eq_emod_of_nonneg (by omega)]; omega
  have e2 : Int.tdiv (u : Int) 16 = ((u / 16 : Nat) : Int) := by rw [Int.tdiv_eq_ediv_of_nonneg (by omega)]; omega
  have e4 : wrap64 ((u / 16 : Nat) : Int) = ((u / 16 : Nat) : Int) := by unfold wrap64; omega
  have e5 : strOfNums [hexd (u % 16)] ++ strOfNums xs = strOfNums (hexd (u % 16) :: xs) := by rw [← str_append]; rfl
  have e6 : (strOfNums [hexd (u % 16)]).size + (strOfNums xs).size ≤ 9223372036854775807 := by rw [str_size, str_size, List.length_singleton]; omega
  have hj : tollbarref02_HexText.j2 (k + 1) (u : Int) (strOfNums xs) true = R := by
    simp only [tollbarref02_HexText.j2]
    rw [if_pos trivial, e1, e2, e4]
    obtain ⟨m, hm⟩ : ∃ m, m = u % 16 := ⟨_, rfl⟩
    have hm16 : m < 16 := by omega
    rw [← hm] at e5 e6 hR ⊢
    by_cases h9 : 9 < m
    · rw [if_pos (show ((m : Nat) : Int) > 9 by omega), hex_hi m hm16 h9, Option.bind_some, if_pos e6, e5, hR]
    · rw [if_neg (show ¬ (((m : Nat) : Int) > 9) by omega), hex_lo m h9, Option.bind_some, if_pos e6, e5, hR]
  have hl : tollbarref02_HexText.l0 (k + 2) (u : Int) (strOfNums xs) = if (strOfNums xs).toList = ([] : List UInt8) then tollbarref02_HexText.j2 (k + 1) (u : Int) (strOfNums xs) true else tollbarref02_HexText.j2 (k + 1) (u : Int) (strOfNums xs) (decide ((u : Int) > 0)) := by
    rw [tollbarref02_HexText.l0]
  rw [hl]
  rcases hp with hp | hp
  · rw [if_pos (by rw [hp, toList_data]; rfl), hj]
  · rw [decide_eq_true (show (u : Int) > 0 by omega), hj]
    split <;> rfl
theorem refHexT_end (k : Nat) (xs : List Int) (hx : xs ≠ []) : tollbarref02_HexText.l0 (k + 2) 0 (strOfNums xs) = some (strOfNums xs) := by
  rw [tollbarref02_HexText.l0, if_neg (str_ne xs hx), decide_eq_false (by decide)]
  simp only [tollbarref02_HexText.j2]
  rw [if_neg (by simp)]
theorem refHexT_l0 (d : Nat) : ∀ (k u : Nat) (xs : List Int), u < 16 ^ d → 2 * d + 2 ≤ k → u ≤ 9223372036854775807 → xs.length + d ≤ 100 → xs ≠ [] →
    tollbarref02_HexText.l0 k (u : Int) (strOfNums xs) = some (strOfNums ((if u = 0 then [] else hexD u) ++ xs)) := by
  induction d with
  | zero =>
    intro k u xs hu hk hb hx hne
    obtain ⟨k, rfl⟩ : ∃ m, k = m + 2 := ⟨k - 2, by omega⟩
    obtain rfl : u = 0 := by simpa using hu
    rw [if_pos rfl]
    exact refHexT_end k xs hne
  | succ d ih =>
    intro k u xs hu hk hb hx hne
    obtain ⟨k, rfl⟩ : ∃ m, k = m + 2 := ⟨k - 2, by omega⟩
    by_cases h0 : u = 0
    · subst h0
      rw [if_pos rfl]
      exact refHexT_end k xs hne
    · refine refHex_step k u xs (by omega) hb (Or.inr (by omega)) _ ?_
      have h2 : u / 16 < 16 ^ d := (Nat.div_lt_iff_lt_mul (by decide)).2 (by rwa [← Nat.pow_succ])
      rw [ih k (u / 16) _ h2 (by omega) (by omega) (by rw [List.length_cons]; omega) (by simp), if_neg h0]
      by_cases h1 : u < 16
      · rw [if_pos (by omega), hexD_small u h1, show u % 16 = u by omega]
        rfl
      · rw [if_neg (by omega), hexD_big u (by omega), List.append_assoc]
        rfl
theorem refHexT_nat (k u : Nat) (hk : 50 ≤ k) (hu : u ≤ 9223372036854775807) : tollbarref02_HexText.l0 k (u : Int) (⟨#[]⟩ : ByteArray) = some (strOfNums (hexD u)) := by
  obtain ⟨k, rfl⟩ : ∃ m, k = m + 2 := ⟨k - 2, by omega⟩
  have hs : (⟨#[]⟩ : ByteArray) = strOfNums [] := rfl
  rw [hs]
  refine refHex_step k u [] (by simp) hu (Or.inl rfl) _ ?_
  have h3 : (16 : Nat) ^ 16 = 18446744073709551616 := by decide
  rw [refHexT_l0 16 k (u / 16) _ (by omega) (by omega) (by omega) (by simp) (by simp)]
  by_cases h1 : u < 16
  · rw [if_pos (by omega), hexD_small u h1, show u % 16 = u by omega]
    rfl
  · rw [if_neg (by omega), hexD_big u (by omega)]
theorem refHexText_f (k : Nat) (hk : 60 ≤ k) (n : Int) (h1 : n ≤ 9223372036854775807) : tollbarref02_HexText.f k n = sign_HexText.f n := by
  rw [HexText_f n h1]
  obtain ⟨k, rfl⟩ : ∃ m, k = m + 1 := ⟨k - 1, by omega⟩
  unfold tollbarref02_HexText.f mx
  by_cases h : n < 0
  · rw [if_pos h, if_pos h]
    simp only [tollbarref02_HexText.j0]
    exact refHexT_nat k 0 (by omega) (by omega)
  · rw [if_neg h, if_neg h]
    simp only [tollbarref02_HexText.j0]
    have := refHexT_nat k n.toNat (by omega) (by omega)
    rw [show ((n.toNat : Nat) : Int) = n by omega] at this
    exact this
theorem itoa_least : (⟨(Lib.itoa (-9223372036854775808)).toArray⟩ : ByteArray) = ⟨#[45, 57, 50, 50, 51, 51, 55, 50, 48, 51, 54, 56, 53, 52, 55, 55, 53, 56, 48, 56]⟩ := by
  simp [Lib.itoa, Lib.decDigits]
theorem refText_f (k : Nat) (hk : 60 ≤ k) (n : Int) (h0 : -9223372036854775808 ≤ n) (h1 : n ≤ 9223372036854775807) : tollbarref02_Text.f k n = sign_Text.f n := by
  rw [Text_f n h0 h1]
  obtain ⟨k, rfl⟩ : ∃ m, k = m + 2 := ⟨k - 2, by omega⟩
  by_cases hm : n = -9223372036854775808
  · subst hm
    rw [tollbarref02_Text.f, if_pos rfl, itoa_least]
  · by_cases h : n < 0
    · have hw : wrap64 (-n) = ((n.natAbs : Nat) : Int) := by unfold wrap64; omega
      have hi : Lib.itoa n = 45 :: Lib.decDigits n.natAbs := by unfold Lib.itoa; rw [if_pos h]
      rw [tollbarref02_Text.f, if_neg hm, if_pos h, hw, tollbarref02_Text.f, if_neg (by omega), if_neg (by omega), refText_nat k n.natAbs (by omega) (by omega), Option.bind_some]
      have hl := dec_len 18 n.natAbs (by have : (10 : Nat) ^ 19 = 10000000000000000000 := by decide
                                         show n.natAbs < 10 ^ 19; omega)
      rw [if_pos (by rw [str_size]; omega), ← dec_str, hi]
      congr 1
    · have hi : Lib.itoa n = Lib.decDigits n.toNat := by unfold Lib.itoa; rw [if_neg h]
      have := refText_nat (k + 1) n.toNat (by omega) (by omega)
      rw [show ((n.toNat : Nat) : Int) = n by omega] at this
      rw [tollbarref02_Text.f, if_neg hm, if_neg h, this, hi, dec_str]

end Go.Proofs.YthkkkfeiklfjoaaDoor.Pure
