/- Each function below answers as its Lean twin says; a law answers true at every input that its row speaks of. No further condition. (Laid by this repo's seatprint.py.) -/
import Derived.Test.YthkkkfeiklfjoaaDoorPx0
import Derived.Test.YthkkkfeiklfjoaaDoorFsignDecimal
import Derived.Test.YthkkkfeiklfjoaaDoorFsignFold
import Derived.Test.YthkkkfeiklfjoaaDoorFsignHex
import Derived.Test.YthkkkfeiklfjoaaDoorFsignnumber
import Derived.Test.YthkkkfeiklfjoaaDoorFstringsIndexByte
import Derived.Test.YthkkkfeiklfjoaaDoorQBytes
import Derived.Test.YthkkkfeiklfjoaaDoorQFold
namespace Go.Proofs.YthkkkfeiklfjoaaDoor.Pure
open Go.RowKit Go.Proofs.YthkkkfeiklfjoaaDoor.P Go.Proofs.YthkkkfeiklfjoaaDoorW.PrintWords Go.Proofs.YthkkkfeiklfjoaaDoorW.PrintLast Go.Proofs.YthkkkfeiklfjoaaDoorW.PrintMore
set_option linter.unusedVariables false
set_option linter.unusedSimpArgs false
/-- The value of a digit, or -1. -/
def digV (c : Int) : Int := Lib.indexByte [48, 49, 50, 51, 52, 53, 54, 55, 56, 57, 97, 98, 99, 100, 101, 102] (foldC c).toNat.toUInt8
/-- The number of digits, from n on. -/
def numL (base : Int) : List Int → Int → Option Int
  | [], n => some n
  | c :: r, n => if 0 ≤ digV c ∧ digV c < base then numL base r (n * base + digV c) else none
theorem digV_lt (c : Int) (h0 : 0 ≤ c) (h1 : c ≤ 255) : digV c < 16 := by
  obtain ⟨n, rfl⟩ := Int.eq_ofNat_of_zero_le h0
  have h : ∀ m : Fin 256, digV (m.val : Int) < 16 := by decide +kernel
  exact h ⟨n, by omega⟩
theorem one_fold (s : ByteArray) (i : Int) (h0 : 0 ≤ i) (h : i < (s.size : Int)) : sign_Fold.f (s.extract i.toNat (i + 1).toNat) = some (strOfNums [foldC (bt s i)]) := by
  have hl : i.toNat < s.data.toList.length := by rw [data_length]; omega
  have e1 : (s.extract i.toNat (i + 1).toNat).data.toList = [s.data.toList[i.toNat]] := by
    rw [Lib.extract_data, show (i + 1).toNat - i.toNat = 1 by omega, List.drop_eq_getElem_cons hl]
    rfl
  have hz : (s.extract i.toNat (i + 1).toNat).size = 1 := by rw [← data_length, e1]; rfl
  rw [fold_tells _ (by omega)]
  unfold bytesOf
  rw [e1]
  have e2 : ((s.data.toList[i.toNat]).toNat : Int) = bt s i := by
    unfold bt
    rw [dif_pos (by omega)]
    rfl
  simp only [List.map_cons, List.map_nil, e2]
theorem bt_one (x : Int) (h0 : 0 ≤ x) (h1 : x ≤ 255) : bt (strOfNums [x]) 0 = x := by
  have h := bytes_str (xs := [x]) (by intro y hy; rw [List.mem_singleton.1 hy]; exact ⟨h0, h1⟩)
  rw [← rd_bytesOf, h]
  rfl
theorem index_dig (s : ByteArray) (i : Int) : strings_IndexByte.f (⟨#[48, 49, 50, 51, 52, 53, 54, 55, 56, 57, 97, 98, 99, 100, 101, 102]⟩ : ByteArray) (bt (strOfNums [foldC (bt s i)]) 0) = some (digV (bt s i)) := by
  have hr := bt_range s i
  have hf := foldC_byte _ hr.1 hr.2
  rw [bt_one _ hf.1 hf.2]
  rfl
theorem pow_pos' (b : Int) (hb : 1 ≤ b) : ∀ n : Nat, 1 ≤ b ^ n
  | 0 => by simp
  | n + 1 => by
    rw [Int.pow_succ]
    have h1 := pow_pos' b hb n
    have h2 := Int.mul_le_mul_of_nonneg_left hb (show 0 ≤ b ^ n by omega)
    rw [Int.mul_one] at h2
    omega
theorem pow_mono' (b : Int) (hb : 1 ≤ b) (i : Nat) : ∀ d : Nat, b ^ i ≤ b ^ (i + d)
  | 0 => Int.le_refl _
  | d + 1 => by
    rw [← Nat.add_assoc, Int.pow_succ]
    have h0 := pow_mono' b hb i d
    have h1 := pow_pos' b hb (i + d)
    have h2 := Int.mul_le_mul_of_nonneg_left hb (show 0 ≤ b ^ (i + d) by omega)
    rw [Int.mul_one] at h2
    omega
/-- Too long: none. -/
theorem number_long (s : ByteArray) (base most : Int) (hm : (s.size : Int) > most) (hs : s.size ≤ 140737488355327) (d : Nat) : ∀ (k : Nat) (n i : Int), 0 ≤ i → (s.size : Int) - i = d → 2 * d + 1 ≤ k →
    sign_number.l0 k s base most n (s.size : Int) i = some (0, false) := by
  induction d with
  | zero =>
    intro k n i h0 hd hk
    obtain ⟨k, rfl⟩ : ∃ m, k = m + 1 := ⟨k - 1, by omega⟩
    simp only [sign_number.l0]
    rw [if_neg (by omega)]
    repeat' split
    all_goals first | rfl | (exfalso; omega)
  | succ d ih =>
    intro k n i h0 hd hk
    obtain ⟨k, rfl⟩ : ∃ m, k = m + 2 := ⟨k - 2, by omega⟩
    have hw : wrap64 (i + 1) = i + 1 := by unfold wrap64; omega
    have ih' := fun n => ih k n (i + 1) (by omega) (by omega) (by omega)
    simp only [sign_number.l0]
    rw [if_pos (by omega), if_pos h0, hw, if_pos (by omega), if_pos (by omega), one_fold s i h0 (by omega), Option.bind_some, if_pos (by rw [str_size]; simp), index_dig, Option.bind_some]
    simp only [sign_number.j1]
    rw [hw, ih', ih']
    repeat' split
    all_goals rfl
theorem number_short (s : ByteArray) (base : Int) (most : Nat) (hb0 : 0 ≤ base) (hB : base ^ most ≤ 4611686018427387904) (hb1 : 1 ≤ base) (hm : s.size ≤ most) (hs : s.size ≤ 140737488355327) (d : Nat) : ∀ (k : Nat) (n : Int) (i : Nat), i + d = s.size → 2 * d + 1 ≤ k → 0 ≤ n → n + 1 ≤ base ^ i →
    sign_number.l0 k s base most n (s.size : Int) i = some (match numL base ((bytesOf s).drop i) n with | some v => if s.size = 0 then (0, false) else (v, true) | none => (0, false)) := by
  induction d with
  | zero =>
    intro k n i hi hk h0 hn
    obtain ⟨k, rfl⟩ : ∃ m, k = m + 1 := ⟨k - 1, by omega⟩
    rw [List.drop_of_length_le (by rw [bytesOf_length]; omega)]
    simp only [sign_number.l0, numL]
    rw [if_neg (by omega)]
    by_cases hz : s.size = 0
    · have he : s.toList = [] := by rw [toList_data]; exact List.eq_nil_of_length_eq_zero (by rw [data_length]; exact hz)
      rw [if_pos he, if_pos hz]
    · have he : ¬ (s.toList = []) := by
        intro e
        rw [toList_data] at e
        have := data_length s
        rw [e] at this
        exact hz this.symm
      rw [if_neg he, if_neg hz, if_neg (by omega)]
  | succ d ih =>
    intro k n i hi hk h0 hn
    obtain ⟨k, rfl⟩ : ∃ m, k = m + 2 := ⟨k - 2, by omega⟩
    have hw : wrap64 ((i : Int) + 1) = (i : Int) + 1 := by unfold wrap64; omega
    have hl : i < (bytesOf s).length := by rw [bytesOf_length]; omega
    have hg : (bytesOf s)[i] = bt s i := by rw [← rd_bytesOf]; simp [rd, List.getD_eq_getElem?_getD, List.getElem?_eq_getElem hl]
    have hr := bt_range s i
    have hP : base ^ (i + 1) = base ^ i * base := Int.pow_succ _ _
    have hle : base ^ (i + 1) ≤ base ^ most := by
      have := pow_mono' base hb1 (i + 1) (most - (i + 1))
      rwa [show i + 1 + (most - (i + 1)) = most by omega] at this
    have h1 := Int.mul_le_mul_of_nonneg_right hn hb0
    rw [Int.add_mul, ← hP, Int.one_mul] at h1
    have h2 : 0 ≤ n * base := Int.mul_nonneg h0 hb0
    have h3 : 0 ≤ base := hb0
    have hdl := digV_lt _ hr.1 hr.2
    rw [List.drop_eq_getElem_cons hl, hg]
    simp only [sign_number.l0, numL]
    rw [if_pos (by omega), if_pos (by omega), hw, if_pos (by omega), if_pos (by omega), one_fold s i (by omega) (by omega), Option.bind_some, if_pos (by rw [str_size]; simp), index_dig, Option.bind_some]
    simp only [sign_number.j1]
    obtain ⟨D, hD⟩ : ∃ D, D = digV (bt s i) := ⟨_, rfl⟩
    rw [← hD] at hdl ⊢
    by_cases hv : 0 ≤ D ∧ D < base
    · rw [if_neg (by omega), decide_eq_false (by omega), if_neg (by simp), if_pos (by omega), hw, if_pos hv]
      have e1 : wrap64 (wrap64 (n * base) + D) = n * base + D := by unfold wrap64; omega
      rw [e1]
      have := ih k (n * base + D) (i + 1) (by omega) (by omega) (by omega) (by omega)
      rw [show (((i + 1 : Nat)) : Int) = (i : Int) + 1 by omega] at this
      exact this
    · rw [if_neg hv]
      by_cases hn0 : D < 0
      · rw [if_pos hn0, if_pos trivial]
      · rw [if_neg hn0, decide_eq_true (by omega), if_pos rfl]
/-- What number tells. -/
def numSpec (s : ByteArray) (base : Int) (most : Nat) : Int × Bool :=
  if s.size = 0 ∨ s.size > most then (0, false) else match numL base (bytesOf s) 0 with | some v => (v, true) | none => (0, false)
theorem number_f (s : ByteArray) (base : Int) (most : Nat) (hb1 : 1 ≤ base) (hB : base ^ most ≤ 4611686018427387904) (hs : s.size ≤ 140737488355327) (k : Nat) (hk : 2 * s.size + 1 ≤ k) : sign_number.f k s base most = some (numSpec s base most) := by
  unfold sign_number.f numSpec
  by_cases hm : s.size > most
  · rw [if_pos (Or.inr hm)]
    exact number_long s base most (by omega) hs s.size k 0 0 (by omega) (by omega) hk
  · have := number_short s base most (by omega) hB hb1 (by omega) hs s.size k 0 0 (by omega) hk (by omega) (by simp)
    rw [show ((0 : Nat) : Int) = 0 from rfl] at this
    rw [this]
    by_cases hz : s.size = 0
    · rw [if_pos (Or.inl hz), List.drop_zero]
      cases numL base (bytesOf s) 0 <;> simp [hz]
    · rw [if_neg (by omega), List.drop_zero]
      cases numL base (bytesOf s) 0 <;> simp [hz]
theorem Decimal_f (s : ByteArray) (hs : s.size ≤ 140737488355327) (k : Nat) (hk : 2 * s.size + 1 ≤ k) : sign_Decimal.f k s = some (numSpec s 10 18) := by
  unfold sign_Decimal.f
  rw [show (18 : Int) = ((18 : Nat) : Int) from rfl, number_f s 10 18 (by decide) (by decide) hs k hk, Option.bind_some]
theorem Hex_f (s : ByteArray) (hs : s.size ≤ 140737488355327) (k : Nat) (hk : 2 * s.size + 1 ≤ k) : sign_Hex.f k s = some (numSpec s 16 15) := by
  unfold sign_Hex.f
  rw [show (15 : Int) = ((15 : Nat) : Int) from rfl, number_f s 16 15 (by decide) (by decide) hs k hk, Option.bind_some]

end Go.Proofs.YthkkkfeiklfjoaaDoor.Pure
