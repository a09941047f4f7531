/- Each function below answers as its Lean twin says; plain lemmas; a row where its theorem stands. No further condition. (Laid by this repo's pack.py out of its texts and of the print's words.) -/
import Derived.Test.YtjgpifjfaiaidaaDoorU0base0x0
import Derived.Test.YtjgpifjfaiaidaaDoorUsign0x0
import Derived.Test.YtjgpifjfaiaidaaDoorUsign0x1
import Derived.Test.YtjgpifjfaiaidaaDoorUstrings0x0
import Derived.Test.YtjgpifjfaiaidaaDoorUstrconv0x0
import Derived.Test.YtjgpifjfaiaidaaDoorUline0x2
import Derived.Test.YtjgpifjfaiaidaaDoorUline0x3
import Derived.Test.YtjgpifjfaiaidaaDoorUstrings1x0
import Derived.Test.YtjgpifjfaiaidaaDoorUstringsgenSplit
import Derived.Test.YtjgpifjfaiaidaaDoorUline0x1
import Derived.Test.YtjgpifjfaiaidaaDoorUlineRequest
import Derived.Test.YtjgpifjfaiaidaaDoorUlineStatus
import Derived.Test.YtjgpifjfaiaidaaDoorUtollbarlaw05reading
import Derived.Test.YtjgpifjfaiaidaaDoorUtollbarref050x0
import Derived.Test.YtjgpifjfaiaidaaDoorUtollbarref020x0
import Derived.Test.YtjgpifjfaiaidaaDoorUtollbarref020x1
import Derived.Test.YtjgpifjfaiaidaaDoorUstringslite0x0
import Derived.Test.YtjgpifjfaiaidaaDoorUtollbarref05Request
import Derived.Test.YtjgpifjfaiaidaaDoorUtollbarlaw05LineBack
import Derived.Lib.IndexBytes
import Derived.Lib.Strings
import Derived.Shelf.Strings.SlTrimAscii
import Derived.Lib.SlTrimSet
import Derived.Lib.LastIndexByte
namespace Go.Proofs.YtjgpifjfaiaidaaDoor.Pure
open Go.RowKit Go.Proofs.YtjgpifjfaiaidaaDoor.P Go.Proofs.YtjgpifjfaiaidaaDoorW.PrintWords Go.Proofs.YtjgpifjfaiaidaaDoorW.PrintLast Go.Proofs.YtjgpifjfaiaidaaDoorW.PrintMore
set_option linter.unusedVariables false
set_option linter.unusedSimpArgs false
theorem str_size (xs : List Int) : (strOfNums xs).size = xs.length := strOfNums_size xs
theorem toList_data (s : ByteArray) : s.toList = s.data.toList := by
  simp [ByteArray.toList_eq]
theorem isEmpty_size (s : ByteArray) : s.toList.isEmpty = decide (s.size = 0) := by
  rw [toList_data, Bool.eq_iff_iff, List.isEmpty_iff, decide_eq_true_eq, ← data_length]
  exact List.length_eq_zero_iff.symm

end Go.Proofs.YtjgpifjfaiaidaaDoor.Pure

namespace Go.Proofs.YtjgpifjfaiaidaaDoor.Pure
open Go.RowKit Go.Proofs.YtjgpifjfaiaidaaDoor.P Go.Proofs.YtjgpifjfaiaidaaDoorW.PrintWords Go.Proofs.YtjgpifjfaiaidaaDoorW.PrintLast Go.Proofs.YtjgpifjfaiaidaaDoorW.PrintMore
set_option linter.unusedVariables false
set_option linter.unusedSimpArgs false
theorem fold_tells (s : ByteArray) (hn : s.size ≤ 140737488355328) : sign_Fold.f s = some (strOfNums ((bytesOf s).map foldC)) := if_pos hn
def Bytes (xs : List Int) : Prop := ∀ x ∈ xs, 0 ≤ x ∧ x ≤ 255
theorem foldC_byte (x : Int) (h0 : 0 ≤ x) (h1 : x ≤ 255) : 0 ≤ foldC x ∧ foldC x ≤ 255 := by unfold foldC; split <;> omega
theorem bytes_str {xs : List Int} (h : Bytes xs) : bytesOf (strOfNums xs) = xs := by
  unfold bytesOf
  rw [strOfNums_data, List.map_map]
  conv => rhs; rw [← List.map_id xs]
  refine List.map_congr_left fun x hx => ?_
  have := h x hx
  show ((UInt8.ofNat x.toNat).toNat : Int) = x
  rw [UInt8.toNat_ofNat']
  omega
end Go.Proofs.YtjgpifjfaiaidaaDoor.Pure

namespace Go.Proofs.YtjgpifjfaiaidaaDoor.Pure
open Go.RowKit Go.Proofs.YtjgpifjfaiaidaaDoor.P Go.Proofs.YtjgpifjfaiaidaaDoorW.PrintWords Go.Proofs.YtjgpifjfaiaidaaDoorW.PrintLast Go.Proofs.YtjgpifjfaiaidaaDoorW.PrintMore
set_option linter.unusedVariables false
set_option linter.unusedSimpArgs false
/-- The value of a digit, or -1. -/
def digV (c : Int) : Int := Lib.indexByte [48, 49, 50, 51, 52, 53, 54, 55, 56, 57, 97, 98, 99, 100, 101, 102] (foldC c).toNat.toUInt8
/-- The number of digits, from n on. -/
def numL (base : Int) : List Int → Int → Option Int
  | [], n => some n
  | c :: r, n => if 0 ≤ digV c ∧ digV c < base then numL base r (n * base + digV c) else none
theorem digV_lt (c : Int) (h0 : 0 ≤ c) (h1 : c ≤ 255) : digV c < 16 := by
  obtain ⟨n, rfl⟩ := Int.eq_ofNat_of_zero_le h0
  have h : ∀ m : Fin 256, digV (m.val : Int) < 16 := by decide +kernel
  exact h ⟨n, by omega⟩
theorem one_fold (s : ByteArray) (i : Int) (h0 : 0 ≤ i) (h : i < (s.size : Int)) : sign_Fold.f (s.extract i.toNat (i + 1).toNat) = some (strOfNums [foldC (bt s i)]) := by
  have hl : i.toNat < s.data.toList.length := by rw [data_length]; omega
  have e1 : (s.extract i.toNat (i + 1).toNat).data.toList = [s.data.toList[i.toNat]] := by
    rw [Lib.extract_data, show (i + 1).toNat - i.toNat = 1 by omega, List.drop_eq_getElem_cons hl]
    rfl
  have hz : (s.extract i.toNat (i + 1).toNat).size = 1 := by rw [← data_length, e1]; rfl
  rw [fold_tells _ (by omega)]
  unfold bytesOf
  rw [e1]
  have e2 : ((s.data.toList[i.toNat]).toNat : Int) = bt s i := by
    unfold bt
    rw [dif_pos (by omega)]
    rfl
  simp only [List.map_cons, List.map_nil, e2]
theorem bt_one (x : Int) (h0 : 0 ≤ x) (h1 : x ≤ 255) : bt (strOfNums [x]) 0 = x := by
  have h := bytes_str (xs := [x]) (by intro y hy; rw [List.mem_singleton.1 hy]; exact ⟨h0, h1⟩)
  rw [← rd_bytesOf, h]
  rfl
theorem index_dig (s : ByteArray) (i : Int) : strings_IndexByte.f (⟨#[48, 49, 50, 51, 52, 53, 54, 55, 56, 57, 97, 98, 99, 100, 101, 102]⟩ : ByteArray) (bt (strOfNums [foldC (bt s i)]) 0) = some (digV (bt s i)) := by
  have hr := bt_range s i
  have hf := foldC_byte _ hr.1 hr.2
  rw [bt_one _ hf.1 hf.2]
  rfl
theorem pow_pos' (b : Int) (hb : 1 ≤ b) : ∀ n : Nat, 1 ≤ b ^ n
  | 0 => by simp
  | n + 1 => by
    rw [Int.pow_succ]
    have h1 := pow_pos' b hb n
    have h2 := Int.mul_le_mul_of_nonneg_left hb (show 0 ≤ b ^ n by omega)
    rw [Int.mul_one] at h2
    omega
theorem pow_mono' (b : Int) (hb : 1 ≤ b) (i : Nat) : ∀ d : Nat, b ^ i ≤ b ^ (i + d)
  | 0 => Int.le_refl _
  | d + 1 => by
    rw [← Nat.add_assoc, Int.pow_succ]
    have h0 := pow_mono' b hb i d
    have h1 := pow_pos' b hb (i + d)
    have h2 := Int.mul_le_mul_of_nonneg_left hb (show 0 ≤ b ^ (i + d) by omega)
    rw [Int.mul_one] at h2
    omega
/-- Too long: none. -/
theorem number_long (s : ByteArray) (base most : Int) (hm : (s.size : Int) > most) (hs : s.size ≤ 140737488355327) (d : Nat) : ∀ (k : Nat) (n i : Int), 0 ≤ i → (s.size : Int) - i = d → 2 * d + 1 ≤ k →
    sign_number.l0 k s base most n (s.size : Int) i = some (0, false) := by
  induction d with
  | zero =>
    intro k n i h0 hd hk
    obtain ⟨k, rfl⟩ : ∃ m, k = m + 1 := ⟨k - 1, by omega⟩
    simp only [sign_number.l0]
    rw [if_neg (by omega)]
    repeat' split
    all_goals first | rfl | (exfalso; omega)
  | succ d ih =>
    intro k n i h0 hd hk
    obtain ⟨k, rfl⟩ : ∃ m, k = m + 2 := ⟨k - 2, by omega⟩
    have hw : wrap64 (i + 1) = i + 1 := by unfold wrap64; omega
    have ih' := fun n => ih k n (i + 1) (by omega) (by omega) (by omega)
    simp only [sign_number.l0]
    rw [if_pos (by omega), if_pos h0, hw, if_pos (by omega), if_pos (by omega), one_fold s i h0 (by omega), Option.bind_some, if_pos (by rw [str_size]; simp), index_dig, Option.bind_some]
    simp only [sign_number.j1]
    rw [hw, ih', ih']
    repeat' split
    all_goals rfl
theorem number_short (s : ByteArray) (base : Int) (most : Nat) (hb0 : 0 ≤ base) (hB : base ^ most ≤ 4611686018427387904) (hb1 : 1 ≤ base) (hm : s.size ≤ most) (hs : s.size ≤ 140737488355327) (d : Nat) : ∀ (k : Nat) (n : Int) (i : Nat), i + d = s.size → 2 * d + 1 ≤ k → 0 ≤ n → n + 1 ≤ base ^ i →
    sign_number.l0 k s base most n (s.size : Int) i = some (match numL base ((bytesOf s).drop i) n with | some v => if s.size = 0 then (0, false) else (v, true) | none => (0, false)) := by
  induction d with
  | zero =>
    intro k n i hi hk h0 hn
    obtain ⟨k, rfl⟩ : ∃ m, k = m + 1 := ⟨k - 1, by omega⟩
    rw [List.drop_of_length_le (by rw [bytesOf_length]; omega)]
    simp only [sign_number.l0, numL]
    rw [if_neg (by omega)]
    by_cases hz : s.size = 0
    · have he : s.toList = [] := by rw [toList_data]; exact List.eq_nil_of_length_eq_zero (by rw [data_length]; exact hz)
      rw [if_pos he, if_pos hz]
    · have he : ¬ (s.toList = []) := by
        intro e
        rw [toList_data] at e
        have := data_length s
        rw [e] at this
        exact hz this.symm
      rw [if_neg he, if_neg hz, if_neg (by omega)]
  | succ d ih =>
    intro k n i hi hk h0 hn
    obtain ⟨k, rfl⟩ : ∃ m, k = m + 2 := ⟨k - 2, by omega⟩
    have hw : wrap64 ((i : Int) + 1) = (i : Int) + 1 := by unfold wrap64; omega
    have hl : i < (bytesOf s).length := by rw [bytesOf_length]; omega
    have hg : (bytesOf s)[i] = bt s i := by rw [← rd_bytesOf]; simp [rd, List.getD_eq_getElem?_getD, List.getElem?_eq_getElem hl]
    have hr := bt_range s i
    have hP : base ^ (i + 1) = base ^ i * base := Int.pow_succ _ _
    have hle : base ^ (i + 1) ≤ base ^ most := by
      have := pow_mono' base hb1 (i + 1) (most - (i + 1))
      rwa [show i + 1 + (most - (i + 1)) = most by omega] at this
    have h1 := Int.mul_le_mul_of_nonneg_right hn hb0
    rw [Int.add_mul, ← hP, Int.one_mul] at h1
    have h2 : 0 ≤ n * base := Int.mul_nonneg h0 hb0
    have h3 : 0 ≤ base := hb0
    have hdl := digV_lt _ hr.1 hr.2
    rw [List.drop_eq_getElem_cons hl, hg]
    simp only [sign_number.l0, numL]
    rw [if_pos (by omega), if_pos (by omega), hw, if_pos (by omega), if_pos (by omega), one_fold s i (by omega) (by omega), Option.bind_some, if_pos (by rw [str_size]; simp), index_dig, Option.bind_some]
    simp only [sign_number.j1]
    obtain ⟨D, hD⟩ : ∃ D, D = digV (bt s i) := ⟨_, rfl⟩
    rw [← hD] at hdl ⊢
    by_cases hv : 0 ≤ D ∧ D < base
    · rw [if_neg (by omega), decide_eq_false (by omega), if_neg (by simp), if_pos (by omega), hw, if_pos hv]
      have e1 : wrap64 (wrap64 (n * base) + D) = n * base + D := by unfold wrap64; omega
      rw [e1]
      have := ih k (n * base + D) (i + 1) (by omega) (by omega) (by omega) (by omega)
      rw [show (((i + 1 : Nat)) : Int) = (i : Int) + 1 by omega] at this
      exact this
    · rw [if_neg hv]
      by_cases hn0 : D < 0
      · rw [if_pos hn0, if_pos trivial]
      · rw [if_neg hn0, decide_eq_true (by omega), if_pos rfl]
/-- What number tells. -/
def numSpec (s : ByteArray) (base : Int) (most : Nat) : Int × Bool :=
  if s.size = 0 ∨ s.size > most then (0, false) else match numL base (bytesOf s) 0 with | some v => (v, true) | none => (0, false)
theorem number_f (s : ByteArray) (base : Int) (most : Nat) (hb1 : 1 ≤ base) (hB : base ^ most ≤ 4611686018427387904) (hs : s.size ≤ 140737488355327) (k : Nat) (hk : 2 * s.size + 1 ≤ k) : sign_number.f k s base most = some (numSpec s base most) := by
  unfold sign_number.f numSpec
  by_cases hm : s.size > most
  · rw [if_pos (Or.inr hm)]
    exact number_long s base most (by omega) hs s.size k 0 0 (by omega) (by omega) hk
  · have := number_short s base most (by omega) hB hb1 (by omega) hs s.size k 0 0 (by omega) hk (by omega) (by simp)
    rw [show ((0 : Nat) : Int) = 0 from rfl] at this
    rw [this]
    by_cases hz : s.size = 0
    · rw [if_pos (Or.inl hz), List.drop_zero]
      cases numL base (bytesOf s) 0 <;> simp [hz]
    · rw [if_neg (by omega), List.drop_zero]
      cases numL base (bytesOf s) 0 <;> simp [hz]
theorem Decimal_f (s : ByteArray) (hs : s.size ≤ 140737488355327) (k : Nat) (hk : 2 * s.size + 1 ≤ k) : sign_Decimal.f k s = some (numSpec s 10 18) := by
  unfold sign_Decimal.f
  rw [show (18 : Int) = ((18 : Nat) : Int) from rfl, number_f s 10 18 (by decide) (by decide) hs k hk, Option.bind_some]
end Go.Proofs.YtjgpifjfaiaidaaDoor.Pure

namespace Go.Proofs.YtjgpifjfaiaidaaDoor.Pure
open Go.RowKit Go.Proofs.YtjgpifjfaiaidaaDoor.P Go.Proofs.YtjgpifjfaiaidaaDoorW.PrintWords Go.Proofs.YtjgpifjfaiaidaaDoorW.PrintLast Go.Proofs.YtjgpifjfaiaidaaDoorW.PrintMore
set_option linter.unusedVariables false
set_option linter.unusedSimpArgs false
/-- The decimal digits, as numbers. -/
def decI (u : Nat) : List Int := (Lib.decDigits u).map fun b => (b.toNat : Int)
theorem decI_small (u : Nat) (h : u < 10) : decI u = [48 + (u : Int)] := by
  unfold decI
  rw [Lib.decDigits_one h, List.map_cons, List.map_nil]
  congr 1
  rw [UInt8.toNat_ofNat']
  omega
theorem decI_big (u : Nat) (h : 10 ≤ u) : decI u = decI (u / 10) ++ [48 + ((u % 10 : Nat) : Int)] := by
  unfold decI
  rw [Lib.decDigits, dif_neg (by omega), List.map_append, List.map_cons, List.map_nil]
  congr 2
  rw [UInt8.toNat_ofNat']
  omega
theorem dec_str (u : Nat) : (⟨(Lib.decDigits u).toArray⟩ : ByteArray) = strOfNums (decI u) := by
  unfold decI strOfNums
  congr 2
  rw [List.map_map]
  conv => lhs; rw [← List.map_id (Lib.decDigits u)]
  exact List.map_congr_left fun b _ => by simp
end Go.Proofs.YtjgpifjfaiaidaaDoor.Pure

namespace Go.Proofs.YtjgpifjfaiaidaaDoor.Pure
open Go.RowKit Go.Proofs.YtjgpifjfaiaidaaDoor.P Go.Proofs.YtjgpifjfaiaidaaDoorW.PrintWords Go.Proofs.YtjgpifjfaiaidaaDoorW.PrintLast Go.Proofs.YtjgpifjfaiaidaaDoorW.PrintMore
set_option linter.unusedVariables false
set_option linter.unusedSimpArgs false
def mkS (l : List UInt8) : ByteArray := ⟨l.toArray⟩
theorem mkS_data (l : List UInt8) : (mkS l).data.toList = l := by simp [mkS]
theorem mkS_self (s : ByteArray) : mkS s.data.toList = s := by simp [mkS]
theorem mkS_size (l : List UInt8) : (mkS l).size = l.length := by rw [← data_length, mkS_data]
theorem mkS_toList (l : List UInt8) : (mkS l).toList = l := by rw [toList_data, mkS_data]
theorem wn0 (n : Nat) (h : n ≤ 4398046511104) : wrap64 ((n : Int) + 0) = (n : Int) := by unfold wrap64; omega
theorem wn1 (n : Nat) (h : n ≤ 4398046511104) : wrap64 ((n : Int) + 1) = (n : Int) + 1 := by unfold wrap64; omega
theorem wnm (n : Nat) (h : n ≤ 4398046511104) : wrap64 ((n : Int) + 1 - 1) = (n : Int) := by unfold wrap64; omega
theorem bt_mk (l : List UInt8) (i : Nat) (h : i < l.length) : bt (mkS l) i = ((l[i]).toNat : Int) := by
  unfold bt
  have hs : (mkS l).size = l.length := mkS_size l
  rw [dif_pos (by rw [Int.toNat_natCast]; omega)]
  have : (mkS l)[((i : Nat) : Int).toNat]'(by rw [Int.toNat_natCast]; omega) = l[i] := by simp [mkS, ByteArray.getElem_eq_getElem_data]
  rw [this]
theorem mkS_extract (l : List UInt8) (a b : Nat) : (mkS l).extract a b = mkS ((l.drop a).take (b - a)) := by
  rw [← mkS_self ((mkS l).extract a b), Lib.extract_data, mkS_data]
theorem mkS_bytes (l : List UInt8) : bytesOf (mkS l) = l.map fun b => (b.toNat : Int) := by unfold bytesOf; rw [mkS_data]
theorem mkS_append (a b : List UInt8) : mkS a ++ mkS b = mkS (a ++ b) := by
  apply ByteArray.ext
  simp [mkS]
theorem str_bytes (l : List UInt8) : strOfNums (l.map fun b => (b.toNat : Int)) = mkS l := by
  unfold strOfNums mkS
  rw [List.map_map]
  congr 2
  conv => rhs; rw [← List.map_id l]
  exact List.map_congr_left fun b _ => by simp
end Go.Proofs.YtjgpifjfaiaidaaDoor.Pure

namespace Go.Proofs.YtjgpifjfaiaidaaDoor.Pure
open Go.RowKit Go.Proofs.YtjgpifjfaiaidaaDoor.P Go.Proofs.YtjgpifjfaiaidaaDoorW.PrintWords Go.Proofs.YtjgpifjfaiaidaaDoorW.PrintLast Go.Proofs.YtjgpifjfaiaidaaDoorW.PrintMore
set_option linter.unusedVariables false
set_option linter.unusedSimpArgs false
theorem Text_f (n : Int) (h0 : -9223372036854775808 ≤ n) (h1 : n ≤ 9223372036854775807) : sign_Text.f n = some ⟨(Lib.itoa n).toArray⟩ := by
  unfold sign_Text.f strconv_FormatInt_85.f strconv_FormatInt_105.f
  rw [if_pos rfl, if_pos ⟨h0, h1⟩]
  rfl
end Go.Proofs.YtjgpifjfaiaidaaDoor.Pure

namespace Go.Proofs.YtjgpifjfaiaidaaDoor.Pure
open Go.RowKit Go.Proofs.YtjgpifjfaiaidaaDoor.P Go.Proofs.YtjgpifjfaiaidaaDoorW.PrintWords Go.Proofs.YtjgpifjfaiaidaaDoorW.PrintLast Go.Proofs.YtjgpifjfaiaidaaDoorW.PrintMore
set_option linter.unusedVariables false
set_option linter.unusedSimpArgs false
/-- A request's line. -/
def reqLine (m t T : ByteArray) : ByteArray := ((((m ++ (⟨#[32]⟩ : ByteArray)) ++ t) ++ (⟨#[32, 72, 84, 84, 80, 47, 49, 46]⟩ : ByteArray)) ++ T) ++ (⟨#[13, 10]⟩ : ByteArray)
theorem RequestLine_f (m t : ByteArray) (n : Int) (f : List (S84)) (b : List Int) (T : ByteArray) (hT : sign_Text.f n = some T) (hs : T.size ≤ 20) (h1 : m.size ≤ 140737488351232) (h2 : t.size ≤ 140737488351232) : line_RequestLine.f m t n f b = some (reqLine m t T) := by
  have e1 : (⟨#[32]⟩ : ByteArray).size = 1 := rfl
  have e2 : (⟨#[32, 72, 84, 84, 80, 47, 49, 46]⟩ : ByteArray).size = 8 := rfl
  unfold line_RequestLine.f reqLine
  rw [hT, Option.bind_some]
  simp only [ByteArray.size_append]
  rw [if_pos (by omega), if_pos (by omega), if_pos (by omega), if_pos (by omega), if_pos (by omega)]
/-- A response's line; C is its code. -/
def statLine (C T r : ByteArray) : ByteArray := (((((((⟨#[72, 84, 84, 80, 47, 49, 46]⟩ : ByteArray) ++ T) ++ (⟨#[32]⟩ : ByteArray)) ++ C) ++ (⟨#[32]⟩ : ByteArray)) ++ r) ++ (⟨#[13, 10]⟩ : ByteArray))
theorem StatusLine_end (k : Nat) (C : ByteArray) (c : Int) (r : ByteArray) (n : Int) (f : List (S84)) (b : List Int) (T : ByteArray) (hT : sign_Text.f n = some T) (hs : T.size ≤ 20) (h1 : r.size ≤ 140737488351232) (h2 : C.size ≤ 20) (h3 : 3 ≤ C.size) : line_StatusLine.l0 (k + 1) C c r n f b = some (statLine C T r) := by
  have e1 : (⟨#[32]⟩ : ByteArray).size = 1 := rfl
  have e2 : (⟨#[72, 84, 84, 80, 47, 49, 46]⟩ : ByteArray).size = 7 := rfl
  unfold line_StatusLine.l0 statLine
  rw [if_neg (by omega), hT, Option.bind_some]
  simp only [ByteArray.size_append]
  rw [if_pos (by omega), if_pos (by omega), if_pos (by omega), if_pos (by omega), if_pos (by omega), if_pos (by omega)]
end Go.Proofs.YtjgpifjfaiaidaaDoor.Pure

namespace Go.Proofs.YtjgpifjfaiaidaaDoor.Pure
open Go.RowKit Go.Proofs.YtjgpifjfaiaidaaDoor.P Go.Proofs.YtjgpifjfaiaidaaDoorW.PrintWords Go.Proofs.YtjgpifjfaiaidaaDoorW.PrintLast Go.Proofs.YtjgpifjfaiaidaaDoorW.PrintMore
set_option linter.unusedVariables false
set_option linter.unusedSimpArgs false
/-- How many commas. -/
def cntC (sp : UInt8) : List UInt8 → Nat
  | [] => 0
  | c :: l => if c = sp then cntC sp l + 1 else cntC sp l
theorem cntC_count {sp : UInt8} (l : List UInt8) : l.count sp = cntC sp l := by
  induction l with
  | nil => rfl
  | cons c l ih => rw [List.count_cons, ih]; by_cases hc : c = sp <;> simp [cntC, hc]
theorem cntC_append {sp : UInt8} (a b : List UInt8) : cntC sp (a ++ b) = cntC sp a + cntC sp b := by
  rw [← cntC_count, ← cntC_count, ← cntC_count, List.count_append]
theorem cntC_none {sp : UInt8} (l : List UInt8) : cntC sp l = 0 ↔ sp ∉ l := by rw [← cntC_count]; exact List.count_eq_zero
theorem cntC_le {sp : UInt8} (l : List UInt8) : cntC sp l ≤ l.length := by rw [← cntC_count]; exact List.count_le_length
/-- The parts between commas. -/
def pcs (sp : UInt8) : List UInt8 → List (List UInt8)
  | [] => [[]]
  | c :: l => if c = sp then [] :: pcs sp l else (match pcs sp l with | p :: ps => (c :: p) :: ps | [] => [[c]])
theorem pcs_ne {sp : UInt8} (l : List UInt8) : ∃ p ps, pcs sp l = p :: ps := by
  induction l with
  | nil => exact ⟨[], [], rfl⟩
  | cons c l ih =>
    obtain ⟨p, ps, h⟩ := ih
    by_cases hc : c = sp
    · exact ⟨[], pcs sp l, by simp [pcs, hc]⟩
    · exact ⟨c :: p, ps, by simp [pcs, hc, h]⟩
theorem pcs_none {sp : UInt8} (l : List UInt8) (h : sp ∉ l) : pcs sp l = [l] := by
  induction l with
  | nil => rfl
  | cons c l ih =>
    have hc : c ≠ sp := fun e => h (e ▸ List.mem_cons_self ..)
    simp [pcs, hc, ih (fun e => h (List.mem_cons_of_mem _ e))]
theorem pcs_append {sp : UInt8} (a b : List UInt8) : pcs sp (a ++ sp :: b) = pcs sp a ++ pcs sp b := by
  induction a with
  | nil => simp [pcs]
  | cons c a ih =>
    by_cases hc : c = sp
    · simp [pcs, hc, ih]
    · obtain ⟨p, ps, hp⟩ := pcs_ne (sp := sp) a
      simp [pcs, hc, ih, hp]
theorem pcs_le {sp : UInt8} (l : List UInt8) : ∀ p ∈ pcs sp l, p.length ≤ l.length := by
  induction l with
  | nil => intro p hp; simp [pcs] at hp; simp [hp]
  | cons c l ih =>
    intro p hp
    by_cases hc : c = sp
    · simp only [pcs, hc, if_true] at hp
      rcases List.mem_cons.1 hp with rfl | hp
      · simp
      · have := ih p hp; simp; omega
    · obtain ⟨q, qs, hq⟩ := pcs_ne (sp := sp) l
      simp only [pcs, hc, if_false, hq] at hp
      rcases List.mem_cons.1 hp with rfl | hp
      · have := ih q (by rw [hq]; exact List.mem_cons_self ..); simp; omega
      · have := ih p (by rw [hq]; exact List.mem_cons_of_mem _ hp); simp; omega
/-- What Split tells. -/
theorem index_splitC {sp : UInt8} (l : List UInt8) (h : 0 < cntC sp l) : ∃ a b, l = a ++ sp :: b ∧ sp ∉ a ∧ Lib.indexByte l sp = a.length := by
  induction l with
  | nil => simp [cntC] at h
  | cons c l ih =>
    by_cases hc : c = sp
    · exact ⟨[], l, by simp [hc], by simp, by simp [Lib.indexByte, hc]⟩
    · have h' : 0 < cntC sp l := by simpa [cntC, hc] using h
      obtain ⟨a, b, h1, h2, h3⟩ := ih h'
      refine ⟨c :: a, b, by simp [h1], ?_, ?_⟩
      · intro hm
        rcases List.mem_cons.1 hm with e | e
        · exact hc e.symm
        · exact h2 e
      · have hb : (c == sp) = false := by simpa using hc
        have hn : ((a.length : Int) == -1) = false := by simp only [beq_eq_false_iff_ne]; omega
        simp [Lib.indexByte, hb, h3, hn]
theorem gs_endC {sp : UInt8} (k : Nat) (s : ByteArray) (x3 : Int) (x9 : List ByteArray) (i : Nat) (hc : sp ∉ s.data.toList) (hx : x3 = i) (hl : x9.length = i + 1) (hi : i ≤ 4398046511104) :
    strings_genSplit.l0 (k + 1) s ⟨#[sp]⟩ 0 x3 x9 i = some (x9.take i ++ (pcs sp s.data.toList).map mkS) := by
  simp only [strings_genSplit.l0]
  rw [if_neg (by omega), if_pos (by omega), if_pos (by omega), wn1 i hi, if_pos (by omega), if_pos (by omega), pcs_none _ hc]
  have e1 : ((i : Int) + 1).toNat = i + 1 := by omega
  rw [e1, Int.toNat_natCast, List.take_succ_eq_append_getElem (by rw [List.length_set]; omega), List.take_set_of_le (Nat.le_refl _)]
  simp [mkS_self]
theorem extract_midC {sp : UInt8} (s : ByteArray) (a b : List UInt8) (hab : s.data.toList = a ++ sp :: b) : (s.extract (a.length + 1) s.size).data.toList = b ∧ s.extract 0 a.length = mkS a ∧ (s.extract (a.length + 1) s.size).size ≤ s.size := by
  have e2 : (s.extract (a.length + 1) s.size).data.toList = b := by
    rw [Lib.extract_to_end, hab, ← List.drop_drop, List.drop_left]; rfl
  refine ⟨e2, ?_, ?_⟩
  · have : (s.extract 0 a.length).data.toList = a := by
      rw [Lib.extract_data, hab, List.drop_zero, Nat.sub_zero, List.take_left]
    rw [← mkS_self (s.extract 0 _), this]
  · have hlen : a.length + b.length + 1 = s.size := by rw [← data_length, hab]; simp; omega
    rw [← data_length, e2]
    omega
theorem gs_stepC {sp : UInt8} (k : Nat) (s : ByteArray) (x3 : Int) (x9 : List ByteArray) (i : Nat) (a b : List UInt8) (hab : s.data.toList = a ++ sp :: b) (hidx : Lib.indexByte s.data.toList sp = a.length) (hx : (i : Int) < x3) (hl : i < x9.length) (hs : s.size ≤ 4398046511104) (hi : i ≤ 4398046511104) :
    ∀ R, strings_genSplit.l0 k (s.extract (a.length + 1) s.size) ⟨#[sp]⟩ 0 x3 (x9.set i (mkS a)) ((i : Int) + 1) = R → strings_genSplit.l0 (k + 1) s ⟨#[sp]⟩ 0 x3 x9 i = R := by
  intro R hR
  have hlen : a.length + b.length + 1 = s.size := by rw [← data_length, hab]; simp; omega
  have hix : strings_Index.f s ⟨#[sp]⟩ = some (a.length : Int) := by
    show some (Lib.indexByte s.data.toList sp) = _
    rw [hidx]
  have hs1 : ((⟨#[sp]⟩ : ByteArray).size : Int) = 1 := rfl
  have e1 : ((a.length : Int) + 1).toNat = a.length + 1 := by omega
  obtain ⟨_, e3, _⟩ := extract_midC s a b hab
  simp only [strings_genSplit.l0]
  rw [if_pos hx, hix]
  rw [Option.bind_some]
  rw [if_neg (by omega), wn0 _ (by omega), hs1, wn1 _ (by omega), if_pos (by omega), if_pos (by omega), if_pos (by omega), if_pos (by omega), if_pos (by omega), if_pos (by omega), wn1 i hi, e1, Int.toNat_natCast, Int.toNat_natCast, e3]
  exact hR
theorem gs_l0C {sp : UInt8} (d : Nat) : ∀ (k : Nat) (s : ByteArray) (x3 : Int) (x9 : List ByteArray) (i : Nat), cntC sp s.data.toList = d → x3 = i + d → x9.length = i + d + 1 → d + 1 ≤ k → s.size ≤ 4398046511104 →
    i + d ≤ 4398046511104 → strings_genSplit.l0 k s ⟨#[sp]⟩ 0 x3 x9 i = some (x9.take i ++ (pcs sp s.data.toList).map mkS) := by
  induction d with
  | zero =>
    intro k s x3 x9 i hc hx hl hk hs hid
    obtain ⟨k, rfl⟩ : ∃ m, k = m + 1 := ⟨k - 1, by omega⟩
    exact gs_endC k s x3 x9 i ((cntC_none _).1 hc) (by omega) (by omega) (by omega)
  | succ d ih =>
    intro k s x3 x9 i hc hx hl hk hs hid
    obtain ⟨k, rfl⟩ : ∃ m, k = m + 1 := ⟨k - 1, by omega⟩
    obtain ⟨a, b, hab, ha, hidx⟩ := index_splitC (sp := sp) s.data.toList (by omega)
    obtain ⟨e2, _, e4⟩ := extract_midC s a b hab
    have hcb : cntC sp b = d := by
      rw [hab, cntC_append, (cntC_none a).2 ha] at hc
      simp only [cntC, if_true] at hc
      omega
    refine gs_stepC k s x3 x9 i a b hab hidx (by omega) (by omega) hs (by omega) _ ?_
    have := ih k (s.extract (a.length + 1) s.size) x3 (x9.set i (mkS a)) (i + 1) (by rw [e2]; exact hcb) (by omega) (by rw [List.length_set]; omega) (by omega) (by omega) (by omega)
    rw [show (((i + 1 : Nat)) : Int) = (i : Int) + 1 by omega] at this
    rw [this, e2, hab, pcs_append, pcs_none a ha, List.take_succ_eq_append_getElem (by rw [List.length_set]; omega), List.take_set_of_le (Nat.le_refl _)]
    simp
theorem gs_firstC {sp : UInt8} (k : Nat) (s : ByteArray) (hs : s.size ≤ 4398046511103) :
    ∀ R, strings_genSplit.l0 k s ⟨#[sp]⟩ 0 ((cntC sp s.data.toList : Nat) : Int) (List.replicate (cntC sp s.data.toList + 1) (⟨#[]⟩ : ByteArray)) 0 = R → strings_genSplit.f (k + 1) s ⟨#[sp]⟩ 0 (-1) = R := by
  intro R hR
  have hcl := cntC_le (sp := sp) s.data.toList
  rw [data_length] at hcl
  have hcf : strings_Count.f s ⟨#[sp]⟩ = some ((cntC sp s.data.toList : Nat) : Int) := by
    rw [← cntC_count]; rfl
  obtain ⟨c, hc⟩ : ∃ c, c = cntC sp s.data.toList := ⟨_, rfl⟩
  rw [← hc] at hcf hcl hR
  have hm : mn ((c : Int) + 1) ((s.size : Int) + 1) = (c : Int) + 1 := by unfold mn; split <;> omega
  have e1 : ((c : Int) + 1).toNat = c + 1 := by omega
  have hne : ¬ ((⟨#[sp]⟩ : ByteArray).toList = []) := by rw [toList_data]; simp
  unfold strings_genSplit.f
  rw [if_neg (by decide), if_neg hne, if_pos (by decide), hcf]
  rw [Option.bind_some]
  simp only [strings_genSplit.j0]
  rw [wn1 c (by omega), wn1 s.size (by omega), hm, wnm c (by omega), e1, if_pos (by omega), if_pos (by omega)]
  exact hR
theorem Split_fC {sp : UInt8} (s : ByteArray) (hs : s.size ≤ 4398046511103) (k : Nat) (hk : s.size + 3 ≤ k) : strings_Split.f k s ⟨#[sp]⟩ = some ((pcs sp s.data.toList).map mkS) := by
  obtain ⟨k, rfl⟩ : ∃ m, k = m + 1 := ⟨k - 1, by omega⟩
  have hcl := cntC_le (sp := sp) s.data.toList
  rw [data_length] at hcl
  unfold strings_Split.f
  have := gs_l0C (cntC sp s.data.toList) k s ((cntC sp s.data.toList : Nat) : Int) (List.replicate (cntC sp s.data.toList + 1) (⟨#[]⟩ : ByteArray)) 0 rfl (by omega) (by rw [List.length_replicate]; omega) (by omega) (by omega) (by omega)
  rw [show ((0 : Nat) : Int) = 0 from rfl] at this
  rw [gs_firstC k s hs _ this]
  simp

end Go.Proofs.YtjgpifjfaiaidaaDoor.Pure

namespace Go.Proofs.YtjgpifjfaiaidaaDoor.Pure
open Go.RowKit Go.Proofs.YtjgpifjfaiaidaaDoor.P Go.Proofs.YtjgpifjfaiaidaaDoorW.PrintWords Go.Proofs.YtjgpifjfaiaidaaDoorW.PrintLast Go.Proofs.YtjgpifjfaiaidaaDoorW.PrintMore
set_option linter.unusedVariables false
set_option linter.unusedSimpArgs false
theorem text_1 : sign_Text.f 1 = some ⟨#[49]⟩ := by
  show strconv_FormatInt_85.f 1 10 = _
  unfold strconv_FormatInt_85.f strconv_FormatInt_105.f
  simp [Lib.itoa, Lib.decDigits]
theorem text_0 : sign_Text.f 0 = some ⟨#[48]⟩ := by
  show strconv_FormatInt_85.f 0 10 = _
  unfold strconv_FormatInt_85.f strconv_FormatInt_105.f
  simp [Lib.itoa, Lib.decDigits]
set_option maxRecDepth 100000 in
theorem text_404 : sign_Text.f 404 = some ⟨#[52, 48, 52]⟩ := by
  show strconv_FormatInt_85.f 404 10 = _
  unfold strconv_FormatInt_85.f strconv_FormatInt_105.f
  simp [Lib.itoa, Lib.decDigits]
theorem reading_1 : line_Request.f 60 ⟨#[71, 69, 84, 32, 47, 97, 32, 72, 84, 84, 80, 47, 49, 46, 49]⟩ = some (⟨#[71, 69, 84]⟩, ⟨#[47, 97]⟩, 1, [], [], 0) := by kernel_rfl
theorem reading_2 : line_Status.f 60 ⟨#[72, 84, 84, 80, 47, 49, 46, 48, 32, 52, 48, 52, 32, 78, 111, 116, 32, 70, 111, 117, 110, 100]⟩ = some (404, ⟨#[78, 111, 116, 32, 70, 111, 117, 110, 100]⟩, 0, [], [], true) := by kernel_rfl
theorem reading_3 : line_Host.f ⟨#[65, 46, 98, 58, 56, 48]⟩ = some (⟨#[97, 46, 98]⟩, true) := by kernel_rfl
theorem reading_4 : line_Request.f 60 ⟨#[71, 69, 84, 32, 47, 97, 32, 72, 84, 84, 80, 47, 50, 46, 48]⟩ = some (⟨#[]⟩, ⟨#[]⟩, 0, [], [], 505) := by kernel_rfl
theorem reading_5 : line_RequestLine.f ⟨#[71, 69, 84]⟩ ⟨#[47, 97]⟩ 1 [] [] = some ⟨#[71, 69, 84, 32, 47, 97, 32, 72, 84, 84, 80, 47, 49, 46, 49, 13, 10]⟩ := by
  unfold line_RequestLine.f
  rw [text_1]
  kernel_rfl
set_option maxRecDepth 100000 in
theorem reading_6 : line_StatusLine.f 60 404 ⟨#[78, 111, 116, 32, 70, 111, 117, 110, 100]⟩ 0 [] [] = some ⟨#[72, 84, 84, 80, 47, 49, 46, 48, 32, 52, 48, 52, 32, 78, 111, 116, 32, 70, 111, 117, 110, 100, 13, 10]⟩ := by
  unfold line_StatusLine.f
  rw [text_404, Option.bind_some]
  unfold line_StatusLine.l0
  rw [if_neg (by decide), text_0]
  kernel_rfl
theorem reading_7 : line_Reason.f 404 = some ⟨#[78, 111, 116, 32, 70, 111, 117, 110, 100]⟩ := by kernel_rfl
set_option maxRecDepth 100000 in
theorem reading_f (k : Nat) (hk : 60 ≤ k) : tollbarlaw05_reading.f k = some true := by
  refine at_rounds (fun k => tollbarlaw05_reading.mono k) hk ?_
  unfold tollbarlaw05_reading.f
  rw [reading_1, Option.bind_some, reading_2, Option.bind_some, reading_3, Option.bind_some, reading_4, Option.bind_some, if_pos rfl]
  rw [if_pos (by kernel_rfl), if_pos (by kernel_rfl), if_pos (by kernel_rfl), if_pos (by kernel_rfl), if_pos (by kernel_rfl), if_pos (by kernel_rfl), if_pos (by kernel_rfl), if_pos (by kernel_rfl), if_pos (by kernel_rfl), reading_5, Option.bind_some, if_pos (by kernel_rfl), reading_6, Option.bind_some, if_pos (by kernel_rfl), reading_7, Option.bind_some]
  kernel_rfl

end Go.Proofs.YtjgpifjfaiaidaaDoor.Pure

namespace Go.Proofs.YtjgpifjfaiaidaaDoor.Pure
open Go.RowKit Go.Proofs.YtjgpifjfaiaidaaDoor.P Go.Proofs.YtjgpifjfaiaidaaDoorW.PrintWords Go.Proofs.YtjgpifjfaiaidaaDoorW.PrintLast Go.Proofs.YtjgpifjfaiaidaaDoorW.PrintMore
set_option linter.unusedVariables false
set_option linter.unusedSimpArgs false
end Go.Proofs.YtjgpifjfaiaidaaDoor.Pure

namespace Go.Proofs.YtjgpifjfaiaidaaDoor.Pure
open Go.RowKit Go.Proofs.YtjgpifjfaiaidaaDoor.P Go.Proofs.YtjgpifjfaiaidaaDoorW.PrintWords Go.Proofs.YtjgpifjfaiaidaaDoorW.PrintLast Go.Proofs.YtjgpifjfaiaidaaDoorW.PrintMore
set_option linter.unusedVariables false
set_option linter.unusedSimpArgs false
def tokB (c : Int) : Bool := (sign_Token_1.f c).getD false
def valB (c : Int) : Bool := (sign_Value_1.f c).getD false
def tgtB (c : Int) : Bool := (sign_Target_1.f c).getD false
theorem Token_f (s : ByteArray) (h : s.size ≤ 140737488355328) : sign_Token.f s = some (!s.toList.isEmpty && (bytesOf s).all tokB) := if_pos h
theorem Value_f (s : ByteArray) (h : s.size ≤ 140737488355328) : sign_Value.f s = some ((bytesOf s).all valB) := if_pos h
theorem Target_f (s : ByteArray) (h : s.size ≤ 140737488355328) : sign_Target.f s = some (!s.toList.isEmpty && (bytesOf s).all tgtB) := if_pos h
end Go.Proofs.YtjgpifjfaiaidaaDoor.Pure

namespace Go.Proofs.YtjgpifjfaiaidaaDoor.Pure
open Go.RowKit Go.Proofs.YtjgpifjfaiaidaaDoor.P Go.Proofs.YtjgpifjfaiaidaaDoorW.PrintWords Go.Proofs.YtjgpifjfaiaidaaDoorW.PrintLast Go.Proofs.YtjgpifjfaiaidaaDoorW.PrintMore
set_option linter.unusedVariables false
set_option linter.unusedSimpArgs false
end Go.Proofs.YtjgpifjfaiaidaaDoor.Pure

namespace Go.Proofs.YtjgpifjfaiaidaaDoor.Pure
open Go.RowKit Go.Proofs.YtjgpifjfaiaidaaDoor.P Go.Proofs.YtjgpifjfaiaidaaDoorW.PrintWords Go.Proofs.YtjgpifjfaiaidaaDoorW.PrintLast Go.Proofs.YtjgpifjfaiaidaaDoorW.PrintMore
set_option linter.unusedVariables false
set_option linter.unusedSimpArgs false
/-- The digits of a version. -/
def verL (l : List UInt8) : Option (Int × Int) := match l with
  | [a, b, c, d, e, f, g, h] => if [a, b, c, d, e] = [72, 84, 84, 80, 47] ∧ (48 ≤ (f.toNat : Int) ∧ (f.toNat : Int) ≤ 57) ∧ g = 46 ∧ (48 ≤ (h.toNat : Int) ∧ (h.toNat : Int) ≤ 57) then some ((f.toNat : Int) - 48, (h.toNat : Int) - 48) else none
  | _ => none
theorem verL_8 (a b c d e f g h : UInt8) : verL [a, b, c, d, e, f, g, h] = if [a, b, c, d, e] = [72, 84, 84, 80, 47] ∧ (48 ≤ (f.toNat : Int) ∧ (f.toNat : Int) ≤ 57) ∧ g = 46 ∧ (48 ≤ (h.toNat : Int) ∧ (h.toNat : Int) ≤ 57) then some ((f.toNat : Int) - 48, (h.toNat : Int) - 48) else none := rfl
theorem verL_none {l : List UInt8} (h : l.length ≠ 8) : verL l = none := by
  unfold verL
  split
  · simp at h
  · rfl
theorem eight {l : List UInt8} (h : l.length = 8) : ∃ a b c d e f g i, l = [a, b, c, d, e, f, g, i] := by
  match l, h with
  | [a, b, c, d, e, f, g, i], _ => exact ⟨a, b, c, d, e, f, g, i, rfl⟩
theorem refDigit_f (c : Int) : tollbarref02_Digit.f c = some (decide (48 ≤ c ∧ c ≤ 57)) := by
  unfold tollbarref02_Digit.f
  by_cases h : c ≥ 48
  · rw [if_pos h]; congr 1; rw [Bool.eq_iff_iff, decide_eq_true_eq, decide_eq_true_eq]; omega
  · rw [if_neg h, decide_eq_false (by omega)]
theorem digit_f (c : Int) : line_digit.f c = some (decide (48 ≤ c ∧ c ≤ 57)) := refDigit_f c
theorem CutPrefix_f (s p : List UInt8) : strings_CutPrefix.f (mkS s) (mkS p) = some (if s.take p.length = p then (mkS (s.drop p.length), true) else (mkS s, false)) := by
  unfold strings_CutPrefix.f stringslite_CutPrefix.f stringslite_HasPrefix.f
  rw [mkS_size, mkS_size]
  by_cases h : p.length ≤ s.length
  · rw [if_pos (by omega), if_pos (by omega), if_pos (by omega), Option.bind_some, Int.toNat_natCast, mkS_extract, mkS_extract, mkS_toList, mkS_toList, List.drop_zero, Nat.sub_zero]
    by_cases e : s.take p.length = p
    · rw [if_pos e, e, if_pos (by simp), if_pos (by omega), if_pos (by omega), Option.bind_some, List.take_of_length_le (by rw [List.length_drop]; omega)]
    · rw [if_neg e, if_neg (by simpa using e), Option.bind_some]
  · rw [if_neg (by omega), Option.bind_some, if_neg (by decide), Option.bind_some, if_neg ?_]
    intro e
    have := congrArg List.length e
    rw [List.length_take] at this
    omega
theorem CutPrefix_yes (s p : List UInt8) (h : s.take p.length = p) : strings_CutPrefix.f (mkS s) (mkS p) = some (mkS (s.drop p.length), true) := by rw [CutPrefix_f, if_pos h]
theorem CutPrefix_no (s p : List UInt8) (h : ¬ s.take p.length = p) : strings_CutPrefix.f (mkS s) (mkS p) = some (mkS s, false) := by rw [CutPrefix_f, if_neg h]
theorem numbered_f (l : List UInt8) : line_numbered.f (mkS l) = some (verL l).isSome := by
  unfold line_numbered.f
  rw [show (⟨#[72, 84, 84, 80, 47]⟩ : ByteArray) = mkS [72, 84, 84, 80, 47] from rfl]
  by_cases c1 : l.take ([72, 84, 84, 80, 47] : List UInt8).length = [72, 84, 84, 80, 47]
  · rw [CutPrefix_yes _ _ c1, Option.bind_some, if_pos rfl, mkS_size]
    have hl : l.take 5 = [72, 84, 84, 80, 47] := c1
    by_cases h8 : l.length = 8
    · obtain ⟨a, b, c, d, e, f, g, i, rfl⟩ := eight h8
      have c1' : [a, b, c, d, e] = [72, 84, 84, 80, 47] := c1
      have hd : List.drop ([72, 84, 84, 80, 47] : List UInt8).length [a, b, c, d, e, f, g, i] = [f, g, i] := rfl
      have b0 : bt (mkS [f, g, i]) 0 = f.toNat := bt_mk [f, g, i] 0 (by simp)
      have b1 : bt (mkS [f, g, i]) 1 = g.toNat := bt_mk [f, g, i] 1 (by simp)
      have b2 : bt (mkS [f, g, i]) 2 = i.toNat := bt_mk [f, g, i] 2 (by simp)
      rw [hd, if_pos (by rfl), if_pos (by simp), b0, b1, b2, digit_f, digit_f, Option.bind_some, Option.bind_some]
      rw [verL_8]
      by_cases c2 : 48 ≤ (f.toNat : Int) ∧ (f.toNat : Int) ≤ 57
      · rw [decide_eq_true c2, if_pos rfl, if_pos (by simp)]
        by_cases c3 : g = 46
        · have g1 : ((g.toNat : Nat) : Int) = 46 := by rw [c3]; rfl
          rw [if_pos g1, if_pos (by simp)]
          by_cases c4 : 48 ≤ (i.toNat : Int) ∧ (i.toNat : Int) ≤ 57
          · rw [decide_eq_true c4, if_pos ⟨c1', c2, c3, c4⟩]; rfl
          · rw [decide_eq_false c4, if_neg (fun h => c4 h.2.2.2)]; rfl
        · have g1 : ¬ ((g.toNat : Nat) : Int) = 46 := fun h => c3 (UInt8.toNat_inj.1 (by show _ = 46; omega))
          rw [if_neg g1, if_neg (fun h => c3 h.2.2.1)]; rfl
      · rw [decide_eq_false c2, if_neg (by simp), if_neg (fun h => c2 h.2.1)]; rfl
    · rw [verL_none h8, List.length_drop, if_neg (by
        have := congrArg List.length hl
        rw [List.length_take] at this
        simp only [List.length_cons, List.length_nil] at this ⊢
        omega)]
      rfl
  · rw [CutPrefix_no _ _ c1, Option.bind_some, if_neg (by simp)]
    have : verL l = none := by
      unfold verL
      split
      · rw [if_neg (fun h => c1 h.1)]
      · rfl
    rw [this]
    rfl
/-- The last digit of a version that is known. -/
def minL (l : List UInt8) : Option Int := if l = [72, 84, 84, 80, 47, 49, 46, 48] then some 0 else if l = [72, 84, 84, 80, 47, 49, 46, 49] then some 1 else none
theorem minor_f (l : List UInt8) : line_minor.f (mkS l) = some (match minL l with | some n => (n, true) | none => (0, false)) := by
  unfold line_minor.f minL
  rw [mkS_toList]
  by_cases h1 : l = [72, 84, 84, 80, 47, 49, 46, 48]
  · rw [if_pos h1, if_pos h1]
  · rw [if_neg h1, if_neg h1]
    by_cases h2 : l = [72, 84, 84, 80, 47, 49, 46, 49]
    · rw [if_pos h2, if_pos h2]
    · rw [if_neg h2, if_neg h2]
theorem ver_min (l : List UInt8) : minL l = match verL l with | some p => if p.1 = 1 ∧ p.2 ≤ 1 then some p.2 else none | none => none := by
  by_cases h8 : l.length = 8
  · obtain ⟨a, b, c, d, e, f, g, i, rfl⟩ := eight h8
    have fr := f.toNat_lt
    have ir := i.toNat_lt
    rw [verL_8]
    unfold minL
    by_cases c0 : [a, b, c, d, e] = [72, 84, 84, 80, 47] ∧ (48 ≤ (f.toNat : Int) ∧ (f.toNat : Int) ≤ 57) ∧ g = 46 ∧ (48 ≤ (i.toNat : Int) ∧ (i.toNat : Int) ≤ 57)
    · rw [if_pos c0]
      obtain ⟨c1, c2, c3, c4⟩ := c0
      simp only [List.cons.injEq, and_true] at c1
      obtain ⟨rfl, rfl, rfl, rfl, rfl⟩ := c1
      subst c3
      simp only [List.cons.injEq, and_true, true_and]
      by_cases f1 : f = 49
      · subst f1
        simp only [true_and]
        by_cases i0 : i = 48
        · subst i0; simp
        · rw [if_neg i0]
          by_cases i1 : i = 49
          · subst i1; simp
          · rw [if_neg i1, if_neg ?_]
            rintro ⟨_, h⟩
            have e0 : i.toNat ≠ 48 := fun h => i0 (UInt8.toNat_inj.1 h)
            have e1 : i.toNat ≠ 49 := fun h => i1 (UInt8.toNat_inj.1 h)
            omega
      · rw [if_neg (fun h => f1 h.1), if_neg (fun h => f1 h.1), if_neg ?_]
        rintro ⟨h, _⟩
        exact f1 (UInt8.toNat_inj.1 (by show _ = 49; omega))
    · rw [if_neg c0, if_neg, if_neg]
      · intro h; simp only [List.cons.injEq, and_true] at h; obtain ⟨rfl, rfl, rfl, rfl, rfl, rfl, rfl, rfl⟩ := h; exact c0 (by decide)
      · intro h; simp only [List.cons.injEq, and_true] at h; obtain ⟨rfl, rfl, rfl, rfl, rfl, rfl, rfl, rfl⟩ := h; exact c0 (by decide)
  · rw [verL_none h8]
    unfold minL
    rw [if_neg (fun h => h8 (by rw [h]; rfl)), if_neg (fun h => h8 (by rw [h]; rfl))]

end Go.Proofs.YtjgpifjfaiaidaaDoor.Pure

namespace Go.Proofs.YtjgpifjfaiaidaaDoor.Pure
open Go.RowKit Go.Proofs.YtjgpifjfaiaidaaDoor.P Go.Proofs.YtjgpifjfaiaidaaDoorW.PrintWords Go.Proofs.YtjgpifjfaiaidaaDoorW.PrintLast Go.Proofs.YtjgpifjfaiaidaaDoorW.PrintMore
set_option linter.unusedVariables false
set_option linter.unusedSimpArgs false
def tokOk (s : ByteArray) : Bool := !s.toList.isEmpty && (bytesOf s).all tokB
def tgtOk (s : ByteArray) : Bool := !s.toList.isEmpty && (bytesOf s).all tgtB
/-- A method and its target. -/
def aimOk (m t : ByteArray) : Bool := tgtOk t && (decide (bt t 0 = 47) || (decide (t.toList = [42]) && (m.toList == [79, 80, 84, 73, 79, 78, 83])))
def reqBad (c : Int) : ByteArray × ByteArray × Int × (List (S84)) × List Int × Int := ((⟨#[]⟩ : ByteArray), (⟨#[]⟩ : ByteArray), 0, [], [], c)
/-- What a request's three parts tell. -/
def reqP (m t v : List UInt8) : ByteArray × ByteArray × Int × (List (S84)) × List Int × Int :=
  if (m.length ≤ 20 ∧ tokOk (mkS m) = true) ∧ aimOk (mkS m) (mkS t) = true then
    if 512 < t.length then reqBad 414 else
    match verL v with
    | none => reqBad 400
    | some p => if p.1 = 1 ∧ p.2 ≤ 1 then (mkS m, mkS t, p.2, [], [], 0) else reqBad 505
  else reqBad 400
def reqSpec (l : List UInt8) : ByteArray × ByteArray × Int × (List (S84)) × List Int × Int := match pcs 32 l with | [m, t, v] => reqP m t v | _ => reqBad 400
theorem three {α : Type} {l : List α} (h : l.length = 3) : ∃ a b c, l = [a, b, c] := by
  match l, h with
  | [a, b, c], _ => exact ⟨a, b, c, rfl⟩
theorem reqSpec_not {l : List UInt8} (h : (pcs 32 l).length ≠ 3) : reqSpec l = reqBad 400 := by
  unfold reqSpec
  split
  · rename_i e; rw [e] at h; simp at h
  · rfl
theorem reqSpec_yes {l m t v : List UInt8} (h : pcs 32 l = [m, t, v]) : reqSpec l = reqP m t v := by
  unfold reqSpec
  rw [h]
theorem tgt_ne {s : ByteArray} (h : tgtOk s = true) : 0 < s.size := by
  unfold tgtOk at h
  rw [isEmpty_size] at h
  rcases Nat.eq_zero_or_pos s.size with e | e
  · rw [e] at h; simp at h
  · exact e
theorem target_f (m t : ByteArray) (h : t.size ≤ 140737488355328) : line_target.f m t = some (aimOk m t) := by
  unfold line_target.f aimOk
  rw [Target_f t h, Option.bind_some]
  change (if tgtOk t = true then _ else _) = _
  cases ht : tgtOk t
  · rfl
  · have hp := tgt_ne ht
    rw [if_pos rfl, if_pos (by omega), Bool.true_and]
    by_cases c1 : bt t 0 = 47
    · rw [if_pos c1, decide_eq_true c1]; rfl
    · rw [if_neg c1, decide_eq_false c1, Bool.false_or]
      by_cases c2 : t.toList = [42]
      · rw [if_pos c2, decide_eq_true c2]; rfl
      · rw [if_neg c2, decide_eq_false c2]; rfl
theorem Request_f (l : List UInt8) (hn : l.length ≤ 4398046511100) (k : Nat) (hk : l.length + 4 ≤ k) : line_Request.f k (mkS l) = some (reqSpec l) := by
  obtain ⟨k, rfl⟩ : ∃ m, k = m + 1 := ⟨k - 1, by omega⟩
  unfold line_Request.f
  rw [Split_fC (sp := 32) (mkS l) (by rw [mkS_size]; omega) (k + 1) (by rw [mkS_size]; omega), Option.bind_some, mkS_data, List.length_map]
  have hle := pcs_le (sp := 32) l
  by_cases h3 : (pcs 32 l).length = 3
  · obtain ⟨m, t, v, hp⟩ := three h3
    rw [reqSpec_yes hp]
    rw [hp] at hle ⊢
    have hm := hle m (by simp)
    have ht := hle t (by simp)
    have e0 : rdOf ByteArray.empty ([m, t, v].map mkS) 0 = mkS m := rfl
    have e1 : rdOf ByteArray.empty ([m, t, v].map mkS) 1 = mkS t := rfl
    have e2 : rdOf ByteArray.empty ([m, t, v].map mkS) 2 = mkS v := rfl
    have hl : (([m, t, v].map mkS).length : Int) = 3 := rfl
    have hbad : line_Request.j0 (k + 1) ([m, t, v].map mkS) true = some (reqBad 400) := by simp only [line_Request.j0]; rfl
    rw [hbad, e0, e1, if_pos (by simp), if_pos (by simp), mkS_size, Token_f _ (by rw [mkS_size]; omega), Option.bind_some]
    unfold reqP
    change (if (m.length : Int) > 20 then _ else if tokOk (mkS m) = true then _ else _) = _
    by_cases c1 : (m.length : Int) > 20
    · rw [if_pos c1, if_neg (fun h => by omega)]
    · rw [if_neg c1]
      cases c2 : tokOk (mkS m)
      · rw [if_neg (by simp), if_neg (by simp)]
      · rw [if_pos rfl, if_pos (by simp), target_f _ _ (by rw [mkS_size]; omega), Option.bind_some]
        cases c3 : aimOk (mkS m) (mkS t)
        · rw [if_neg (by simp), Bool.not_false, hbad]
        · rw [if_pos ⟨⟨by omega, rfl⟩, rfl⟩, Bool.not_true]
          simp only [line_Request.j0]
          rw [if_neg (by simp), hl, e0, e1, e2, if_pos (by omega), minor_f, Option.bind_some, if_pos (by omega), mkS_size]
          by_cases c4 : 512 < t.length
          · rw [if_pos (by omega), if_pos c4]; rfl
          · rw [if_neg (by omega), if_neg c4, numbered_f, Option.bind_some, ver_min]
            cases hv : verL v with
            | none => rfl
            | some p =>
              simp only [Option.isSome_some, if_true]
              by_cases c5 : p.1 = 1 ∧ p.2 ≤ 1
              · rw [if_pos c5, if_pos c5]; rfl
              · rw [if_neg c5, if_neg c5]; rfl
  · rw [reqSpec_not h3, if_neg (by omega)]
    simp only [line_Request.j0]
    rfl
end Go.Proofs.YtjgpifjfaiaidaaDoor.Pure

namespace Go.Proofs.YtjgpifjfaiaidaaDoor.Pure
open Go.RowKit Go.Proofs.YtjgpifjfaiaidaaDoor.P Go.Proofs.YtjgpifjfaiaidaaDoorW.PrintWords Go.Proofs.YtjgpifjfaiaidaaDoorW.PrintLast Go.Proofs.YtjgpifjfaiaidaaDoorW.PrintMore
set_option linter.unusedVariables false
set_option linter.unusedSimpArgs false
theorem index_append (sp : UInt8) (a b : List UInt8) (h : sp ∉ a) : Lib.indexByte (a ++ sp :: b) sp = a.length := by
  induction a with
  | nil => simp [Lib.indexByte]
  | cons c a ih =>
    have hc : c ≠ sp := fun e => h (e ▸ List.mem_cons_self ..)
    have hb : (c == sp) = false := by simpa using hc
    have h3 := ih (fun e => h (List.mem_cons_of_mem _ e))
    have hn : ((a.length : Int) == -1) = false := by simp only [beq_eq_false_iff_ne]; omega
    simp [Lib.indexByte, hb, h3, hn]
theorem index_none (sp : UInt8) (a : List UInt8) (h : sp ∉ a) : Lib.indexByte a sp = -1 := by
  induction a with
  | nil => simp [Lib.indexByte]
  | cons c a ih =>
    have hc : c ≠ sp := fun e => h (e ▸ List.mem_cons_self ..)
    have hb : (c == sp) = false := by simpa using hc
    have h3 := ih (fun e => h (List.mem_cons_of_mem _ e))
    simp [Lib.indexByte, hb, h3]
theorem slIndex (s : List UInt8) (sp : UInt8) : stringslite_Index.f (mkS s) ⟨#[sp]⟩ = some (Lib.indexByte s sp) := by
  show some (Lib.indexByte (mkS s).data.toList sp) = _
  rw [mkS_data]
theorem Cut_no (sp : UInt8) (s : List UInt8) (h : sp ∉ s) : strings_Cut.f (mkS s) ⟨#[sp]⟩ = some (mkS s, (⟨#[]⟩ : ByteArray), false) := by
  unfold strings_Cut.f stringslite_Cut.f
  rw [slIndex, index_none sp s h, Option.bind_some, if_neg (by decide), Option.bind_some]
theorem Cut_yes (sp : UInt8) (a b : List UInt8) (h : sp ∉ a) (hn : (a ++ sp :: b).length ≤ 140737488355328) : strings_Cut.f (mkS (a ++ sp :: b)) ⟨#[sp]⟩ = some (mkS a, mkS b, true) := by
  unfold strings_Cut.f stringslite_Cut.f
  have hl : (a ++ sp :: b).length = a.length + b.length + 1 := by rw [List.length_append, List.length_cons]; omega
  rw [hl] at hn
  have h1 : ((⟨#[sp]⟩ : ByteArray).size : Int) = 1 := rfl
  have hw : wrap64 ((a.length : Int) + 1) = (a.length : Int) + 1 := by unfold wrap64; omega
  have e1 : ((a.length : Int) + 1).toNat = a.length + 1 := by omega
  rw [slIndex, index_append sp a b h, Option.bind_some, h1, hw, mkS_size, hl, if_pos (by omega), if_pos (by omega), if_pos (by omega), if_pos (by omega), if_pos (by omega), Option.bind_some, e1, Int.toNat_natCast, mkS_extract, mkS_extract, List.drop_zero, Nat.sub_zero, List.take_left, ← List.drop_drop, List.drop_left]
  rw [show List.drop 1 (sp :: b) = b from rfl, List.take_of_length_le (by omega)]
/-- What stands ahead of the first sp, and behind it. -/
theorem split_first (sp : UInt8) (s : List UInt8) : sp ∉ s ∨ ∃ a b, s = a ++ sp :: b ∧ sp ∉ a := by
  induction s with
  | nil => exact .inl (by simp)
  | cons c s ih =>
    by_cases hc : c = sp
    · exact .inr ⟨[], s, by rw [hc]; rfl, by simp⟩
    · rcases ih with h | ⟨a, b, rfl, h⟩
      · refine .inl fun hm => ?_
        rcases List.mem_cons.1 hm with e | e
        · exact hc e.symm
        · exact h e
      · refine .inr ⟨c :: a, b, rfl, fun hm => ?_⟩
        rcases List.mem_cons.1 hm with e | e
        · exact hc e.symm
        · exact h e

end Go.Proofs.YtjgpifjfaiaidaaDoor.Pure

namespace Go.Proofs.YtjgpifjfaiaidaaDoor.Pure
open Go.RowKit Go.Proofs.YtjgpifjfaiaidaaDoor.P Go.Proofs.YtjgpifjfaiaidaaDoorW.PrintWords Go.Proofs.YtjgpifjfaiaidaaDoorW.PrintLast Go.Proofs.YtjgpifjfaiaidaaDoorW.PrintMore
set_option linter.unusedVariables false
set_option linter.unusedSimpArgs false
end Go.Proofs.YtjgpifjfaiaidaaDoor.Pure

namespace Go.Proofs.YtjgpifjfaiaidaaDoor.Pure
open Go.RowKit Go.Proofs.YtjgpifjfaiaidaaDoor.P Go.Proofs.YtjgpifjfaiaidaaDoorW.PrintWords Go.Proofs.YtjgpifjfaiaidaaDoorW.PrintLast Go.Proofs.YtjgpifjfaiaidaaDoorW.PrintMore
set_option linter.unusedVariables false
set_option linter.unusedSimpArgs false
theorem byteAll {P : UInt8 → Prop} (h : ∀ n : Fin 256, P (UInt8.ofNat n.val)) (b : UInt8) : P b := by
  have := h ⟨b.toNat, b.toNat_lt⟩
  rwa [show UInt8.ofNat (⟨b.toNat, b.toNat_lt⟩ : Fin 256).val = b from UInt8.ofNat_toNat] at this
def digU (b : UInt8) : Bool := ([48, 49, 50, 51, 52, 53, 54, 55, 56, 57] : List UInt8).contains b
theorem dig_host (b : UInt8) : digU b = decide (48 ≤ (b.toNat : Int) ∧ (b.toNat : Int) ≤ 57) := byteAll (P := fun b => digU b = decide (48 ≤ (b.toNat : Int) ∧ (b.toNat : Int) ≤ 57)) (by decide +kernel) b
end Go.Proofs.YtjgpifjfaiaidaaDoor.Pure

namespace Go.Proofs.YtjgpifjfaiaidaaDoor.Pure
open Go.RowKit Go.Proofs.YtjgpifjfaiaidaaDoor.P Go.Proofs.YtjgpifjfaiaidaaDoorW.PrintWords Go.Proofs.YtjgpifjfaiaidaaDoorW.PrintLast Go.Proofs.YtjgpifjfaiaidaaDoorW.PrintMore
set_option linter.unusedVariables false
set_option linter.unusedSimpArgs false
def statBad : Int × ByteArray × Int × (List (S84)) × List Int × Bool := (0, (⟨#[]⟩ : ByteArray), 0, [], [], false)
def dig3 (a b c : UInt8) : Bool := digU a && (digU b && digU c)
def code3 (a b c : UInt8) : Int := 100 * ((a.toNat : Int) - 48) + 10 * ((b.toNat : Int) - 48) + ((c.toNat : Int) - 48)
/-- What stands behind a status line's code. -/
def statEnd (n code : Int) (tl : List UInt8) : Int × ByteArray × Int × (List (S84)) × List Int × Bool :=
  if code < 100 ∨ 599 < code then statBad else
  match tl with
  | [] => (code, mkS [], n, [], [], true)
  | x :: r => if x = 32 ∧ (bytesOf (mkS r)).all valB = true ∧ r.length ≤ 100 then (code, mkS r, n, [], [], true) else statBad
/-- What a status line tells. -/
def statSpec (l : List UInt8) : Int × ByteArray × Int × (List (S84)) × List Int × Bool :=
  match minL (l.take 8), l.drop 8 with
  | some n, x :: a :: b :: c :: tl => if x = 32 then (if dig3 a b c = true then statEnd n (code3 a b c) tl else statBad) else statBad
  | _, _ => statBad
theorem statSpec_yes {l : List UInt8} {n : Int} {a b c : UInt8} {tl : List UInt8} (h1 : minL (l.take 8) = some n) (h2 : l.drop 8 = 32 :: a :: b :: c :: tl) : statSpec l = if dig3 a b c = true then statEnd n (code3 a b c) tl else statBad := by
  unfold statSpec
  rw [h1, h2]
  exact if_pos rfl
theorem statEnd_out {n code : Int} {tl : List UInt8} (h : code < 100 ∨ 599 < code) : statEnd n code tl = statBad := by unfold statEnd; rw [if_pos h]
theorem statEnd_nil0 {n code : Int} (h : ¬ (code < 100 ∨ 599 < code)) : statEnd n code [] = (code, mkS [], n, [], [], true) := by unfold statEnd; rw [if_neg h]
theorem statEnd_cons {n code : Int} {x : UInt8} {r : List UInt8} (h : ¬ (code < 100 ∨ 599 < code)) : statEnd n code (x :: r) = if x = 32 ∧ (bytesOf (mkS r)).all valB = true ∧ r.length ≤ 100 then (code, mkS r, n, [], [], true) else statBad := by unfold statEnd; rw [if_neg h]
theorem statSpec_min {l : List UInt8} (h1 : minL (l.take 8) = none) : statSpec l = statBad := by
  unfold statSpec
  rw [h1]
theorem statSpec_no {l : List UInt8} (h : ∀ a b c tl, l.drop 8 ≠ 32 :: a :: b :: c :: tl) : statSpec l = statBad := by
  unfold statSpec
  split
  · rename_i h2
    split
    · rename_i hx; subst hx; exact absurd h2 (h _ _ _ _)
    · rfl
  · rfl
theorem minL_some {l : List UInt8} {n : Int} (h : minL l = some n) : l.length = 8 ∧ 32 ∉ l ∧ ((n = 0 ∧ l = [72, 84, 84, 80, 47, 49, 46, 48]) ∨ (n = 1 ∧ l = [72, 84, 84, 80, 47, 49, 46, 49])) := by
  unfold minL at h
  split at h
  · rename_i e; subst e; exact ⟨rfl, by decide, .inl ⟨(Option.some.inj h).symm, rfl⟩⟩
  · split at h
    · rename_i e; subst e; exact ⟨rfl, by decide, .inr ⟨(Option.some.inj h).symm, rfl⟩⟩
    · cases h
theorem digV_dig (a : UInt8) : (digU a = true → digV (a.toNat : Int) = (a.toNat : Int) - 48) ∧ (0 ≤ digV (a.toNat : Int) ∧ digV (a.toNat : Int) < 10 ↔ digU a = true) :=
  byteAll (P := fun a => (digU a = true → digV (a.toNat : Int) = (a.toNat : Int) - 48) ∧ (0 ≤ digV (a.toNat : Int) ∧ digV (a.toNat : Int) < 10 ↔ digU a = true)) (by decide +kernel) a
theorem num3 (a b c : UInt8) : numSpec (mkS [a, b, c]) 10 18 = if dig3 a b c = true then (code3 a b c, true) else (0, false) := by
  obtain ⟨a1, a2⟩ := digV_dig a
  obtain ⟨b1, b2⟩ := digV_dig b
  obtain ⟨c1, c2⟩ := digV_dig c
  unfold numSpec dig3
  rw [mkS_size, if_neg (by simp), mkS_bytes]
  simp only [List.map_cons, List.map_nil, numL]
  cases ha : digU a
  · rw [if_neg (fun h => by have := a2.1 h; rw [ha] at this; cases this)]; rfl
  · rw [if_pos (a2.2 ha)]
    cases hb : digU b
    · rw [if_neg (fun h => by have := b2.1 h; rw [hb] at this; cases this)]; rfl
    · rw [if_pos (b2.2 hb)]
      cases hc : digU c
      · rw [if_neg (fun h => by have := c2.1 h; rw [hc] at this; cases this)]; rfl
      · rw [if_pos (c2.2 hc), a1 ha, b1 hb, c1 hc]
        simp only [Bool.and_self, if_true]
        congr 1
        unfold code3
        omega
theorem code3_range {a b c : UInt8} (h : dig3 a b c = true) : 0 ≤ code3 a b c ∧ code3 a b c ≤ 999 ∧ 48 ≤ (a.toNat : Int) ∧ (a.toNat : Int) ≤ 57 ∧ 48 ≤ (b.toNat : Int) ∧ (b.toNat : Int) ≤ 57 ∧ 48 ≤ (c.toNat : Int) ∧ (c.toNat : Int) ≤ 57 := by
  unfold dig3 at h
  rw [Bool.and_eq_true, Bool.and_eq_true, dig_host, dig_host, dig_host, decide_eq_true_eq, decide_eq_true_eq, decide_eq_true_eq] at h
  unfold code3
  omega
theorem Status_rest (k : Nat) (n : Int) (rest : List UInt8) (hn : rest.length ≤ 140737488355327) (hk : 10 ≤ k) (h3 : 3 ≤ rest.length) :
    line_Status.j0 (k + 1) (mkS rest) n false = some (match rest with | a :: b :: c :: tl => if dig3 a b c = true then statEnd n (code3 a b c) tl else statBad | _ => statBad) := by
  obtain ⟨a, b, c, tl, rfl⟩ : ∃ a b c tl, rest = a :: b :: c :: tl := by
    match rest, h3 with
    | a :: b :: c :: tl, _ => exact ⟨a, b, c, tl, rfl⟩
  have hl : (a :: b :: c :: tl).length = tl.length + 3 := rfl
  have e1 : (mkS (a :: b :: c :: tl)).extract 0 3 = mkS [a, b, c] := by rw [mkS_extract]; rfl
  have e2 : (mkS (a :: b :: c :: tl)).extract 3 (tl.length + 3) = mkS tl := by rw [mkS_extract, List.take_of_length_le (by rw [List.length_drop, hl]; omega)]; rfl
  have hz : (mkS [a, b, c]).size = 3 := mkS_size _
  simp only [line_Status.j0]
  rw [if_neg (by simp), mkS_size, hl, if_pos (by decide), if_pos (by omega), e1, e2, Decimal_f _ (by omega) k (by omega), Option.bind_some, num3, show (⟨#[32]⟩ : ByteArray) = mkS [32] from rfl, mkS_toList]
  cases hd : dig3 a b c
  · simp only [Bool.false_eq_true, if_false]
    obtain ⟨R, hR⟩ : ∃ R, strings_CutPrefix.f (mkS tl) (mkS [32]) = some R := ⟨_, CutPrefix_f _ _⟩
    rw [hR]
    rfl
  · simp only [if_true]
    by_cases c1 : code3 a b c < 100
    · rw [statEnd_out (Or.inl c1)]
      obtain ⟨R, hR⟩ : ∃ R, strings_CutPrefix.f (mkS tl) (mkS [32]) = some R := ⟨_, CutPrefix_f _ _⟩
      rw [hR, Option.bind_some, if_pos c1]
      rfl
    · by_cases c2 : code3 a b c > 599
      · rw [statEnd_out (Or.inr c2)]
        obtain ⟨R, hR⟩ : ∃ R, strings_CutPrefix.f (mkS tl) (mkS [32]) = some R := ⟨_, CutPrefix_f _ _⟩
        rw [hR, Option.bind_some, if_neg c1, if_pos c2]
        rfl
      · have hc : ¬ (code3 a b c < 100 ∨ 599 < code3 a b c) := by omega
        cases tl with
        | nil =>
          rw [statEnd_nil0 hc, CutPrefix_no [] [32] (by simp), Option.bind_some, if_neg c1, if_neg c2, if_neg (by simp), if_pos rfl, Value_f _ (by rw [mkS_size]; simp), Option.bind_some, if_pos (by rfl), if_neg (by rw [mkS_size]; simp)]
        | cons x r =>
          have hr : r.length ≤ 140737488355327 := by simp only [List.length_cons] at hn; omega
          rw [statEnd_cons hc]
          by_cases hx : x = 32
          · subst hx
            rw [CutPrefix_yes (32 :: r) [32] (by rfl), Option.bind_some, if_neg c1, if_neg c2, if_pos rfl]
            rw [show List.drop ([32] : List UInt8).length (32 :: r) = r from rfl, Value_f _ (by rw [mkS_size]; omega), Option.bind_some, mkS_size]
            cases hv : (bytesOf (mkS r)).all valB
            · rw [if_neg (by simp), if_neg (fun h => by cases h.2.1)]; rfl
            · by_cases h100 : r.length ≤ 100
              · rw [if_pos rfl, if_neg (by omega), if_pos ⟨rfl, rfl, h100⟩]
              · rw [if_pos rfl, if_pos (by omega), if_neg (fun h => h100 h.2.2)]
                rfl
          · rw [CutPrefix_no (x :: r) [32] (by simpa using hx), Option.bind_some, if_neg c1, if_neg c2, if_neg (by simp), if_neg (by simp), if_neg (fun h => hx h.1)]
            rfl
theorem Status_f (l : List UInt8) (hn : l.length ≤ 140737488355327) (k : Nat) (hk : 20 ≤ k) : line_Status.f k (mkS l) = some (statSpec l) := by
  obtain ⟨k, rfl⟩ : ∃ m, k = m + 1 := ⟨k - 1, by omega⟩
  have hbad : ∀ x n, line_Status.j0 (k + 1) x n true = some statBad := by intro x n; simp only [line_Status.j0]; rfl
  unfold line_Status.f
  rcases split_first 32 l with h | ⟨a, b, rfl, h⟩
  · rw [Cut_no 32 l h, Option.bind_some, minor_f, Option.bind_some, if_neg (by simp), hbad, statSpec_no]
    intro a b c tl e
    exact h (List.mem_of_mem_drop (by rw [e]; simp))
  · rw [Cut_yes 32 a b h (by omega), Option.bind_some, minor_f, Option.bind_some, if_pos rfl]
    have hlen : (a ++ 32 :: b).length = a.length + b.length + 1 := by rw [List.length_append, List.length_cons]; omega
    cases hm : minL a with
    | none =>
      rw [if_neg (by simp), hbad]
      -- the first blank stands elsewhere, or the version isn't known
      congr 1
      cases h8 : minL ((a ++ 32 :: b).take 8) with
      | none => exact (statSpec_min h8).symm
      | some n =>
        refine (statSpec_no fun x y z tl e => ?_).symm
        obtain ⟨h1, h2, _⟩ := minL_some h8
        have hsp : a ++ 32 :: b = (a ++ 32 :: b).take 8 ++ 32 :: (x :: y :: z :: tl) := by rw [← e, List.take_append_drop]
        have ha : a = (a ++ 32 :: b).take 8 := by
          have i1 := index_append 32 a b h
          have i2 := index_append 32 ((a ++ 32 :: b).take 8) (x :: y :: z :: tl) h2
          rw [← hsp, i1, h1] at i2
          have : a.length = 8 := by omega
          rw [← this, List.take_left]
        rw [ha, h8] at hm
        cases hm
    | some n =>
      obtain ⟨h1, _, _⟩ := minL_some hm
      have ht : (a ++ 32 :: b).take 8 = a := by rw [← h1, List.take_left]
      have hdr : (a ++ 32 :: b).drop 8 = 32 :: b := by rw [← h1, List.drop_left]
      rw [if_pos rfl, mkS_size]
      by_cases h3 : (b.length : Int) < 3
      · rw [decide_eq_true h3, hbad, statSpec_no]
        intro x y z tl e
        rw [hdr] at e
        injection e with _ e
        rw [e] at h3
        simp only [List.length_cons] at h3
        omega
      · rw [decide_eq_false h3, Status_rest k n b (by omega) (by omega) (by omega)]
        obtain ⟨x, y, z, tl, rfl⟩ : ∃ x y z tl, b = x :: y :: z :: tl := by
          match b, h3 with
          | [], h => exact absurd (by simp) h
          | [_], h => exact absurd (by simp) h
          | [_, _], h => exact absurd (by simp) h
          | x :: y :: z :: tl, _ => exact ⟨x, y, z, tl, rfl⟩
        rw [statSpec_yes (by rw [ht]; exact hm) hdr]

end Go.Proofs.YtjgpifjfaiaidaaDoor.Pure

namespace Go.Proofs.YtjgpifjfaiaidaaDoor.Pure
open Go.RowKit Go.Proofs.YtjgpifjfaiaidaaDoor.P Go.Proofs.YtjgpifjfaiaidaaDoorW.PrintWords Go.Proofs.YtjgpifjfaiaidaaDoorW.PrintLast Go.Proofs.YtjgpifjfaiaidaaDoorW.PrintMore
set_option linter.unusedVariables false
set_option linter.unusedSimpArgs false
theorem pcs_cons {sp : UInt8} (l : List UInt8) : ∀ {p ps}, pcs sp l = p :: ps → (ps = [] ∧ l = p) ∨ ∃ r, l = p ++ sp :: r ∧ pcs sp r = ps := by
  induction l with
  | nil =>
    intro p ps h
    simp only [pcs, List.cons.injEq] at h
    exact .inl ⟨h.2.symm, h.1⟩
  | cons c l ih =>
    intro p ps h
    by_cases hc : c = sp
    · subst hc
      simp only [pcs, if_true, List.cons.injEq] at h
      obtain ⟨rfl, rfl⟩ := h
      exact .inr ⟨l, rfl, rfl⟩
    · obtain ⟨q, qs, hq⟩ := pcs_ne (sp := sp) l
      simp only [pcs, hc, if_false, hq, List.cons.injEq] at h
      obtain ⟨rfl, rfl⟩ := h
      rcases ih hq with ⟨h1, h2⟩ | ⟨r, h1, h2⟩
      · exact .inl ⟨h1, by rw [h2]⟩
      · exact .inr ⟨r, by rw [h1]; rfl, h2⟩
theorem pcs_three {sp : UInt8} {l m t v : List UInt8} (h : pcs sp l = [m, t, v]) : l = m ++ sp :: (t ++ sp :: v) := by
  rcases pcs_cons l h with ⟨h1, _⟩ | ⟨r, rfl, h2⟩
  · cases h1
  · rcases pcs_cons r h2 with ⟨h1, _⟩ | ⟨r2, rfl, h3⟩
    · cases h1
    · rcases pcs_cons r2 h3 with ⟨_, h4⟩ | ⟨r3, _, h4⟩
      · rw [h4]
      · obtain ⟨q, qs, hq⟩ := pcs_ne (sp := sp) r3
        rw [hq] at h4
        cases h4
theorem min_text {v : List UInt8} {n : Int} (h : minL v = some n) : ∃ T, sign_Text.f n = some (mkS [T]) ∧ v = [72, 84, 84, 80, 47, 49, 46, T] := by
  obtain ⟨_, _, h | h⟩ := minL_some h
  · obtain ⟨rfl, rfl⟩ := h; exact ⟨48, text_0, rfl⟩
  · obtain ⟨rfl, rfl⟩ := h; exact ⟨49, text_1, rfl⟩
theorem req_back (l : List UInt8) (hn : l.length ≤ 1048576) (h : (reqSpec l).2.2.2.2.2 = 0) :
    line_RequestLine.f (reqSpec l).1 (reqSpec l).2.1 (reqSpec l).2.2.1 (reqSpec l).2.2.2.1 (reqSpec l).2.2.2.2.1 = some (mkS (l ++ [13, 10])) := by
  by_cases h3 : (pcs 32 l).length = 3
  · obtain ⟨m, t, v, hp⟩ := three h3
    have hl := pcs_three hp
    have hle := pcs_le (sp := 32) l
    rw [hp] at hle
    have hm := hle m (by simp)
    have ht := hle t (by simp)
    rw [reqSpec_yes hp] at h ⊢
    unfold reqP at h ⊢
    split at h
    · rename_i c
      rw [if_pos c]
      split at h
      · cases h
      · rename_i c2
        rw [if_neg c2]
        have hv := ver_min v
        split at h
        · cases h
        · rename_i p hver
          split at h
          · rename_i c3
            simp only [hver, if_pos c3] at hv ⊢
            obtain ⟨T, hT, rfl⟩ := min_text hv
            rw [RequestLine_f (mkS m) (mkS t) p.2 [] [] (mkS [T]) hT (by rw [mkS_size]; simp) (by rw [mkS_size]; omega) (by rw [mkS_size]; omega), hl]
            unfold reqLine
            rw [show (⟨#[32]⟩ : ByteArray) = mkS [32] from rfl, show (⟨#[32, 72, 84, 84, 80, 47, 49, 46]⟩ : ByteArray) = mkS [32, 72, 84, 84, 80, 47, 49, 46] from rfl, show (⟨#[13, 10]⟩ : ByteArray) = mkS [13, 10] from rfl, mkS_append, mkS_append, mkS_append, mkS_append, mkS_append]
            simp
          · cases h
    · cases h
  · rw [reqSpec_not h3] at h
    cases h
theorem text3 (a b c : UInt8) (h : dig3 a b c = true) (h1 : 100 ≤ code3 a b c) : sign_Text.f (code3 a b c) = some (mkS [a, b, c]) := by
  have hr := code3_range h
  rw [Text_f _ (by omega) (by omega)]
  have hi : Lib.itoa (code3 a b c) = Lib.decDigits (code3 a b c).toNat := by unfold Lib.itoa; rw [if_neg (by omega)]
  rw [hi, dec_str, ← str_bytes]
  congr 2
  have e : code3 a b c = 100 * ((a.toNat : Int) - 48) + 10 * ((b.toNat : Int) - 48) + ((c.toNat : Int) - 48) := rfl
  generalize code3 a b c = n at *
  rw [decI_big n.toNat (by omega), decI_big (n.toNat / 10) (by omega), decI_small (n.toNat / 10 / 10) (by omega)]
  simp only [List.map_cons, List.map_nil, List.cons_append, List.nil_append, List.cons.injEq, and_true]
  omega
theorem stat_back (l : List UInt8) (hn : l.length ≤ 1048576) (k : Nat) (hk : 4 ≤ k) (h : (statSpec l).2.2.2.2.2 = true) :
    ∃ R, line_StatusLine.f k (statSpec l).1 (statSpec l).2.1 (statSpec l).2.2.1 (statSpec l).2.2.2.1 (statSpec l).2.2.2.2.1 = some R ∧ (R = mkS (l ++ [13, 10]) ∨ (R = mkS (l ++ [32, 13, 10]) ∧ (statSpec l).2.1 = mkS [])) := by
  obtain ⟨k, rfl⟩ : ∃ m, k = m + 1 := ⟨k - 1, by omega⟩
  cases hm : minL (l.take 8) with
  | none => rw [statSpec_min hm] at h; cases h
  | some n =>
    by_cases hd : ∃ a b c tl, l.drop 8 = 32 :: a :: b :: c :: tl
    · obtain ⟨a, b, c, tl, hd⟩ := hd
      have hl : l = l.take 8 ++ 32 :: a :: b :: c :: tl := by rw [← hd, List.take_append_drop]
      rw [statSpec_yes hm hd] at h ⊢
      cases h3 : dig3 a b c
      · rw [h3] at h; cases h
      · rw [h3] at h
        simp only [if_true] at h ⊢
        unfold statEnd at h ⊢
        split at h
        · cases h
        · rename_i hc
          rw [if_neg hc]
          have ht := text3 a b c h3 (by omega)
          obtain ⟨T, hT, hv⟩ := min_text hm
          rw [hv] at hl
          have fin : ∀ r : List UInt8, r.length ≤ 1048576 → line_StatusLine.f (k + 1) (code3 a b c) (mkS r) n [] [] = some (mkS ([72, 84, 84, 80, 47, 49, 46, T, 32, a, b, c, 32] ++ r ++ [13, 10])) := by
            intro r hr
            unfold line_StatusLine.f
            rw [ht, Option.bind_some, StatusLine_end k (mkS [a, b, c]) (code3 a b c) (mkS r) n [] [] (mkS [T]) hT (by rw [mkS_size]; simp) (by rw [mkS_size]; omega) (by rw [mkS_size]; simp) (by rw [mkS_size]; simp)]
            unfold statLine
            rw [show (⟨#[72, 84, 84, 80, 47, 49, 46]⟩ : ByteArray) = mkS [72, 84, 84, 80, 47, 49, 46] from rfl, show (⟨#[32]⟩ : ByteArray) = mkS [32] from rfl, show (⟨#[13, 10]⟩ : ByteArray) = mkS [13, 10] from rfl, mkS_append, mkS_append, mkS_append, mkS_append, mkS_append, mkS_append]
            simp
          split at h
          · refine ⟨_, fin [] (by simp), .inr ⟨?_, rfl⟩⟩
            rw [hl]
            rfl
          · rename_i x r
            split at h
            · rename_i hx
              simp only [if_pos hx]
              refine ⟨_, fin r (by omega), .inl ?_⟩
              rw [hl, hx.1]
              simp
            · cases h
    · rw [statSpec_no (fun a b c tl e => hd ⟨a, b, c, tl, e⟩)] at h
      cases h
theorem LineBackU : ∀ (a0 : ByteArray), a0.size ≤ 1048576 → ∃ k, tollbarlaw05_LineBack.f k a0 = some true := by
  intro s hs
  obtain ⟨l, rfl⟩ : ∃ l, s = mkS l := ⟨_, (mkS_self s).symm⟩
  rw [mkS_size] at hs
  refine ⟨l.length + 100 + 1, ?_⟩
  have hj : tollbarlaw05_LineBack.j0 (l.length + 100 + 1) (mkS l) false = some true := by
    simp only [tollbarlaw05_LineBack.j0]
    rw [if_neg (by simp), Status_f l (by omega) _ (by omega), Option.bind_some]
    cases h : (statSpec l).2.2.2.2.2
    · rw [if_neg (by simp)]
    · obtain ⟨R, hR, hc⟩ := stat_back l hs (l.length + 100) (by omega) h
      rw [if_pos rfl, hR, Option.bind_some, mkS_size, if_pos (by omega), show (⟨#[13, 10]⟩ : ByteArray) = mkS [13, 10] from rfl, mkS_append, show (⟨#[32, 13, 10]⟩ : ByteArray) = mkS [32, 13, 10] from rfl, mkS_append]
      rcases hc with rfl | ⟨rfl, hr⟩
      · rw [if_pos rfl]
      · rw [if_neg (by rw [mkS_toList, mkS_toList]; intro e; have := congrArg List.length e; simp at this), if_pos (by omega), if_pos rfl, hr, mkS_toList]
        rfl
  unfold tollbarlaw05_LineBack.f
  rw [reading_f _ (by omega), Option.bind_some, if_pos rfl, Request_f l (by omega) _ (by omega), Option.bind_some]
  by_cases h : (reqSpec l).2.2.2.2.2 = 0
  · rw [if_pos h, req_back l hs h, Option.bind_some, mkS_size, if_pos (by omega), show (⟨#[13, 10]⟩ : ByteArray) = mkS [13, 10] from rfl, mkS_append]
    rw [show ((mkS (l ++ [13, 10])).toList != (mkS (l ++ [13, 10])).toList) = false from by simp]
    exact hj
  · rw [if_neg h, hj]

end Go.Proofs.YtjgpifjfaiaidaaDoor.Pure

