/- Each function below answers as its Lean twin says; plain lemmas; a row where its theorem stands. No further condition. (Laid by this repo's pack.py out of its texts and of the print's words.) -/
import Derived.Test.YtjgpifjfaiaidaaDoorU0base0x0
import Derived.Test.YtjgpifjfaiaidaaDoorUsign0x0
import Derived.Test.YtjgpifjfaiaidaaDoorUsign0x1
import Derived.Test.YtjgpifjfaiaidaaDoorUstrings0x0
import Derived.Test.YtjgpifjfaiaidaaDoorUstrconv0x0
import Derived.Test.YtjgpifjfaiaidaaDoorUline0x2
import Derived.Test.YtjgpifjfaiaidaaDoorUline0x3
import Derived.Test.YtjgpifjfaiaidaaDoorUline0x1
import Derived.Test.YtjgpifjfaiaidaaDoorUlineRequest
import Derived.Test.YtjgpifjfaiaidaaDoorUlineStatus
import Derived.Test.YtjgpifjfaiaidaaDoorUtollbarlaw05reading
import Derived.Test.YtjgpifjfaiaidaaDoorUtollbarref020x3
import Derived.Test.YtjgpifjfaiaidaaDoorUtollbarref020x2
import Derived.Test.YtjgpifjfaiaidaaDoorUtollbarref050x1
import Derived.Test.YtjgpifjfaiaidaaDoorUtollbarref050x2
import Derived.Test.YtjgpifjfaiaidaaDoorUtollbarref050x3
import Derived.Test.YtjgpifjfaiaidaaDoorUtollbarlaw05LineTells
import Derived.Lib.IndexBytes
import Derived.Lib.Strings
namespace Go.Proofs.YtjgpifjfaiaidaaDoor.Pure
open Go.RowKit Go.Proofs.YtjgpifjfaiaidaaDoor.P Go.Proofs.YtjgpifjfaiaidaaDoorW.PrintWords Go.Proofs.YtjgpifjfaiaidaaDoorW.PrintLast Go.Proofs.YtjgpifjfaiaidaaDoorW.PrintMore
set_option linter.unusedVariables false
set_option linter.unusedSimpArgs false
theorem str_append (xs ys : List Int) : strOfNums (xs ++ ys) = strOfNums xs ++ strOfNums ys := by
  apply ByteArray.ext
  simp [strOfNums]
theorem str_size (xs : List Int) : (strOfNums xs).size = xs.length := strOfNums_size xs
theorem toList_data (s : ByteArray) : s.toList = s.data.toList := by
  simp [ByteArray.toList_eq]
end Go.Proofs.YtjgpifjfaiaidaaDoor.Pure

namespace Go.Proofs.YtjgpifjfaiaidaaDoor.Pure
open Go.RowKit Go.Proofs.YtjgpifjfaiaidaaDoor.P Go.Proofs.YtjgpifjfaiaidaaDoorW.PrintWords Go.Proofs.YtjgpifjfaiaidaaDoorW.PrintLast Go.Proofs.YtjgpifjfaiaidaaDoorW.PrintMore
set_option linter.unusedVariables false
set_option linter.unusedSimpArgs false
end Go.Proofs.YtjgpifjfaiaidaaDoor.Pure

namespace Go.Proofs.YtjgpifjfaiaidaaDoor.Pure
open Go.RowKit Go.Proofs.YtjgpifjfaiaidaaDoor.P Go.Proofs.YtjgpifjfaiaidaaDoorW.PrintWords Go.Proofs.YtjgpifjfaiaidaaDoorW.PrintLast Go.Proofs.YtjgpifjfaiaidaaDoorW.PrintMore
set_option linter.unusedVariables false
set_option linter.unusedSimpArgs false
end Go.Proofs.YtjgpifjfaiaidaaDoor.Pure

namespace Go.Proofs.YtjgpifjfaiaidaaDoor.Pure
open Go.RowKit Go.Proofs.YtjgpifjfaiaidaaDoor.P Go.Proofs.YtjgpifjfaiaidaaDoorW.PrintWords Go.Proofs.YtjgpifjfaiaidaaDoorW.PrintLast Go.Proofs.YtjgpifjfaiaidaaDoorW.PrintMore
set_option linter.unusedVariables false
set_option linter.unusedSimpArgs false
/-- The decimal digits, as numbers. -/
def decI (u : Nat) : List Int := (Lib.decDigits u).map fun b => (b.toNat : Int)
theorem decI_small (u : Nat) (h : u < 10) : decI u = [48 + (u : Int)] := by
  unfold decI
  rw [Lib.decDigits_one h, List.map_cons, List.map_nil]
  congr 1
  rw [UInt8.toNat_ofNat']
  omega
theorem decI_big (u : Nat) (h : 10 ≤ u) : decI u = decI (u / 10) ++ [48 + ((u % 10 : Nat) : Int)] := by
  unfold decI
  rw [Lib.decDigits, dif_neg (by omega), List.map_append, List.map_cons, List.map_nil]
  congr 2
  rw [UInt8.toNat_ofNat']
  omega
theorem dec_str (u : Nat) : (⟨(Lib.decDigits u).toArray⟩ : ByteArray) = strOfNums (decI u) := by
  unfold decI strOfNums
  congr 2
  rw [List.map_map]
  conv => lhs; rw [← List.map_id (Lib.decDigits u)]
  exact List.map_congr_left fun b _ => by simp
theorem dec_len (d : Nat) : ∀ u, u < 10 ^ (d + 1) → 1 ≤ (decI u).length ∧ (decI u).length ≤ d + 1 := by
  induction d with
  | zero => intro u h; rw [decI_small u (by simpa using h)]; simp
  | succ d ih =>
    intro u h
    by_cases h1 : u < 10
    · rw [decI_small u h1]; simp
    · have h2 : u / 10 < 10 ^ (d + 1) := (Nat.div_lt_iff_lt_mul (by decide)).2 (by rwa [← Nat.pow_succ])
      have := ih _ h2
      rw [decI_big u (by omega), List.length_append]
      simp
      omega
end Go.Proofs.YtjgpifjfaiaidaaDoor.Pure

namespace Go.Proofs.YtjgpifjfaiaidaaDoor.Pure
open Go.RowKit Go.Proofs.YtjgpifjfaiaidaaDoor.P Go.Proofs.YtjgpifjfaiaidaaDoorW.PrintWords Go.Proofs.YtjgpifjfaiaidaaDoorW.PrintLast Go.Proofs.YtjgpifjfaiaidaaDoorW.PrintMore
set_option linter.unusedVariables false
set_option linter.unusedSimpArgs false
def mkS (l : List UInt8) : ByteArray := ⟨l.toArray⟩
theorem mkS_data (l : List UInt8) : (mkS l).data.toList = l := by simp [mkS]
theorem mkS_size (l : List UInt8) : (mkS l).size = l.length := by rw [← data_length, mkS_data]
end Go.Proofs.YtjgpifjfaiaidaaDoor.Pure

namespace Go.Proofs.YtjgpifjfaiaidaaDoor.Pure
open Go.RowKit Go.Proofs.YtjgpifjfaiaidaaDoor.P Go.Proofs.YtjgpifjfaiaidaaDoorW.PrintWords Go.Proofs.YtjgpifjfaiaidaaDoorW.PrintLast Go.Proofs.YtjgpifjfaiaidaaDoorW.PrintMore
set_option linter.unusedVariables false
set_option linter.unusedSimpArgs false
theorem Text_f (n : Int) (h0 : -9223372036854775808 ≤ n) (h1 : n ≤ 9223372036854775807) : sign_Text.f n = some ⟨(Lib.itoa n).toArray⟩ := by
  unfold sign_Text.f strconv_FormatInt_85.f strconv_FormatInt_105.f
  rw [if_pos rfl, if_pos ⟨h0, h1⟩]
  rfl
end Go.Proofs.YtjgpifjfaiaidaaDoor.Pure

namespace Go.Proofs.YtjgpifjfaiaidaaDoor.Pure
open Go.RowKit Go.Proofs.YtjgpifjfaiaidaaDoor.P Go.Proofs.YtjgpifjfaiaidaaDoorW.PrintWords Go.Proofs.YtjgpifjfaiaidaaDoorW.PrintLast Go.Proofs.YtjgpifjfaiaidaaDoorW.PrintMore
set_option linter.unusedVariables false
set_option linter.unusedSimpArgs false
theorem itoa_size (n : Int) (h0 : -9223372036854775808 ≤ n) (h1 : n ≤ 9223372036854775807) : 1 ≤ (Lib.itoa n).length ∧ (Lib.itoa n).length ≤ 20 := by
  have hd : ∀ u : Nat, u ≤ 9223372036854775808 → 1 ≤ (Lib.decDigits u).length ∧ (Lib.decDigits u).length ≤ 19 := by
    intro u hu
    have := dec_len 18 u (Nat.lt_of_le_of_lt hu (by decide))
    unfold decI at this
    rwa [List.length_map] at this
  unfold Lib.itoa
  split
  · have := hd n.natAbs (by omega)
    simp only [List.length_cons]
    omega
  · have := hd n.toNat (by omega)
    omega
theorem text_some (n : Int) (h0 : -9223372036854775808 ≤ n) (h1 : n ≤ 9223372036854775807) : ∃ t, sign_Text.f n = some t ∧ 1 ≤ t.size ∧ t.size ≤ 20 := by
  refine ⟨_, Text_f n h0 h1, ?_⟩
  have : (⟨(Lib.itoa n).toArray⟩ : ByteArray).size = (Lib.itoa n).length := mkS_size _
  rw [this]
  exact itoa_size n h0 h1
/-- A request's line. -/
def reqLine (m t T : ByteArray) : ByteArray := ((((m ++ (⟨#[32]⟩ : ByteArray)) ++ t) ++ (⟨#[32, 72, 84, 84, 80, 47, 49, 46]⟩ : ByteArray)) ++ T) ++ (⟨#[13, 10]⟩ : ByteArray)
theorem RequestLine_f (m t : ByteArray) (n : Int) (f : List (S84)) (b : List Int) (T : ByteArray) (hT : sign_Text.f n = some T) (hs : T.size ≤ 20) (h1 : m.size ≤ 140737488351232) (h2 : t.size ≤ 140737488351232) : line_RequestLine.f m t n f b = some (reqLine m t T) := by
  have e1 : (⟨#[32]⟩ : ByteArray).size = 1 := rfl
  have e2 : (⟨#[32, 72, 84, 84, 80, 47, 49, 46]⟩ : ByteArray).size = 8 := rfl
  unfold line_RequestLine.f reqLine
  rw [hT, Option.bind_some]
  simp only [ByteArray.size_append]
  rw [if_pos (by omega), if_pos (by omega), if_pos (by omega), if_pos (by omega), if_pos (by omega)]
/-- A response's line; C is its code. -/
def statLine (C T r : ByteArray) : ByteArray := (((((((⟨#[72, 84, 84, 80, 47, 49, 46]⟩ : ByteArray) ++ T) ++ (⟨#[32]⟩ : ByteArray)) ++ C) ++ (⟨#[32]⟩ : ByteArray)) ++ r) ++ (⟨#[13, 10]⟩ : ByteArray))
theorem StatusLine_end (k : Nat) (C : ByteArray) (c : Int) (r : ByteArray) (n : Int) (f : List (S84)) (b : List Int) (T : ByteArray) (hT : sign_Text.f n = some T) (hs : T.size ≤ 20) (h1 : r.size ≤ 140737488351232) (h2 : C.size ≤ 20) (h3 : 3 ≤ C.size) : line_StatusLine.l0 (k + 1) C c r n f b = some (statLine C T r) := by
  have e1 : (⟨#[32]⟩ : ByteArray).size = 1 := rfl
  have e2 : (⟨#[72, 84, 84, 80, 47, 49, 46]⟩ : ByteArray).size = 7 := rfl
  unfold line_StatusLine.l0 statLine
  rw [if_neg (by omega), hT, Option.bind_some]
  simp only [ByteArray.size_append]
  rw [if_pos (by omega), if_pos (by omega), if_pos (by omega), if_pos (by omega), if_pos (by omega), if_pos (by omega)]
theorem StatusLine_step (k : Nat) (C : ByteArray) (c : Int) (r : ByteArray) (n : Int) (f : List (S84)) (b : List Int) (h : C.size < 3) : line_StatusLine.l0 (k + 1) C c r n f b = line_StatusLine.l0 k ((⟨#[48]⟩ : ByteArray) ++ C) c r n f b := by
  rw [line_StatusLine.l0, if_pos (by omega), if_pos (by omega)]

end Go.Proofs.YtjgpifjfaiaidaaDoor.Pure

namespace Go.Proofs.YtjgpifjfaiaidaaDoor.Pure
open Go.RowKit Go.Proofs.YtjgpifjfaiaidaaDoor.P Go.Proofs.YtjgpifjfaiaidaaDoorW.PrintWords Go.Proofs.YtjgpifjfaiaidaaDoorW.PrintLast Go.Proofs.YtjgpifjfaiaidaaDoorW.PrintMore
set_option linter.unusedVariables false
set_option linter.unusedSimpArgs false
theorem text_1 : sign_Text.f 1 = some ⟨#[49]⟩ := by
  show strconv_FormatInt_85.f 1 10 = _
  unfold strconv_FormatInt_85.f strconv_FormatInt_105.f
  simp [Lib.itoa, Lib.decDigits]
theorem text_0 : sign_Text.f 0 = some ⟨#[48]⟩ := by
  show strconv_FormatInt_85.f 0 10 = _
  unfold strconv_FormatInt_85.f strconv_FormatInt_105.f
  simp [Lib.itoa, Lib.decDigits]
set_option maxRecDepth 100000 in
theorem text_404 : sign_Text.f 404 = some ⟨#[52, 48, 52]⟩ := by
  show strconv_FormatInt_85.f 404 10 = _
  unfold strconv_FormatInt_85.f strconv_FormatInt_105.f
  simp [Lib.itoa, Lib.decDigits]
theorem reading_1 : line_Request.f 60 ⟨#[71, 69, 84, 32, 47, 97, 32, 72, 84, 84, 80, 47, 49, 46, 49]⟩ = some (⟨#[71, 69, 84]⟩, ⟨#[47, 97]⟩, 1, [], [], 0) := by kernel_rfl
theorem reading_2 : line_Status.f 60 ⟨#[72, 84, 84, 80, 47, 49, 46, 48, 32, 52, 48, 52, 32, 78, 111, 116, 32, 70, 111, 117, 110, 100]⟩ = some (404, ⟨#[78, 111, 116, 32, 70, 111, 117, 110, 100]⟩, 0, [], [], true) := by kernel_rfl
theorem reading_3 : line_Host.f ⟨#[65, 46, 98, 58, 56, 48]⟩ = some (⟨#[97, 46, 98]⟩, true) := by kernel_rfl
theorem reading_4 : line_Request.f 60 ⟨#[71, 69, 84, 32, 47, 97, 32, 72, 84, 84, 80, 47, 50, 46, 48]⟩ = some (⟨#[]⟩, ⟨#[]⟩, 0, [], [], 505) := by kernel_rfl
theorem reading_5 : line_RequestLine.f ⟨#[71, 69, 84]⟩ ⟨#[47, 97]⟩ 1 [] [] = some ⟨#[71, 69, 84, 32, 47, 97, 32, 72, 84, 84, 80, 47, 49, 46, 49, 13, 10]⟩ := by
  unfold line_RequestLine.f
  rw [text_1]
  kernel_rfl
set_option maxRecDepth 100000 in
theorem reading_6 : line_StatusLine.f 60 404 ⟨#[78, 111, 116, 32, 70, 111, 117, 110, 100]⟩ 0 [] [] = some ⟨#[72, 84, 84, 80, 47, 49, 46, 48, 32, 52, 48, 52, 32, 78, 111, 116, 32, 70, 111, 117, 110, 100, 13, 10]⟩ := by
  unfold line_StatusLine.f
  rw [text_404, Option.bind_some]
  unfold line_StatusLine.l0
  rw [if_neg (by decide), text_0]
  kernel_rfl
theorem reading_7 : line_Reason.f 404 = some ⟨#[78, 111, 116, 32, 70, 111, 117, 110, 100]⟩ := by kernel_rfl
set_option maxRecDepth 100000 in
theorem reading_f (k : Nat) (hk : 60 ≤ k) : tollbarlaw05_reading.f k = some true := by
  refine at_rounds (fun k => tollbarlaw05_reading.mono k) hk ?_
  unfold tollbarlaw05_reading.f
  rw [reading_1, Option.bind_some, reading_2, Option.bind_some, reading_3, Option.bind_some, reading_4, Option.bind_some, if_pos rfl]
  rw [if_pos (by kernel_rfl), if_pos (by kernel_rfl), if_pos (by kernel_rfl), if_pos (by kernel_rfl), if_pos (by kernel_rfl), if_pos (by kernel_rfl), if_pos (by kernel_rfl), if_pos (by kernel_rfl), if_pos (by kernel_rfl), reading_5, Option.bind_some, if_pos (by kernel_rfl), reading_6, Option.bind_some, if_pos (by kernel_rfl), reading_7, Option.bind_some]
  kernel_rfl

end Go.Proofs.YtjgpifjfaiaidaaDoor.Pure

namespace Go.Proofs.YtjgpifjfaiaidaaDoor.Pure
open Go.RowKit Go.Proofs.YtjgpifjfaiaidaaDoor.P Go.Proofs.YtjgpifjfaiaidaaDoorW.PrintWords Go.Proofs.YtjgpifjfaiaidaaDoorW.PrintLast Go.Proofs.YtjgpifjfaiaidaaDoorW.PrintMore
set_option linter.unusedVariables false
set_option linter.unusedSimpArgs false
theorem str_ne (xs : List Int) (h : xs ≠ []) : ¬ ((strOfNums xs).toList = []) := by
  intro e
  rw [toList_data] at e
  have := data_length (strOfNums xs)
  rw [e, str_size] at this
  exact h (List.eq_nil_of_length_eq_zero this.symm)
theorem refText_step (k u : Nat) (xs : List Int) (hx : xs.length ≤ 100) (hu : u ≤ 9223372036854775807) (hp : xs = [] ∨ 0 < u) :
    ∀ R, tollbarref02_Text.l0 k ((u / 10 : Nat) : Int) (strOfNums ((48 + ((u % 10 : Nat) : Int)) :: xs)) = R → tollbarref02_Text.l0 (k + 1) (u : Int) (strOfNums xs) = R := by
  intro R hR
  have e1 : Int.tmod (u : Int) 10 = ((u % 10 : Nat) : Int) := by rw [Int.tmod_eq_emod_of_nonneg (by omega)]; omega
  have e2 : Int.tdiv (u : Int) 10 = ((u / 10 : Nat) : Int) := by rw [Int.tdiv_eq_ediv_of_nonneg (by omega)]; omega
  have e3 : wrap64 (48 + ((u % 10 : Nat) : Int)) % 256 = 48 + ((u % 10 : Nat) : Int) := by unfold wrap64; omega
  have e4 : wrap64 ((u / 10 : Nat) : Int) = ((u / 10 : Nat) : Int) := by unfold wrap64; omega
  have e5 : strOfNums [48 + ((u % 10 : Nat) : Int)] ++ strOfNums xs = strOfNums ((48 + ((u % 10 : Nat) : Int)) :: xs) := by rw [← str_append]; rfl
  have e6 : (strOfNums [48 + ((u % 10 : Nat) : Int)]).size + (strOfNums xs).size ≤ 9223372036854775807 := by rw [str_size, str_size, List.length_singleton]; omega
  simp only [tollbarref02_Text.l0]
  rw [e1, e2, e3, e4, Option.bind_some, if_pos e6, e5, hR]
  rcases hp with hp | hp
  · rw [if_pos (by rw [hp, toList_data]; rfl)]
  · rw [if_pos (show (u : Int) > 0 by omega)]
    split <;> rfl
theorem refText_end (k : Nat) (xs : List Int) (hx : xs ≠ []) : tollbarref02_Text.l0 (k + 1) 0 (strOfNums xs) = some (strOfNums xs) := by
  simp only [tollbarref02_Text.l0]
  rw [if_neg (str_ne xs hx), if_neg (by decide)]
theorem refText_l0 (d : Nat) : ∀ (k u : Nat) (xs : List Int), u < 10 ^ d → d + 1 ≤ k → u ≤ 9223372036854775807 → xs.length + d ≤ 100 → xs ≠ [] →
    tollbarref02_Text.l0 k (u : Int) (strOfNums xs) = some (strOfNums ((if u = 0 then [] else decI u) ++ xs)) := by
  induction d with
  | zero =>
    intro k u xs hu hk hb hx hne
    obtain ⟨k, rfl⟩ : ∃ m, k = m + 1 := ⟨k - 1, by omega⟩
    obtain rfl : u = 0 := by simpa using hu
    rw [if_pos rfl]
    exact refText_end k xs hne
  | succ d ih =>
    intro k u xs hu hk hb hx hne
    obtain ⟨k, rfl⟩ : ∃ m, k = m + 1 := ⟨k - 1, by omega⟩
    by_cases h0 : u = 0
    · subst h0
      rw [if_pos rfl]
      exact refText_end k xs hne
    · refine refText_step k u xs (by omega) hb (Or.inr (by omega)) _ ?_
      have h2 : u / 10 < 10 ^ d := (Nat.div_lt_iff_lt_mul (by decide)).2 (by rwa [← Nat.pow_succ])
      rw [ih k (u / 10) _ h2 (by omega) (by omega) (by rw [List.length_cons]; omega) (by simp), if_neg h0]
      by_cases h1 : u < 10
      · rw [if_pos (by omega), decI_small u h1, show u % 10 = u by omega]
        rfl
      · rw [if_neg (by omega), decI_big u (by omega), List.append_assoc]
        rfl
theorem refText_nat (k u : Nat) (hk : 30 ≤ k) (hu : u ≤ 9223372036854775807) : tollbarref02_Text.l0 k (u : Int) (⟨#[]⟩ : ByteArray) = some (strOfNums (decI u)) := by
  obtain ⟨k, rfl⟩ : ∃ m, k = m + 1 := ⟨k - 1, by omega⟩
  have hs : (⟨#[]⟩ : ByteArray) = strOfNums [] := rfl
  rw [hs]
  refine refText_step k u [] (by simp) hu (Or.inl rfl) _ ?_
  have h3 : (10 : Nat) ^ 19 = 10000000000000000000 := by decide
  rw [refText_l0 19 k (u / 10) _ (by omega) (by omega) (by omega) (by simp) (by simp)]
  by_cases h1 : u < 10
  · rw [if_pos (by omega), decI_small u h1, show u % 10 = u by omega]
    rfl
  · rw [if_neg (by omega), decI_big u (by omega)]
theorem itoa_least : (⟨(Lib.itoa (-9223372036854775808)).toArray⟩ : ByteArray) = ⟨#[45, 57, 50, 50, 51, 51, 55, 50, 48, 51, 54, 56, 53, 52, 55, 55, 53, 56, 48, 56]⟩ := by
  simp [Lib.itoa, Lib.decDigits]
theorem refText_f (k : Nat) (hk : 60 ≤ k) (n : Int) (h0 : -9223372036854775808 ≤ n) (h1 : n ≤ 9223372036854775807) : tollbarref02_Text.f k n = sign_Text.f n := by
  rw [Text_f n h0 h1]
  obtain ⟨k, rfl⟩ : ∃ m, k = m + 2 := ⟨k - 2, by omega⟩
  by_cases hm : n = -9223372036854775808
  · subst hm
    rw [tollbarref02_Text.f, if_pos rfl, itoa_least]
  · by_cases h : n < 0
    · have hw : wrap64 (-n) = ((n.natAbs : Nat) : Int) := by unfold wrap64; omega
      have hi : Lib.itoa n = 45 :: Lib.decDigits n.natAbs := by unfold Lib.itoa; rw [if_pos h]
      rw [tollbarref02_Text.f, if_neg hm, if_pos h, hw, tollbarref02_Text.f, if_neg (by omega), if_neg (by omega), refText_nat k n.natAbs (by omega) (by omega), Option.bind_some]
      have hl := dec_len 18 n.natAbs (by have : (10 : Nat) ^ 19 = 10000000000000000000 := by decide
                                         show n.natAbs < 10 ^ 19; omega)
      rw [if_pos (by rw [str_size]; omega), ← dec_str, hi]
      congr 1
    · have hi : Lib.itoa n = Lib.decDigits n.toNat := by unfold Lib.itoa; rw [if_neg h]
      have := refText_nat (k + 1) n.toNat (by omega) (by omega)
      rw [show ((n.toNat : Nat) : Int) = n by omega] at this
      rw [tollbarref02_Text.f, if_neg hm, if_neg h, this, hi, dec_str]

end Go.Proofs.YtjgpifjfaiaidaaDoor.Pure

namespace Go.Proofs.YtjgpifjfaiaidaaDoor.Pure
open Go.RowKit Go.Proofs.YtjgpifjfaiaidaaDoor.P Go.Proofs.YtjgpifjfaiaidaaDoorW.PrintWords Go.Proofs.YtjgpifjfaiaidaaDoorW.PrintLast Go.Proofs.YtjgpifjfaiaidaaDoorW.PrintMore
set_option linter.unusedVariables false
set_option linter.unusedSimpArgs false
theorem refRequestLine_f (m t : ByteArray) (n : Int) (h0 : -9223372036854775808 ≤ n) (hn : n ≤ 9223372036854775807) (f : List (S84)) (b : List Int) (k : Nat) (hk : 60 ≤ k) : tollbarref05_RequestLine.f k m t n f b = line_RequestLine.f m t n f b := by
  unfold tollbarref05_RequestLine.f line_RequestLine.f
  rw [refText_f k hk n h0 hn]
theorem refStatus_l0 (c : Int) (r : ByteArray) (n : Int) (h0 : -9223372036854775808 ≤ n) (hn : n ≤ 9223372036854775807) (f : List (S84)) (b : List Int) (d : Nat) : ∀ (k : Nat) (C : ByteArray), 3 - C.size ≤ d → d + 61 ≤ k → tollbarref05_StatusLine.l0 k C c r n f b = line_StatusLine.l0 k C c r n f b := by
  induction d with
  | zero =>
    intro k C hC hk
    obtain ⟨k, rfl⟩ : ∃ m, k = m + 1 := ⟨k - 1, by omega⟩
    rw [tollbarref05_StatusLine.l0, line_StatusLine.l0, if_neg (by omega), if_neg (by omega), refText_f k (by omega) n h0 hn]
  | succ d ih =>
    intro k C hC hk
    obtain ⟨k, rfl⟩ : ∃ m, k = m + 1 := ⟨k - 1, by omega⟩
    have e1 : (⟨#[48]⟩ : ByteArray).size = 1 := rfl
    rw [tollbarref05_StatusLine.l0, line_StatusLine.l0, refText_f k (by omega) n h0 hn, ih k _ (by rw [ByteArray.size_append]; omega) (by omega)]
theorem refStatusLine_f (c : Int) (r : ByteArray) (n : Int) (h0 : -9223372036854775808 ≤ n) (hn : n ≤ 9223372036854775807) (hc0 : -9223372036854775808 ≤ c) (hc : c ≤ 9223372036854775807) (f : List (S84)) (b : List Int) (k : Nat) (hk : 70 ≤ k) : tollbarref05_StatusLine.f k c r n f b = line_StatusLine.f k c r n f b := by
  unfold tollbarref05_StatusLine.f line_StatusLine.f
  rw [refText_f k (by omega) c hc0 hc]
  obtain ⟨t, ht, _, _⟩ := text_some c hc0 hc
  rw [ht, Option.bind_some, Option.bind_some, refStatus_l0 c r n h0 hn f b 3 k t (by omega) (by omega)]
theorem StatusLine_some (c : Int) (r : ByteArray) (n : Int) (h0 : -9223372036854775808 ≤ n) (hn : n ≤ 9223372036854775807) (hc0 : -9223372036854775808 ≤ c) (hc : c ≤ 9223372036854775807) (hr : r.size ≤ 140737488351232) (f : List (S84)) (b : List Int) (k : Nat) (hk : 4 ≤ k) : ∃ R, line_StatusLine.f k c r n f b = some R := by
  obtain ⟨t, ht, t1, t2⟩ := text_some c hc0 hc
  obtain ⟨T, hT, _, T2⟩ := text_some n h0 hn
  have e1 : (⟨#[48]⟩ : ByteArray).size = 1 := rfl
  obtain ⟨k, rfl⟩ : ∃ m, k = m + 1 + 1 + 1 := ⟨k - 3, by omega⟩
  unfold line_StatusLine.f
  rw [ht, Option.bind_some]
  by_cases a : 3 ≤ t.size
  · exact ⟨_, StatusLine_end _ _ c r n f b T hT T2 hr (by omega) a⟩
  · rw [StatusLine_step _ _ c r n f b (by omega)]
    by_cases a2 : 2 ≤ t.size
    · exact ⟨_, StatusLine_end _ _ c r n f b T hT T2 hr (by rw [ByteArray.size_append]; omega) (by rw [ByteArray.size_append]; omega)⟩
    · rw [StatusLine_step _ _ c r n f b (by rw [ByteArray.size_append]; omega)]
      exact ⟨_, StatusLine_end _ _ c r n f b T hT T2 hr (by rw [ByteArray.size_append, ByteArray.size_append]; omega) (by rw [ByteArray.size_append, ByteArray.size_append]; omega)⟩
theorem reason_step (k : Nat) (a : Int) (xs : List Int) (ys : List ByteArray) (i : Int) (h0 : 0 ≤ i) (h : i < (xs.length : Int)) (hx : xs.length ≤ 100) (hne : ¬ rd xs i = a) : tollbarref05_Reason.l0 (k + 1) a xs ys i = tollbarref05_Reason.l0 k a xs ys (i + 1) := by
  rw [tollbarref05_Reason.l0, if_pos h, if_pos h0, if_neg hne, show wrap64 (i + 1) = i + 1 by unfold wrap64; omega]
set_option maxRecDepth 100000 in
theorem refReason_20 (a : Int) : tollbarref05_Reason.f 20 a = line_Reason.f a := by
  by_cases c0 : a = 200
  · subst c0; kernel_rfl
  by_cases c1 : a = 204
  · subst c1; kernel_rfl
  by_cases c2 : a = 400
  · subst c2; kernel_rfl
  by_cases c3 : a = 404
  · subst c3; kernel_rfl
  by_cases c4 : a = 413
  · subst c4; kernel_rfl
  by_cases c5 : a = 414
  · subst c5; kernel_rfl
  by_cases c6 : a = 421
  · subst c6; kernel_rfl
  by_cases c7 : a = 429
  · subst c7; kernel_rfl
  by_cases c8 : a = 431
  · subst c8; kernel_rfl
  by_cases c9 : a = 501
  · subst c9; kernel_rfl
  by_cases c10 : a = 502
  · subst c10; kernel_rfl
  by_cases c11 : a = 503
  · subst c11; kernel_rfl
  by_cases c12 : a = 504
  · subst c12; kernel_rfl
  by_cases c13 : a = 505
  · subst c13; kernel_rfl
  unfold tollbarref05_Reason.f line_Reason.f
  rw [if_neg c0, if_neg c1, if_neg c2, if_neg c3, if_neg c4, if_neg c5, if_neg c6, if_neg c7, if_neg c8, if_neg c9, if_neg c10, if_neg c11, if_neg c12, if_neg c13]
  rw [reason_step 19 _ _ _ _ (by decide) (by decide) (by decide) (fun h => c0 h.symm), reason_step 18 _ _ _ _ (by decide) (by decide) (by decide) (fun h => c1 h.symm), reason_step 17 _ _ _ _ (by decide) (by decide) (by decide) (fun h => c2 h.symm), reason_step 16 _ _ _ _ (by decide) (by decide) (by decide) (fun h => c3 h.symm), reason_step 15 _ _ _ _ (by decide) (by decide) (by decide) (fun h => c4 h.symm), reason_step 14 _ _ _ _ (by decide) (by decide) (by decide) (fun h => c5 h.symm), reason_step 13 _ _ _ _ (by decide) (by decide) (by decide) (fun h => c6 h.symm), reason_step 12 _ _ _ _ (by decide) (by decide) (by decide) (fun h => c7 h.symm), reason_step 11 _ _ _ _ (by decide) (by decide) (by decide) (fun h => c8 h.symm), reason_step 10 _ _ _ _ (by decide) (by decide) (by decide) (fun h => c9 h.symm), reason_step 9 _ _ _ _ (by decide) (by decide) (by decide) (fun h => c10 h.symm), reason_step 8 _ _ _ _ (by decide) (by decide) (by decide) (fun h => c11 h.symm), reason_step 7 _ _ _ _ (by decide) (by decide) (by decide) (fun h => c12 h.symm), reason_step 6 _ _ _ _ (by decide) (by decide) (by decide) (fun h => c13 h.symm)]
  rfl
theorem some_ite {p : Prop} [Decidable p] {a : ByteArray} {b : Option ByteArray} (h : ∃ R, b = some R) : ∃ R, (if p then some a else b) = some R := by
  split
  · exact ⟨_, rfl⟩
  · exact h
theorem Reason_some (a : Int) : ∃ R, line_Reason.f a = some R := by
  unfold line_Reason.f
  repeat apply some_ite
  exact ⟨_, rfl⟩
theorem refReason_f (a : Int) (k : Nat) (hk : 20 ≤ k) : tollbarref05_Reason.f k a = line_Reason.f a := by
  obtain ⟨R, hR⟩ := Reason_some a
  rw [hR]
  exact at_rounds (fun k => tollbarref05_Reason.mono a k) hk ((refReason_20 a).trans hR)

end Go.Proofs.YtjgpifjfaiaidaaDoor.Pure

namespace Go.Proofs.YtjgpifjfaiaidaaDoor.Pure
open Go.RowKit Go.Proofs.YtjgpifjfaiaidaaDoor.P Go.Proofs.YtjgpifjfaiaidaaDoorW.PrintWords Go.Proofs.YtjgpifjfaiaidaaDoorW.PrintLast Go.Proofs.YtjgpifjfaiaidaaDoorW.PrintMore
set_option linter.unusedVariables false
set_option linter.unusedSimpArgs false
theorem LineTells : tollbarlaw05_LineTells.Pure := by
  intro m t r n c hm ht hr hn hc
  have n1 : -9223372036854775808 ≤ n ∧ n ≤ 9223372036854775807 := by simpa [Lit.wf, IntKind.min, IntKind.max, IntKind.signed, IntKind.bits] using hn
  have c1 : -9223372036854775808 ≤ c ∧ c ≤ 9223372036854775807 := by simpa [Lit.wf, IntKind.min, IntKind.max, IntKind.signed, IntKind.bits] using hc
  refine ⟨100, ?_⟩
  obtain ⟨T, hT, _, T2⟩ := text_some n n1.1 n1.2
  obtain ⟨R, hR⟩ := StatusLine_some c r n n1.1 n1.2 c1.1 c1.2 hr [] [] 100 (by decide)
  obtain ⟨A, hA⟩ := Reason_some c
  obtain ⟨B, hB⟩ := Reason_some (wrap64 (200 + (Go.bits .and .i64 c 511)))
  unfold tollbarlaw05_LineTells.f
  rw [reading_f _ (by omega), Option.bind_some, if_pos rfl, refRequestLine_f m t n n1.1 n1.2 _ _ _ (by decide), RequestLine_f m t n _ _ T hT T2 hm ht, Option.bind_some, Option.bind_some, if_pos rfl, refStatusLine_f c r n n1.1 n1.2 c1.1 c1.2 _ _ _ (by decide), hR, Option.bind_some, Option.bind_some, if_pos rfl, refReason_f _ _ (by decide), hA, Option.bind_some, Option.bind_some, if_pos rfl, refReason_f _ _ (by decide), hB, Option.bind_some, Option.bind_some]
  simp

end Go.Proofs.YtjgpifjfaiaidaaDoor.Pure

