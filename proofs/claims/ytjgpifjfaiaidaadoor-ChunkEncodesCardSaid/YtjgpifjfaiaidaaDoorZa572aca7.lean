/- Each function below answers as its Lean twin says; plain lemmas; a row where its theorem stands. No further condition. (Laid by this repo's pack.py out of its texts and of the print's words.) -/
import Derived.Test.YtjgpifjfaiaidaaDoorU0base0x0
import Derived.Test.YtjgpifjfaiaidaaDoorUsign0x0
import Derived.Test.YtjgpifjfaiaidaaDoorUsign0x1
import Derived.Test.YtjgpifjfaiaidaaDoorUstrings0x0
import Derived.Test.YtjgpifjfaiaidaaDoorUstrconv0x0
import Derived.Test.YtjgpifjfaiaidaaDoorUchunk0x1
import Derived.Test.YtjgpifjfaiaidaaDoorUtollbarref010x0
import Derived.Test.YtjgpifjfaiaidaaDoorUtollbarref020x3
import Derived.Test.YtjgpifjfaiaidaaDoorUtollbarref020x2
import Derived.Test.YtjgpifjfaiaidaaDoorUtollbarref060x1
import Derived.Test.YtjgpifjfaiaidaaDoorUtollbarlaw060x0
namespace Go.Proofs.YtjgpifjfaiaidaaDoor.Pure
open Go.RowKit Go.Proofs.YtjgpifjfaiaidaaDoor.P Go.Proofs.YtjgpifjfaiaidaaDoorW.PrintWords Go.Proofs.YtjgpifjfaiaidaaDoorW.PrintLast Go.Proofs.YtjgpifjfaiaidaaDoorW.PrintMore
set_option linter.unusedVariables false
set_option linter.unusedSimpArgs false
theorem str_append (xs ys : List Int) : strOfNums (xs ++ ys) = strOfNums xs ++ strOfNums ys := by
  apply ByteArray.ext
  simp [strOfNums]
theorem str_size (xs : List Int) : (strOfNums xs).size = xs.length := strOfNums_size xs
theorem toList_data (s : ByteArray) : s.toList = s.data.toList := by
  simp [ByteArray.toList_eq]
end Go.Proofs.YtjgpifjfaiaidaaDoor.Pure

namespace Go.Proofs.YtjgpifjfaiaidaaDoor.Pure
open Go.RowKit Go.Proofs.YtjgpifjfaiaidaaDoor.P Go.Proofs.YtjgpifjfaiaidaaDoorW.PrintWords Go.Proofs.YtjgpifjfaiaidaaDoorW.PrintLast Go.Proofs.YtjgpifjfaiaidaaDoorW.PrintMore
set_option linter.unusedVariables false
set_option linter.unusedSimpArgs false
def Bytes (xs : List Int) : Prop := ∀ x ∈ xs, 0 ≤ x ∧ x ≤ 255
theorem bytes_str {xs : List Int} (h : Bytes xs) : bytesOf (strOfNums xs) = xs := by
  unfold bytesOf
  rw [strOfNums_data, List.map_map]
  conv => rhs; rw [← List.map_id xs]
  refine List.map_congr_left fun x hx => ?_
  have := h x hx
  show ((UInt8.ofNat x.toNat).toNat : Int) = x
  rw [UInt8.toNat_ofNat']
  omega
end Go.Proofs.YtjgpifjfaiaidaaDoor.Pure

namespace Go.Proofs.YtjgpifjfaiaidaaDoor.Pure
open Go.RowKit Go.Proofs.YtjgpifjfaiaidaaDoor.P Go.Proofs.YtjgpifjfaiaidaaDoorW.PrintWords Go.Proofs.YtjgpifjfaiaidaaDoorW.PrintLast Go.Proofs.YtjgpifjfaiaidaaDoorW.PrintMore
set_option linter.unusedVariables false
set_option linter.unusedSimpArgs false
end Go.Proofs.YtjgpifjfaiaidaaDoor.Pure

namespace Go.Proofs.YtjgpifjfaiaidaaDoor.Pure
open Go.RowKit Go.Proofs.YtjgpifjfaiaidaaDoor.P Go.Proofs.YtjgpifjfaiaidaaDoorW.PrintWords Go.Proofs.YtjgpifjfaiaidaaDoorW.PrintLast Go.Proofs.YtjgpifjfaiaidaaDoorW.PrintMore
set_option linter.unusedVariables false
set_option linter.unusedSimpArgs false
theorem hex_len (d : Nat) : ∀ u, u < 16 ^ (d + 1) → 1 ≤ (hexD u).length ∧ (hexD u).length ≤ d + 1 := by
  induction d with
  | zero => intro u h; rw [hexD_small u (by simpa using h)]; simp
  | succ d ih =>
    intro u h
    by_cases h1 : u < 16
    · rw [hexD_small u h1]; simp
    · have h2 : u / 16 < 16 ^ (d + 1) := (Nat.div_lt_iff_lt_mul (by decide)).2 (by rwa [← Nat.pow_succ])
      have := ih _ h2
      rw [hexD_big u (by omega), List.length_append]
      simp
      omega
theorem bytes_hexD (u : Nat) : Bytes (hexD u) := by
  induction u using Nat.strongRecOn with
  | _ u ih =>
    have hd : ∀ d, d < 16 → 0 ≤ hexd d ∧ hexd d ≤ 255 := by intro d hd; unfold hexd; split <;> omega
    by_cases h : u < 16
    · rw [hexD_small u h]; intro x hx; rw [List.mem_singleton.1 hx]; exact hd u h
    · rw [hexD_big u (by omega)]
      intro x hx
      rcases List.mem_append.1 hx with hx | hx
      · exact ih (u / 16) (by omega) x hx
      · rw [List.mem_singleton.1 hx]; exact hd _ (by omega)
end Go.Proofs.YtjgpifjfaiaidaaDoor.Pure

namespace Go.Proofs.YtjgpifjfaiaidaaDoor.Pure
open Go.RowKit Go.Proofs.YtjgpifjfaiaidaaDoor.P Go.Proofs.YtjgpifjfaiaidaaDoorW.PrintWords Go.Proofs.YtjgpifjfaiaidaaDoorW.PrintLast Go.Proofs.YtjgpifjfaiaidaaDoorW.PrintMore
set_option linter.unusedVariables false
set_option linter.unusedSimpArgs false
theorem HexText_f (n : Int) (h1 : n ≤ 9223372036854775807) : sign_HexText.f n = some (strOfNums (hexD (mx n 0).toNat)) := by
  unfold sign_HexText.f strconv_FormatInt_85.f strconv_FormatInt_105.f
  rw [if_neg (by decide), if_pos rfl, if_pos ⟨by unfold mx; split <;> omega, by unfold mx; split <;> omega⟩]
  rfl

end Go.Proofs.YtjgpifjfaiaidaaDoor.Pure

namespace Go.Proofs.YtjgpifjfaiaidaaDoor.Pure
open Go.RowKit Go.Proofs.YtjgpifjfaiaidaaDoor.P Go.Proofs.YtjgpifjfaiaidaaDoorW.PrintWords Go.Proofs.YtjgpifjfaiaidaaDoorW.PrintLast Go.Proofs.YtjgpifjfaiaidaaDoorW.PrintMore
set_option linter.unusedVariables false
set_option linter.unusedSimpArgs false
/-- A body in chunks. -/
def encF (sz : Int) : Nat → List Int → List Int
  | 0, _ => []
  | k + 1, b => if 0 < b.length then hexD (mx (mn sz (b.length : Int)) 0).toNat ++ ([13, 10] ++ (b.take (mn sz (b.length : Int)).toNat ++ ([13, 10] ++ encF sz k (b.drop (mn sz (b.length : Int)).toNat)))) else [48, 13, 10, 13, 10]
theorem bytes_app (a b : ByteArray) : bytesOf (a ++ b) = bytesOf a ++ bytesOf b := by
  unfold bytesOf
  rw [ByteArray.data_append]
  simp
theorem mn_at (sz : Int) (b : List Int) (hsz : 1 ≤ sz) (hb : 0 < b.length) : 1 ≤ mn sz (b.length : Int) ∧ mn sz (b.length : Int) ≤ (b.length : Int) := by unfold mn; split <;> omega
theorem hex_short (n : Int) (h : n < 140737488355328) : (hexD (mx n 0).toNat).length ≤ 12 := (hex_len 11 _ (by unfold mx; split <;> omega)).2
theorem crlf_bytes : bytesOf (⟨#[13, 10]⟩ : ByteArray) = [13, 10] := by decide
theorem last_bytes : bytesOf (⟨#[48, 13, 10, 13, 10]⟩ : ByteArray) = [48, 13, 10, 13, 10] := by decide
theorem hex_line (n : Int) : bytesOf (strOfNums (hexD (mx n 0).toNat) ++ (⟨#[13, 10]⟩ : ByteArray)) = hexD (mx n 0).toNat ++ [13, 10] := by
  rw [bytes_app, bytes_str (bytes_hexD _), crlf_bytes]
theorem enc_l0 (sz : Int) (hsz : 1 ≤ sz) : ∀ (d : Nat) (b out : List Int) (k : Nat), b.length ≤ d → d < k → out.length + 22 * b.length + 200 < 140737488355328 → chunk_Encode.l0 k b sz out = some (out ++ encF sz (d + 1) b) := by
  intro d
  induction d with
  | zero =>
    intro b out k hb hk ho
    obtain ⟨k, rfl⟩ : ∃ m, k = m + 1 := ⟨k - 1, by omega⟩
    rw [chunk_Encode.l0, encF, if_neg (show ¬ ((b.length : Int) > 0) by omega), if_neg (show ¬ (0 < b.length) by omega), if_pos (by omega), last_bytes]
  | succ d ih =>
    intro b out k hb hk ho
    obtain ⟨k, rfl⟩ : ∃ m, k = m + 1 := ⟨k - 1, by omega⟩
    rw [chunk_Encode.l0, encF]
    by_cases h : 0 < b.length
    · obtain ⟨h1, h2⟩ := mn_at sz b hsz h
      have hx := hex_short (mn sz (b.length : Int)) (by omega)
      rw [if_pos (by omega), if_pos h, HexText_f _ (by omega), Option.bind_some, if_pos (by rw [str_size]; omega), if_pos (by rw [← bytesOf_length, hex_line, List.length_append]; simp; omega), Option.bind_some, if_pos (by omega), if_pos h2, Option.bind_some, hex_line,
        if_pos (by simp only [List.length_append, List.length_take]; simp; omega), Option.bind_some, if_pos (by simp only [List.length_append, List.length_take]; simp; omega), crlf_bytes, ih _ _ k (by rw [List.length_drop]; omega) (by omega) (by simp only [List.length_append, List.length_take, List.length_drop]; simp; omega)]
      simp only [List.append_assoc]
    · rw [if_neg (by omega), if_neg h, if_pos (by omega), last_bytes]
theorem Encode_f (b : List Int) (n : Int) (k : Nat) (hk : b.length < k) (hb : b.length ≤ 1000000) : chunk_Encode.f k b n = some (encF (mx n 1) (b.length + 1) b) := by
  unfold chunk_Encode.f
  rw [enc_l0 (mx n 1) (by unfold mx; split <;> omega) b.length b [] k (Nat.le_refl _) hk (by simp; omega), List.nil_append]

end Go.Proofs.YtjgpifjfaiaidaaDoor.Pure

namespace Go.Proofs.YtjgpifjfaiaidaaDoor.Pure
open Go.RowKit Go.Proofs.YtjgpifjfaiaidaaDoor.P Go.Proofs.YtjgpifjfaiaidaaDoorW.PrintWords Go.Proofs.YtjgpifjfaiaidaaDoorW.PrintLast Go.Proofs.YtjgpifjfaiaidaaDoorW.PrintMore
set_option linter.unusedVariables false
set_option linter.unusedSimpArgs false
theorem join_l1 (b : List Int) (hb : b.length < 140737488355328) (d : Nat) : ∀ (k : Nat) (out : List Int) (i : Nat), i + d = b.length → d < k → out.length + d < 140737488355328 → tollbarref01_Join.l1 k b out (i : Int) = some (out ++ b.drop i) := by
  induction d with
  | zero =>
    intro k out i hi hk ho
    obtain ⟨k, rfl⟩ : ∃ m, k = m + 1 := ⟨k - 1, by omega⟩
    simp only [tollbarref01_Join.l1]
    rw [if_neg (by omega), List.drop_of_length_le (by omega), List.append_nil]
  | succ d ih =>
    intro k out i hi hk ho
    obtain ⟨k, rfl⟩ : ∃ m, k = m + 1 := ⟨k - 1, by omega⟩
    have hlt : i < b.length := by omega
    simp only [tollbarref01_Join.l1]
    rw [if_pos (by omega), if_pos (by omega), if_pos (by omega), show wrap64 ((i : Int) + 1) = ((i + 1 : Nat) : Int) by unfold wrap64; omega, ih k _ (i + 1) (by omega) (by omega) (by rw [List.length_append]; simp; omega), List.append_assoc, List.drop_eq_getElem_cons hlt]
    simp [rd, List.getD_eq_getElem?_getD, List.getElem?_eq_getElem hlt]
theorem join_l0 (a b : List Int) (ha : a.length < 140737488355328) (hb : b.length < 140737488355328) (d : Nat) : ∀ (k : Nat) (out : List Int) (i : Nat), i + d = a.length → d + b.length + 1 < k → out.length + d + b.length < 140737488355328 → tollbarref01_Join.l0 k a b out (i : Int) = some (out ++ a.drop i ++ b) := by
  induction d with
  | zero =>
    intro k out i hi hk ho
    obtain ⟨k, rfl⟩ : ∃ m, k = m + 1 := ⟨k - 1, by omega⟩
    simp only [tollbarref01_Join.l0]
    rw [if_neg (by omega), List.drop_of_length_le (by omega), List.append_nil]
    have := join_l1 b hb b.length k out 0 (by omega) (by omega) (by omega)
    rw [List.drop_zero] at this
    exact this
  | succ d ih =>
    intro k out i hi hk ho
    obtain ⟨k, rfl⟩ : ∃ m, k = m + 1 := ⟨k - 1, by omega⟩
    have hlt : i < a.length := by omega
    simp only [tollbarref01_Join.l0]
    rw [if_pos (by omega), if_pos (by omega), if_pos (by omega), show wrap64 ((i : Int) + 1) = ((i + 1 : Nat) : Int) by unfold wrap64; omega, ih k _ (i + 1) (by omega) (by omega) (by rw [List.length_append]; simp; omega), List.append_assoc out, List.drop_eq_getElem_cons hlt]
    simp [rd, List.getD_eq_getElem?_getD, List.getElem?_eq_getElem hlt]
theorem Join_f (a b : List Int) (k : Nat) (hk : a.length + b.length + 2 ≤ k) (hl : a.length + b.length < 140737488355328) : tollbarref01_Join.f k a b = some (a ++ b) := by
  unfold tollbarref01_Join.f
  have := join_l0 a b (by omega) (by omega) a.length k [] 0 (by omega) (by omega) (by simpa using hl)
  rw [List.drop_zero, List.nil_append] at this
  exact this

end Go.Proofs.YtjgpifjfaiaidaaDoor.Pure

namespace Go.Proofs.YtjgpifjfaiaidaaDoor.Pure
open Go.RowKit Go.Proofs.YtjgpifjfaiaidaaDoor.P Go.Proofs.YtjgpifjfaiaidaaDoorW.PrintWords Go.Proofs.YtjgpifjfaiaidaaDoorW.PrintLast Go.Proofs.YtjgpifjfaiaidaaDoorW.PrintMore
set_option linter.unusedVariables false
set_option linter.unusedSimpArgs false
theorem str_ne (xs : List Int) (h : xs ≠ []) : ¬ ((strOfNums xs).toList = []) := by
  intro e
  rw [toList_data] at e
  have := data_length (strOfNums xs)
  rw [e, str_size] at this
  exact h (List.eq_nil_of_length_eq_zero this.symm)
theorem hex_hi (m : Nat) (h : m < 16) (h9 : 9 < m) : wrap64 (wrap64 (97 + (m : Int)) - 10) % 256 = hexd m := by
  have a : wrap64 (97 + (m : Int)) = 97 + (m : Int) := by unfold wrap64; omega
  have b : wrap64 (97 + (m : Int) - 10) = 97 + (m : Int) - 10 := by unfold wrap64; omega
  have c : hexd m = 87 + (m : Int) := by unfold hexd; rw [if_neg (by omega)]
  rw [a, b, c]
  omega
theorem hex_lo (m : Nat) (h9 : ¬ 9 < m) : wrap64 (48 + (m : Int)) % 256 = hexd m := by
  have a : wrap64 (48 + (m : Int)) = 48 + (m : Int) := by unfold wrap64; omega
  have c : hexd m = 48 + (m : Int) := by unfold hexd; rw [if_pos (by omega)]
  rw [a, c]
  omega
theorem refHex_step (k u : Nat) (xs : List Int) (hx : xs.length ≤ 100) (hu : u ≤ 9223372036854775807) (hp : xs = [] ∨ 0 < u) :
    ∀ R, tollbarref02_HexText.l0 k ((u / 16 : Nat) : Int) (strOfNums (hexd (u % 16) :: xs)) = R → tollbarref02_HexText.l0 (k + 2) (u : Int) (strOfNums xs) = R := by
  intro R hR
  have e1 : Int.tmod (u : Int) 16 = ((u % 16 : Nat) : Int) := by rw [Int.tmod_eq_emod_of_nonneg (by omega)]; omega
  have e2 : Int.tdiv (u : Int) 16 = ((u / 16 : Nat) : Int) := by rw [Int.tdiv_eq_ediv_of_nonneg (by omega)]; omega
  have e4 : wrap64 ((u / 16 : Nat) : Int) = ((u / 16 : Nat) : Int) := by unfold wrap64; omega
  have e5 : strOfNums [hexd (u % 16)] ++ strOfNums xs = strOfNums (hexd (u % 16) :: xs) := by rw [← str_append]; rfl
  have e6 : (strOfNums [hexd (u % 16)]).size + (strOfNums xs).size ≤ 9223372036854775807 := by rw [str_size, str_size, List.length_singleton]; omega
  have hj : tollbarref02_HexText.j2 (k + 1) (u : Int) (strOfNums xs) true = R := by
    simp only [tollbarref02_HexText.j2]
    rw [if_pos trivial, e1, e2, e4]
    obtain ⟨m, hm⟩ : ∃ m, m = u % 16 := ⟨_, rfl⟩
    have hm16 : m < 16 := by omega
    rw [← hm] at e5 e6 hR ⊢
    by_cases h9 : 9 < m
    · rw [if_pos (show ((m : Nat) : Int) > 9 by omega), hex_hi m hm16 h9, Option.bind_some, if_pos e6, e5, hR]
    · rw [if_neg (show ¬ (((m : Nat) : Int) > 9) by omega), hex_lo m h9, Option.bind_some, if_pos e6, e5, hR]
  have hl : tollbarref02_HexText.l0 (k + 2) (u : Int) (strOfNums xs) = if (strOfNums xs).toList = ([] : List UInt8) then tollbarref02_HexText.j2 (k + 1) (u : Int) (strOfNums xs) true else tollbarref02_HexText.j2 (k + 1) (u : Int) (strOfNums xs) (decide ((u : Int) > 0)) := by
    rw [tollbarref02_HexText.l0]
  rw [hl]
  rcases hp with hp | hp
  · rw [if_pos (by rw [hp, toList_data]; rfl), hj]
  · rw [decide_eq_true (show (u : Int) > 0 by omega), hj]
    split <;> rfl
theorem refHexT_end (k : Nat) (xs : List Int) (hx : xs ≠ []) : tollbarref02_HexText.l0 (k + 2) 0 (strOfNums xs) = some (strOfNums xs) := by
  rw [tollbarref02_HexText.l0, if_neg (str_ne xs hx), decide_eq_false (by decide)]
  simp only [tollbarref02_HexText.j2]
  rw [if_neg (by simp)]
theorem refHexT_l0 (d : Nat) : ∀ (k u : Nat) (xs : List Int), u < 16 ^ d → 2 * d + 2 ≤ k → u ≤ 9223372036854775807 → xs.length + d ≤ 100 → xs ≠ [] →
    tollbarref02_HexText.l0 k (u : Int) (strOfNums xs) = some (strOfNums ((if u = 0 then [] else hexD u) ++ xs)) := by
  induction d with
  | zero =>
    intro k u xs hu hk hb hx hne
    obtain ⟨k, rfl⟩ : ∃ m, k = m + 2 := ⟨k - 2, by omega⟩
    obtain rfl : u = 0 := by simpa using hu
    rw [if_pos rfl]
    exact refHexT_end k xs hne
  | succ d ih =>
    intro k u xs hu hk hb hx hne
    obtain ⟨k, rfl⟩ : ∃ m, k = m + 2 := ⟨k - 2, by omega⟩
    by_cases h0 : u = 0
    · subst h0
      rw [if_pos rfl]
      exact refHexT_end k xs hne
    · refine refHex_step k u xs (by omega) hb (Or.inr (by omega)) _ ?_
      have h2 : u / 16 < 16 ^ d := (Nat.div_lt_iff_lt_mul (by decide)).2 (by rwa [← Nat.pow_succ])
      rw [ih k (u / 16) _ h2 (by omega) (by omega) (by rw [List.length_cons]; omega) (by simp), if_neg h0]
      by_cases h1 : u < 16
      · rw [if_pos (by omega), hexD_small u h1, show u % 16 = u by omega]
        rfl
      · rw [if_neg (by omega), hexD_big u (by omega), List.append_assoc]
        rfl
theorem refHexT_nat (k u : Nat) (hk : 50 ≤ k) (hu : u ≤ 9223372036854775807) : tollbarref02_HexText.l0 k (u : Int) (⟨#[]⟩ : ByteArray) = some (strOfNums (hexD u)) := by
  obtain ⟨k, rfl⟩ : ∃ m, k = m + 2 := ⟨k - 2, by omega⟩
  have hs : (⟨#[]⟩ : ByteArray) = strOfNums [] := rfl
  rw [hs]
  refine refHex_step k u [] (by simp) hu (Or.inl rfl) _ ?_
  have h3 : (16 : Nat) ^ 16 = 18446744073709551616 := by decide
  rw [refHexT_l0 16 k (u / 16) _ (by omega) (by omega) (by omega) (by simp) (by simp)]
  by_cases h1 : u < 16
  · rw [if_pos (by omega), hexD_small u h1, show u % 16 = u by omega]
    rfl
  · rw [if_neg (by omega), hexD_big u (by omega)]
theorem refHexText_f (k : Nat) (hk : 60 ≤ k) (n : Int) (h1 : n ≤ 9223372036854775807) : tollbarref02_HexText.f k n = sign_HexText.f n := by
  rw [HexText_f n h1]
  obtain ⟨k, rfl⟩ : ∃ m, k = m + 1 := ⟨k - 1, by omega⟩
  unfold tollbarref02_HexText.f mx
  by_cases h : n < 0
  · rw [if_pos h, if_pos h]
    simp only [tollbarref02_HexText.j0]
    exact refHexT_nat k 0 (by omega) (by omega)
  · rw [if_neg h, if_neg h]
    simp only [tollbarref02_HexText.j0]
    have := refHexT_nat k n.toNat (by omega) (by omega)
    rw [show ((n.toNat : Nat) : Int) = n by omega] at this
    exact this
end Go.Proofs.YtjgpifjfaiaidaaDoor.Pure

namespace Go.Proofs.YtjgpifjfaiaidaaDoor.Pure
open Go.RowKit Go.Proofs.YtjgpifjfaiaidaaDoor.P Go.Proofs.YtjgpifjfaiaidaaDoorW.PrintWords Go.Proofs.YtjgpifjfaiaidaaDoorW.PrintLast Go.Proofs.YtjgpifjfaiaidaaDoorW.PrintMore
set_option linter.unusedVariables false
set_option linter.unusedSimpArgs false
theorem less_mn (a b : Int) : (if a < b then a else b) = mn a b := by unfold mn; split <;> split <;> omega
theorem ref_enc (sz : Int) (hsz : 1 ≤ sz) : ∀ (d : Nat) (b out : List Int) (k : Nat), b.length ≤ d → out.length + 22 * b.length + 300 ≤ k → out.length + 22 * b.length + 300 < 140737488355328 → tollbarref06_Encode.l k b sz out = some (out ++ encF sz (d + 1) b) := by
  intro d
  induction d with
  | zero =>
    intro b out k hb hk ho
    obtain ⟨k, rfl⟩ : ∃ m, k = m + 1 := ⟨k - 1, by omega⟩
    rw [tollbarref06_Encode.l, encF]
    rw [if_neg (by omega), if_neg (by omega), Join_f _ _ _ (by simp; omega) (by simp; omega)]
  | succ d ih =>
    intro b out k hb hk ho
    obtain ⟨k, rfl⟩ : ∃ m, k = m + 1 := ⟨k - 1, by omega⟩
    rw [tollbarref06_Encode.l, encF, less_mn]
    by_cases h : 0 < b.length
    · obtain ⟨h1, h2⟩ := mn_at sz b hsz h
      have hx := hex_short (mn sz (b.length : Int)) (by omega)
      have ht : (b.take (mn sz (b.length : Int)).toNat).length ≤ b.length := by rw [List.length_take]; omega
      rw [if_pos h, if_pos h, refHexText_f k (by omega) _ (by omega), HexText_f _ (by omega), Option.bind_some, if_pos (by rw [str_size]; omega), hex_line,
        Join_f _ _ _ (by (try simp only [List.length_append, List.length_cons, List.length_nil]); omega) (by (try simp only [List.length_append, List.length_cons, List.length_nil]); omega), Option.bind_some,
        Join_f _ _ _ (by (try simp only [List.length_append, List.length_cons, List.length_nil]); omega) (by (try simp only [List.length_append, List.length_cons, List.length_nil]); omega), Option.bind_some,
        Join_f _ _ _ (by (try simp only [List.length_append, List.length_cons, List.length_nil]); omega) (by (try simp only [List.length_append, List.length_cons, List.length_nil]); omega), Option.bind_some,
        ih _ _ k (by rw [List.length_drop]; omega) (by simp only [List.length_append, List.length_take, List.length_drop]; simp; omega) (by simp only [List.length_append, List.length_take, List.length_drop]; simp; omega)]
      simp only [List.append_assoc]
    · rw [if_neg h, if_neg h, Join_f _ _ _ (by simp; omega) (by simp; omega)]
theorem refEncode_f (b : List Int) (n : Int) (k : Nat) (hk : 22 * b.length + 300 ≤ k) (hb : b.length ≤ 1000000) : tollbarref06_Encode.f k b n = some (encF (mx n 1) (b.length + 1) b) := by
  unfold tollbarref06_Encode.f
  rw [show (if n < 1 then 1 else n) = mx n 1 from rfl, ref_enc (mx n 1) (by unfold mx; split <;> omega) b.length b [] k (Nat.le_refl _) (by simpa using hk) (by simp; omega), List.nil_append]

end Go.Proofs.YtjgpifjfaiaidaaDoor.Pure

namespace Go.Proofs.YtjgpifjfaiaidaaDoor.Pure
open Go.RowKit Go.Proofs.YtjgpifjfaiaidaaDoor.P Go.Proofs.YtjgpifjfaiaidaaDoorW.PrintWords Go.Proofs.YtjgpifjfaiaidaaDoorW.PrintLast Go.Proofs.YtjgpifjfaiaidaaDoorW.PrintMore
set_option linter.unusedVariables false
set_option linter.unusedSimpArgs false
theorem sameB_l0 (xs : List Int) (hn : xs.length ≤ 4398046511104) (d : Nat) : ∀ (k : Nat) (i : Int), 0 ≤ i → (xs.length : Int) - i = d → d + 1 ≤ k → tollbarref01_SameBytes.l0 k xs xs i = some true := by
  induction d with
  | zero =>
    intro k i h0 hd hk
    obtain ⟨k, rfl⟩ : ∃ m, k = m + 1 := ⟨k - 1, by omega⟩
    simp only [tollbarref01_SameBytes.l0]
    rw [if_neg (by omega)]
  | succ d ih =>
    intro k i h0 hd hk
    obtain ⟨k, rfl⟩ : ∃ m, k = m + 1 := ⟨k - 1, by omega⟩
    simp only [tollbarref01_SameBytes.l0]
    rw [if_pos (by omega), if_pos h0, if_pos (by omega), if_pos trivial, show wrap64 (i + 1) = i + 1 by unfold wrap64; omega]
    exact ih k (i + 1) (by omega) (by omega) (by omega)
theorem sameB_eq (xs : List Int) (hn : xs.length ≤ 4398046511104) (k : Nat) (hk : xs.length + 1 ≤ k) : tollbarref01_SameBytes.f k xs xs = some true := by
  unfold tollbarref01_SameBytes.f
  rw [if_pos rfl]
  exact sameB_l0 xs hn xs.length k 0 (by omega) (by omega) hk

end Go.Proofs.YtjgpifjfaiaidaaDoor.Pure

namespace Go.Proofs.YtjgpifjfaiaidaaDoor.Pure
open Go.RowKit Go.Proofs.YtjgpifjfaiaidaaDoor.P Go.Proofs.YtjgpifjfaiaidaaDoorW.PrintWords Go.Proofs.YtjgpifjfaiaidaaDoorW.PrintLast Go.Proofs.YtjgpifjfaiaidaaDoorW.PrintMore
set_option linter.unusedVariables false
set_option linter.unusedSimpArgs false
theorem encF_len (sz : Int) (hsz : 1 ≤ sz) : ∀ (d : Nat) (b : List Int), b.length < 1000000 → (encF sz d b).length ≤ 22 * b.length + 5 := by
  intro d
  induction d with
  | zero => intro b _; simp [encF]
  | succ d ih =>
    intro b hb
    rw [encF]
    by_cases h : 0 < b.length
    · obtain ⟨h1, h2⟩ := mn_at sz b hsz h
      have hx := hex_short (mn sz (b.length : Int)) (by omega)
      have := ih (b.drop (mn sz (b.length : Int)).toNat) (by rw [List.length_drop]; omega)
      rw [if_pos h]
      simp only [List.length_append, List.length_take, List.length_drop, List.length_cons, List.length_nil] at this ⊢
      omega
    · rw [if_neg h]; simp
theorem ChunkEncodes : tollbarlaw06_ChunkEncodes.Pure := by
  intro b n hb _ _ _
  by_cases h : (b.length : Int) > 600
  · refine ⟨0, ?_⟩
    unfold tollbarlaw06_ChunkEncodes.f
    rw [show tollbarlaw06_alive.f = some true from rfl, Option.bind_some, if_pos rfl, if_pos h]
  · refine ⟨22 * b.length + 300, ?_⟩
    have hl := encF_len (mx n 1) (by unfold mx; split <;> omega) (b.length + 1) b (by omega)
    unfold tollbarlaw06_ChunkEncodes.f
    rw [show tollbarlaw06_alive.f = some true from rfl, Option.bind_some, if_pos rfl, if_neg h, Encode_f b n _ (by omega) (by omega), Option.bind_some, refEncode_f b n _ (by omega) (by omega), Option.bind_some, sameB_eq _ (by omega) _ (by omega), Option.bind_some]

end Go.Proofs.YtjgpifjfaiaidaaDoor.Pure

