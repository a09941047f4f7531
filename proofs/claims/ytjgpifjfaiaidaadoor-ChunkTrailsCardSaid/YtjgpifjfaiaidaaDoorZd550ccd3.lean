/- Each function below answers as its Lean twin says; plain lemmas; a row where its theorem stands. No further condition. (Laid by this repo's pack.py out of its texts and of the print's words.) -/
import Derived.Test.YtjgpifjfaiaidaaDoorU0base0x0
import Derived.Test.YtjgpifjfaiaidaaDoorUline0x0
import Derived.Test.YtjgpifjfaiaidaaDoorUstrings0x0
import Derived.Test.YtjgpifjfaiaidaaDoorUstringslite0x0
import Derived.Test.YtjgpifjfaiaidaaDoorUsign0x1
import Derived.Test.YtjgpifjfaiaidaaDoorUsign0x0
import Derived.Test.YtjgpifjfaiaidaaDoorUfield1x0
import Derived.Test.YtjgpifjfaiaidaaDoorUfieldright
import Derived.Test.YtjgpifjfaiaidaaDoorUtollbarref020x2
import Derived.Test.YtjgpifjfaiaidaaDoorUchunk0x0
import Derived.Test.YtjgpifjfaiaidaaDoorUchunk0x1
import Derived.Test.YtjgpifjfaiaidaaDoorUstrconv0x0
import Derived.Test.YtjgpifjfaiaidaaDoorUtollbarref010x0
import Derived.Test.YtjgpifjfaiaidaaDoorUtollbarlaw06ChunkTrails
import Derived.Test.YtjgpifjfaiaidaaDoorUtollbarlaw060x0
import Derived.Lib.IndexBytes
import Derived.Lib.Strings
import Derived.Shelf.Strings.SlTrimAscii
namespace Go.Proofs.YtjgpifjfaiaidaaDoor.Pure
open Go.RowKit Go.Proofs.YtjgpifjfaiaidaaDoor.P Go.Proofs.YtjgpifjfaiaidaaDoorW.PrintWords Go.Proofs.YtjgpifjfaiaidaaDoorW.PrintLast Go.Proofs.YtjgpifjfaiaidaaDoorW.PrintMore
set_option linter.unusedVariables false
set_option linter.unusedSimpArgs false
theorem and_mask (x : Int) (j : Nat) (hj : j ≤ 62) : Go.bits .and .i64 x (2 ^ j - 1) = x % 2 ^ j := by
  have hpos : 0 < 2 ^ j := Nat.two_pow_pos j
  have hlt : 2 ^ j ≤ 2 ^ 62 := Nat.pow_le_pow_right (by decide) hj
  have hc : ((2 : Int) ^ j - 1) = ((2 ^ j - 1 : Nat) : Int) := by rw [Int.natCast_sub hpos]; simp
  have hb : (2 ^ j - 1) % 2 ^ 64 = 2 ^ j - 1 := Nat.mod_eq_of_lt (by omega)
  have hd : ((2 : Int) ^ j) ∣ 2 ^ 64 := ⟨2 ^ (64 - j), by rw [← Int.pow_add]; congr 1; omega⟩
  have hk : (BitVec.ofInt 64 x &&& BitVec.ofInt 64 ((2 ^ j - 1 : Nat) : Int)).toNat = (x % ((2 ^ 64 : Nat) : Int)).toNat % 2 ^ j := by
    rw [BitVec.toNat_and, BitVec.ofInt_natCast, BitVec.toNat_ofNat, hb, Nat.and_two_pow_sub_one_eq_mod, BitVec.toNat_ofInt]
  have hg : bits .and .i64 x (2 ^ j - 1) = IntKind.i64.wrap (((BitVec.ofInt 64 x &&& BitVec.ofInt 64 ((2 ^ j - 1 : Nat) : Int)).toNat : Nat) : Int) := by rw [hc]; rfl
  have hx : (((x % ((2 ^ 64 : Nat) : Int)).toNat % 2 ^ j : Nat) : Int) = x % 2 ^ j := by
    rw [Int.natCast_emod, Int.toNat_of_nonneg (Int.emod_nonneg _ (by decide))]
    have := Int.emod_emod_of_dvd x hd
    simpa using this
  rw [hg, hk, hx, IntKind.wrap_i64]
  have h1 : 0 ≤ x % (2 : Int) ^ j := Int.emod_nonneg _ (by have : (0 : Int) < 2 ^ j := by exact_mod_cast hpos
                                                           omega)
  have h2 : x % (2 : Int) ^ j < 2 ^ j := Int.emod_lt_of_pos _ (by exact_mod_cast hpos)
  have h3 : (2 : Int) ^ j ≤ 2 ^ 62 := by exact_mod_cast hlt
  have h4 : (2 : Int) ^ 62 = 4611686018427387904 := by decide
  omega
theorem and_63 (x : Int) : Go.bits .and .i64 x 63 = x % 64 := and_mask x 6 (by decide)
theorem and_1023 (x : Int) : Go.bits .and .i64 x 1023 = x % 1024 := and_mask x 10 (by decide)
end Go.Proofs.YtjgpifjfaiaidaaDoor.Pure

namespace Go.Proofs.YtjgpifjfaiaidaaDoor.Pure
open Go.RowKit Go.Proofs.YtjgpifjfaiaidaaDoor.P Go.Proofs.YtjgpifjfaiaidaaDoorW.PrintWords Go.Proofs.YtjgpifjfaiaidaaDoorW.PrintLast Go.Proofs.YtjgpifjfaiaidaaDoorW.PrintMore
set_option linter.unusedVariables false
set_option linter.unusedSimpArgs false
theorem str_append (xs ys : List Int) : strOfNums (xs ++ ys) = strOfNums xs ++ strOfNums ys := by
  apply ByteArray.ext
  simp [strOfNums]
theorem str_size (xs : List Int) : (strOfNums xs).size = xs.length := strOfNums_size xs
theorem rd_append_left (l x : List Int) (i : Int) (h0 : 0 ≤ i) (h : i < (l.length : Int)) : rd (l ++ x) i = rd l i := by
  unfold rd
  rw [List.getD_eq_getElem?_getD, List.getD_eq_getElem?_getD, List.getElem?_append_left (by omega)]
theorem rd_append_right (l x : List Int) (i : Int) (h : (l.length : Int) ≤ i) : rd (l ++ x) i = rd x (i - l.length) := by
  unfold rd
  rw [List.getD_eq_getElem?_getD, List.getD_eq_getElem?_getD, List.getElem?_append_right (by omega)]
  congr 2
  omega
theorem take_two (l : List Int) (i : Int) (h0 : 0 ≤ i) (h : i + 1 < (l.length : Int)) : l.take (i + 2).toNat = l.take i.toNat ++ [rd l i, rd l (i + 1)] := by
  obtain ⟨n, rfl⟩ := Int.eq_ofNat_of_zero_le h0
  have e1 : ((n : Int) + 2).toNat = n + 1 + 1 := by omega
  have h1 : n + 1 < l.length := by omega
  rw [e1, List.take_succ_eq_append_getElem h1, List.take_succ_eq_append_getElem (by omega)]
  have e2 : ((n : Int) + 1).toNat = n + 1 := by omega
  simp only [Int.toNat_natCast, rd, e2, List.getD_eq_getElem?_getD, List.getElem?_eq_getElem h1, List.getElem?_eq_getElem (show n < l.length by omega), Option.getD_some, List.append_assoc, List.cons_append, List.nil_append]
theorem w64 {i : Int} {n : Nat} (c : Int) (h0 : 0 ≤ i) (h : i < (n : Int)) (hn : n ≤ 140737488355328) (hc0 : -3 ≤ c) (hc : c ≤ 3) : wrap64 (i + c) = i + c := by
  unfold wrap64; omega
theorem toList_data (s : ByteArray) : s.toList = s.data.toList := by
  simp [ByteArray.toList_eq]
end Go.Proofs.YtjgpifjfaiaidaaDoor.Pure

namespace Go.Proofs.YtjgpifjfaiaidaaDoor.Pure
open Go.RowKit Go.Proofs.YtjgpifjfaiaidaaDoor.P Go.Proofs.YtjgpifjfaiaidaaDoorW.PrintWords Go.Proofs.YtjgpifjfaiaidaaDoorW.PrintLast Go.Proofs.YtjgpifjfaiaidaaDoorW.PrintMore
set_option linter.unusedVariables false
set_option linter.unusedSimpArgs false
/-- The line at the place i of l, with the bound m; d bytes are left. -/
def cutAt (l : List Int) (m : Int) : Nat → Int → (ByteArray × Int × Int)
  | 0, _ => ((⟨#[]⟩ : ByteArray), 0, 0)
  | d + 1, i =>
    if rd l i = 10 then ((⟨#[]⟩ : ByteArray), 0, 20)
    else if rd l i = 13 then
      (if i + 1 < (l.length : Int) then (if rd l (i + 1) = 10 then (strOfNums (l.take i.toNat), i + 2, 0) else ((⟨#[]⟩ : ByteArray), 0, 20)) else ((⟨#[]⟩ : ByteArray), 0, 0))
    else if m ≤ i then ((⟨#[]⟩ : ByteArray), 0, 2) else cutAt l m d (i + 1)

theorem cut_l0 (l : List Int) (a : Int) (hn : l.length ≤ 140737488355328) (d : Nat) : ∀ (k : Nat) (i : Int), 0 ≤ i → (l.length : Int) - i = d → 3 * d + 3 ≤ k →
    line_Cut.l0 k l a l (l.length : Int) i = some (cutAt l (mx a 0) d i) := by
  induction d with
  | zero =>
    intro k i h0 hd hk
    obtain ⟨k, rfl⟩ : ∃ m, k = m + 1 := ⟨k - 1, by omega⟩
    simp only [line_Cut.l0, cutAt]; rw [if_neg (by omega)]
  | succ d ih =>
    intro k i h0 hd hk
    obtain ⟨k, rfl⟩ : ∃ m, k = m + 3 := ⟨k - 3, by omega⟩
    have hlt : i < (l.length : Int) := by omega
    have hw1 : wrap64 (i + 1) = i + 1 := w64 1 h0 hlt hn (by omega) (by omega)
    have hw2 : wrap64 (i + 2) = i + 2 := w64 2 h0 hlt hn (by omega) (by omega)
    have ih' := ih k (i + 1) (by omega) (by omega) (by omega)
    unfold line_Cut.l0
    rw [if_pos hlt, if_pos h0, if_pos hlt]
    unfold line_Cut.j1 line_Cut.j2
    simp only [cutAt, hw1, hw2, ih']
    by_cases h10 : rd l i = 10
    · simp [h10]
    · rw [if_neg h10]
      by_cases h13 : rd l i = 13
      · simp only [h13]
        by_cases h1 : i + 1 < (l.length : Int)
        · by_cases hr : rd l (i + 1) = 10
          · have hne : ¬ (i + 1 = (l.length : Int)) := by omega
            have hle : i ≤ (l.length : Int) := by omega
            have h01 : 0 ≤ i + 1 := by omega
            simp [h1, hr, hne, hle, h01, h0]
          · have h01 : 0 ≤ i + 1 := by omega
            simp [h1, hr, h01]
        · have he : i + 1 = (l.length : Int) := by omega
          simp [he]
      · simp only [h13, if_false, h10]
        by_cases hm : mx a 0 ≤ i
        · simp [hm]
        · simp [hm]

/-- What Cut tells. -/
def cutSpec (l : List Int) (a : Int) : (ByteArray × Int × Int) := cutAt l (mx a 0) l.length 0
theorem cut_f (l : List Int) (a : Int) (hn : l.length ≤ 140737488355328) (k : Nat) (hk : 3 * l.length + 3 ≤ k) : line_Cut.f k l a = some (cutSpec l a) := by
  unfold line_Cut.f cutSpec
  exact cut_l0 l a hn l.length k 0 (by omega) (by omega) hk

end Go.Proofs.YtjgpifjfaiaidaaDoor.Pure

namespace Go.Proofs.YtjgpifjfaiaidaaDoor.Pure
open Go.RowKit Go.Proofs.YtjgpifjfaiaidaaDoor.P Go.Proofs.YtjgpifjfaiaidaaDoorW.PrintWords Go.Proofs.YtjgpifjfaiaidaaDoorW.PrintLast Go.Proofs.YtjgpifjfaiaidaaDoorW.PrintMore
set_option linter.unusedVariables false
set_option linter.unusedSimpArgs false
theorem cutA_shape (l : List Int) (m : Int) (d : Nat) : ∀ (i : Int), 0 ≤ i → (l.length : Int) - i = d →
    ((cutAt l m d i).2.1 > 0 ∧ (cutAt l m d i).2.1 ≤ l.length ∧ strOfNums (l.take (cutAt l m d i).2.1.toNat) = (cutAt l m d i).1 ++ (⟨#[13, 10]⟩ : ByteArray) ∧ ((cutAt l m d i).1.size : Int) = (cutAt l m d i).2.1 - 2 ∧ (cutAt l m d i).2.2 = 0)
    ∨ ((cutAt l m d i).2.1 = 0 ∧ (cutAt l m d i).1 = (⟨#[]⟩ : ByteArray)) := by
  induction d with
  | zero => intro i h0 hd; right; simp [cutAt]
  | succ d ih =>
    intro i h0 hd
    have hlt : i < (l.length : Int) := by omega
    have ih' := ih (i + 1) (by omega) (by omega)
    simp only [cutAt]
    by_cases h10 : rd l i = 10
    · simp [h10]
    · rw [if_neg h10]
      by_cases h13 : rd l i = 13
      · rw [if_pos h13]
        by_cases h1 : i + 1 < (l.length : Int)
        · rw [if_pos h1]
          by_cases hr : rd l (i + 1) = 10
          · rw [if_pos hr]
            left
            refine ⟨by show i + 2 > 0; omega, by show i + 2 ≤ _; omega, ?_, ?_, rfl⟩
            · show strOfNums (l.take (i + 2).toNat) = _
              rw [take_two l i h0 h1, str_append, h13, hr]
              rfl
            · show ((strOfNums (l.take i.toNat)).size : Int) = i + 2 - 2
              rw [str_size, List.length_take]
              omega
          · rw [if_neg hr]; right; exact ⟨rfl, rfl⟩
        · rw [if_neg h1]; right; exact ⟨rfl, rfl⟩
      · rw [if_neg h13]
        by_cases hm : m ≤ i
        · rw [if_pos hm]; right; exact ⟨rfl, rfl⟩
        · rw [if_neg hm]; exact ih'
theorem cutS_shape (l : List Int) (m : Int) :
    (cutSpec l m).2.1 > 0 ∧ (cutSpec l m).2.1 ≤ l.length ∧ ((cutSpec l m).1.size : Int) = (cutSpec l m).2.1 - 2 ∧ (cutSpec l m).2.2 = 0 ∨ (cutSpec l m).2.1 = 0 ∧ (cutSpec l m).1 = (⟨#[]⟩ : ByteArray) := by
  rcases cutA_shape l (mx m 0) l.length 0 (by omega) (by omega) with h | h
  · exact Or.inl ⟨h.1, h.2.1, h.2.2.2.1, h.2.2.2.2⟩
  · exact Or.inr h

end Go.Proofs.YtjgpifjfaiaidaaDoor.Pure

namespace Go.Proofs.YtjgpifjfaiaidaaDoor.Pure
open Go.RowKit Go.Proofs.YtjgpifjfaiaidaaDoor.P Go.Proofs.YtjgpifjfaiaidaaDoorW.PrintWords Go.Proofs.YtjgpifjfaiaidaaDoorW.PrintLast Go.Proofs.YtjgpifjfaiaidaaDoorW.PrintMore
set_option linter.unusedVariables false
set_option linter.unusedSimpArgs false
def mkS (l : List UInt8) : ByteArray := ⟨l.toArray⟩
theorem mkS_data (l : List UInt8) : (mkS l).data.toList = l := by simp [mkS]
theorem mkS_self (s : ByteArray) : mkS s.data.toList = s := by simp [mkS]
theorem mkS_size (l : List UInt8) : (mkS l).size = l.length := by rw [← data_length, mkS_data]
theorem mkS_toList (l : List UInt8) : (mkS l).toList = l := by rw [toList_data, mkS_data]
theorem mkS_extract (l : List UInt8) (a b : Nat) : (mkS l).extract a b = mkS ((l.drop a).take (b - a)) := by
  rw [← mkS_self ((mkS l).extract a b), Lib.extract_data, mkS_data]
theorem mkS_bytes (l : List UInt8) : bytesOf (mkS l) = l.map fun b => (b.toNat : Int) := by unfold bytesOf; rw [mkS_data]
end Go.Proofs.YtjgpifjfaiaidaaDoor.Pure

namespace Go.Proofs.YtjgpifjfaiaidaaDoor.Pure
open Go.RowKit Go.Proofs.YtjgpifjfaiaidaaDoor.P Go.Proofs.YtjgpifjfaiaidaaDoorW.PrintWords Go.Proofs.YtjgpifjfaiaidaaDoorW.PrintLast Go.Proofs.YtjgpifjfaiaidaaDoorW.PrintMore
set_option linter.unusedVariables false
set_option linter.unusedSimpArgs false
theorem index_append (sp : UInt8) (a b : List UInt8) (h : sp ∉ a) : Lib.indexByte (a ++ sp :: b) sp = a.length := by
  induction a with
  | nil => simp [Lib.indexByte]
  | cons c a ih =>
    have hc : c ≠ sp := fun e => h (e ▸ List.mem_cons_self ..)
    have hb : (c == sp) = false := by simpa using hc
    have h3 := ih (fun e => h (List.mem_cons_of_mem _ e))
    have hn : ((a.length : Int) == -1) = false := by simp only [beq_eq_false_iff_ne]; omega
    simp [Lib.indexByte, hb, h3, hn]
theorem index_none (sp : UInt8) (a : List UInt8) (h : sp ∉ a) : Lib.indexByte a sp = -1 := by
  induction a with
  | nil => simp [Lib.indexByte]
  | cons c a ih =>
    have hc : c ≠ sp := fun e => h (e ▸ List.mem_cons_self ..)
    have hb : (c == sp) = false := by simpa using hc
    have h3 := ih (fun e => h (List.mem_cons_of_mem _ e))
    simp [Lib.indexByte, hb, h3]
theorem slIndex (s : List UInt8) (sp : UInt8) : stringslite_Index.f (mkS s) ⟨#[sp]⟩ = some (Lib.indexByte s sp) := by
  show some (Lib.indexByte (mkS s).data.toList sp) = _
  rw [mkS_data]
theorem Cut_no (sp : UInt8) (s : List UInt8) (h : sp ∉ s) : strings_Cut.f (mkS s) ⟨#[sp]⟩ = some (mkS s, (⟨#[]⟩ : ByteArray), false) := by
  unfold strings_Cut.f stringslite_Cut.f
  rw [slIndex, index_none sp s h, Option.bind_some, if_neg (by decide), Option.bind_some]
theorem Cut_yes (sp : UInt8) (a b : List UInt8) (h : sp ∉ a) (hn : (a ++ sp :: b).length ≤ 140737488355328) : strings_Cut.f (mkS (a ++ sp :: b)) ⟨#[sp]⟩ = some (mkS a, mkS b, true) := by
  unfold strings_Cut.f stringslite_Cut.f
  have hl : (a ++ sp :: b).length = a.length + b.length + 1 := by rw [List.length_append, List.length_cons]; omega
  rw [hl] at hn
  have h1 : ((⟨#[sp]⟩ : ByteArray).size : Int) = 1 := rfl
  have hw : wrap64 ((a.length : Int) + 1) = (a.length : Int) + 1 := by unfold wrap64; omega
  have e1 : ((a.length : Int) + 1).toNat = a.length + 1 := by omega
  rw [slIndex, index_append sp a b h, Option.bind_some, h1, hw, mkS_size, hl, if_pos (by omega), if_pos (by omega), if_pos (by omega), if_pos (by omega), if_pos (by omega), Option.bind_some, e1, Int.toNat_natCast, mkS_extract, mkS_extract, List.drop_zero, Nat.sub_zero, List.take_left, ← List.drop_drop, List.drop_left]
  rw [show List.drop 1 (sp :: b) = b from rfl, List.take_of_length_le (by omega)]
/-- What stands ahead of the first sp, and behind it. -/
theorem split_first (sp : UInt8) (s : List UInt8) : sp ∉ s ∨ ∃ a b, s = a ++ sp :: b ∧ sp ∉ a := by
  induction s with
  | nil => exact .inl (by simp)
  | cons c s ih =>
    by_cases hc : c = sp
    · exact .inr ⟨[], s, by rw [hc]; rfl, by simp⟩
    · rcases ih with h | ⟨a, b, rfl, h⟩
      · refine .inl fun hm => ?_
        rcases List.mem_cons.1 hm with e | e
        · exact hc e.symm
        · exact h e
      · refine .inr ⟨c :: a, b, rfl, fun hm => ?_⟩
        rcases List.mem_cons.1 hm with e | e
        · exact hc e.symm
        · exact h e

end Go.Proofs.YtjgpifjfaiaidaaDoor.Pure

namespace Go.Proofs.YtjgpifjfaiaidaaDoor.Pure
open Go.RowKit Go.Proofs.YtjgpifjfaiaidaaDoor.P Go.Proofs.YtjgpifjfaiaidaaDoorW.PrintWords Go.Proofs.YtjgpifjfaiaidaaDoorW.PrintLast Go.Proofs.YtjgpifjfaiaidaaDoorW.PrintMore
set_option linter.unusedVariables false
set_option linter.unusedSimpArgs false
def tokB (c : Int) : Bool := (sign_Token_1.f c).getD false
def valB (c : Int) : Bool := (sign_Value_1.f c).getD false
theorem Token_f (s : ByteArray) (h : s.size ≤ 140737488355328) : sign_Token.f s = some (!s.toList.isEmpty && (bytesOf s).all tokB) := if_pos h
theorem Value_f (s : ByteArray) (h : s.size ≤ 140737488355328) : sign_Value.f s = some ((bytesOf s).all valB) := if_pos h
end Go.Proofs.YtjgpifjfaiaidaaDoor.Pure

namespace Go.Proofs.YtjgpifjfaiaidaaDoor.Pure
open Go.RowKit Go.Proofs.YtjgpifjfaiaidaaDoor.P Go.Proofs.YtjgpifjfaiaidaaDoorW.PrintWords Go.Proofs.YtjgpifjfaiaidaaDoorW.PrintLast Go.Proofs.YtjgpifjfaiaidaaDoorW.PrintMore
set_option linter.unusedVariables false
set_option linter.unusedSimpArgs false
/-- Is a byte a blank? -/
def blk (b : UInt8) : Bool := ([32, 9] : List UInt8).contains b
/-- A text without blanks at its ends. -/
def trm (l : List UInt8) : List UInt8 := (l.reverse.dropWhile blk).reverse.dropWhile blk
theorem dw_self {p : UInt8 → Bool} {l : List UInt8} (h : ∀ a, l.head? = some a → p a = false) : l.dropWhile p = l := by
  cases l with
  | nil => rfl
  | cons a l => simp [List.dropWhile, h a rfl]
theorem Trim_f (s : ByteArray) (h : s.size ≤ 9223372036854775807) : sign_Trim.f s = some ⟨(trm s.data.toList).toArray⟩ := by
  unfold sign_Trim.f strings_Trim.f
  rw [if_pos ⟨h, by decide, by decide⟩]
  rfl

end Go.Proofs.YtjgpifjfaiaidaaDoor.Pure

namespace Go.Proofs.YtjgpifjfaiaidaaDoor.Pure
open Go.RowKit Go.Proofs.YtjgpifjfaiaidaaDoor.P Go.Proofs.YtjgpifjfaiaidaaDoorW.PrintWords Go.Proofs.YtjgpifjfaiaidaaDoorW.PrintLast Go.Proofs.YtjgpifjfaiaidaaDoorW.PrintMore
set_option linter.unusedVariables false
set_option linter.unusedSimpArgs false
/-- Is a field right? -/
def rightB (a t : ByteArray) : Bool := decide (a.size ≤ 100) && ((!a.toList.isEmpty && (bytesOf a).all tokB) && (decide (t.size ≤ 1000) && ((bytesOf t).all valB && (mkS (trm t.data.toList)).toList == t.toList)))
theorem Trim_mk (s : ByteArray) (h : s.size ≤ 9223372036854775807) : sign_Trim.f s = some (mkS (trm s.data.toList)) := Trim_f s h
theorem field_right_f (a t : ByteArray) : field_right.f a t = some (rightB a t) := by
  unfold field_right.f rightB
  by_cases h1 : (a.size : Int) ≤ 100
  · rw [if_pos h1, Token_f a (by omega), Option.bind_some, decide_eq_true (show a.size ≤ 100 by omega), Bool.true_and]
    cases hT : (!a.toList.isEmpty && (bytesOf a).all tokB)
    · rw [if_neg (by simp), Bool.false_and]
    · rw [if_pos rfl, Bool.true_and]
      by_cases h2 : (t.size : Int) ≤ 1000
      · rw [if_pos h2, Value_f t (by omega), Option.bind_some, decide_eq_true (show t.size ≤ 1000 by omega), Bool.true_and]
        cases (bytesOf t).all valB
        · rw [if_neg (by simp), Bool.false_and]
        · rw [if_pos rfl, Bool.true_and, Trim_mk t (by omega), Option.bind_some]
      · rw [if_neg h2, decide_eq_false (show ¬ t.size ≤ 1000 by omega), Bool.false_and]
  · rw [if_neg h1, decide_eq_false (show ¬ a.size ≤ 100 by omega), Bool.false_and]
def fieldOk (l : List UInt8) : Bool := if 58 ∈ l then rightB (mkS (l.takeWhile (· != 58))) (mkS (trm ((l.dropWhile (· != 58)).drop 1))) else false
theorem take_first (sp : UInt8) (a b : List UInt8) (h : sp ∉ a) : (a ++ sp :: b).takeWhile (· != sp) = a ∧ ((a ++ sp :: b).dropWhile (· != sp)).drop 1 = b := by
  induction a with
  | nil => simp [List.takeWhile_cons, List.dropWhile_cons]
  | cons x a ih =>
    have hx : x ≠ sp := fun e => h (by rw [e]; exact List.mem_cons_self ..)
    have := ih (fun e => h (List.mem_cons_of_mem _ e))
    simp only [List.cons_append, List.takeWhile_cons, List.dropWhile_cons, bne_iff_ne, ne_eq, hx, not_false_eq_true, if_true]
    exact ⟨by rw [this.1], this.2⟩
theorem fieldOk_no (l : List UInt8) (h : 58 ∉ l) : fieldOk l = false := by unfold fieldOk; rw [if_neg h]
theorem fieldOk_yes (a b : List UInt8) (h : 58 ∉ a) : fieldOk (a ++ 58 :: b) = rightB (mkS a) (mkS (trm b)) := by
  unfold fieldOk
  obtain ⟨e1, e2⟩ := take_first 58 a b h
  rw [if_pos (by simp), e1, e2]
theorem field_f (l : List UInt8) (hn : l.length ≤ 140737488355328) : ∃ x y, field_Parse.f (mkS l) = some (x, y, if fieldOk l = true then 0 else 20) := by
  unfold field_Parse.f
  rcases split_first 58 l with h | ⟨a, b, rfl, h⟩
  · rw [Cut_no 58 l h, Option.bind_some, fieldOk_no l h]
    simp only
    rw [Trim_mk _ (by decide), Option.bind_some]
    exact ⟨_, _, rfl⟩
  · rw [Cut_yes 58 a b h hn, Option.bind_some, fieldOk_yes a b h]
    simp only
    rw [Trim_mk _ (by rw [mkS_size]; rw [List.length_append, List.length_cons] at hn; omega), Option.bind_some, if_pos trivial, field_right_f, Option.bind_some, mkS_data]
    cases rightB (mkS a) (mkS (trm b)) <;> exact ⟨_, _, rfl⟩

end Go.Proofs.YtjgpifjfaiaidaaDoor.Pure

namespace Go.Proofs.YtjgpifjfaiaidaaDoor.Pure
open Go.RowKit Go.Proofs.YtjgpifjfaiaidaaDoor.P Go.Proofs.YtjgpifjfaiaidaaDoorW.PrintWords Go.Proofs.YtjgpifjfaiaidaaDoorW.PrintLast Go.Proofs.YtjgpifjfaiaidaaDoorW.PrintMore
set_option linter.unusedVariables false
set_option linter.unusedSimpArgs false
theorem fold_tells (s : ByteArray) (hn : s.size ≤ 140737488355328) : sign_Fold.f s = some (strOfNums ((bytesOf s).map foldC)) := if_pos hn
def Bytes (xs : List Int) : Prop := ∀ x ∈ xs, 0 ≤ x ∧ x ≤ 255
theorem foldC_byte (x : Int) (h0 : 0 ≤ x) (h1 : x ≤ 255) : 0 ≤ foldC x ∧ foldC x ≤ 255 := by unfold foldC; split <;> omega
theorem bytes_str {xs : List Int} (h : Bytes xs) : bytesOf (strOfNums xs) = xs := by
  unfold bytesOf
  rw [strOfNums_data, List.map_map]
  conv => rhs; rw [← List.map_id xs]
  refine List.map_congr_left fun x hx => ?_
  have := h x hx
  show ((UInt8.ofNat x.toNat).toNat : Int) = x
  rw [UInt8.toNat_ofNat']
  omega
end Go.Proofs.YtjgpifjfaiaidaaDoor.Pure

namespace Go.Proofs.YtjgpifjfaiaidaaDoor.Pure
open Go.RowKit Go.Proofs.YtjgpifjfaiaidaaDoor.P Go.Proofs.YtjgpifjfaiaidaaDoorW.PrintWords Go.Proofs.YtjgpifjfaiaidaaDoorW.PrintLast Go.Proofs.YtjgpifjfaiaidaaDoorW.PrintMore
set_option linter.unusedVariables false
set_option linter.unusedSimpArgs false
/-- The value of a digit, or -1. -/
def digV (c : Int) : Int := Lib.indexByte [48, 49, 50, 51, 52, 53, 54, 55, 56, 57, 97, 98, 99, 100, 101, 102] (foldC c).toNat.toUInt8
/-- The number of digits, from n on. -/
def numL (base : Int) : List Int → Int → Option Int
  | [], n => some n
  | c :: r, n => if 0 ≤ digV c ∧ digV c < base then numL base r (n * base + digV c) else none
theorem digV_lt (c : Int) (h0 : 0 ≤ c) (h1 : c ≤ 255) : digV c < 16 := by
  obtain ⟨n, rfl⟩ := Int.eq_ofNat_of_zero_le h0
  have h : ∀ m : Fin 256, digV (m.val : Int) < 16 := by decide +kernel
  exact h ⟨n, by omega⟩
theorem one_fold (s : ByteArray) (i : Int) (h0 : 0 ≤ i) (h : i < (s.size : Int)) : sign_Fold.f (s.extract i.toNat (i + 1).toNat) = some (strOfNums [foldC (bt s i)]) := by
  have hl : i.toNat < s.data.toList.length := by rw [data_length]; omega
  have e1 : (s.extract i.toNat (i + 1).toNat).data.toList = [s.data.toList[i.toNat]] := by
    rw [Lib.extract_data, show (i + 1).toNat - i.toNat = 1 by omega, List.drop_eq_getElem_cons hl]
    rfl
  have hz : (s.extract i.toNat (i + 1).toNat).size = 1 := by rw [← data_length, e1]; rfl
  rw [fold_tells _ (by omega)]
  unfold bytesOf
  rw [e1]
  have e2 : ((s.data.toList[i.toNat]).toNat : Int) = bt s i := by
    unfold bt
    rw [dif_pos (by omega)]
    rfl
  simp only [List.map_cons, List.map_nil, e2]
theorem bt_one (x : Int) (h0 : 0 ≤ x) (h1 : x ≤ 255) : bt (strOfNums [x]) 0 = x := by
  have h := bytes_str (xs := [x]) (by intro y hy; rw [List.mem_singleton.1 hy]; exact ⟨h0, h1⟩)
  rw [← rd_bytesOf, h]
  rfl
theorem index_dig (s : ByteArray) (i : Int) : strings_IndexByte.f (⟨#[48, 49, 50, 51, 52, 53, 54, 55, 56, 57, 97, 98, 99, 100, 101, 102]⟩ : ByteArray) (bt (strOfNums [foldC (bt s i)]) 0) = some (digV (bt s i)) := by
  have hr := bt_range s i
  have hf := foldC_byte _ hr.1 hr.2
  rw [bt_one _ hf.1 hf.2]
  rfl
theorem pow_pos' (b : Int) (hb : 1 ≤ b) : ∀ n : Nat, 1 ≤ b ^ n
  | 0 => by simp
  | n + 1 => by
    rw [Int.pow_succ]
    have h1 := pow_pos' b hb n
    have h2 := Int.mul_le_mul_of_nonneg_left hb (show 0 ≤ b ^ n by omega)
    rw [Int.mul_one] at h2
    omega
theorem pow_mono' (b : Int) (hb : 1 ≤ b) (i : Nat) : ∀ d : Nat, b ^ i ≤ b ^ (i + d)
  | 0 => Int.le_refl _
  | d + 1 => by
    rw [← Nat.add_assoc, Int.pow_succ]
    have h0 := pow_mono' b hb i d
    have h1 := pow_pos' b hb (i + d)
    have h2 := Int.mul_le_mul_of_nonneg_left hb (show 0 ≤ b ^ (i + d) by omega)
    rw [Int.mul_one] at h2
    omega
/-- Too long: none. -/
theorem number_long (s : ByteArray) (base most : Int) (hm : (s.size : Int) > most) (hs : s.size ≤ 140737488355327) (d : Nat) : ∀ (k : Nat) (n i : Int), 0 ≤ i → (s.size : Int) - i = d → 2 * d + 1 ≤ k →
    sign_number.l0 k s base most n (s.size : Int) i = some (0, false) := by
  induction d with
  | zero =>
    intro k n i h0 hd hk
    obtain ⟨k, rfl⟩ : ∃ m, k = m + 1 := ⟨k - 1, by omega⟩
    simp only [sign_number.l0]
    rw [if_neg (by omega)]
    repeat' split
    all_goals first | rfl | (exfalso; omega)
  | succ d ih =>
    intro k n i h0 hd hk
    obtain ⟨k, rfl⟩ : ∃ m, k = m + 2 := ⟨k - 2, by omega⟩
    have hw : wrap64 (i + 1) = i + 1 := by unfold wrap64; omega
    have ih' := fun n => ih k n (i + 1) (by omega) (by omega) (by omega)
    simp only [sign_number.l0]
    rw [if_pos (by omega), if_pos h0, hw, if_pos (by omega), if_pos (by omega), one_fold s i h0 (by omega), Option.bind_some, if_pos (by rw [str_size]; simp), index_dig, Option.bind_some]
    simp only [sign_number.j1]
    rw [hw, ih', ih']
    repeat' split
    all_goals rfl
theorem number_short (s : ByteArray) (base : Int) (most : Nat) (hb0 : 0 ≤ base) (hB : base ^ most ≤ 4611686018427387904) (hb1 : 1 ≤ base) (hm : s.size ≤ most) (hs : s.size ≤ 140737488355327) (d : Nat) : ∀ (k : Nat) (n : Int) (i : Nat), i + d = s.size → 2 * d + 1 ≤ k → 0 ≤ n → n + 1 ≤ base ^ i →
    sign_number.l0 k s base most n (s.size : Int) i = some (match numL base ((bytesOf s).drop i) n with | some v => if s.size = 0 then (0, false) else (v, true) | none => (0, false)) := by
  induction d with
  | zero =>
    intro k n i hi hk h0 hn
    obtain ⟨k, rfl⟩ : ∃ m, k = m + 1 := ⟨k - 1, by omega⟩
    rw [List.drop_of_length_le (by rw [bytesOf_length]; omega)]
    simp only [sign_number.l0, numL]
    rw [if_neg (by omega)]
    by_cases hz : s.size = 0
    · have he : s.toList = [] := by rw [toList_data]; exact List.eq_nil_of_length_eq_zero (by rw [data_length]; exact hz)
      rw [if_pos he, if_pos hz]
    · have he : ¬ (s.toList = []) := by
        intro e
        rw [toList_data] at e
        have := data_length s
        rw [e] at this
        exact hz this.symm
      rw [if_neg he, if_neg hz, if_neg (by omega)]
  | succ d ih =>
    intro k n i hi hk h0 hn
    obtain ⟨k, rfl⟩ : ∃ m, k = m + 2 := ⟨k - 2, by omega⟩
    have hw : wrap64 ((i : Int) + 1) = (i : Int) + 1 := by unfold wrap64; omega
    have hl : i < (bytesOf s).length := by rw [bytesOf_length]; omega
    have hg : (bytesOf s)[i] = bt s i := by rw [← rd_bytesOf]; simp [rd, List.getD_eq_getElem?_getD, List.getElem?_eq_getElem hl]
    have hr := bt_range s i
    have hP : base ^ (i + 1) = base ^ i * base := Int.pow_succ _ _
    have hle : base ^ (i + 1) ≤ base ^ most := by
      have := pow_mono' base hb1 (i + 1) (most - (i + 1))
      rwa [show i + 1 + (most - (i + 1)) = most by omega] at this
    have h1 := Int.mul_le_mul_of_nonneg_right hn hb0
    rw [Int.add_mul, ← hP, Int.one_mul] at h1
    have h2 : 0 ≤ n * base := Int.mul_nonneg h0 hb0
    have h3 : 0 ≤ base := hb0
    have hdl := digV_lt _ hr.1 hr.2
    rw [List.drop_eq_getElem_cons hl, hg]
    simp only [sign_number.l0, numL]
    rw [if_pos (by omega), if_pos (by omega), hw, if_pos (by omega), if_pos (by omega), one_fold s i (by omega) (by omega), Option.bind_some, if_pos (by rw [str_size]; simp), index_dig, Option.bind_some]
    simp only [sign_number.j1]
    obtain ⟨D, hD⟩ : ∃ D, D = digV (bt s i) := ⟨_, rfl⟩
    rw [← hD] at hdl ⊢
    by_cases hv : 0 ≤ D ∧ D < base
    · rw [if_neg (by omega), decide_eq_false (by omega), if_neg (by simp), if_pos (by omega), hw, if_pos hv]
      have e1 : wrap64 (wrap64 (n * base) + D) = n * base + D := by unfold wrap64; omega
      rw [e1]
      have := ih k (n * base + D) (i + 1) (by omega) (by omega) (by omega) (by omega)
      rw [show (((i + 1 : Nat)) : Int) = (i : Int) + 1 by omega] at this
      exact this
    · rw [if_neg hv]
      by_cases hn0 : D < 0
      · rw [if_pos hn0, if_pos trivial]
      · rw [if_neg hn0, decide_eq_true (by omega), if_pos rfl]
/-- What number tells. -/
def numSpec (s : ByteArray) (base : Int) (most : Nat) : Int × Bool :=
  if s.size = 0 ∨ s.size > most then (0, false) else match numL base (bytesOf s) 0 with | some v => (v, true) | none => (0, false)
theorem number_f (s : ByteArray) (base : Int) (most : Nat) (hb1 : 1 ≤ base) (hB : base ^ most ≤ 4611686018427387904) (hs : s.size ≤ 140737488355327) (k : Nat) (hk : 2 * s.size + 1 ≤ k) : sign_number.f k s base most = some (numSpec s base most) := by
  unfold sign_number.f numSpec
  by_cases hm : s.size > most
  · rw [if_pos (Or.inr hm)]
    exact number_long s base most (by omega) hs s.size k 0 0 (by omega) (by omega) hk
  · have := number_short s base most (by omega) hB hb1 (by omega) hs s.size k 0 0 (by omega) hk (by omega) (by simp)
    rw [show ((0 : Nat) : Int) = 0 from rfl] at this
    rw [this]
    by_cases hz : s.size = 0
    · rw [if_pos (Or.inl hz), List.drop_zero]
      cases numL base (bytesOf s) 0 <;> simp [hz]
    · rw [if_neg (by omega), List.drop_zero]
      cases numL base (bytesOf s) 0 <;> simp [hz]
theorem Hex_f (s : ByteArray) (hs : s.size ≤ 140737488355327) (k : Nat) (hk : 2 * s.size + 1 ≤ k) : sign_Hex.f k s = some (numSpec s 16 15) := by
  unfold sign_Hex.f
  rw [show (15 : Int) = ((15 : Nat) : Int) from rfl, number_f s 16 15 (by decide) (by decide) hs k hk, Option.bind_some]

end Go.Proofs.YtjgpifjfaiaidaaDoor.Pure

namespace Go.Proofs.YtjgpifjfaiaidaaDoor.Pure
open Go.RowKit Go.Proofs.YtjgpifjfaiaidaaDoor.P Go.Proofs.YtjgpifjfaiaidaaDoorW.PrintWords Go.Proofs.YtjgpifjfaiaidaaDoorW.PrintLast Go.Proofs.YtjgpifjfaiaidaaDoorW.PrintMore
set_option linter.unusedVariables false
set_option linter.unusedSimpArgs false
/-- Blanks behind taken away. -/
def rtrim (l : List UInt8) : List UInt8 := (l.reverse.dropWhile blk).reverse
theorem rtrim_len (l : List UInt8) : (rtrim l).length ≤ l.length := by
  unfold rtrim
  rw [List.length_reverse]
  have := (List.dropWhile_sublist blk (l := l.reverse)).length_le
  rw [List.length_reverse] at this
  exact this
end Go.Proofs.YtjgpifjfaiaidaaDoor.Pure

namespace Go.Proofs.YtjgpifjfaiaidaaDoor.Pure
open Go.RowKit Go.Proofs.YtjgpifjfaiaidaaDoor.P Go.Proofs.YtjgpifjfaiaidaaDoorW.PrintWords Go.Proofs.YtjgpifjfaiaidaaDoorW.PrintLast Go.Proofs.YtjgpifjfaiaidaaDoorW.PrintMore
set_option linter.unusedVariables false
set_option linter.unusedSimpArgs false
/-- The size that a chunk's line tells; is it one? -/
def sizeS (l : List UInt8) : Int × Bool :=
  ((numSpec (mkS (rtrim (l.takeWhile (· != 59)))) 16 15).1, (numSpec (mkS (rtrim (l.takeWhile (· != 59)))) 16 15).2 && (bytesOf (mkS ((l.dropWhile (· != 59)).drop 1))).all valB)
theorem take_none (sp : UInt8) (l : List UInt8) (h : sp ∉ l) : l.takeWhile (· != sp) = l ∧ (l.dropWhile (· != sp)).drop 1 = [] := by
  induction l with
  | nil => simp
  | cons x a ih =>
    have hx : x ≠ sp := fun e => h (by rw [e]; exact List.mem_cons_self ..)
    have := ih (fun e => h (List.mem_cons_of_mem _ e))
    simp only [List.takeWhile_cons, List.dropWhile_cons, bne_iff_ne, ne_eq, hx, not_false_eq_true, if_true]
    exact ⟨by rw [this.1], this.2⟩
theorem sizeS_no (l : List UInt8) (h : 59 ∉ l) : sizeS l = numSpec (mkS (rtrim l)) 16 15 := by
  obtain ⟨e1, e2⟩ := take_none 59 l h
  unfold sizeS
  rw [e1, e2]
  have : (bytesOf (mkS [])).all valB = true := by rw [mkS_bytes]; rfl
  rw [this, Bool.and_true]
theorem sizeS_yes (a b : List UInt8) (h : 59 ∉ a) : sizeS (a ++ 59 :: b) = ((numSpec (mkS (rtrim a)) 16 15).1, (numSpec (mkS (rtrim a)) 16 15).2 && (bytesOf (mkS b)).all valB) := by
  obtain ⟨e1, e2⟩ := take_first 59 a b h
  unfold sizeS
  rw [e1, e2]
theorem TrimRight_f (l : List UInt8) (hl : l.length ≤ 140737488355328) : strings_TrimRight.f (mkS l) ⟨#[32, 9]⟩ = some (mkS (rtrim l)) := by
  unfold strings_TrimRight.f
  rw [if_pos ⟨by rw [mkS_size]; omega, by decide, by decide⟩, mkS_data]
  rfl
theorem numL_bound (xs : List Int) : ∀ (n v : Int) (B : Int), 0 ≤ n → n < B → numL 16 xs n = some v → 0 ≤ v ∧ v < B * 16 ^ xs.length := by
  induction xs with
  | nil => intro n v B h0 h1 h; simp only [numL, Option.some.injEq] at h; subst h; simpa using ⟨h0, h1⟩
  | cons x xs ih =>
    intro n v B h0 h1 h
    rw [numL] at h
    by_cases hd : 0 ≤ digV x ∧ digV x < 16
    · rw [if_pos hd] at h
      have := ih _ v (B * 16) (by omega) (by omega) h
      rw [List.length_cons, Int.pow_succ, Int.mul_comm (16 ^ xs.length) 16, ← Int.mul_assoc]
      exact this
    · rw [if_neg hd] at h; cases h
theorem hexs_bound (s : ByteArray) : 0 ≤ (numSpec s 16 15).1 ∧ (numSpec s 16 15).1 ≤ 1152921504606846976 := by
  unfold numSpec
  split
  · exact ⟨by decide, by decide⟩
  · rename_i h
    cases hv : numL 16 (bytesOf s) 0 with
    | none => exact ⟨by decide, by decide⟩
    | some v =>
      have := numL_bound (bytesOf s) 0 v 1 (by decide) (by decide) hv
      have hl : (bytesOf s).length ≤ 15 := by rw [bytesOf_length]; omega
      have h2 : (16 : Int) ^ (bytesOf s).length ≤ 16 ^ 15 := by
        have := pow_mono' 16 (by decide) (bytesOf s).length (15 - (bytesOf s).length)
        rwa [show (bytesOf s).length + (15 - (bytesOf s).length) = 15 by omega] at this
      exact ⟨this.1, by simp only; have h3 : (16 : Int) ^ 15 = 1152921504606846976 := by decide
                        omega⟩
theorem size_bound (l : List UInt8) : 0 ≤ (sizeS l).1 ∧ (sizeS l).1 ≤ 1152921504606846976 := hexs_bound _
theorem line_f (l : List Int) (p : Nat) (hp : p ≤ l.length) (hl : l.length ≤ 1000000) (k : Nat) (hk : 3 * l.length + 3 ≤ k) :
    chunk_reader_line.f k l p = some ((cutSpec (l.drop p) 256).1, (cutSpec (l.drop p) 256).2.2, (p : Int) + (cutSpec (l.drop p) 256).2.1, decide ((cutSpec (l.drop p) 256).2.1 = 0) && decide ((cutSpec (l.drop p) 256).2.2 = 0)) := by
  unfold chunk_reader_line.f
  have hd : (l.drop p).length = l.length - p := List.length_drop ..
  rw [if_pos (by omega), if_pos (by omega), Int.toNat_natCast, cut_f _ _ (by omega) k (by omega), Option.bind_some]
  have hw : wrap64 ((p : Int) + (cutSpec (l.drop p) 256).2.1) = (p : Int) + (cutSpec (l.drop p) 256).2.1 := by
    rcases cutS_shape (l.drop p) 256 with h | h <;> unfold wrap64 <;> omega
  rw [hw]
theorem size_f (l : List Int) (p : Nat) (hp : p ≤ l.length) (hl : l.length ≤ 1000000) (k : Nat) (hk : 3 * l.length + 3 ≤ k) :
    chunk_reader_size.f k l p = some (if (cutSpec (l.drop p) 256).2.2 = 0 then (if (cutSpec (l.drop p) 256).2.1 = 0 then (0, 0, (p : Int), true) else
        if (sizeS (cutSpec (l.drop p) 256).1.data.toList).2 = true then ((sizeS (cutSpec (l.drop p) 256).1.data.toList).1, 0, (p : Int) + (cutSpec (l.drop p) 256).2.1, false) else (0, 30, (p : Int) + (cutSpec (l.drop p) 256).2.1, false))
      else (0, (cutSpec (l.drop p) 256).2.2, (p : Int) + (cutSpec (l.drop p) 256).2.1, false)) := by
  unfold chunk_reader_size.f
  rw [line_f l p hp hl k hk, Option.bind_some]
  have hsh := cutS_shape (l.drop p) 256
  have hd : (l.drop p).length = l.length - p := List.length_drop ..
  obtain ⟨c, hc⟩ : ∃ c, c = cutSpec (l.drop p) 256 := ⟨_, rfl⟩
  rw [← hc] at hsh ⊢
  simp only
  by_cases h1 : c.2.2 = 0
  · rw [if_pos h1, if_pos h1]
    by_cases h2 : c.2.1 = 0
    · rw [if_pos h2, decide_eq_true h2, decide_eq_true h1, if_pos (by rfl), h2, Int.add_zero]
    · rw [if_neg h2, decide_eq_false h2, Bool.false_and, if_neg (by simp)]
      have hsz : c.1.data.toList.length ≤ 1000000 := by rw [data_length]; rcases hsh with h | h <;> omega
      have e0 : c.1 = mkS c.1.data.toList := (mkS_self _).symm
      obtain ⟨u, hu⟩ : ∃ u, u = c.1.data.toList := ⟨_, rfl⟩
      rw [← hu] at e0 hsz ⊢
      rw [e0]
      have hk2 : 2 * u.length + 1 ≤ k := by
        have : u.length = c.1.size := by rw [hu, data_length]
        rcases hsh with h | h <;> omega
      rcases split_first 59 u with h | ⟨a, b, hab, h⟩
      · have hr := rtrim_len u
        rw [Cut_no 59 u h, Option.bind_some]
        simp only
        rw [TrimRight_f u (by omega), Option.bind_some, Hex_f _ (by rw [mkS_size]; omega) k (by rw [mkS_size]; omega), Option.bind_some, sizeS_no u h]
        cases (numSpec (mkS (rtrim u)) 16 15).2
        · rw [if_neg (by simp), if_neg (by simp)]
        · rw [if_pos rfl, if_pos rfl, Value_f _ (by decide), Option.bind_some, if_pos (by rfl)]
      · subst hab
        have hab : (a ++ 59 :: b).length = a.length + b.length + 1 := by rw [List.length_append, List.length_cons]; omega
        have hr := rtrim_len a
        rw [Cut_yes 59 a b h (by omega), Option.bind_some]
        simp only
        rw [TrimRight_f a (by omega), Option.bind_some, Hex_f _ (by rw [mkS_size]; omega) k (by rw [mkS_size]; omega), Option.bind_some, sizeS_yes a b h]
        cases (numSpec (mkS (rtrim a)) 16 15).2
        · rw [if_neg (by simp), Bool.false_and, if_neg (by simp)]
        · rw [if_pos rfl, Bool.true_and, Value_f _ (by rw [mkS_size]; omega), Option.bind_some]
          cases (bytesOf (mkS b)).all valB <;> rfl
  · rw [if_neg h1, if_neg h1, decide_eq_false h1, Bool.and_false]

end Go.Proofs.YtjgpifjfaiaidaaDoor.Pure

namespace Go.Proofs.YtjgpifjfaiaidaaDoor.Pure
open Go.RowKit Go.Proofs.YtjgpifjfaiaidaaDoor.P Go.Proofs.YtjgpifjfaiaidaaDoorW.PrintWords Go.Proofs.YtjgpifjfaiaidaaDoorW.PrintLast Go.Proofs.YtjgpifjfaiaidaaDoorW.PrintMore
set_option linter.unusedVariables false
set_option linter.unusedSimpArgs false
/-- The lines behind the last chunk, at most d more: the place behind them (0: they are not whole), the error. -/
def trailS (l : List Int) : Nat → Nat → Int × Int
  | 0, _ => (0, 3)
  | d + 1, p => if (cutSpec (l.drop p) 256).2.2 = 0 then (if (cutSpec (l.drop p) 256).2.1 = 0 then (0, 0)
      else if (cutSpec (l.drop p) 256).1.toList = [] then ((p : Int) + (cutSpec (l.drop p) 256).2.1, 0)
      else if fieldOk (cutSpec (l.drop p) 256).1.data.toList = true then trailS l d (p + (cutSpec (l.drop p) 256).2.1.toNat) else (0, 20))
    else (0, (cutSpec (l.drop p) 256).2.2)
/-- The body from a place on. -/
def decS (l : List Int) : Nat → Nat → Int → List Int → List Int × Int × Int
  | 0, _, _, _ => ([], 0, 0)
  | d + 1, p, left, out => if (cutSpec (l.drop p) 256).2.2 = 0 then (if (cutSpec (l.drop p) 256).2.1 = 0 then ([], 0, 0)
      else if (sizeS (cutSpec (l.drop p) 256).1.data.toList).2 = true then (if (sizeS (cutSpec (l.drop p) 256).1.data.toList).1 = 0 then
          (if (trailS l 41 (p + (cutSpec (l.drop p) 256).2.1.toNat)).2 = 0 then (if (trailS l 41 (p + (cutSpec (l.drop p) 256).2.1.toNat)).1 = 0 then ([], 0, 0) else (out, (trailS l 41 (p + (cutSpec (l.drop p) 256).2.1.toNat)).1, 0)) else ([], 0, (trailS l 41 (p + (cutSpec (l.drop p) 256).2.1.toNat)).2))
        else if (sizeS (cutSpec (l.drop p) 256).1.data.toList).1 > left then ([], 0, 2)
        else if (dataOf (l.drop (p + (cutSpec (l.drop p) 256).2.1.toNat)) ((p + (cutSpec (l.drop p) 256).2.1.toNat : Nat) : Int) (sizeS (cutSpec (l.drop p) 256).1.data.toList).1 false).2.1 = 0 then
          (if (dataOf (l.drop (p + (cutSpec (l.drop p) 256).2.1.toNat)) ((p + (cutSpec (l.drop p) 256).2.1.toNat : Nat) : Int) (sizeS (cutSpec (l.drop p) 256).1.data.toList).1 false).2.2.2 = true then ([], 0, 0)
            else decS l d (p + (cutSpec (l.drop p) 256).2.1.toNat + (sizeS (cutSpec (l.drop p) 256).1.data.toList).1.toNat + 2) (left - (sizeS (cutSpec (l.drop p) 256).1.data.toList).1) (out ++ (l.drop (p + (cutSpec (l.drop p) 256).2.1.toNat)).take (sizeS (cutSpec (l.drop p) 256).1.data.toList).1.toNat))
        else ([], 0, 20))
      else ([], 0, 30))
    else ([], 0, (cutSpec (l.drop p) 256).2.2)
theorem trail_f (l : List Int) (hl : l.length ≤ 1000000) : ∀ (d : Nat) (n p k : Nat), n + d = 41 → 1 ≤ d → p ≤ l.length → d + 3 * l.length + 4 ≤ k →
    ∃ q m, chunk_reader_trailer.l k l p n = some ((trailS l d p).2, q, m) ∧ ((trailS l d p).2 = 0 → (m = true ↔ (trailS l d p).1 = 0) ∧ (m = false → q = (trailS l d p).1)) := by
  intro d
  induction d with
  | zero => intro n p k _ h; omega
  | succ d ih =>
    intro n p k hn _ hp hk
    obtain ⟨k, rfl⟩ : ∃ m, k = m + 1 := ⟨k - 1, by omega⟩
    have hsh := cutS_shape (l.drop p) 256
    have hd : (l.drop p).length = l.length - p := List.length_drop ..
    rw [chunk_reader_trailer.l, line_f l p hp hl k (by omega), Option.bind_some, trailS]
    obtain ⟨c, hc⟩ : ∃ c, c = cutSpec (l.drop p) 256 := ⟨_, rfl⟩
    rw [← hc] at hsh ⊢
    simp only
    by_cases h1 : c.2.2 = 0
    · rw [if_pos h1, if_pos h1]
      by_cases h2 : c.2.1 = 0
      · rw [if_pos h2, decide_eq_true h2, decide_eq_true h1, if_pos (by rfl)]
        exact ⟨_, _, rfl, fun _ => ⟨by simp, by simp⟩⟩
      · rw [if_neg h2, decide_eq_false h2, Bool.false_and, if_neg (by simp)]
        by_cases h3 : c.1.toList = []
        · rw [if_pos h3, if_pos h3]
          refine ⟨_, _, rfl, fun _ => ⟨⟨by simp, fun e => ?_⟩, fun _ => rfl⟩⟩
          simp only at e
          rcases hsh with h | h <;> omega
        · rw [if_neg h3, if_neg h3]
          have hz : c.1.data.toList.length = c.1.size := data_length _
          have hz2 : c.2.1 > 0 ∧ c.2.1 ≤ (l.length : Int) - p ∧ (c.1.size : Int) = c.2.1 - 2 := by rcases hsh with h | h <;> omega
          obtain ⟨x, y, hf⟩ := field_f c.1.data.toList (by omega)
          rw [mkS_self] at hf
          rw [hf, Option.bind_some]
          simp only
          cases fieldOk c.1.data.toList
          · rw [if_neg (by simp), if_neg (by decide), if_neg (by simp)]
            exact ⟨_, _, rfl, fun e => by simp at e⟩
          · rw [if_pos rfl, if_pos rfl, if_pos rfl]
            by_cases h4 : (n : Int) = 40
            · obtain rfl : d = 0 := by omega
              rw [if_pos h4, trailS]
              exact ⟨_, _, rfl, fun e => by simp at e⟩
            · rw [if_neg h4]
              have := ih (n + 1) (p + c.2.1.toNat) k (by omega) (by omega) (by omega) (by omega)
              rw [show ((p + c.2.1.toNat : Nat) : Int) = (p : Int) + c.2.1 by omega, show ((n + 1 : Nat) : Int) = (n : Int) + 1 by omega] at this
              exact this
    · rw [if_neg h1, if_neg h1]
      exact ⟨_, _, rfl, fun e => absurd e h1⟩
theorem data_f (l : List Int) (p : Nat) (n : Int) (hp : p ≤ l.length) (h0 : 0 ≤ n) (h1 : n ≤ 1152921504606846976) : chunk_reader_data.f l p n false = some (dataOf (l.drop p) p n false) := by
  unfold chunk_reader_data.f
  rw [if_pos ⟨by omega, by omega, h0, by omega⟩, Int.toNat_natCast]
theorem data_shape (rest : List Int) (p n : Int) (h0 : 0 ≤ p) (hp : p ≤ 1000000) (n0 : 0 ≤ n) (hr : rest.length ≤ 1000000) : (dataOf rest p n false).2.1 = 0 ∨ (dataOf rest p n false).2.1 = 20 := by
  unfold dataOf
  repeat' split
  all_goals first | exact Or.inl rfl | exact Or.inr rfl
theorem data_ok (rest : List Int) (p n : Int) (h0 : 0 ≤ p) (hp : p ≤ 1000000) (n0 : 0 ≤ n) (hr : rest.length ≤ 1000000) (h1 : (dataOf rest p n false).2.1 = 0) (h2 : ¬ (dataOf rest p n false).2.2.2 = true) :
    (dataOf rest p n false).1 = rest.take n.toNat ∧ (dataOf rest p n false).2.2.1 = p + (n + 2) ∧ n + 2 ≤ (rest.length : Int) ∧ rd rest n = 13 ∧ rd rest (n + 1) = 10 := by
  unfold dataOf at h1 h2 ⊢
  by_cases a0 : n < (rest.length : Int)
  · rw [if_pos a0] at h1 h2 ⊢
    by_cases a1 : rd rest n = 13
    · rw [if_pos a1] at h1 h2 ⊢
      by_cases a2 : n + 1 < (rest.length : Int)
      · rw [if_pos a2] at h1 h2 ⊢
        by_cases a3 : rd rest (n + 1) = 10
        · rw [if_pos a3]
          exact ⟨rfl, by show wrap64 (p + (n + 2)) = _; unfold wrap64; omega, by omega, a1, a3⟩
        · rw [if_neg a3] at h1; simp at h1
      · rw [if_neg a2] at h2; simp at h2
    · rw [if_neg a1] at h1; simp at h1
  · rw [if_neg a0] at h2; simp at h2
theorem dec_f (l : List Int) (hl : l.length ≤ 1000000) : ∀ (d p : Nat) (left : Int) (out : List Int) (k : Nat), p ≤ l.length → l.length < p + d → out.length ≤ p → 0 ≤ left → left ≤ 9223372036854775807 → d + 3 * l.length + 60 ≤ k →
    chunk_Decode.l k l p left out = some (decS l d p left out) := by
  intro d
  induction d with
  | zero => intro p left out k h1 h2; omega
  | succ d ih =>
    intro p left out k hp hd ho hl0 hl1 hk
    obtain ⟨k, rfl⟩ : ∃ m, k = m + 1 := ⟨k - 1, by omega⟩
    have hsh := cutS_shape (l.drop p) 256
    have hdl : (l.drop p).length = l.length - p := List.length_drop ..
    rw [chunk_Decode.l, size_f l p hp hl k (by omega), Option.bind_some, decS]
    obtain ⟨c, hc⟩ : ∃ c, c = cutSpec (l.drop p) 256 := ⟨_, rfl⟩
    rw [← hc] at hsh ⊢
    by_cases h1 : c.2.2 = 0
    · rw [if_pos h1, if_pos h1]
      by_cases h2 : c.2.1 = 0
      · rw [if_pos h2, if_pos h2]
        simp
      · have hz2 : c.2.1 > 0 ∧ c.2.1 ≤ (l.length : Int) - p ∧ (c.1.size : Int) = c.2.1 - 2 := by rcases hsh with h | h <;> omega
        rw [if_neg h2, if_neg h2]
        obtain ⟨z, hz⟩ : ∃ z, z = sizeS c.1.data.toList := ⟨_, rfl⟩
        have hzb := size_bound c.1.data.toList
        rw [← hz] at hzb ⊢
        obtain ⟨q, hq⟩ : ∃ q, q = p + c.2.1.toNat := ⟨_, rfl⟩
        have hq2 : (p : Int) + c.2.1 = (q : Int) := by omega
        rw [← hq, hq2]
        by_cases h3 : z.2 = true
        · rw [if_pos h3, if_pos h3]
          simp only
          rw [if_pos trivial, if_neg (by simp)]
          by_cases h4 : z.1 = 0
          · rw [if_pos h4, if_pos h4]
            obtain ⟨q', m, ht, hm⟩ := trail_f l hl 41 0 q k (by omega) (by omega) (by omega) (by omega)
            have ht' : chunk_reader_trailer.f k l q = some ((trailS l 41 q).2, q', m) := ht
            rw [ht', Option.bind_some]
            by_cases h5 : (trailS l 41 q).2 = 0
            · obtain ⟨hm1, hm2⟩ := hm h5
              rw [if_pos h5, if_pos h5]
              by_cases h6 : (trailS l 41 q).1 = 0
              · rw [if_pos h6, if_pos (hm1.2 h6)]
              · have hmf : m = false := by cases m with | false => rfl | true => exact absurd (hm1.1 rfl) h6
                rw [if_neg h6, hmf, if_neg (by simp), hm2 hmf]
            · rw [if_neg h5, if_neg h5]
          · rw [if_neg h4, if_neg h4]
            by_cases h5 : z.1 > left
            · rw [if_pos h5, if_pos h5]
            · rw [if_neg h5, if_neg h5, data_f l q z.1 (by omega) hzb.1 hzb.2, Option.bind_some]
              have hdr : (l.drop q).length = l.length - q := List.length_drop ..
              by_cases h6 : (dataOf (l.drop q) (q : Int) z.1 false).2.1 = 0
              · rw [if_pos h6, if_pos h6]
                by_cases h7 : (dataOf (l.drop q) (q : Int) z.1 false).2.2.2 = true
                · rw [if_pos h7, if_pos h7]
                · obtain ⟨e1, e2, e3, _, _⟩ := data_ok (l.drop q) q z.1 (by omega) (by omega) hzb.1 (by omega) h6 h7
                  have htk : ((l.drop q).take z.1.toNat).length ≤ z.1.toNat := List.length_take_le ..
                  rw [if_neg h7, if_neg h7, e1, e2, if_pos (by omega), show wrap64 (left - z.1) = left - z.1 by unfold wrap64; omega, show (q : Int) + (z.1 + 2) = ((q + z.1.toNat + 2 : Nat) : Int) by omega]
                  exact ih _ _ _ k (by omega) (by omega) (by rw [List.length_append]; omega) (by omega) (by omega) (by omega)
              · rcases data_shape (l.drop q) q z.1 (by omega) (by omega) hzb.1 (by omega) with e | e
                · exact absurd e h6
                · rw [if_neg h6, if_neg h6, e]
        · rw [if_neg h3, if_neg h3]
          simp
    · rw [if_neg h1, if_neg h1]
      simp only
      rw [if_neg h1]
theorem Decode_f (l : List Int) (most : Int) (hl : l.length ≤ 1000000) (hm : most ≤ 9223372036854775807) (k : Nat) (hk : 4 * l.length + 70 ≤ k) : chunk_Decode.f k l most = some (decS l (l.length + 1) 0 (mx most 0) []) := by
  unfold chunk_Decode.f
  exact dec_f l hl (l.length + 1) 0 (mx most 0) [] k (by omega) (by omega) (by simp) (by unfold mx; split <;> omega) (by unfold mx; split <;> omega) (by omega)

end Go.Proofs.YtjgpifjfaiaidaaDoor.Pure

namespace Go.Proofs.YtjgpifjfaiaidaaDoor.Pure
open Go.RowKit Go.Proofs.YtjgpifjfaiaidaaDoor.P Go.Proofs.YtjgpifjfaiaidaaDoorW.PrintWords Go.Proofs.YtjgpifjfaiaidaaDoorW.PrintLast Go.Proofs.YtjgpifjfaiaidaaDoorW.PrintMore
set_option linter.unusedVariables false
set_option linter.unusedSimpArgs false
theorem numL_snoc (b : Int) (xs : List Int) (c : Int) : ∀ n, numL b (xs ++ [c]) n = (numL b xs n).bind fun v => if 0 ≤ digV c ∧ digV c < b then some (v * b + digV c) else none := by
  induction xs with
  | nil => intro n; simp [numL]
  | cons x xs ih =>
    intro n
    simp only [List.cons_append, numL]
    by_cases h : 0 ≤ digV x ∧ digV x < b
    · rw [if_pos h, if_pos h, ih]
    · rw [if_neg h, if_neg h]; rfl
theorem dig_hex (d : Nat) (h : d < 16) : digV (hexd d) = d := by
  have : ∀ m : Fin 16, digV (hexd m.val) = (m.val : Int) := by decide +kernel
  exact this ⟨d, h⟩
theorem hex_back (u : Nat) : numL 16 (hexD u) 0 = some (u : Int) := by
  induction u using Nat.strongRecOn with
  | _ u ih =>
    by_cases h : u < 16
    · rw [hexD_small u h]
      simp only [numL, dig_hex u h]
      rw [if_pos (by omega)]
      congr 1
      omega
    · rw [hexD_big u (by omega), numL_snoc, ih (u / 16) (by omega), Option.bind_some, dig_hex (u % 16) (by omega), if_pos (by omega)]
      congr 1
      omega
theorem hex_len (d : Nat) : ∀ u, u < 16 ^ (d + 1) → 1 ≤ (hexD u).length ∧ (hexD u).length ≤ d + 1 := by
  induction d with
  | zero => intro u h; rw [hexD_small u (by simpa using h)]; simp
  | succ d ih =>
    intro u h
    by_cases h1 : u < 16
    · rw [hexD_small u h1]; simp
    · have h2 : u / 16 < 16 ^ (d + 1) := (Nat.div_lt_iff_lt_mul (by decide)).2 (by rwa [← Nat.pow_succ])
      have := ih _ h2
      rw [hexD_big u (by omega), List.length_append]
      simp
      omega
theorem bytes_hexD (u : Nat) : Bytes (hexD u) := by
  induction u using Nat.strongRecOn with
  | _ u ih =>
    have hd : ∀ d, d < 16 → 0 ≤ hexd d ∧ hexd d ≤ 255 := by intro d hd; unfold hexd; split <;> omega
    by_cases h : u < 16
    · rw [hexD_small u h]; intro x hx; rw [List.mem_singleton.1 hx]; exact hd u h
    · rw [hexD_big u (by omega)]
      intro x hx
      rcases List.mem_append.1 hx with hx | hx
      · exact ih (u / 16) (by omega) x hx
      · rw [List.mem_singleton.1 hx]; exact hd _ (by omega)
theorem hex_spec (u : Nat) (h : u < 16 ^ 15) : numSpec (strOfNums (hexD u)) 16 15 = ((u : Int), true) := by
  have hl := hex_len 14 u h
  unfold numSpec
  rw [str_size, if_neg (by omega), bytes_str (bytes_hexD u), hex_back]

end Go.Proofs.YtjgpifjfaiaidaaDoor.Pure

namespace Go.Proofs.YtjgpifjfaiaidaaDoor.Pure
open Go.RowKit Go.Proofs.YtjgpifjfaiaidaaDoor.P Go.Proofs.YtjgpifjfaiaidaaDoorW.PrintWords Go.Proofs.YtjgpifjfaiaidaaDoorW.PrintLast Go.Proofs.YtjgpifjfaiaidaaDoorW.PrintMore
set_option linter.unusedVariables false
set_option linter.unusedSimpArgs false
theorem HexText_f (n : Int) (h1 : n ≤ 9223372036854775807) : sign_HexText.f n = some (strOfNums (hexD (mx n 0).toNat)) := by
  unfold sign_HexText.f strconv_FormatInt_85.f strconv_FormatInt_105.f
  rw [if_neg (by decide), if_pos rfl, if_pos ⟨by unfold mx; split <;> omega, by unfold mx; split <;> omega⟩]
  rfl

end Go.Proofs.YtjgpifjfaiaidaaDoor.Pure

namespace Go.Proofs.YtjgpifjfaiaidaaDoor.Pure
open Go.RowKit Go.Proofs.YtjgpifjfaiaidaaDoor.P Go.Proofs.YtjgpifjfaiaidaaDoorW.PrintWords Go.Proofs.YtjgpifjfaiaidaaDoorW.PrintLast Go.Proofs.YtjgpifjfaiaidaaDoorW.PrintMore
set_option linter.unusedVariables false
set_option linter.unusedSimpArgs false
/-- A body in chunks. -/
def encF (sz : Int) : Nat → List Int → List Int
  | 0, _ => []
  | k + 1, b => if 0 < b.length then hexD (mx (mn sz (b.length : Int)) 0).toNat ++ ([13, 10] ++ (b.take (mn sz (b.length : Int)).toNat ++ ([13, 10] ++ encF sz k (b.drop (mn sz (b.length : Int)).toNat)))) else [48, 13, 10, 13, 10]
theorem bytes_app (a b : ByteArray) : bytesOf (a ++ b) = bytesOf a ++ bytesOf b := by
  unfold bytesOf
  rw [ByteArray.data_append]
  simp
theorem mn_at (sz : Int) (b : List Int) (hsz : 1 ≤ sz) (hb : 0 < b.length) : 1 ≤ mn sz (b.length : Int) ∧ mn sz (b.length : Int) ≤ (b.length : Int) := by unfold mn; split <;> omega
theorem hex_short (n : Int) (h : n < 140737488355328) : (hexD (mx n 0).toNat).length ≤ 12 := (hex_len 11 _ (by unfold mx; split <;> omega)).2
theorem crlf_bytes : bytesOf (⟨#[13, 10]⟩ : ByteArray) = [13, 10] := by decide
theorem last_bytes : bytesOf (⟨#[48, 13, 10, 13, 10]⟩ : ByteArray) = [48, 13, 10, 13, 10] := by decide
theorem hex_line (n : Int) : bytesOf (strOfNums (hexD (mx n 0).toNat) ++ (⟨#[13, 10]⟩ : ByteArray)) = hexD (mx n 0).toNat ++ [13, 10] := by
  rw [bytes_app, bytes_str (bytes_hexD _), crlf_bytes]
theorem enc_l0 (sz : Int) (hsz : 1 ≤ sz) : ∀ (d : Nat) (b out : List Int) (k : Nat), b.length ≤ d → d < k → out.length + 22 * b.length + 200 < 140737488355328 → chunk_Encode.l0 k b sz out = some (out ++ encF sz (d + 1) b) := by
  intro d
  induction d with
  | zero =>
    intro b out k hb hk ho
    obtain ⟨k, rfl⟩ : ∃ m, k = m + 1 := ⟨k - 1, by omega⟩
    rw [chunk_Encode.l0, encF, if_neg (show ¬ ((b.length : Int) > 0) by omega), if_neg (show ¬ (0 < b.length) by omega), if_pos (by omega), last_bytes]
  | succ d ih =>
    intro b out k hb hk ho
    obtain ⟨k, rfl⟩ : ∃ m, k = m + 1 := ⟨k - 1, by omega⟩
    rw [chunk_Encode.l0, encF]
    by_cases h : 0 < b.length
    · obtain ⟨h1, h2⟩ := mn_at sz b hsz h
      have hx := hex_short (mn sz (b.length : Int)) (by omega)
      rw [if_pos (by omega), if_pos h, HexText_f _ (by omega), Option.bind_some, if_pos (by rw [str_size]; omega), if_pos (by rw [← bytesOf_length, hex_line, List.length_append]; simp; omega), Option.bind_some, if_pos (by omega), if_pos h2, Option.bind_some, hex_line,
        if_pos (by simp only [List.length_append, List.length_take]; simp; omega), Option.bind_some, if_pos (by simp only [List.length_append, List.length_take]; simp; omega), crlf_bytes, ih _ _ k (by rw [List.length_drop]; omega) (by omega) (by simp only [List.length_append, List.length_take, List.length_drop]; simp; omega)]
      simp only [List.append_assoc]
    · rw [if_neg (by omega), if_neg h, if_pos (by omega), last_bytes]
theorem Encode_f (b : List Int) (n : Int) (k : Nat) (hk : b.length < k) (hb : b.length ≤ 1000000) : chunk_Encode.f k b n = some (encF (mx n 1) (b.length + 1) b) := by
  unfold chunk_Encode.f
  rw [enc_l0 (mx n 1) (by unfold mx; split <;> omega) b.length b [] k (Nat.le_refl _) hk (by simp; omega), List.nil_append]

end Go.Proofs.YtjgpifjfaiaidaaDoor.Pure

namespace Go.Proofs.YtjgpifjfaiaidaaDoor.Pure
open Go.RowKit Go.Proofs.YtjgpifjfaiaidaaDoor.P Go.Proofs.YtjgpifjfaiaidaaDoorW.PrintWords Go.Proofs.YtjgpifjfaiaidaaDoorW.PrintLast Go.Proofs.YtjgpifjfaiaidaaDoorW.PrintMore
set_option linter.unusedVariables false
set_option linter.unusedSimpArgs false
theorem cutL_line (xs : List Int) (hs : ∀ x ∈ xs, x ≠ 13 ∧ x ≠ 10) (r : List Int) (m : Int) (hm : (xs.length : Int) ≤ m) (d : Nat) : ∀ (j e : Nat), j + d = xs.length → e = d + 2 + r.length →
    cutAt (xs ++ ([13, 10] ++ r)) m e j = (strOfNums xs, (xs.length : Int) + 2, 0) := by
  induction d with
  | zero =>
    intro j e hj he
    subst he
    obtain rfl : j = xs.length := by omega
    have e1 : rd (xs ++ ([13, 10] ++ r)) (xs.length : Int) = 13 := by rw [rd_append_right _ _ _ (by omega), Int.sub_self]; rfl
    have e2 : rd (xs ++ ([13, 10] ++ r)) ((xs.length : Int) + 1) = 10 := by rw [rd_append_right _ _ _ (by omega), show (xs.length : Int) + 1 - xs.length = 1 by omega]; rfl
    rw [show 0 + 2 + r.length = (r.length + 1) + 1 by omega]
    simp only [cutAt]
    rw [e1, if_neg (by decide), if_pos rfl, if_pos (by rw [List.length_append]; simp; omega), e2, if_pos rfl, Int.toNat_natCast, List.take_left]
  | succ d ih =>
    intro j e hj he
    subst he
    have hlt : j < xs.length := by omega
    have e1 : rd (xs ++ ([13, 10] ++ r)) (j : Int) = xs[j] := by
      rw [rd_append_left _ _ _ (by omega) (by omega)]
      simp [rd, List.getD_eq_getElem?_getD, List.getElem?_eq_getElem hlt]
    obtain ⟨h13, h10⟩ := hs _ (List.getElem_mem hlt)
    rw [show d + 1 + 2 + r.length = (d + 2 + r.length) + 1 by omega]
    simp only [cutAt]
    rw [e1, if_neg h10, if_neg h13, if_neg (by omega)]
    have := ih (j + 1) (d + 2 + r.length) (by omega) rfl
    rw [show ((j + 1 : Nat) : Int) = (j : Int) + 1 by omega] at this
    exact this
theorem cutL (xs : List Int) (hs : ∀ x ∈ xs, x ≠ 13 ∧ x ≠ 10) (r : List Int) (m : Int) (hm : (xs.length : Int) ≤ m) : cutSpec (xs ++ ([13, 10] ++ r)) m = (strOfNums xs, (xs.length : Int) + 2, 0) := by
  have e1 : mx m 0 = m := by unfold mx; split <;> omega
  unfold cutSpec
  rw [e1]
  exact cutL_line xs hs r m hm xs.length 0 _ (by omega) (by rw [List.length_append, List.length_append]; simp; omega)
theorem hexD_digits (u : Nat) : ∀ x ∈ hexD u, ∃ d : Fin 16, x = hexd d.val := by
  induction u using Nat.strongRecOn with
  | _ u ih =>
    by_cases h : u < 16
    · rw [hexD_small u h]; intro x hx; rw [List.mem_singleton.1 hx]; exact ⟨⟨u, h⟩, rfl⟩
    · rw [hexD_big u (by omega)]
      intro x hx
      rcases List.mem_append.1 hx with hx | hx
      · exact ih (u / 16) (by omega) x hx
      · rw [List.mem_singleton.1 hx]; exact ⟨⟨u % 16, by omega⟩, rfl⟩
theorem hexD_plain (u : Nat) : ∀ x ∈ hexD u, x ≠ 13 ∧ x ≠ 10 := by
  intro x hx
  obtain ⟨d, rfl⟩ := hexD_digits u x hx
  have : ∀ d : Fin 16, hexd d.val ≠ 13 ∧ hexd d.val ≠ 10 := by decide
  exact this d
theorem str_list (xs : List Int) : (strOfNums xs).data.toList = xs.map fun n => UInt8.ofNat n.toNat := by simp [strOfNums]
theorem hexD_u8 (u : Nat) : ∀ a ∈ (strOfNums (hexD u)).data.toList, a ≠ 59 ∧ blk a = false := by
  intro a ha
  rw [str_list] at ha
  obtain ⟨x, hx, rfl⟩ := List.mem_map.1 ha
  obtain ⟨d, rfl⟩ := hexD_digits u x hx
  have : ∀ d : Fin 16, UInt8.ofNat (hexd d.val).toNat ≠ 59 ∧ blk (UInt8.ofNat (hexd d.val).toNat) = false := by decide
  exact this d
theorem rtrim_self (l : List UInt8) (h : ∀ a ∈ l, blk a = false) : rtrim l = l := by
  unfold rtrim
  rw [dw_self (fun a ha => h a (List.mem_reverse.1 (List.mem_of_mem_head? ha))), List.reverse_reverse]
theorem sizeS_hex (u : Nat) (h : u < 16 ^ 15) : sizeS (strOfNums (hexD u)).data.toList = ((u : Int), true) := by
  rw [sizeS_no _ (fun e => (hexD_u8 u 59 e).1 rfl), rtrim_self _ (fun a ha => (hexD_u8 u a ha).2), mkS_self, hex_spec u h]
theorem data_whole (t r : List Int) (q : Int) (h0 : 0 ≤ q) (hq : q ≤ 1000000) (ht : t.length ≤ 1000000) : dataOf (t ++ ([13, 10] ++ r)) q (t.length : Int) false = (t, 0, q + ((t.length : Int) + 2), false) := by
  have hl : ((t ++ ([13, 10] ++ r)).length : Int) = t.length + 2 + r.length := by rw [List.length_append, List.length_append]; simp; omega
  have e1 : rd (t ++ ([13, 10] ++ r)) (t.length : Int) = 13 := by rw [rd_append_right _ _ _ (by omega), Int.sub_self]; rfl
  have e2 : rd (t ++ ([13, 10] ++ r)) ((t.length : Int) + 1) = 10 := by rw [rd_append_right _ _ _ (by omega), show (t.length : Int) + 1 - t.length = 1 by omega]; rfl
  unfold dataOf
  rw [if_pos (by omega), e1, if_pos rfl, if_pos (by omega), e2, if_pos rfl, Int.toNat_natCast, List.take_left, show wrap64 (q + ((t.length : Int) + 2)) = q + ((t.length : Int) + 2) by unfold wrap64; omega]
end Go.Proofs.YtjgpifjfaiaidaaDoor.Pure

namespace Go.Proofs.YtjgpifjfaiaidaaDoor.Pure
open Go.RowKit Go.Proofs.YtjgpifjfaiaidaaDoor.P Go.Proofs.YtjgpifjfaiaidaaDoorW.PrintWords Go.Proofs.YtjgpifjfaiaidaaDoorW.PrintLast Go.Proofs.YtjgpifjfaiaidaaDoorW.PrintMore
set_option linter.unusedVariables false
set_option linter.unusedSimpArgs false
/-- The chunks alone. -/
def encB (sz : Int) : Nat → List Int → List Int
  | 0, _ => []
  | k + 1, b => if 0 < b.length then hexD (mx (mn sz (b.length : Int)) 0).toNat ++ ([13, 10] ++ (b.take (mn sz (b.length : Int)).toNat ++ ([13, 10] ++ encB sz k (b.drop (mn sz (b.length : Int)).toNat)))) else []
theorem encF_B (sz : Int) (hsz : 1 ≤ sz) : ∀ (d : Nat) (b : List Int), b.length ≤ d → encF sz (d + 1) b = encB sz (d + 1) b ++ [48, 13, 10, 13, 10] := by
  intro d
  induction d with
  | zero => intro b hb; rw [encF, encB, if_neg (by omega), if_neg (by omega)]; rfl
  | succ d ih =>
    intro b hb
    rw [encF, encB]
    by_cases h : 0 < b.length
    · obtain ⟨h1, h2⟩ := mn_at sz b hsz h
      rw [if_pos h, if_pos h, ih _ (by rw [List.length_drop]; omega)]
      simp only [List.append_assoc]
    · rw [if_neg h, if_neg h]; rfl
theorem encB_ge (sz : Int) (hsz : 1 ≤ sz) : ∀ (d : Nat) (b : List Int), b.length ≤ d → b.length ≤ (encB sz (d + 1) b).length := by
  intro d
  induction d with
  | zero => intro b hb; omega
  | succ d ih =>
    intro b hb
    rw [encB]
    by_cases h : 0 < b.length
    · obtain ⟨h1, h2⟩ := mn_at sz b hsz h
      have := ih (b.drop (mn sz (b.length : Int)).toNat) (by rw [List.length_drop]; omega)
      rw [if_pos h]
      simp only [List.length_append, List.length_take, List.length_drop, List.length_cons, List.length_nil] at this ⊢
      omega
    · omega
/-- Through the chunks to what stands behind them. -/
theorem dec_chunks (sz : Int) (hsz : 1 ≤ sz) (T : List Int) : ∀ (d : Nat) (b pre out : List Int) (D : Nat) (left : Int) (L : List Int), b.length ≤ d → L = pre ++ (encB sz (d + 1) b ++ T) → L.length ≤ 1000000 → L.length < pre.length + D → (b.length : Int) ≤ left →
    ∃ D', L.length < (pre ++ encB sz (d + 1) b).length + D' ∧ decS L D pre.length left out = decS L D' (pre ++ encB sz (d + 1) b).length (left - b.length) (out ++ b) := by
  intro d
  induction d with
  | zero =>
    intro b pre out D left L hb hL hl hD h0
    obtain rfl : b = [] := List.eq_nil_of_length_eq_zero (by omega)
    have e : encB sz (0 + 1) [] = [] := rfl
    exact ⟨D, by rw [e, List.append_nil]; exact hD, by rw [e, List.append_nil, List.append_nil]; simp⟩
  | succ d ih =>
    intro b pre out D left L hb hL hl hD h0
    by_cases hne : 0 < b.length
    · obtain ⟨D, rfl⟩ : ∃ m, D = m + 1 := ⟨D - 1, by rw [hL, List.length_append] at hD; omega⟩
      obtain ⟨h1, h2⟩ := mn_at sz b hsz hne
      have hbg := encB_ge sz hsz (d + 1) b hb
      obtain ⟨n, hn⟩ : ∃ n : Nat, mn sz (b.length : Int) = (n : Int) := ⟨(mn sz (b.length : Int)).toNat, by omega⟩
      have heb : encB sz (d + 1 + 1) b = hexD n ++ ([13, 10] ++ (b.take n ++ ([13, 10] ++ encB sz (d + 1) (b.drop n)))) := by
        rw [encB, if_pos hne, hn, show (mx (n : Int) 0).toNat = n by unfold mx; split <;> omega, Int.toNat_natCast]
      have hbl : b.length ≤ 1000000 := by rw [hL, List.length_append, List.length_append] at hl; omega
      rw [heb] at hL ⊢
      rw [hn] at h1 h2
      have htk : (b.take n).length = n := by rw [List.length_take]; omega
      have hdr : (b.drop n).length = b.length - n := List.length_drop ..
      obtain ⟨R, hR⟩ : ∃ R, R = encB sz (d + 1) (b.drop n) ++ T := ⟨_, rfl⟩
      have hL1 : L = pre ++ (hexD n ++ ([13, 10] ++ (b.take n ++ ([13, 10] ++ R)))) := by rw [hL, hR]; simp only [List.append_assoc]
      have hlen : L.length = pre.length + ((hexD n).length + 2 + n + 2 + R.length) := by rw [hL1]; simp only [List.length_append, List.length_cons, List.length_nil, htk]; omega
      have hx := hex_short (n : Int) (by omega)
      rw [show (mx (n : Int) 0).toNat = n by unfold mx; split <;> omega] at hx
      have e1 : L.drop pre.length = hexD n ++ ([13, 10] ++ (b.take n ++ ([13, 10] ++ R))) := by rw [hL1, List.drop_left]
      have c1 := cutL (hexD n) (hexD_plain n) (b.take n ++ ([13, 10] ++ R)) 256 (by omega)
      have e3 := sizeS_hex n (Nat.lt_of_le_of_lt (show n ≤ 1000000 by omega) (by decide))
      have hq : pre.length + (((hexD n).length : Int) + 2).toNat = (pre ++ (hexD n ++ [13, 10])).length := by simp only [List.length_append, List.length_cons, List.length_nil]; omega
      have e4 : L.drop (pre ++ (hexD n ++ [13, 10])).length = b.take n ++ ([13, 10] ++ R) := by
        rw [hL1, show pre ++ (hexD n ++ ([13, 10] ++ (b.take n ++ ([13, 10] ++ R)))) = (pre ++ (hexD n ++ [13, 10])) ++ (b.take n ++ ([13, 10] ++ R)) by simp only [List.append_assoc], List.drop_left]
      have hql : (pre ++ (hexD n ++ [13, 10])).length = pre.length + (hexD n).length + 2 := by simp only [List.length_append, List.length_cons, List.length_nil]; omega
      have dw := data_whole (b.take n) R ((pre ++ (hexD n ++ [13, 10])).length : Int) (by omega) (by omega) (by omega)
      rw [htk] at dw
      have main : decS L (D + 1) pre.length left out = decS L D ((pre ++ (hexD n ++ [13, 10])).length + n + 2) (left - n) (out ++ b.take n) := by
        rw [decS, e1, c1]
        simp only [e3]
        rw [if_pos trivial, if_neg (by omega), if_pos trivial, if_neg (by omega), hq, e4, dw]
        simp only
        rw [if_neg (by omega), if_pos trivial, if_neg (by simp), Int.toNat_natCast]
        congr 2
        rw [List.take_append_of_le_length (by omega), List.take_of_length_le (by omega)]
      have hpre : (pre ++ (hexD n ++ [13, 10])).length + n + 2 = (pre ++ (hexD n ++ ([13, 10] ++ (b.take n ++ [13, 10])))).length := by simp only [List.length_append, List.length_cons, List.length_nil, htk]; omega
      have hL2 : L = (pre ++ (hexD n ++ ([13, 10] ++ (b.take n ++ [13, 10])))) ++ (encB sz (d + 1) (b.drop n) ++ T) := by rw [hL1, hR]; simp only [List.append_assoc]
      obtain ⟨D', r1, r2⟩ := ih (b.drop n) _ (out ++ b.take n) D (left - n) L (by omega) hL2 hl (by rw [← hpre]; omega) (by omega)
      have hpp : (pre ++ (hexD n ++ ([13, 10] ++ (b.take n ++ [13, 10])))) ++ encB sz (d + 1) (b.drop n) = pre ++ (hexD n ++ ([13, 10] ++ (b.take n ++ ([13, 10] ++ encB sz (d + 1) (b.drop n))))) := by simp only [List.append_assoc]
      rw [hpp] at r1 r2
      refine ⟨D', r1, ?_⟩
      rw [main, hpre, r2, List.append_assoc, List.take_append_drop, show left - (n : Int) - ((b.drop n).length : Int) = left - (b.length : Int) by omega]
    · obtain rfl : b = [] := List.eq_nil_of_length_eq_zero (by omega)
      have e : encB sz (d + 1 + 1) [] = [] := by rw [encB, if_neg hne]
      exact ⟨D, by rw [e, List.append_nil]; exact hD, by rw [e, List.append_nil, List.append_nil]; simp⟩
/-- The last chunk's line. -/
theorem dec_last (L : List Int) (D p : Nat) (left : Int) (out r : List Int) (hD : 0 < D) (h : L.drop p = [48] ++ ([13, 10] ++ r)) :
    decS L D p left out = if (trailS L 41 (p + 3)).2 = 0 then (if (trailS L 41 (p + 3)).1 = 0 then ([], 0, 0) else (out, (trailS L 41 (p + 3)).1, 0)) else ([], 0, (trailS L 41 (p + 3)).2) := by
  obtain ⟨D, rfl⟩ : ∃ m, D = m + 1 := ⟨D - 1, by omega⟩
  have e3 : sizeS (strOfNums [48]).data.toList = (0, true) := by
    have := sizeS_hex 0 (by decide)
    rw [hexD_small 0 (by decide)] at this
    exact this
  have c1 := cutL [48] (by simp) r 256 (by simp)
  rw [decS, h, c1]
  simp only [e3]
  rw [if_pos trivial, if_neg (by decide), if_pos trivial, if_pos trivial, show (p + (([48] : List Int).length + 2 : Int).toNat) = p + 3 from rfl]

end Go.Proofs.YtjgpifjfaiaidaaDoor.Pure

namespace Go.Proofs.YtjgpifjfaiaidaaDoor.Pure
open Go.RowKit Go.Proofs.YtjgpifjfaiaidaaDoor.P Go.Proofs.YtjgpifjfaiaidaaDoorW.PrintWords Go.Proofs.YtjgpifjfaiaidaaDoorW.PrintLast Go.Proofs.YtjgpifjfaiaidaaDoorW.PrintMore
set_option linter.unusedVariables false
set_option linter.unusedSimpArgs false
theorem encF_small (sz : Int) (hsz : 1 ≤ sz) : ∀ (d : Nat) (b : List Int), b.length < 1000000 → (encF sz d b).length ≤ 22 * b.length + 5 := by
  intro d
  induction d with
  | zero => intro b _; simp [encF]
  | succ d ih =>
    intro b hb
    rw [encF]
    by_cases h : 0 < b.length
    · obtain ⟨h1, h2⟩ := mn_at sz b hsz h
      have hx := hex_short (mn sz (b.length : Int)) (by omega)
      have := ih (b.drop (mn sz (b.length : Int)).toNat) (by rw [List.length_drop]; omega)
      rw [if_pos h]
      simp only [List.length_append, List.length_take, List.length_drop, List.length_cons, List.length_nil] at this ⊢
      omega
    · rw [if_neg h]; simp

end Go.Proofs.YtjgpifjfaiaidaaDoor.Pure

namespace Go.Proofs.YtjgpifjfaiaidaaDoor.Pure
open Go.RowKit Go.Proofs.YtjgpifjfaiaidaaDoor.P Go.Proofs.YtjgpifjfaiaidaaDoorW.PrintWords Go.Proofs.YtjgpifjfaiaidaaDoorW.PrintLast Go.Proofs.YtjgpifjfaiaidaaDoorW.PrintMore
set_option linter.unusedVariables false
set_option linter.unusedSimpArgs false
theorem sameB_l0 (xs : List Int) (hn : xs.length ≤ 4398046511104) (d : Nat) : ∀ (k : Nat) (i : Int), 0 ≤ i → (xs.length : Int) - i = d → d + 1 ≤ k → tollbarref01_SameBytes.l0 k xs xs i = some true := by
  induction d with
  | zero =>
    intro k i h0 hd hk
    obtain ⟨k, rfl⟩ : ∃ m, k = m + 1 := ⟨k - 1, by omega⟩
    simp only [tollbarref01_SameBytes.l0]
    rw [if_neg (by omega)]
  | succ d ih =>
    intro k i h0 hd hk
    obtain ⟨k, rfl⟩ : ∃ m, k = m + 1 := ⟨k - 1, by omega⟩
    simp only [tollbarref01_SameBytes.l0]
    rw [if_pos (by omega), if_pos h0, if_pos (by omega), if_pos trivial, show wrap64 (i + 1) = i + 1 by unfold wrap64; omega]
    exact ih k (i + 1) (by omega) (by omega) (by omega)
theorem sameB_eq (xs : List Int) (hn : xs.length ≤ 4398046511104) (k : Nat) (hk : xs.length + 1 ≤ k) : tollbarref01_SameBytes.f k xs xs = some true := by
  unfold tollbarref01_SameBytes.f
  rw [if_pos rfl]
  exact sameB_l0 xs hn xs.length k 0 (by omega) (by omega) hk

end Go.Proofs.YtjgpifjfaiaidaaDoor.Pure

namespace Go.Proofs.YtjgpifjfaiaidaaDoor.Pure
open Go.RowKit Go.Proofs.YtjgpifjfaiaidaaDoor.P Go.Proofs.YtjgpifjfaiaidaaDoorW.PrintWords Go.Proofs.YtjgpifjfaiaidaaDoorW.PrintLast Go.Proofs.YtjgpifjfaiaidaaDoorW.PrintMore
set_option linter.unusedVariables false
set_option linter.unusedSimpArgs false
def goodL : List Int := [78, 97, 109, 101, 58, 32, 118, 97, 108, 117, 101]
def badL : List Int := [110, 111, 32, 102, 105, 101, 108, 100]
/-- m lines from the i-th on; the one at s is bad, if x. -/
def lineL (x : Bool) (s : Nat) : Nat → Nat → List Int
  | _, 0 => []
  | i, m + 1 => (if x = true ∧ i = s then badL else goodL) ++ ([13, 10] ++ lineL x s (i + 1) m)
theorem good_ok : fieldOk (strOfNums goodL).data.toList = true := by decide +kernel
theorem bad_no : fieldOk (strOfNums badL).data.toList = false := by decide +kernel
theorem good_ne : ¬ ((strOfNums goodL).toList = []) := by decide +kernel
theorem bad_ne : ¬ ((strOfNums badL).toList = []) := by decide +kernel
theorem trail_good (L r : List Int) (d p : Nat) (h : L.drop p = goodL ++ ([13, 10] ++ r)) : trailS L (d + 1) p = trailS L d (p + 13) ∧ L.drop (p + 13) = r := by
  have c := cutL goodL (by decide) r 256 (by decide)
  refine ⟨?_, by rw [← List.drop_drop, h]; rfl⟩
  rw [trailS, h, c]
  simp only
  rw [if_pos trivial, if_neg (by decide), if_neg good_ne, if_pos good_ok]
  rfl
theorem trail_bad (L r : List Int) (d p : Nat) (h : L.drop p = badL ++ ([13, 10] ++ r)) : trailS L (d + 1) p = (0, 20) := by
  have c := cutL badL (by decide) r 256 (by decide)
  rw [trailS, h, c]
  simp only
  rw [if_pos trivial, if_neg (by decide), if_neg bad_ne, bad_no, if_neg (by decide)]
theorem trail_all (L : List Int) (x : Bool) (s : Nat) : ∀ (m i d p : Nat), (x = false ∨ s < i ∨ i + m ≤ s) → L.drop p = lineL x s i m ++ [13, 10] → trailS L d p = if d ≤ m then (0, 3) else ((L.length : Int), 0) := by
  intro m
  induction m with
  | zero =>
    intro i d p _ h
    cases d with
    | zero => rfl
    | succ d =>
      have h' : L.drop p = [] ++ ([13, 10] ++ []) := h
      have c := cutL [] (by simp) [] 256 (by simp)
      have hl : (L.drop p).length = 2 := by rw [h]; rfl
      rw [List.length_drop] at hl
      rw [trailS, h', c]
      simp only
      rw [if_pos trivial, if_neg (by decide), if_pos (by rw [show strOfNums [] = mkS [] from rfl, mkS_toList]), if_neg (by omega)]
      congr 1
      simp
      omega
  | succ m ih =>
    intro i d p hx h
    cases d with
    | zero => rfl
    | succ d =>
      rw [lineL, if_neg (by rintro ⟨e1, e2⟩; rcases hx with hx | hx | hx <;> first | (rw [e1] at hx; cases hx) | omega), List.append_assoc, List.append_assoc] at h
      obtain ⟨t1, t2⟩ := trail_good L _ d p h
      rw [t1, ih (i + 1) d (p + 13) (by rcases hx with hx | hx | hx <;> first | exact Or.inl hx | exact Or.inr (Or.inl (by omega)) | exact Or.inr (Or.inr (by omega))) t2]
      by_cases hd : d ≤ m
      · rw [if_pos hd, if_pos (by omega)]
      · rw [if_neg hd, if_neg (by omega)]
theorem trail_spoilt (L : List Int) (s : Nat) : ∀ (m i d p : Nat), i ≤ s → s < i + m → L.drop p = lineL true s i m ++ [13, 10] → trailS L d p = if d ≤ s - i then (0, 3) else (0, 20) := by
  intro m
  induction m with
  | zero => intro i d p h1 h2; omega
  | succ m ih =>
    intro i d p h1 h2 h
    cases d with
    | zero => rw [if_pos (by omega)]; rfl
    | succ d =>
      rw [lineL] at h
      by_cases hi : i = s
      · rw [if_pos ⟨rfl, hi⟩, List.append_assoc, List.append_assoc] at h
        rw [trail_bad L _ d p h, if_neg (by omega)]
      · rw [if_neg (fun e => hi e.2), List.append_assoc, List.append_assoc] at h
        obtain ⟨t1, t2⟩ := trail_good L _ d p h
        rw [t1, ih (i + 1) d (p + 13) (by omega) (by omega) t2]
        by_cases hd : d ≤ s - (i + 1)
        · rw [if_pos hd, if_pos (by omega)]
        · rw [if_neg hd, if_neg (by omega)]
theorem lineL_len (x : Bool) (s : Nat) : ∀ (m i : Nat), (lineL x s i m).length ≤ 13 * m := by
  intro m
  induction m with
  | zero => intro i; exact Nat.le_refl _
  | succ m ih =>
    intro i
    rw [lineL]
    have := ih (i + 1)
    have h2 : (if x = true ∧ i = s then badL else goodL).length ≤ 11 := by split <;> decide
    simp only [List.length_append, List.length_cons, List.length_nil]
    omega
theorem good_bytes : bytesOf (⟨#[78, 97, 109, 101, 58, 32, 118, 97, 108, 117, 101, 13, 10]⟩ : ByteArray) = goodL ++ [13, 10] := by decide
theorem bad_bytes : bytesOf (⟨#[110, 111, 32, 102, 105, 101, 108, 100, 13, 10]⟩ : ByteArray) = badL ++ [13, 10] := by decide
theorem trails_l0 (b : List Int) (n : Nat) (hn : n ≤ 63) (x : Bool) (a3 : Int) (s : Nat) (hs : x = true → 0 < n → Int.tmod (Go.bits .and .i64 a3 1023) (n : Int) = (s : Int)) (R : Option Bool) (K : Nat) (m : Nat) :
    ∀ (k i : Nat) (x9 : List Int), x9.length + 13 * m ≤ 1000000 → i + m = n → (∀ k, K ≤ k → tollbarlaw06_ChunkTrails.l0 k b (n : Int) x a3 (x9 ++ lineL x s i m) (n : Int) = R) → K + m ≤ k → tollbarlaw06_ChunkTrails.l0 k b (n : Int) x a3 x9 (i : Int) = R := by
  induction m with
  | zero =>
    intro k i x9 _ hi hR hk
    obtain rfl : i = n := by omega
    have := hR k (by omega)
    rwa [lineL, List.append_nil] at this
  | succ m ih =>
    intro k i x9 hx hi hR hk
    obtain ⟨k, rfl⟩ : ∃ j, k = j + 1 := ⟨k - 1, by omega⟩
    have hw : wrap64 ((i : Int) + 1) = ((i + 1 : Nat) : Int) := by unfold wrap64; omega
    have step : ∀ ln : List Int, ln.length ≤ 13 → (x9 ++ ln) ++ lineL x s (i + 1) m = x9 ++ lineL x s i (m + 1) → tollbarlaw06_ChunkTrails.l0 k b (n : Int) x a3 (x9 ++ ln) ((i + 1 : Nat) : Int) = R := fun ln hln he =>
      ih k (i + 1) (x9 ++ ln) (by rw [List.length_append]; omega) (by omega) (fun k hk => by rw [he]; exact hR k hk) (by omega)
    rw [tollbarlaw06_ChunkTrails.l0, if_pos (by omega), hw, good_bytes, bad_bytes]
    by_cases hx2 : x = true
    · rw [if_pos hx2, if_neg (by omega), hs hx2 (by omega)]
      by_cases he : (i : Int) = (s : Int)
      · rw [if_pos he, if_pos (by omega)]
        exact step _ (by decide) (by rw [lineL, if_pos ⟨hx2, by omega⟩]; simp only [List.append_assoc])
      · rw [if_neg he, if_pos (by omega)]
        exact step _ (by decide) (by rw [lineL, if_neg (fun e => he (by rw [e.2]))]; simp only [List.append_assoc])
    · rw [if_neg hx2, if_pos (by omega)]
      exact step _ (by decide) (by rw [lineL, if_neg (fun e => hx2 e.1)]; simp only [List.append_assoc])
theorem ChunkTrails : tollbarlaw06_ChunkTrails.Pure := by
  intro b a1 x a3 _ _ _ _ _
  refine ⟨1000000, ?_⟩
  unfold tollbarlaw06_ChunkTrails.f
  rw [show tollbarlaw06_alive.f = some true from rfl, Option.bind_some, if_pos rfl]
  by_cases g1 : (b.length : Int) > 500
  · rw [if_pos g1]
  · have hl := encF_small (mx 100 1) (by decide) (b.length + 1) b (by omega)
    have hB := encF_B (mx 100 1) (by decide) b.length b (Nat.le_refl _)
    have hBl : (encF (mx 100 1) (b.length + 1) b).length = (encB (mx 100 1) (b.length + 1) b).length + 5 := by rw [hB, List.length_append]; rfl
    have hc := dec_chunks (mx 100 1) (by decide)
    obtain ⟨B, hBB⟩ : ∃ B, B = encB (mx 100 1) (b.length + 1) b := ⟨_, rfl⟩
    rw [if_neg g1, Encode_f b 100 _ (by omega) (by omega), Option.bind_some, hB, ← hBB]
    rw [← hBB] at hBl
    have hw : wrap64 (((B ++ [48, 13, 10, 13, 10]).length : Int) - 2) = ((B.length + 3 : Nat) : Int) := by rw [List.length_append]; show wrap64 (((B.length + 5 : Nat) : Int) - 2) = _; unfold wrap64; omega
    have hle : ((B ++ [48, 13, 10, 13, 10]).length : Int) = (B.length : Int) + 5 := by rw [List.length_append]; rfl
    have htk : (B ++ [48, 13, 10, 13, 10]).take (B.length + 3) = B ++ [48, 13, 10] := by rw [List.take_append, List.take_of_length_le (by omega), show B.length + 3 - B.length = 3 by omega]; rfl
    rw [hw, if_pos (by omega), if_pos (by omega), Int.toNat_natCast, htk, and_63]
    obtain ⟨n, hn⟩ : ∃ n : Nat, a1 % 64 = (n : Int) := ⟨(a1 % 64).toNat, by omega⟩
    have hn63 : n ≤ 63 := by omega
    rw [hn]
    obtain ⟨v, hv⟩ : ∃ v : Nat, a3 % 1024 = (v : Int) := ⟨(a3 % 1024).toNat, by omega⟩
    have htm : ∀ y : Nat, Int.tmod (Go.bits .and .i64 a3 1023) (y : Int) = ((v % y : Nat) : Int) := fun y => by rw [and_1023, hv]; exact (Int.ofNat_tmod v y).symm
    refine trails_l0 b n hn63 x a3 (v % n) (fun _ _ => htm n) (some true) 900000 n 1000000 0 (B ++ [48, 13, 10]) (by rw [List.length_append]; simp; omega) (by omega) (fun k hk => ?_) (by omega)
    obtain ⟨k, rfl⟩ : ∃ j, k = j + 2 := ⟨k - 2, by omega⟩
    have hll := lineL_len x (v % n) n 0
    obtain ⟨L, hL⟩ : ∃ L, L = (B ++ [48, 13, 10]) ++ lineL x (v % n) 0 n ++ [13, 10] := ⟨_, rfl⟩
    have hLl : L.length = B.length + 3 + (lineL x (v % n) 0 n).length + 2 := by rw [hL]; simp only [List.length_append, List.length_cons, List.length_nil]
    rw [tollbarlaw06_ChunkTrails.l0, if_neg (by omega), Option.bind_some, if_pos (by simp only [List.length_append, List.length_cons, List.length_nil]; omega), ← hL, Option.bind_some, Decode_f L 500 (by omega) (by decide) _ (by omega), show mx 500 0 = 500 from rfl, Option.bind_some]
    obtain ⟨D', r1, r2⟩ := hc ([48] ++ ([13, 10] ++ (lineL x (v % n) 0 n ++ [13, 10]))) b.length b [] [] (L.length + 1) 500 L (Nat.le_refl _) (by rw [← hBB, hL]; simp only [List.nil_append, List.append_assoc]; rfl) (by omega) (by simp) (by omega)
    rw [← hBB, List.nil_append] at r1 r2
    rw [List.nil_append] at r2
    have hd1 : L.drop B.length = [48] ++ ([13, 10] ++ (lineL x (v % n) 0 n ++ [13, 10])) := by
      rw [hL, show B ++ [48, 13, 10] ++ lineL x (v % n) 0 n ++ [13, 10] = B ++ ([48] ++ ([13, 10] ++ (lineL x (v % n) 0 n ++ [13, 10]))) by simp only [List.append_assoc]; rfl, List.drop_left]
    have hd2 : L.drop (B.length + 3) = lineL x (v % n) 0 n ++ [13, 10] := by rw [← List.drop_drop, hd1]; rfl
    rw [show ([] : List Int).length = 0 from rfl] at r2
    rw [r2, dec_last L D' B.length _ b _ (by omega) hd1]
    have same := sameB_eq b (by omega) k (by omega)
    by_cases hsp : x = true ∧ 0 < n
    · obtain ⟨hx, hn0⟩ := hsp
      have hlt : v % n < n := Nat.mod_lt _ hn0
      subst hx
      have ht := trail_spoilt L (v % n) n 0 41 (B.length + 3) (by omega) (by omega) hd2
      have hmx : mx (n : Int) 1 = (n : Int) := by unfold mx; split <;> omega
      rw [if_pos rfl, if_pos (by omega), hmx, if_neg (by omega), htm n, ht]
      by_cases hq : 41 ≤ v % n - 0
      · rw [if_pos hq]
        simp only
        rw [if_neg (by decide), decide_eq_false (by omega), tollbarlaw06_ChunkTrails.j1, if_neg (by decide), if_pos (by omega)]
        simp only
        rw [if_pos trivial]
        rfl
      · rw [if_neg hq]
        simp only
        rw [if_neg (by decide), decide_eq_true (by omega), tollbarlaw06_ChunkTrails.j1, if_pos rfl]
        simp only
        rw [if_pos trivial]
        rfl
    · have ht := trail_all L x (v % n) n 0 41 (B.length + 3) (by
        cases x with
        | false => exact Or.inl rfl
        | true => exact Or.inr (Or.inr (by have : n = 0 := by
                                            rcases Nat.eq_zero_or_pos n with h | h
                                            · exact h
                                            · exact absurd ⟨rfl, h⟩ hsp
                                           omega))) hd2
      have hj : ∀ r1 r2 r3, (if x = true then (if (n : Int) > 0 then (if (mx (n : Int) 1) = 0 then (none) else (tollbarlaw06_ChunkTrails.j1 (k + 1) b (n : Int) L r1 r2 r3 (decide ((Int.tmod (Go.bits .and .i64 a3 1023) (mx (n : Int) 1)) ≤ 40)))) else (tollbarlaw06_ChunkTrails.j1 (k + 1) b (n : Int) L r1 r2 r3 false)) else (tollbarlaw06_ChunkTrails.j1 (k + 1) b (n : Int) L r1 r2 r3 false)) = tollbarlaw06_ChunkTrails.j1 (k + 1) b (n : Int) L r1 r2 r3 false := fun r1 r2 r3 => by
        by_cases hx : x = true
        · rw [if_pos hx, if_neg (fun e => hsp ⟨hx, by omega⟩)]
        · rw [if_neg hx]
      rw [hj, ht]
      by_cases hq : 41 ≤ n
      · rw [if_pos hq]
        simp only
        rw [if_neg (by decide), tollbarlaw06_ChunkTrails.j1, if_neg (by decide), if_pos (by omega)]
        simp only
        rw [if_pos trivial]
        rfl
      · rw [if_neg hq]
        simp only
        rw [if_pos trivial, if_neg (by omega), tollbarlaw06_ChunkTrails.j1, if_neg (by decide), if_neg (by omega)]
        simp only
        rw [if_pos trivial, if_pos trivial, same, Option.bind_some]

end Go.Proofs.YtjgpifjfaiaidaaDoor.Pure

