/- Each function below answers as its Lean twin says; plain lemmas; a row where its theorem stands. No further condition. (Laid by this repo's pack.py out of its texts and of the print's words.) -/
import Derived.Test.YtfjeinnemimjoaaDoorU0base0x0
import Derived.Test.YtfjeinnemimjoaaDoorUline0x0
import Derived.Test.YtfjeinnemimjoaaDoorUstrings0x0
import Derived.Test.YtfjeinnemimjoaaDoorUstringslite0x0
import Derived.Test.YtfjeinnemimjoaaDoorUsign0x1
import Derived.Test.YtfjeinnemimjoaaDoorUsign0x0
import Derived.Test.YtfjeinnemimjoaaDoorUchunk1x0
import Derived.Test.YtfjeinnemimjoaaDoorUfieldright
import Derived.Test.YtfjeinnemimjoaaDoorUtollbarref020x0
import Derived.Test.YtfjeinnemimjoaaDoorUchunk0x0
import Derived.Test.YtfjeinnemimjoaaDoorUchunk1x1
import Derived.Test.YtfjeinnemimjoaaDoorUstrconv0x0
import Derived.Test.YtfjeinnemimjoaaDoorUchunk0x1
import Derived.Test.YtfjeinnemimjoaaDoorUtollbarref010x0
import Derived.Test.YtfjeinnemimjoaaDoorUtollbarlaw06ChunkSizes
import Derived.Test.YtfjeinnemimjoaaDoorUtollbarlaw060x0
import Derived.Lib.IndexBytes
import Derived.Lib.Strings
import Derived.Shelf.Strings.SlTrimAscii
namespace Go.Proofs.YtfjeinnemimjoaaDoor.Pure
open Go.RowKit Go.Proofs.YtfjeinnemimjoaaDoor.P Go.Proofs.YtfjeinnemimjoaaDoorW.PrintWords Go.Proofs.YtfjeinnemimjoaaDoorW.PrintLast Go.Proofs.YtfjeinnemimjoaaDoorW.PrintMore
set_option linter.unusedVariables false
set_option linter.unusedSimpArgs false
theorem and_mask (x : Int) (j : Nat) (hj : j ≤ 62) : Go.bits .and .i64 x (2 ^ j - 1) = x % 2 ^ j := by
  have hpos : 0 < 2 ^ j := Nat.two_pow_pos j
  have hlt : 2 ^ j ≤ 2 ^ 62 := Nat.pow_le_pow_right (by decide) hj
  have hc : ((2 : Int) ^ j - 1) = ((2 ^ j - 1 : Nat) : Int) := by rw [Int.natCast_sub hpos]; simp
  have hb : (2 ^ j - 1) % 2 ^ 64 = 2 ^ j - 1 := Nat.mod_eq_of_lt (by omega)
  have hd : ((2 : Int) ^ j) ∣ 2 ^ 64 := ⟨2 ^ (64 - j), by rw [← Int.pow_add]; congr 1; omega⟩
  have hk : (BitVec.ofInt 64 x &&& BitVec.ofInt 64 ((2 ^ j - 1 : Nat) : Int)).toNat = (x % ((2 ^ 64 : Nat) : Int)).toNat % 2 ^ j := by
    rw [BitVec.toNat_and, BitVec.ofInt_natCast, BitVec.toNat_ofNat, hb, Nat.and_two_pow_sub_one_eq_mod, BitVec.toNat_ofInt]
  have hg : bits .and .i64 x (2 ^ j - 1) = IntKind.i64.wrap (((BitVec.ofInt 64 x &&& BitVec.ofInt 64 ((2 ^ j - 1 : Nat) : Int)).toNat : Nat) : Int) := by rw [hc]; rfl
  have hx : (((x % ((2 ^ 64 : Nat) : Int)).toNat % 2 ^ j : Nat) : Int) = x % 2 ^ j := by
    rw [Int.natCast_emod, Int.toNat_of_nonneg (Int.emod_nonneg _ (by decide))]
    have := Int.emod_emod_of_dvd x hd
    simpa using this
  rw [hg, hk, hx, IntKind.wrap_i64]
  have h1 : 0 ≤ x % (2 : Int) ^ j := Int.emod_nonneg _ (by have : (0 : Int) < 2 ^ j := by exact_mod_cast hpos
                                                           omega)
  have h2 : x % (2 : Int) ^ j < 2 ^ j := Int.emod_lt_of_pos _ (by exact_mod_cast hpos)
  have h3 : (2 : Int) ^ j ≤ 2 ^ 62 := by exact_mod_cast hlt
  have h4 : (2 : Int) ^ 62 = 4611686018427387904 := by decide
  omega
theorem and_7 (x : Int) : Go.bits .and .i64 x 7 = x % 8 := and_mask x 3 (by decide)
end Go.Proofs.YtfjeinnemimjoaaDoor.Pure

namespace Go.Proofs.YtfjeinnemimjoaaDoor.Pure
open Go.RowKit Go.Proofs.YtfjeinnemimjoaaDoor.P Go.Proofs.YtfjeinnemimjoaaDoorW.PrintWords Go.Proofs.YtfjeinnemimjoaaDoorW.PrintLast Go.Proofs.YtfjeinnemimjoaaDoorW.PrintMore
set_option linter.unusedVariables false
set_option linter.unusedSimpArgs false
theorem str_append (xs ys : List Int) : strOfNums (xs ++ ys) = strOfNums xs ++ strOfNums ys := by
  apply ByteArray.ext
  simp [strOfNums]
theorem str_size (xs : List Int) : (strOfNums xs).size = xs.length := strOfNums_size xs
theorem rd_append_left (l x : List Int) (i : Int) (h0 : 0 ≤ i) (h : i < (l.length : Int)) : rd (l ++ x) i = rd l i := by
  unfold rd
  rw [List.getD_eq_getElem?_getD, List.getD_eq_getElem?_getD, List.getElem?_append_left (by omega)]
theorem rd_append_right (l x : List Int) (i : Int) (h : (l.length : Int) ≤ i) : rd (l ++ x) i = rd x (i - l.length) := by
  unfold rd
  rw [List.getD_eq_getElem?_getD, List.getD_eq_getElem?_getD, List.getElem?_append_right (by omega)]
  congr 2
  omega
theorem take_two (l : List Int) (i : Int) (h0 : 0 ≤ i) (h : i + 1 < (l.length : Int)) : l.take (i + 2).toNat = l.take i.toNat ++ [rd l i, rd l (i + 1)] := by
  obtain ⟨n, rfl⟩ := Int.eq_ofNat_of_zero_le h0
  have e1 : ((n : Int) + 2).toNat = n + 1 + 1 := by omega
  have h1 : n + 1 < l.length := by omega
  rw [e1, List.take_succ_eq_append_getElem h1, List.take_succ_eq_append_getElem (by omega)]
  have e2 : ((n : Int) + 1).toNat = n + 1 := by omega
  simp only [Int.toNat_natCast, rd, e2, List.getD_eq_getElem?_getD, List.getElem?_eq_getElem h1, List.getElem?_eq_getElem (show n < l.length by omega), Option.getD_some, List.append_assoc, List.cons_append, List.nil_append]
theorem w64 {i : Int} {n : Nat} (c : Int) (h0 : 0 ≤ i) (h : i < (n : Int)) (hn : n ≤ 140737488355328) (hc0 : -3 ≤ c) (hc : c ≤ 3) : wrap64 (i + c) = i + c := by
  unfold wrap64; omega
theorem toList_data (s : ByteArray) : s.toList = s.data.toList := by
  simp [ByteArray.toList_eq]
end Go.Proofs.YtfjeinnemimjoaaDoor.Pure

namespace Go.Proofs.YtfjeinnemimjoaaDoor.Pure
open Go.RowKit Go.Proofs.YtfjeinnemimjoaaDoor.P Go.Proofs.YtfjeinnemimjoaaDoorW.PrintWords Go.Proofs.YtfjeinnemimjoaaDoorW.PrintLast Go.Proofs.YtfjeinnemimjoaaDoorW.PrintMore
set_option linter.unusedVariables false
set_option linter.unusedSimpArgs false
/-- The line at the place i of l, with the bound m; d bytes are left. -/
def cutAt (l : List Int) (m : Int) : Nat → Int → (ByteArray × Int × Int)
  | 0, _ => ((⟨#[]⟩ : ByteArray), 0, 0)
  | d + 1, i =>
    if rd l i = 10 then ((⟨#[]⟩ : ByteArray), 0, 20)
    else if rd l i = 13 then
      (if i + 1 < (l.length : Int) then (if rd l (i + 1) = 10 then (strOfNums (l.take i.toNat), i + 2, 0) else ((⟨#[]⟩ : ByteArray), 0, 20)) else ((⟨#[]⟩ : ByteArray), 0, 0))
    else if m ≤ i then ((⟨#[]⟩ : ByteArray), 0, 2) else cutAt l m d (i + 1)

theorem cut_l0 (l : List Int) (a : Int) (hn : l.length ≤ 140737488355328) (d : Nat) : ∀ (k : Nat) (i : Int), 0 ≤ i → (l.length : Int) - i = d → 3 * d + 3 ≤ k →
    line_Cut.l0 k l a l (l.length : Int) i = some (cutAt l (mx a 0) d i) := by
  induction d with
  | zero =>
    intro k i h0 hd hk
    obtain ⟨k, rfl⟩ : ∃ m, k = m + 1 := ⟨k - 1, by omega⟩
    simp only [line_Cut.l0, cutAt]; rw [if_neg (by omega)]
  | succ d ih =>
    intro k i h0 hd hk
    obtain ⟨k, rfl⟩ : ∃ m, k = m + 3 := ⟨k - 3, by omega⟩
    have hlt : i < (l.length : Int) := by omega
    have hw1 : wrap64 (i + 1) = i + 1 := w64 1 h0 hlt hn (by omega) (by omega)
    have hw2 : wrap64 (i + 2) = i + 2 := w64 2 h0 hlt hn (by omega) (by omega)
    have ih' := ih k (i + 1) (by omega) (by omega) (by omega)
    unfold line_Cut.l0
    rw [if_pos hlt, if_pos h0, if_pos hlt]
    unfold line_Cut.j1 line_Cut.j2
    simp only [cutAt, hw1, hw2, ih']
    by_cases h10 : rd l i = 10
    · simp [h10]
    · rw [if_neg h10]
      by_cases h13 : rd l i = 13
      · simp only [h13]
        by_cases h1 : i + 1 < (l.length : Int)
        · by_cases hr : rd l (i + 1) = 10
          · have hne : ¬ (i + 1 = (l.length : Int)) := by omega
            have hle : i ≤ (l.length : Int) := by omega
            have h01 : 0 ≤ i + 1 := by omega
            simp [h1, hr, hne, hle, h01, h0]
          · have h01 : 0 ≤ i + 1 := by omega
            simp [h1, hr, h01]
        · have he : i + 1 = (l.length : Int) := by omega
          simp [he]
      · simp only [h13, if_false, h10]
        by_cases hm : mx a 0 ≤ i
        · simp [hm]
        · simp [hm]

/-- What Cut tells. -/
def cutSpec (l : List Int) (a : Int) : (ByteArray × Int × Int) := cutAt l (mx a 0) l.length 0
theorem cut_f (l : List Int) (a : Int) (hn : l.length ≤ 140737488355328) (k : Nat) (hk : 3 * l.length + 3 ≤ k) : line_Cut.f k l a = some (cutSpec l a) := by
  unfold line_Cut.f cutSpec
  exact cut_l0 l a hn l.length k 0 (by omega) (by omega) hk

end Go.Proofs.YtfjeinnemimjoaaDoor.Pure

namespace Go.Proofs.YtfjeinnemimjoaaDoor.Pure
open Go.RowKit Go.Proofs.YtfjeinnemimjoaaDoor.P Go.Proofs.YtfjeinnemimjoaaDoorW.PrintWords Go.Proofs.YtfjeinnemimjoaaDoorW.PrintLast Go.Proofs.YtfjeinnemimjoaaDoorW.PrintMore
set_option linter.unusedVariables false
set_option linter.unusedSimpArgs false
theorem cutA_shape (l : List Int) (m : Int) (d : Nat) : ∀ (i : Int), 0 ≤ i → (l.length : Int) - i = d →
    ((cutAt l m d i).2.1 > 0 ∧ (cutAt l m d i).2.1 ≤ l.length ∧ strOfNums (l.take (cutAt l m d i).2.1.toNat) = (cutAt l m d i).1 ++ (⟨#[13, 10]⟩ : ByteArray) ∧ ((cutAt l m d i).1.size : Int) = (cutAt l m d i).2.1 - 2 ∧ (cutAt l m d i).2.2 = 0)
    ∨ ((cutAt l m d i).2.1 = 0 ∧ (cutAt l m d i).1 = (⟨#[]⟩ : ByteArray)) := by
  induction d with
  | zero => intro i h0 hd; right; simp [cutAt]
  | succ d ih =>
    intro i h0 hd
    have hlt : i < (l.length : Int) := by omega
    have ih' := ih (i + 1) (by omega) (by omega)
    simp only [cutAt]
    by_cases h10 : rd l i = 10
    · simp [h10]
    · rw [if_neg h10]
      by_cases h13 : rd l i = 13
      · rw [if_pos h13]
        by_cases h1 : i + 1 < (l.length : Int)
        · rw [if_pos h1]
          by_cases hr : rd l (i + 1) = 10
          · rw [if_pos hr]
            left
            refine ⟨by show i + 2 > 0; omega, by show i + 2 ≤ _; omega, ?_, ?_, rfl⟩
            · show strOfNums (l.take (i + 2).toNat) = _
              rw [take_two l i h0 h1, str_append, h13, hr]
              rfl
            · show ((strOfNums (l.take i.toNat)).size : Int) = i + 2 - 2
              rw [str_size, List.length_take]
              omega
          · rw [if_neg hr]; right; exact ⟨rfl, rfl⟩
        · rw [if_neg h1]; right; exact ⟨rfl, rfl⟩
      · rw [if_neg h13]
        by_cases hm : m ≤ i
        · rw [if_pos hm]; right; exact ⟨rfl, rfl⟩
        · rw [if_neg hm]; exact ih'
theorem cutS_shape (l : List Int) (m : Int) :
    (cutSpec l m).2.1 > 0 ∧ (cutSpec l m).2.1 ≤ l.length ∧ ((cutSpec l m).1.size : Int) = (cutSpec l m).2.1 - 2 ∧ (cutSpec l m).2.2 = 0 ∨ (cutSpec l m).2.1 = 0 ∧ (cutSpec l m).1 = (⟨#[]⟩ : ByteArray) := by
  rcases cutA_shape l (mx m 0) l.length 0 (by omega) (by omega) with h | h
  · exact Or.inl ⟨h.1, h.2.1, h.2.2.2.1, h.2.2.2.2⟩
  · exact Or.inr h

end Go.Proofs.YtfjeinnemimjoaaDoor.Pure

namespace Go.Proofs.YtfjeinnemimjoaaDoor.Pure
open Go.RowKit Go.Proofs.YtfjeinnemimjoaaDoor.P Go.Proofs.YtfjeinnemimjoaaDoorW.PrintWords Go.Proofs.YtfjeinnemimjoaaDoorW.PrintLast Go.Proofs.YtfjeinnemimjoaaDoorW.PrintMore
set_option linter.unusedVariables false
set_option linter.unusedSimpArgs false
def mkS (l : List UInt8) : ByteArray := ⟨l.toArray⟩
theorem mkS_data (l : List UInt8) : (mkS l).data.toList = l := by simp [mkS]
theorem mkS_self (s : ByteArray) : mkS s.data.toList = s := by simp [mkS]
theorem mkS_size (l : List UInt8) : (mkS l).size = l.length := by rw [← data_length, mkS_data]
theorem mkS_toList (l : List UInt8) : (mkS l).toList = l := by rw [toList_data, mkS_data]
theorem mkS_extract (l : List UInt8) (a b : Nat) : (mkS l).extract a b = mkS ((l.drop a).take (b - a)) := by
  rw [← mkS_self ((mkS l).extract a b), Lib.extract_data, mkS_data]
theorem mkS_bytes (l : List UInt8) : bytesOf (mkS l) = l.map fun b => (b.toNat : Int) := by unfold bytesOf; rw [mkS_data]
theorem str_bytes (l : List UInt8) : strOfNums (l.map fun b => (b.toNat : Int)) = mkS l := by
  unfold strOfNums mkS
  rw [List.map_map]
  congr 2
  conv => rhs; rw [← List.map_id l]
  exact List.map_congr_left fun b _ => by simp
end Go.Proofs.YtfjeinnemimjoaaDoor.Pure

namespace Go.Proofs.YtfjeinnemimjoaaDoor.Pure
open Go.RowKit Go.Proofs.YtfjeinnemimjoaaDoor.P Go.Proofs.YtfjeinnemimjoaaDoorW.PrintWords Go.Proofs.YtfjeinnemimjoaaDoorW.PrintLast Go.Proofs.YtfjeinnemimjoaaDoorW.PrintMore
set_option linter.unusedVariables false
set_option linter.unusedSimpArgs false
theorem index_append (sp : UInt8) (a b : List UInt8) (h : sp ∉ a) : Lib.indexByte (a ++ sp :: b) sp = a.length := by
  induction a with
  | nil => simp [Lib.indexByte]
  | cons c a ih =>
    have hc : c ≠ sp := fun e => h (e ▸ List.mem_cons_self ..)
    have hb : (c == sp) = false := by simpa using hc
    have h3 := ih (fun e => h (List.mem_cons_of_mem _ e))
    have hn : ((a.length : Int) == -1) = false := by simp only [beq_eq_false_iff_ne]; omega
    simp [Lib.indexByte, hb, h3, hn]
theorem index_none (sp : UInt8) (a : List UInt8) (h : sp ∉ a) : Lib.indexByte a sp = -1 := by
  induction a with
  | nil => simp [Lib.indexByte]
  | cons c a ih =>
    have hc : c ≠ sp := fun e => h (e ▸ List.mem_cons_self ..)
    have hb : (c == sp) = false := by simpa using hc
    have h3 := ih (fun e => h (List.mem_cons_of_mem _ e))
    simp [Lib.indexByte, hb, h3]
theorem slIndex (s : List UInt8) (sp : UInt8) : stringslite_Index.f (mkS s) ⟨#[sp]⟩ = some (Lib.indexByte s sp) := by
  show some (Lib.indexByte (mkS s).data.toList sp) = _
  rw [mkS_data]
theorem Cut_no (sp : UInt8) (s : List UInt8) (h : sp ∉ s) : strings_Cut.f (mkS s) ⟨#[sp]⟩ = some (mkS s, (⟨#[]⟩ : ByteArray), false) := by
  unfold strings_Cut.f stringslite_Cut.f
  rw [slIndex, index_none sp s h, Option.bind_some, if_neg (by decide), Option.bind_some]
theorem Cut_yes (sp : UInt8) (a b : List UInt8) (h : sp ∉ a) (hn : (a ++ sp :: b).length ≤ 140737488355328) : strings_Cut.f (mkS (a ++ sp :: b)) ⟨#[sp]⟩ = some (mkS a, mkS b, true) := by
  unfold strings_Cut.f stringslite_Cut.f
  have hl : (a ++ sp :: b).length = a.length + b.length + 1 := by rw [List.length_append, List.length_cons]; omega
  rw [hl] at hn
  have h1 : ((⟨#[sp]⟩ : ByteArray).size : Int) = 1 := rfl
  have hw : wrap64 ((a.length : Int) + 1) = (a.length : Int) + 1 := by unfold wrap64; omega
  have e1 : ((a.length : Int) + 1).toNat = a.length + 1 := by omega
  rw [slIndex, index_append sp a b h, Option.bind_some, h1, hw, mkS_size, hl, if_pos (by omega), if_pos (by omega), if_pos (by omega), if_pos (by omega), if_pos (by omega), Option.bind_some, e1, Int.toNat_natCast, mkS_extract, mkS_extract, List.drop_zero, Nat.sub_zero, List.take_left, ← List.drop_drop, List.drop_left]
  rw [show List.drop 1 (sp :: b) = b from rfl, List.take_of_length_le (by omega)]
/-- What stands ahead of the first sp, and behind it. -/
theorem split_first (sp : UInt8) (s : List UInt8) : sp ∉ s ∨ ∃ a b, s = a ++ sp :: b ∧ sp ∉ a := by
  induction s with
  | nil => exact .inl (by simp)
  | cons c s ih =>
    by_cases hc : c = sp
    · exact .inr ⟨[], s, by rw [hc]; rfl, by simp⟩
    · rcases ih with h | ⟨a, b, rfl, h⟩
      · refine .inl fun hm => ?_
        rcases List.mem_cons.1 hm with e | e
        · exact hc e.symm
        · exact h e
      · refine .inr ⟨c :: a, b, rfl, fun hm => ?_⟩
        rcases List.mem_cons.1 hm with e | e
        · exact hc e.symm
        · exact h e

end Go.Proofs.YtfjeinnemimjoaaDoor.Pure

namespace Go.Proofs.YtfjeinnemimjoaaDoor.Pure
open Go.RowKit Go.Proofs.YtfjeinnemimjoaaDoor.P Go.Proofs.YtfjeinnemimjoaaDoorW.PrintWords Go.Proofs.YtfjeinnemimjoaaDoorW.PrintLast Go.Proofs.YtfjeinnemimjoaaDoorW.PrintMore
set_option linter.unusedVariables false
set_option linter.unusedSimpArgs false
theorem byte_cases {P : Int → Prop} (h : ∀ n : Fin 256, P (n.val : Int)) (c : Int) (h0 : 0 ≤ c) (h1 : c ≤ 255) : P c := by
  obtain ⟨n, rfl⟩ := Int.eq_ofNat_of_zero_le h0
  exact h ⟨n, by omega⟩
def tokB (c : Int) : Bool := (sign_Token_1.f c).getD false
def valB (c : Int) : Bool := (sign_Value_1.f c).getD false
theorem Token_f (s : ByteArray) (h : s.size ≤ 140737488355328) : sign_Token.f s = some (!s.toList.isEmpty && (bytesOf s).all tokB) := if_pos h
theorem Value_f (s : ByteArray) (h : s.size ≤ 140737488355328) : sign_Value.f s = some ((bytesOf s).all valB) := if_pos h
end Go.Proofs.YtfjeinnemimjoaaDoor.Pure

namespace Go.Proofs.YtfjeinnemimjoaaDoor.Pure
open Go.RowKit Go.Proofs.YtfjeinnemimjoaaDoor.P Go.Proofs.YtfjeinnemimjoaaDoorW.PrintWords Go.Proofs.YtfjeinnemimjoaaDoorW.PrintLast Go.Proofs.YtfjeinnemimjoaaDoorW.PrintMore
set_option linter.unusedVariables false
set_option linter.unusedSimpArgs false
/-- Is a byte a blank? -/
def blk (b : UInt8) : Bool := ([32, 9] : List UInt8).contains b
/-- A text without blanks at its ends. -/
def trm (l : List UInt8) : List UInt8 := (l.reverse.dropWhile blk).reverse.dropWhile blk
theorem dw_self {p : UInt8 → Bool} {l : List UInt8} (h : ∀ a, l.head? = some a → p a = false) : l.dropWhile p = l := by
  cases l with
  | nil => rfl
  | cons a l => simp [List.dropWhile, h a rfl]
theorem Trim_f (s : ByteArray) (h : s.size ≤ 9223372036854775807) : sign_Trim.f s = some ⟨(trm s.data.toList).toArray⟩ := by
  unfold sign_Trim.f strings_Trim.f
  rw [if_pos ⟨h, by decide, by decide⟩]
  rfl

end Go.Proofs.YtfjeinnemimjoaaDoor.Pure

namespace Go.Proofs.YtfjeinnemimjoaaDoor.Pure
open Go.RowKit Go.Proofs.YtfjeinnemimjoaaDoor.P Go.Proofs.YtfjeinnemimjoaaDoorW.PrintWords Go.Proofs.YtfjeinnemimjoaaDoorW.PrintLast Go.Proofs.YtfjeinnemimjoaaDoorW.PrintMore
set_option linter.unusedVariables false
set_option linter.unusedSimpArgs false
/-- Is a field right? -/
def rightB (a t : ByteArray) : Bool := decide (a.size ≤ 100) && ((!a.toList.isEmpty && (bytesOf a).all tokB) && (decide (t.size ≤ 1000) && ((bytesOf t).all valB && (mkS (trm t.data.toList)).toList == t.toList)))
theorem Trim_mk (s : ByteArray) (h : s.size ≤ 9223372036854775807) : sign_Trim.f s = some (mkS (trm s.data.toList)) := Trim_f s h
theorem field_right_f (a t : ByteArray) : field_right.f a t = some (rightB a t) := by
  unfold field_right.f rightB
  by_cases h1 : (a.size : Int) ≤ 100
  · rw [if_pos h1, Token_f a (by omega), Option.bind_some, decide_eq_true (show a.size ≤ 100 by omega), Bool.true_and]
    cases hT : (!a.toList.isEmpty && (bytesOf a).all tokB)
    · rw [if_neg (by simp), Bool.false_and]
    · rw [if_pos rfl, Bool.true_and]
      by_cases h2 : (t.size : Int) ≤ 1000
      · rw [if_pos h2, Value_f t (by omega), Option.bind_some, decide_eq_true (show t.size ≤ 1000 by omega), Bool.true_and]
        cases (bytesOf t).all valB
        · rw [if_neg (by simp), Bool.false_and]
        · rw [if_pos rfl, Bool.true_and, Trim_mk t (by omega), Option.bind_some]
      · rw [if_neg h2, decide_eq_false (show ¬ t.size ≤ 1000 by omega), Bool.false_and]
  · rw [if_neg h1, decide_eq_false (show ¬ a.size ≤ 100 by omega), Bool.false_and]
def fieldOk (l : List UInt8) : Bool := if 58 ∈ l then rightB (mkS (l.takeWhile (· != 58))) (mkS (trm ((l.dropWhile (· != 58)).drop 1))) else false
theorem take_first (sp : UInt8) (a b : List UInt8) (h : sp ∉ a) : (a ++ sp :: b).takeWhile (· != sp) = a ∧ ((a ++ sp :: b).dropWhile (· != sp)).drop 1 = b := by
  induction a with
  | nil => simp [List.takeWhile_cons, List.dropWhile_cons]
  | cons x a ih =>
    have hx : x ≠ sp := fun e => h (by rw [e]; exact List.mem_cons_self ..)
    have := ih (fun e => h (List.mem_cons_of_mem _ e))
    simp only [List.cons_append, List.takeWhile_cons, List.dropWhile_cons, bne_iff_ne, ne_eq, hx, not_false_eq_true, if_true]
    exact ⟨by rw [this.1], this.2⟩
theorem fieldOk_no (l : List UInt8) (h : 58 ∉ l) : fieldOk l = false := by unfold fieldOk; rw [if_neg h]
theorem fieldOk_yes (a b : List UInt8) (h : 58 ∉ a) : fieldOk (a ++ 58 :: b) = rightB (mkS a) (mkS (trm b)) := by
  unfold fieldOk
  obtain ⟨e1, e2⟩ := take_first 58 a b h
  rw [if_pos (by simp), e1, e2]
theorem field_f (l : List UInt8) (hn : l.length ≤ 140737488355328) : ∃ x y, field_Parse.f (mkS l) = some (x, y, if fieldOk l = true then 0 else 20) := by
  unfold field_Parse.f
  rcases split_first 58 l with h | ⟨a, b, rfl, h⟩
  · rw [Cut_no 58 l h, Option.bind_some, fieldOk_no l h]
    simp only
    rw [Trim_mk _ (by decide), Option.bind_some]
    exact ⟨_, _, rfl⟩
  · rw [Cut_yes 58 a b h hn, Option.bind_some, fieldOk_yes a b h]
    simp only
    rw [Trim_mk _ (by rw [mkS_size]; rw [List.length_append, List.length_cons] at hn; omega), Option.bind_some, if_pos trivial, field_right_f, Option.bind_some, mkS_data]
    cases rightB (mkS a) (mkS (trm b)) <;> exact ⟨_, _, rfl⟩

end Go.Proofs.YtfjeinnemimjoaaDoor.Pure

namespace Go.Proofs.YtfjeinnemimjoaaDoor.Pure
open Go.RowKit Go.Proofs.YtfjeinnemimjoaaDoor.P Go.Proofs.YtfjeinnemimjoaaDoorW.PrintWords Go.Proofs.YtfjeinnemimjoaaDoorW.PrintLast Go.Proofs.YtfjeinnemimjoaaDoorW.PrintMore
set_option linter.unusedVariables false
set_option linter.unusedSimpArgs false
theorem fold_tells (s : ByteArray) (hn : s.size ≤ 140737488355328) : sign_Fold.f s = some (strOfNums ((bytesOf s).map foldC)) := if_pos hn
def Bytes (xs : List Int) : Prop := ∀ x ∈ xs, 0 ≤ x ∧ x ≤ 255
theorem foldC_byte (x : Int) (h0 : 0 ≤ x) (h1 : x ≤ 255) : 0 ≤ foldC x ∧ foldC x ≤ 255 := by unfold foldC; split <;> omega
theorem bytes_str {xs : List Int} (h : Bytes xs) : bytesOf (strOfNums xs) = xs := by
  unfold bytesOf
  rw [strOfNums_data, List.map_map]
  conv => rhs; rw [← List.map_id xs]
  refine List.map_congr_left fun x hx => ?_
  have := h x hx
  show ((UInt8.ofNat x.toNat).toNat : Int) = x
  rw [UInt8.toNat_ofNat']
  omega
end Go.Proofs.YtfjeinnemimjoaaDoor.Pure

namespace Go.Proofs.YtfjeinnemimjoaaDoor.Pure
open Go.RowKit Go.Proofs.YtfjeinnemimjoaaDoor.P Go.Proofs.YtfjeinnemimjoaaDoorW.PrintWords Go.Proofs.YtfjeinnemimjoaaDoorW.PrintLast Go.Proofs.YtfjeinnemimjoaaDoorW.PrintMore
set_option linter.unusedVariables false
set_option linter.unusedSimpArgs false
/-- The value of a digit, or -1. -/
def digV (c : Int) : Int := Lib.indexByte [48, 49, 50, 51, 52, 53, 54, 55, 56, 57, 97, 98, 99, 100, 101, 102] (foldC c).toNat.toUInt8
/-- The number of digits, from n on. -/
def numL (base : Int) : List Int → Int → Option Int
  | [], n => some n
  | c :: r, n => if 0 ≤ digV c ∧ digV c < base then numL base r (n * base + digV c) else none
theorem digV_lt (c : Int) (h0 : 0 ≤ c) (h1 : c ≤ 255) : digV c < 16 := by
  obtain ⟨n, rfl⟩ := Int.eq_ofNat_of_zero_le h0
  have h : ∀ m : Fin 256, digV (m.val : Int) < 16 := by decide +kernel
  exact h ⟨n, by omega⟩
theorem one_fold (s : ByteArray) (i : Int) (h0 : 0 ≤ i) (h : i < (s.size : Int)) : sign_Fold.f (s.extract i.toNat (i + 1).toNat) = some (strOfNums [foldC (bt s i)]) := by
  have hl : i.toNat < s.data.toList.length := by rw [data_length]; omega
  have e1 : (s.extract i.toNat (i + 1).toNat).data.toList = [s.data.toList[i.toNat]] := by
    rw [Lib.extract_data, show (i + 1).toNat - i.toNat = 1 by omega, List.drop_eq_getElem_cons hl]
    rfl
  have hz : (s.extract i.toNat (i + 1).toNat).size = 1 := by rw [← data_length, e1]; rfl
  rw [fold_tells _ (by omega)]
  unfold bytesOf
  rw [e1]
  have e2 : ((s.data.toList[i.toNat]).toNat : Int) = bt s i := by
    unfold bt
    rw [dif_pos (by omega)]
    rfl
  simp only [List.map_cons, List.map_nil, e2]
theorem bt_one (x : Int) (h0 : 0 ≤ x) (h1 : x ≤ 255) : bt (strOfNums [x]) 0 = x := by
  have h := bytes_str (xs := [x]) (by intro y hy; rw [List.mem_singleton.1 hy]; exact ⟨h0, h1⟩)
  rw [← rd_bytesOf, h]
  rfl
theorem index_dig (s : ByteArray) (i : Int) : strings_IndexByte.f (⟨#[48, 49, 50, 51, 52, 53, 54, 55, 56, 57, 97, 98, 99, 100, 101, 102]⟩ : ByteArray) (bt (strOfNums [foldC (bt s i)]) 0) = some (digV (bt s i)) := by
  have hr := bt_range s i
  have hf := foldC_byte _ hr.1 hr.2
  rw [bt_one _ hf.1 hf.2]
  rfl
theorem pow_pos' (b : Int) (hb : 1 ≤ b) : ∀ n : Nat, 1 ≤ b ^ n
  | 0 => by simp
  | n + 1 => by
    rw [Int.pow_succ]
    have h1 := pow_pos' b hb n
    have h2 := Int.mul_le_mul_of_nonneg_left hb (show 0 ≤ b ^ n by omega)
    rw [Int.mul_one] at h2
    omega
theorem pow_mono' (b : Int) (hb : 1 ≤ b) (i : Nat) : ∀ d : Nat, b ^ i ≤ b ^ (i + d)
  | 0 => Int.le_refl _
  | d + 1 => by
    rw [← Nat.add_assoc, Int.pow_succ]
    have h0 := pow_mono' b hb i d
    have h1 := pow_pos' b hb (i + d)
    have h2 := Int.mul_le_mul_of_nonneg_left hb (show 0 ≤ b ^ (i + d) by omega)
    rw [Int.mul_one] at h2
    omega
/-- Too long: none. -/
theorem number_long (s : ByteArray) (base most : Int) (hm : (s.size : Int) > most) (hs : s.size ≤ 140737488355327) (d : Nat) : ∀ (k : Nat) (n i : Int), 0 ≤ i → (s.size : Int) - i = d → 2 * d + 1 ≤ k →
    sign_number.l0 k s base most n (s.size : Int) i = some (0, false) := by
  induction d with
  | zero =>
    intro k n i h0 hd hk
    obtain ⟨k, rfl⟩ : ∃ m, k = m + 1 := ⟨k - 1, by omega⟩
    simp only [sign_number.l0]
    rw [if_neg (by omega)]
    repeat' split
    all_goals first | rfl | (exfalso; omega)
  | succ d ih =>
    intro k n i h0 hd hk
    obtain ⟨k, rfl⟩ : ∃ m, k = m + 2 := ⟨k - 2, by omega⟩
    have hw : wrap64 (i + 1) = i + 1 := by unfold wrap64; omega
    have ih' := fun n => ih k n (i + 1) (by omega) (by omega) (by omega)
    simp only [sign_number.l0]
    rw [if_pos (by omega), if_pos h0, hw, if_pos (by omega), if_pos (by omega), one_fold s i h0 (by omega), Option.bind_some, if_pos (by rw [str_size]; simp), index_dig, Option.bind_some]
    simp only [sign_number.j1]
    rw [hw, ih', ih']
    repeat' split
    all_goals rfl
theorem number_short (s : ByteArray) (base : Int) (most : Nat) (hb0 : 0 ≤ base) (hB : base ^ most ≤ 4611686018427387904) (hb1 : 1 ≤ base) (hm : s.size ≤ most) (hs : s.size ≤ 140737488355327) (d : Nat) : ∀ (k : Nat) (n : Int) (i : Nat), i + d = s.size → 2 * d + 1 ≤ k → 0 ≤ n → n + 1 ≤ base ^ i →
    sign_number.l0 k s base most n (s.size : Int) i = some (match numL base ((bytesOf s).drop i) n with | some v => if s.size = 0 then (0, false) else (v, true) | none => (0, false)) := by
  induction d with
  | zero =>
    intro k n i hi hk h0 hn
    obtain ⟨k, rfl⟩ : ∃ m, k = m + 1 := ⟨k - 1, by omega⟩
    rw [List.drop_of_length_le (by rw [bytesOf_length]; omega)]
    simp only [sign_number.l0, numL]
    rw [if_neg (by omega)]
    by_cases hz : s.size = 0
    · have he : s.toList = [] := by rw [toList_data]; exact List.eq_nil_of_length_eq_zero (by rw [data_length]; exact hz)
      rw [if_pos he, if_pos hz]
    · have he : ¬ (s.toList = []) := by
        intro e
        rw [toList_data] at e
        have := data_length s
        rw [e] at this
        exact hz this.symm
      rw [if_neg he, if_neg hz, if_neg (by omega)]
  | succ d ih =>
    intro k n i hi hk h0 hn
    obtain ⟨k, rfl⟩ : ∃ m, k = m + 2 := ⟨k - 2, by omega⟩
    have hw : wrap64 ((i : Int) + 1) = (i : Int) + 1 := by unfold wrap64; omega
    have hl : i < (bytesOf s).length := by rw [bytesOf_length]; omega
    have hg : (bytesOf s)[i] = bt s i := by rw [← rd_bytesOf]; simp [rd, List.getD_eq_getElem?_getD, List.getElem?_eq_getElem hl]
    have hr := bt_range s i
    have hP : base ^ (i + 1) = base ^ i * base := Int.pow_succ _ _
    have hle : base ^ (i + 1) ≤ base ^ most := by
      have := pow_mono' base hb1 (i + 1) (most - (i + 1))
      rwa [show i + 1 + (most - (i + 1)) = most by omega] at this
    have h1 := Int.mul_le_mul_of_nonneg_right hn hb0
    rw [Int.add_mul, ← hP, Int.one_mul] at h1
    have h2 : 0 ≤ n * base := Int.mul_nonneg h0 hb0
    have h3 : 0 ≤ base := hb0
    have hdl := digV_lt _ hr.1 hr.2
    rw [List.drop_eq_getElem_cons hl, hg]
    simp only [sign_number.l0, numL]
    rw [if_pos (by omega), if_pos (by omega), hw, if_pos (by omega), if_pos (by omega), one_fold s i (by omega) (by omega), Option.bind_some, if_pos (by rw [str_size]; simp), index_dig, Option.bind_some]
    simp only [sign_number.j1]
    obtain ⟨D, hD⟩ : ∃ D, D = digV (bt s i) := ⟨_, rfl⟩
    rw [← hD] at hdl ⊢
    by_cases hv : 0 ≤ D ∧ D < base
    · rw [if_neg (by omega), decide_eq_false (by omega), if_neg (by simp), if_pos (by omega), hw, if_pos hv]
      have e1 : wrap64 (wrap64 (n * base) + D) = n * base + D := by unfold wrap64; omega
      rw [e1]
      have := ih k (n * base + D) (i + 1) (by omega) (by omega) (by omega) (by omega)
      rw [show (((i + 1 : Nat)) : Int) = (i : Int) + 1 by omega] at this
      exact this
    · rw [if_neg hv]
      by_cases hn0 : D < 0
      · rw [if_pos hn0, if_pos trivial]
      · rw [if_neg hn0, decide_eq_true (by omega), if_pos rfl]
/-- What number tells. -/
def numSpec (s : ByteArray) (base : Int) (most : Nat) : Int × Bool :=
  if s.size = 0 ∨ s.size > most then (0, false) else match numL base (bytesOf s) 0 with | some v => (v, true) | none => (0, false)
theorem number_f (s : ByteArray) (base : Int) (most : Nat) (hb1 : 1 ≤ base) (hB : base ^ most ≤ 4611686018427387904) (hs : s.size ≤ 140737488355327) (k : Nat) (hk : 2 * s.size + 1 ≤ k) : sign_number.f k s base most = some (numSpec s base most) := by
  unfold sign_number.f numSpec
  by_cases hm : s.size > most
  · rw [if_pos (Or.inr hm)]
    exact number_long s base most (by omega) hs s.size k 0 0 (by omega) (by omega) hk
  · have := number_short s base most (by omega) hB hb1 (by omega) hs s.size k 0 0 (by omega) hk (by omega) (by simp)
    rw [show ((0 : Nat) : Int) = 0 from rfl] at this
    rw [this]
    by_cases hz : s.size = 0
    · rw [if_pos (Or.inl hz), List.drop_zero]
      cases numL base (bytesOf s) 0 <;> simp [hz]
    · rw [if_neg (by omega), List.drop_zero]
      cases numL base (bytesOf s) 0 <;> simp [hz]
theorem Hex_f (s : ByteArray) (hs : s.size ≤ 140737488355327) (k : Nat) (hk : 2 * s.size + 1 ≤ k) : sign_Hex.f k s = some (numSpec s 16 15) := by
  unfold sign_Hex.f
  rw [show (15 : Int) = ((15 : Nat) : Int) from rfl, number_f s 16 15 (by decide) (by decide) hs k hk, Option.bind_some]

end Go.Proofs.YtfjeinnemimjoaaDoor.Pure

namespace Go.Proofs.YtfjeinnemimjoaaDoor.Pure
open Go.RowKit Go.Proofs.YtfjeinnemimjoaaDoor.P Go.Proofs.YtfjeinnemimjoaaDoorW.PrintWords Go.Proofs.YtfjeinnemimjoaaDoorW.PrintLast Go.Proofs.YtfjeinnemimjoaaDoorW.PrintMore
set_option linter.unusedVariables false
set_option linter.unusedSimpArgs false
/-- Blanks behind taken away. -/
def rtrim (l : List UInt8) : List UInt8 := (l.reverse.dropWhile blk).reverse
theorem rtrim_snoc (l : List UInt8) (c : UInt8) : rtrim (l ++ [c]) = if blk c = true then rtrim l else l ++ [c] := by
  unfold rtrim
  rw [List.reverse_append, List.reverse_singleton, List.singleton_append, List.dropWhile_cons]
  split <;> simp
theorem rtrim_len (l : List UInt8) : (rtrim l).length ≤ l.length := by
  unfold rtrim
  rw [List.length_reverse]
  have := (List.dropWhile_sublist blk (l := l.reverse)).length_le
  rw [List.length_reverse] at this
  exact this
end Go.Proofs.YtfjeinnemimjoaaDoor.Pure

namespace Go.Proofs.YtfjeinnemimjoaaDoor.Pure
open Go.RowKit Go.Proofs.YtfjeinnemimjoaaDoor.P Go.Proofs.YtfjeinnemimjoaaDoorW.PrintWords Go.Proofs.YtfjeinnemimjoaaDoorW.PrintLast Go.Proofs.YtfjeinnemimjoaaDoorW.PrintMore
set_option linter.unusedVariables false
set_option linter.unusedSimpArgs false
/-- The size that a chunk's line tells; is it one? -/
def sizeS (l : List UInt8) : Int × Bool :=
  ((numSpec (mkS (rtrim (l.takeWhile (· != 59)))) 16 15).1, (numSpec (mkS (rtrim (l.takeWhile (· != 59)))) 16 15).2 && (bytesOf (mkS ((l.dropWhile (· != 59)).drop 1))).all valB)
theorem take_none (sp : UInt8) (l : List UInt8) (h : sp ∉ l) : l.takeWhile (· != sp) = l ∧ (l.dropWhile (· != sp)).drop 1 = [] := by
  induction l with
  | nil => simp
  | cons x a ih =>
    have hx : x ≠ sp := fun e => h (by rw [e]; exact List.mem_cons_self ..)
    have := ih (fun e => h (List.mem_cons_of_mem _ e))
    simp only [List.takeWhile_cons, List.dropWhile_cons, bne_iff_ne, ne_eq, hx, not_false_eq_true, if_true]
    exact ⟨by rw [this.1], this.2⟩
theorem sizeS_no (l : List UInt8) (h : 59 ∉ l) : sizeS l = numSpec (mkS (rtrim l)) 16 15 := by
  obtain ⟨e1, e2⟩ := take_none 59 l h
  unfold sizeS
  rw [e1, e2]
  have : (bytesOf (mkS [])).all valB = true := by rw [mkS_bytes]; rfl
  rw [this, Bool.and_true]
theorem sizeS_yes (a b : List UInt8) (h : 59 ∉ a) : sizeS (a ++ 59 :: b) = ((numSpec (mkS (rtrim a)) 16 15).1, (numSpec (mkS (rtrim a)) 16 15).2 && (bytesOf (mkS b)).all valB) := by
  obtain ⟨e1, e2⟩ := take_first 59 a b h
  unfold sizeS
  rw [e1, e2]
theorem TrimRight_f (l : List UInt8) (hl : l.length ≤ 140737488355328) : strings_TrimRight.f (mkS l) ⟨#[32, 9]⟩ = some (mkS (rtrim l)) := by
  unfold strings_TrimRight.f
  rw [if_pos ⟨by rw [mkS_size]; omega, by decide, by decide⟩, mkS_data]
  rfl
theorem numL_bound (xs : List Int) : ∀ (n v : Int) (B : Int), 0 ≤ n → n < B → numL 16 xs n = some v → 0 ≤ v ∧ v < B * 16 ^ xs.length := by
  induction xs with
  | nil => intro n v B h0 h1 h; simp only [numL, Option.some.injEq] at h; subst h; simpa using ⟨h0, h1⟩
  | cons x xs ih =>
    intro n v B h0 h1 h
    rw [numL] at h
    by_cases hd : 0 ≤ digV x ∧ digV x < 16
    · rw [if_pos hd] at h
      have := ih _ v (B * 16) (by omega) (by omega) h
      rw [List.length_cons, Int.pow_succ, Int.mul_comm (16 ^ xs.length) 16, ← Int.mul_assoc]
      exact this
    · rw [if_neg hd] at h; cases h
theorem hexs_bound (s : ByteArray) : 0 ≤ (numSpec s 16 15).1 ∧ (numSpec s 16 15).1 ≤ 1152921504606846976 := by
  unfold numSpec
  split
  · exact ⟨by decide, by decide⟩
  · rename_i h
    cases hv : numL 16 (bytesOf s) 0 with
    | none => exact ⟨by decide, by decide⟩
    | some v =>
      have := numL_bound (bytesOf s) 0 v 1 (by decide) (by decide) hv
      have hl : (bytesOf s).length ≤ 15 := by rw [bytesOf_length]; omega
      have h2 : (16 : Int) ^ (bytesOf s).length ≤ 16 ^ 15 := by
        have := pow_mono' 16 (by decide) (bytesOf s).length (15 - (bytesOf s).length)
        rwa [show (bytesOf s).length + (15 - (bytesOf s).length) = 15 by omega] at this
      exact ⟨this.1, by simp only; have h3 : (16 : Int) ^ 15 = 1152921504606846976 := by decide
                        omega⟩
theorem size_bound (l : List UInt8) : 0 ≤ (sizeS l).1 ∧ (sizeS l).1 ≤ 1152921504606846976 := hexs_bound _
theorem line_f (l : List Int) (p : Nat) (hp : p ≤ l.length) (hl : l.length ≤ 1000000) (k : Nat) (hk : 3 * l.length + 3 ≤ k) :
    chunk_reader_line.f k l p = some ((cutSpec (l.drop p) 256).1, (cutSpec (l.drop p) 256).2.2, (p : Int) + (cutSpec (l.drop p) 256).2.1, decide ((cutSpec (l.drop p) 256).2.1 = 0) && decide ((cutSpec (l.drop p) 256).2.2 = 0)) := by
  unfold chunk_reader_line.f
  have hd : (l.drop p).length = l.length - p := List.length_drop ..
  rw [if_pos (by omega), if_pos (by omega), Int.toNat_natCast, cut_f _ _ (by omega) k (by omega), Option.bind_some]
  have hw : wrap64 ((p : Int) + (cutSpec (l.drop p) 256).2.1) = (p : Int) + (cutSpec (l.drop p) 256).2.1 := by
    rcases cutS_shape (l.drop p) 256 with h | h <;> unfold wrap64 <;> omega
  rw [hw]
theorem size_f (l : List Int) (p : Nat) (hp : p ≤ l.length) (hl : l.length ≤ 1000000) (k : Nat) (hk : 3 * l.length + 3 ≤ k) :
    chunk_reader_size.f k l p = some (if (cutSpec (l.drop p) 256).2.2 = 0 then (if (cutSpec (l.drop p) 256).2.1 = 0 then (0, 0, (p : Int), true) else
        if (sizeS (cutSpec (l.drop p) 256).1.data.toList).2 = true then ((sizeS (cutSpec (l.drop p) 256).1.data.toList).1, 0, (p : Int) + (cutSpec (l.drop p) 256).2.1, false) else (0, 30, (p : Int) + (cutSpec (l.drop p) 256).2.1, false))
      else (0, (cutSpec (l.drop p) 256).2.2, (p : Int) + (cutSpec (l.drop p) 256).2.1, false)) := by
  unfold chunk_reader_size.f
  rw [line_f l p hp hl k hk, Option.bind_some]
  have hsh := cutS_shape (l.drop p) 256
  have hd : (l.drop p).length = l.length - p := List.length_drop ..
  obtain ⟨c, hc⟩ : ∃ c, c = cutSpec (l.drop p) 256 := ⟨_, rfl⟩
  rw [← hc] at hsh ⊢
  simp only
  by_cases h1 : c.2.2 = 0
  · rw [if_pos h1, if_pos h1]
    by_cases h2 : c.2.1 = 0
    · rw [if_pos h2, decide_eq_true h2, decide_eq_true h1, if_pos (by rfl), h2, Int.add_zero]
    · rw [if_neg h2, decide_eq_false h2, Bool.false_and, if_neg (by simp)]
      have hsz : c.1.data.toList.length ≤ 1000000 := by rw [data_length]; rcases hsh with h | h <;> omega
      have e0 : c.1 = mkS c.1.data.toList := (mkS_self _).symm
      obtain ⟨u, hu⟩ : ∃ u, u = c.1.data.toList := ⟨_, rfl⟩
      rw [← hu] at e0 hsz ⊢
      rw [e0]
      have hk2 : 2 * u.length + 1 ≤ k := by
        have : u.length = c.1.size := by rw [hu, data_length]
        rcases hsh with h | h <;> omega
      rcases split_first 59 u with h | ⟨a, b, hab, h⟩
      · have hr := rtrim_len u
        rw [Cut_no 59 u h, Option.bind_some]
        simp only
        rw [TrimRight_f u (by omega), Option.bind_some, Hex_f _ (by rw [mkS_size]; omega) k (by rw [mkS_size]; omega), Option.bind_some, sizeS_no u h]
        cases (numSpec (mkS (rtrim u)) 16 15).2
        · rw [if_neg (by simp), if_neg (by simp)]
        · rw [if_pos rfl, if_pos rfl, Value_f _ (by decide), Option.bind_some, if_pos (by rfl)]
      · subst hab
        have hab : (a ++ 59 :: b).length = a.length + b.length + 1 := by rw [List.length_append, List.length_cons]; omega
        have hr := rtrim_len a
        rw [Cut_yes 59 a b h (by omega), Option.bind_some]
        simp only
        rw [TrimRight_f a (by omega), Option.bind_some, Hex_f _ (by rw [mkS_size]; omega) k (by rw [mkS_size]; omega), Option.bind_some, sizeS_yes a b h]
        cases (numSpec (mkS (rtrim a)) 16 15).2
        · rw [if_neg (by simp), Bool.false_and, if_neg (by simp)]
        · rw [if_pos rfl, Bool.true_and, Value_f _ (by rw [mkS_size]; omega), Option.bind_some]
          cases (bytesOf (mkS b)).all valB <;> rfl
  · rw [if_neg h1, if_neg h1, decide_eq_false h1, Bool.and_false]

end Go.Proofs.YtfjeinnemimjoaaDoor.Pure

namespace Go.Proofs.YtfjeinnemimjoaaDoor.Pure
open Go.RowKit Go.Proofs.YtfjeinnemimjoaaDoor.P Go.Proofs.YtfjeinnemimjoaaDoorW.PrintWords Go.Proofs.YtfjeinnemimjoaaDoorW.PrintLast Go.Proofs.YtfjeinnemimjoaaDoorW.PrintMore
set_option linter.unusedVariables false
set_option linter.unusedSimpArgs false
/-- The lines behind the last chunk, at most d more: the place behind them (0: they are not whole), the error. -/
def trailS (l : List Int) : Nat → Nat → Int × Int
  | 0, _ => (0, 3)
  | d + 1, p => if (cutSpec (l.drop p) 256).2.2 = 0 then (if (cutSpec (l.drop p) 256).2.1 = 0 then (0, 0)
      else if (cutSpec (l.drop p) 256).1.toList = [] then ((p : Int) + (cutSpec (l.drop p) 256).2.1, 0)
      else if fieldOk (cutSpec (l.drop p) 256).1.data.toList = true then trailS l d (p + (cutSpec (l.drop p) 256).2.1.toNat) else (0, 20))
    else (0, (cutSpec (l.drop p) 256).2.2)
/-- The body from a place on. -/
def decS (l : List Int) : Nat → Nat → Int → List Int → List Int × Int × Int
  | 0, _, _, _ => ([], 0, 0)
  | d + 1, p, left, out => if (cutSpec (l.drop p) 256).2.2 = 0 then (if (cutSpec (l.drop p) 256).2.1 = 0 then ([], 0, 0)
      else if (sizeS (cutSpec (l.drop p) 256).1.data.toList).2 = true then (if (sizeS (cutSpec (l.drop p) 256).1.data.toList).1 = 0 then
          (if (trailS l 41 (p + (cutSpec (l.drop p) 256).2.1.toNat)).2 = 0 then (if (trailS l 41 (p + (cutSpec (l.drop p) 256).2.1.toNat)).1 = 0 then ([], 0, 0) else (out, (trailS l 41 (p + (cutSpec (l.drop p) 256).2.1.toNat)).1, 0)) else ([], 0, (trailS l 41 (p + (cutSpec (l.drop p) 256).2.1.toNat)).2))
        else if (sizeS (cutSpec (l.drop p) 256).1.data.toList).1 > left then ([], 0, 2)
        else if (dataOf (l.drop (p + (cutSpec (l.drop p) 256).2.1.toNat)) ((p + (cutSpec (l.drop p) 256).2.1.toNat : Nat) : Int) (sizeS (cutSpec (l.drop p) 256).1.data.toList).1 false).2.1 = 0 then
          (if (dataOf (l.drop (p + (cutSpec (l.drop p) 256).2.1.toNat)) ((p + (cutSpec (l.drop p) 256).2.1.toNat : Nat) : Int) (sizeS (cutSpec (l.drop p) 256).1.data.toList).1 false).2.2.2 = true then ([], 0, 0)
            else decS l d (p + (cutSpec (l.drop p) 256).2.1.toNat + (sizeS (cutSpec (l.drop p) 256).1.data.toList).1.toNat + 2) (left - (sizeS (cutSpec (l.drop p) 256).1.data.toList).1) (out ++ (l.drop (p + (cutSpec (l.drop p) 256).2.1.toNat)).take (sizeS (cutSpec (l.drop p) 256).1.data.toList).1.toNat))
        else ([], 0, 20))
      else ([], 0, 30))
    else ([], 0, (cutSpec (l.drop p) 256).2.2)
theorem trail_f (l : List Int) (hl : l.length ≤ 1000000) : ∀ (d : Nat) (n p k : Nat), n + d = 41 → 1 ≤ d → p ≤ l.length → d + 3 * l.length + 4 ≤ k →
    ∃ q m, chunk_reader_trailer.l k l p n = some ((trailS l d p).2, q, m) ∧ ((trailS l d p).2 = 0 → (m = true ↔ (trailS l d p).1 = 0) ∧ (m = false → q = (trailS l d p).1)) := by
  intro d
  induction d with
  | zero => intro n p k _ h; omega
  | succ d ih =>
    intro n p k hn _ hp hk
    obtain ⟨k, rfl⟩ : ∃ m, k = m + 1 := ⟨k - 1, by omega⟩
    have hsh := cutS_shape (l.drop p) 256
    have hd : (l.drop p).length = l.length - p := List.length_drop ..
    rw [chunk_reader_trailer.l, line_f l p hp hl k (by omega), Option.bind_some, trailS]
    obtain ⟨c, hc⟩ : ∃ c, c = cutSpec (l.drop p) 256 := ⟨_, rfl⟩
    rw [← hc] at hsh ⊢
    simp only
    by_cases h1 : c.2.2 = 0
    · rw [if_pos h1, if_pos h1]
      by_cases h2 : c.2.1 = 0
      · rw [if_pos h2, decide_eq_true h2, decide_eq_true h1, if_pos (by rfl)]
        exact ⟨_, _, rfl, fun _ => ⟨by simp, by simp⟩⟩
      · rw [if_neg h2, decide_eq_false h2, Bool.false_and, if_neg (by simp)]
        by_cases h3 : c.1.toList = []
        · rw [if_pos h3, if_pos h3]
          refine ⟨_, _, rfl, fun _ => ⟨⟨by simp, fun e => ?_⟩, fun _ => rfl⟩⟩
          simp only at e
          rcases hsh with h | h <;> omega
        · rw [if_neg h3, if_neg h3]
          have hz : c.1.data.toList.length = c.1.size := data_length _
          have hz2 : c.2.1 > 0 ∧ c.2.1 ≤ (l.length : Int) - p ∧ (c.1.size : Int) = c.2.1 - 2 := by rcases hsh with h | h <;> omega
          obtain ⟨x, y, hf⟩ := field_f c.1.data.toList (by omega)
          rw [mkS_self] at hf
          rw [hf, Option.bind_some]
          simp only
          cases fieldOk c.1.data.toList
          · rw [if_neg (by simp), if_neg (by decide), if_neg (by simp)]
            exact ⟨_, _, rfl, fun e => by simp at e⟩
          · rw [if_pos rfl, if_pos rfl, if_pos rfl]
            by_cases h4 : (n : Int) = 40
            · obtain rfl : d = 0 := by omega
              rw [if_pos h4, trailS]
              exact ⟨_, _, rfl, fun e => by simp at e⟩
            · rw [if_neg h4]
              have := ih (n + 1) (p + c.2.1.toNat) k (by omega) (by omega) (by omega) (by omega)
              rw [show ((p + c.2.1.toNat : Nat) : Int) = (p : Int) + c.2.1 by omega, show ((n + 1 : Nat) : Int) = (n : Int) + 1 by omega] at this
              exact this
    · rw [if_neg h1, if_neg h1]
      exact ⟨_, _, rfl, fun e => absurd e h1⟩
theorem data_f (l : List Int) (p : Nat) (n : Int) (hp : p ≤ l.length) (h0 : 0 ≤ n) (h1 : n ≤ 1152921504606846976) : chunk_reader_data.f l p n false = some (dataOf (l.drop p) p n false) := by
  unfold chunk_reader_data.f
  rw [if_pos ⟨by omega, by omega, h0, by omega⟩, Int.toNat_natCast]
theorem data_shape (rest : List Int) (p n : Int) (h0 : 0 ≤ p) (hp : p ≤ 1000000) (n0 : 0 ≤ n) (hr : rest.length ≤ 1000000) : (dataOf rest p n false).2.1 = 0 ∨ (dataOf rest p n false).2.1 = 20 := by
  unfold dataOf
  repeat' split
  all_goals first | exact Or.inl rfl | exact Or.inr rfl
theorem data_ok (rest : List Int) (p n : Int) (h0 : 0 ≤ p) (hp : p ≤ 1000000) (n0 : 0 ≤ n) (hr : rest.length ≤ 1000000) (h1 : (dataOf rest p n false).2.1 = 0) (h2 : ¬ (dataOf rest p n false).2.2.2 = true) :
    (dataOf rest p n false).1 = rest.take n.toNat ∧ (dataOf rest p n false).2.2.1 = p + (n + 2) ∧ n + 2 ≤ (rest.length : Int) ∧ rd rest n = 13 ∧ rd rest (n + 1) = 10 := by
  unfold dataOf at h1 h2 ⊢
  by_cases a0 : n < (rest.length : Int)
  · rw [if_pos a0] at h1 h2 ⊢
    by_cases a1 : rd rest n = 13
    · rw [if_pos a1] at h1 h2 ⊢
      by_cases a2 : n + 1 < (rest.length : Int)
      · rw [if_pos a2] at h1 h2 ⊢
        by_cases a3 : rd rest (n + 1) = 10
        · rw [if_pos a3]
          exact ⟨rfl, by show wrap64 (p + (n + 2)) = _; unfold wrap64; omega, by omega, a1, a3⟩
        · rw [if_neg a3] at h1; simp at h1
      · rw [if_neg a2] at h2; simp at h2
    · rw [if_neg a1] at h1; simp at h1
  · rw [if_neg a0] at h2; simp at h2
theorem dec_f (l : List Int) (hl : l.length ≤ 1000000) : ∀ (d p : Nat) (left : Int) (out : List Int) (k : Nat), p ≤ l.length → l.length < p + d → out.length ≤ p → 0 ≤ left → left ≤ 9223372036854775807 → d + 3 * l.length + 60 ≤ k →
    chunk_Decode.l k l p left out = some (decS l d p left out) := by
  intro d
  induction d with
  | zero => intro p left out k h1 h2; omega
  | succ d ih =>
    intro p left out k hp hd ho hl0 hl1 hk
    obtain ⟨k, rfl⟩ : ∃ m, k = m + 1 := ⟨k - 1, by omega⟩
    have hsh := cutS_shape (l.drop p) 256
    have hdl : (l.drop p).length = l.length - p := List.length_drop ..
    rw [chunk_Decode.l, size_f l p hp hl k (by omega), Option.bind_some, decS]
    obtain ⟨c, hc⟩ : ∃ c, c = cutSpec (l.drop p) 256 := ⟨_, rfl⟩
    rw [← hc] at hsh ⊢
    by_cases h1 : c.2.2 = 0
    · rw [if_pos h1, if_pos h1]
      by_cases h2 : c.2.1 = 0
      · rw [if_pos h2, if_pos h2]
        simp
      · have hz2 : c.2.1 > 0 ∧ c.2.1 ≤ (l.length : Int) - p ∧ (c.1.size : Int) = c.2.1 - 2 := by rcases hsh with h | h <;> omega
        rw [if_neg h2, if_neg h2]
        obtain ⟨z, hz⟩ : ∃ z, z = sizeS c.1.data.toList := ⟨_, rfl⟩
        have hzb := size_bound c.1.data.toList
        rw [← hz] at hzb ⊢
        obtain ⟨q, hq⟩ : ∃ q, q = p + c.2.1.toNat := ⟨_, rfl⟩
        have hq2 : (p : Int) + c.2.1 = (q : Int) := by omega
        rw [← hq, hq2]
        by_cases h3 : z.2 = true
        · rw [if_pos h3, if_pos h3]
          simp only
          rw [if_pos trivial, if_neg (by simp)]
          by_cases h4 : z.1 = 0
          · rw [if_pos h4, if_pos h4]
            obtain ⟨q', m, ht, hm⟩ := trail_f l hl 41 0 q k (by omega) (by omega) (by omega) (by omega)
            have ht' : chunk_reader_trailer.f k l q = some ((trailS l 41 q).2, q', m) := ht
            rw [ht', Option.bind_some]
            by_cases h5 : (trailS l 41 q).2 = 0
            · obtain ⟨hm1, hm2⟩ := hm h5
              rw [if_pos h5, if_pos h5]
              by_cases h6 : (trailS l 41 q).1 = 0
              · rw [if_pos h6, if_pos (hm1.2 h6)]
              · have hmf : m = false := by cases m with | false => rfl | true => exact absurd (hm1.1 rfl) h6
                rw [if_neg h6, hmf, if_neg (by simp), hm2 hmf]
            · rw [if_neg h5, if_neg h5]
          · rw [if_neg h4, if_neg h4]
            by_cases h5 : z.1 > left
            · rw [if_pos h5, if_pos h5]
            · rw [if_neg h5, if_neg h5, data_f l q z.1 (by omega) hzb.1 hzb.2, Option.bind_some]
              have hdr : (l.drop q).length = l.length - q := List.length_drop ..
              by_cases h6 : (dataOf (l.drop q) (q : Int) z.1 false).2.1 = 0
              · rw [if_pos h6, if_pos h6]
                by_cases h7 : (dataOf (l.drop q) (q : Int) z.1 false).2.2.2 = true
                · rw [if_pos h7, if_pos h7]
                · obtain ⟨e1, e2, e3, _, _⟩ := data_ok (l.drop q) q z.1 (by omega) (by omega) hzb.1 (by omega) h6 h7
                  have htk : ((l.drop q).take z.1.toNat).length ≤ z.1.toNat := List.length_take_le ..
                  rw [if_neg h7, if_neg h7, e1, e2, if_pos (by omega), show wrap64 (left - z.1) = left - z.1 by unfold wrap64; omega, show (q : Int) + (z.1 + 2) = ((q + z.1.toNat + 2 : Nat) : Int) by omega]
                  exact ih _ _ _ k (by omega) (by omega) (by rw [List.length_append]; omega) (by omega) (by omega) (by omega)
              · rcases data_shape (l.drop q) q z.1 (by omega) (by omega) hzb.1 (by omega) with e | e
                · exact absurd e h6
                · rw [if_neg h6, if_neg h6, e]
        · rw [if_neg h3, if_neg h3]
          simp
    · rw [if_neg h1, if_neg h1]
      simp only
      rw [if_neg h1]
theorem Decode_f (l : List Int) (most : Int) (hl : l.length ≤ 1000000) (hm : most ≤ 9223372036854775807) (k : Nat) (hk : 4 * l.length + 70 ≤ k) : chunk_Decode.f k l most = some (decS l (l.length + 1) 0 (mx most 0) []) := by
  unfold chunk_Decode.f
  exact dec_f l hl (l.length + 1) 0 (mx most 0) [] k (by omega) (by omega) (by simp) (by unfold mx; split <;> omega) (by unfold mx; split <;> omega) (by omega)

end Go.Proofs.YtfjeinnemimjoaaDoor.Pure

namespace Go.Proofs.YtfjeinnemimjoaaDoor.Pure
open Go.RowKit Go.Proofs.YtfjeinnemimjoaaDoor.P Go.Proofs.YtfjeinnemimjoaaDoorW.PrintWords Go.Proofs.YtfjeinnemimjoaaDoorW.PrintLast Go.Proofs.YtfjeinnemimjoaaDoorW.PrintMore
set_option linter.unusedVariables false
set_option linter.unusedSimpArgs false
theorem numL_snoc (b : Int) (xs : List Int) (c : Int) : ∀ n, numL b (xs ++ [c]) n = (numL b xs n).bind fun v => if 0 ≤ digV c ∧ digV c < b then some (v * b + digV c) else none := by
  induction xs with
  | nil => intro n; simp [numL]
  | cons x xs ih =>
    intro n
    simp only [List.cons_append, numL]
    by_cases h : 0 ≤ digV x ∧ digV x < b
    · rw [if_pos h, if_pos h, ih]
    · rw [if_neg h, if_neg h]; rfl
theorem dig_hex (d : Nat) (h : d < 16) : digV (hexd d) = d := by
  have : ∀ m : Fin 16, digV (hexd m.val) = (m.val : Int) := by decide +kernel
  exact this ⟨d, h⟩
theorem hex_back (u : Nat) : numL 16 (hexD u) 0 = some (u : Int) := by
  induction u using Nat.strongRecOn with
  | _ u ih =>
    by_cases h : u < 16
    · rw [hexD_small u h]
      simp only [numL, dig_hex u h]
      rw [if_pos (by omega)]
      congr 1
      omega
    · rw [hexD_big u (by omega), numL_snoc, ih (u / 16) (by omega), Option.bind_some, dig_hex (u % 16) (by omega), if_pos (by omega)]
      congr 1
      omega
theorem hex_len (d : Nat) : ∀ u, u < 16 ^ (d + 1) → 1 ≤ (hexD u).length ∧ (hexD u).length ≤ d + 1 := by
  induction d with
  | zero => intro u h; rw [hexD_small u (by simpa using h)]; simp
  | succ d ih =>
    intro u h
    by_cases h1 : u < 16
    · rw [hexD_small u h1]; simp
    · have h2 : u / 16 < 16 ^ (d + 1) := (Nat.div_lt_iff_lt_mul (by decide)).2 (by rwa [← Nat.pow_succ])
      have := ih _ h2
      rw [hexD_big u (by omega), List.length_append]
      simp
      omega
theorem bytes_hexD (u : Nat) : Bytes (hexD u) := by
  induction u using Nat.strongRecOn with
  | _ u ih =>
    have hd : ∀ d, d < 16 → 0 ≤ hexd d ∧ hexd d ≤ 255 := by intro d hd; unfold hexd; split <;> omega
    by_cases h : u < 16
    · rw [hexD_small u h]; intro x hx; rw [List.mem_singleton.1 hx]; exact hd u h
    · rw [hexD_big u (by omega)]
      intro x hx
      rcases List.mem_append.1 hx with hx | hx
      · exact ih (u / 16) (by omega) x hx
      · rw [List.mem_singleton.1 hx]; exact hd _ (by omega)
theorem hex_spec (u : Nat) (h : u < 16 ^ 15) : numSpec (strOfNums (hexD u)) 16 15 = ((u : Int), true) := by
  have hl := hex_len 14 u h
  unfold numSpec
  rw [str_size, if_neg (by omega), bytes_str (bytes_hexD u), hex_back]

end Go.Proofs.YtfjeinnemimjoaaDoor.Pure

namespace Go.Proofs.YtfjeinnemimjoaaDoor.Pure
open Go.RowKit Go.Proofs.YtfjeinnemimjoaaDoor.P Go.Proofs.YtfjeinnemimjoaaDoorW.PrintWords Go.Proofs.YtfjeinnemimjoaaDoorW.PrintLast Go.Proofs.YtfjeinnemimjoaaDoorW.PrintMore
set_option linter.unusedVariables false
set_option linter.unusedSimpArgs false
end Go.Proofs.YtfjeinnemimjoaaDoor.Pure

namespace Go.Proofs.YtfjeinnemimjoaaDoor.Pure
open Go.RowKit Go.Proofs.YtfjeinnemimjoaaDoor.P Go.Proofs.YtfjeinnemimjoaaDoorW.PrintWords Go.Proofs.YtfjeinnemimjoaaDoorW.PrintLast Go.Proofs.YtfjeinnemimjoaaDoorW.PrintMore
set_option linter.unusedVariables false
set_option linter.unusedSimpArgs false
end Go.Proofs.YtfjeinnemimjoaaDoor.Pure

namespace Go.Proofs.YtfjeinnemimjoaaDoor.Pure
open Go.RowKit Go.Proofs.YtfjeinnemimjoaaDoor.P Go.Proofs.YtfjeinnemimjoaaDoorW.PrintWords Go.Proofs.YtfjeinnemimjoaaDoorW.PrintLast Go.Proofs.YtfjeinnemimjoaaDoorW.PrintMore
set_option linter.unusedVariables false
set_option linter.unusedSimpArgs false
theorem cutL_line (xs : List Int) (hs : ∀ x ∈ xs, x ≠ 13 ∧ x ≠ 10) (r : List Int) (m : Int) (hm : (xs.length : Int) ≤ m) (d : Nat) : ∀ (j e : Nat), j + d = xs.length → e = d + 2 + r.length →
    cutAt (xs ++ ([13, 10] ++ r)) m e j = (strOfNums xs, (xs.length : Int) + 2, 0) := by
  induction d with
  | zero =>
    intro j e hj he
    subst he
    obtain rfl : j = xs.length := by omega
    have e1 : rd (xs ++ ([13, 10] ++ r)) (xs.length : Int) = 13 := by rw [rd_append_right _ _ _ (by omega), Int.sub_self]; rfl
    have e2 : rd (xs ++ ([13, 10] ++ r)) ((xs.length : Int) + 1) = 10 := by rw [rd_append_right _ _ _ (by omega), show (xs.length : Int) + 1 - xs.length = 1 by omega]; rfl
    rw [show 0 + 2 + r.length = (r.length + 1) + 1 by omega]
    simp only [cutAt]
    rw [e1, if_neg (by decide), if_pos rfl, if_pos (by rw [List.length_append]; simp; omega), e2, if_pos rfl, Int.toNat_natCast, List.take_left]
  | succ d ih =>
    intro j e hj he
    subst he
    have hlt : j < xs.length := by omega
    have e1 : rd (xs ++ ([13, 10] ++ r)) (j : Int) = xs[j] := by
      rw [rd_append_left _ _ _ (by omega) (by omega)]
      simp [rd, List.getD_eq_getElem?_getD, List.getElem?_eq_getElem hlt]
    obtain ⟨h13, h10⟩ := hs _ (List.getElem_mem hlt)
    rw [show d + 1 + 2 + r.length = (d + 2 + r.length) + 1 by omega]
    simp only [cutAt]
    rw [e1, if_neg h10, if_neg h13, if_neg (by omega)]
    have := ih (j + 1) (d + 2 + r.length) (by omega) rfl
    rw [show ((j + 1 : Nat) : Int) = (j : Int) + 1 by omega] at this
    exact this
theorem cutL (xs : List Int) (hs : ∀ x ∈ xs, x ≠ 13 ∧ x ≠ 10) (r : List Int) (m : Int) (hm : (xs.length : Int) ≤ m) : cutSpec (xs ++ ([13, 10] ++ r)) m = (strOfNums xs, (xs.length : Int) + 2, 0) := by
  have e1 : mx m 0 = m := by unfold mx; split <;> omega
  unfold cutSpec
  rw [e1]
  exact cutL_line xs hs r m hm xs.length 0 _ (by omega) (by rw [List.length_append, List.length_append]; simp; omega)
theorem hexD_digits (u : Nat) : ∀ x ∈ hexD u, ∃ d : Fin 16, x = hexd d.val := by
  induction u using Nat.strongRecOn with
  | _ u ih =>
    by_cases h : u < 16
    · rw [hexD_small u h]; intro x hx; rw [List.mem_singleton.1 hx]; exact ⟨⟨u, h⟩, rfl⟩
    · rw [hexD_big u (by omega)]
      intro x hx
      rcases List.mem_append.1 hx with hx | hx
      · exact ih (u / 16) (by omega) x hx
      · rw [List.mem_singleton.1 hx]; exact ⟨⟨u % 16, by omega⟩, rfl⟩
theorem str_list (xs : List Int) : (strOfNums xs).data.toList = xs.map fun n => UInt8.ofNat n.toNat := by simp [strOfNums]
theorem hexD_u8 (u : Nat) : ∀ a ∈ (strOfNums (hexD u)).data.toList, a ≠ 59 ∧ blk a = false := by
  intro a ha
  rw [str_list] at ha
  obtain ⟨x, hx, rfl⟩ := List.mem_map.1 ha
  obtain ⟨d, rfl⟩ := hexD_digits u x hx
  have : ∀ d : Fin 16, UInt8.ofNat (hexd d.val).toNat ≠ 59 ∧ blk (UInt8.ofNat (hexd d.val).toNat) = false := by decide
  exact this d
theorem rtrim_self (l : List UInt8) (h : ∀ a ∈ l, blk a = false) : rtrim l = l := by
  unfold rtrim
  rw [dw_self (fun a ha => h a (List.mem_reverse.1 (List.mem_of_mem_head? ha))), List.reverse_reverse]
theorem sizeS_hex (u : Nat) (h : u < 16 ^ 15) : sizeS (strOfNums (hexD u)).data.toList = ((u : Int), true) := by
  rw [sizeS_no _ (fun e => (hexD_u8 u 59 e).1 rfl), rtrim_self _ (fun a ha => (hexD_u8 u a ha).2), mkS_self, hex_spec u h]
theorem data_whole (t r : List Int) (q : Int) (h0 : 0 ≤ q) (hq : q ≤ 1000000) (ht : t.length ≤ 1000000) : dataOf (t ++ ([13, 10] ++ r)) q (t.length : Int) false = (t, 0, q + ((t.length : Int) + 2), false) := by
  have hl : ((t ++ ([13, 10] ++ r)).length : Int) = t.length + 2 + r.length := by rw [List.length_append, List.length_append]; simp; omega
  have e1 : rd (t ++ ([13, 10] ++ r)) (t.length : Int) = 13 := by rw [rd_append_right _ _ _ (by omega), Int.sub_self]; rfl
  have e2 : rd (t ++ ([13, 10] ++ r)) ((t.length : Int) + 1) = 10 := by rw [rd_append_right _ _ _ (by omega), show (t.length : Int) + 1 - t.length = 1 by omega]; rfl
  unfold dataOf
  rw [if_pos (by omega), e1, if_pos rfl, if_pos (by omega), e2, if_pos rfl, Int.toNat_natCast, List.take_left, show wrap64 (q + ((t.length : Int) + 2)) = q + ((t.length : Int) + 2) by unfold wrap64; omega]
theorem dec_enc0 (pre out : List Int) (D : Nat) (left : Int) (L : List Int) (hL : L = pre ++ [48, 13, 10, 13, 10]) (hD : L.length < pre.length + D) : decS L D pre.length left out = (out, (L.length : Int), 0) := by
  obtain ⟨D, rfl⟩ : ∃ m, D = m + 1 := ⟨D - 1, by rw [hL, List.length_append] at hD; omega⟩
  have e1 : L.drop pre.length = [48] ++ ([13, 10] ++ [13, 10]) := by rw [hL, List.drop_left]; rfl
  have hlen : L.length = pre.length + 5 := by rw [hL, List.length_append]; rfl
  have e2 : L.drop (pre.length + 3) = [] ++ ([13, 10] ++ []) := by rw [← List.drop_drop, e1]; rfl
  have e3 : sizeS (strOfNums [48]).data.toList = (0, true) := by
    have := sizeS_hex 0 (by decide)
    rw [hexD_small 0 (by decide)] at this
    exact this
  have c1 := cutL [48] (by simp) [13, 10] 256 (by simp)
  have c2 := cutL [] (by simp) [] 256 (by simp)
  have t1 : trailS L 41 (pre.length + 3) = ((L.length : Int), 0) := by
    rw [show 41 = 40 + 1 from rfl, trailS, e2, c2]
    simp only
    rw [if_pos trivial, if_neg (by decide), if_pos (by rw [show strOfNums [] = mkS [] from rfl, mkS_toList]), hlen]
    simp
    omega
  rw [decS, e1, c1]
  simp only [e3]
  rw [if_pos trivial, if_neg (by decide), if_pos trivial, if_pos trivial, show (pre.length + (([48] : List Int).length + 2 : Int).toNat) = pre.length + 3 from rfl, t1, if_pos rfl, if_neg (show ¬ ((L.length : Int) = 0) by omega)]
end Go.Proofs.YtfjeinnemimjoaaDoor.Pure

namespace Go.Proofs.YtfjeinnemimjoaaDoor.Pure
open Go.RowKit Go.Proofs.YtfjeinnemimjoaaDoor.P Go.Proofs.YtfjeinnemimjoaaDoorW.PrintWords Go.Proofs.YtfjeinnemimjoaaDoorW.PrintLast Go.Proofs.YtfjeinnemimjoaaDoorW.PrintMore
set_option linter.unusedVariables false
set_option linter.unusedSimpArgs false
/-- One chunk, whatever its size's line says beside the size. -/
theorem dec_oneG (L xs t R : List Int) (n D p : Nat) (left : Int) (out : List Int) (h : L.drop p = xs ++ ([13, 10] ++ (t ++ ([13, 10] ++ R)))) (hx : ∀ x ∈ xs, x ≠ 13 ∧ x ≠ 10) (hxl : xs.length ≤ 256) (hS : sizeS (strOfNums xs).data.toList = ((n : Int), true)) (ht : t.length = n) (h1 : 1 ≤ n) (hn : (n : Int) ≤ left) (hb : n ≤ 1000000) (hp : L.length ≤ 1000000) :
    decS L (D + 1) p left out = decS L D (p + xs.length + 2 + n + 2) (left - n) (out ++ t) := by
  have hlen : (L.drop p).length = xs.length + 2 + n + 2 + R.length := by rw [h]; simp only [List.length_append, List.length_cons, List.length_nil, ht]; omega
  rw [List.length_drop] at hlen
  have c1 := cutL xs hx (t ++ ([13, 10] ++ R)) 256 (by omega)
  have hq : p + ((xs.length : Int) + 2).toNat = p + xs.length + 2 := by omega
  have e4 : L.drop (p + xs.length + 2) = t ++ ([13, 10] ++ R) := by
    rw [show p + xs.length + 2 = p + (xs.length + 2) by omega, ← List.drop_drop, h, ← List.append_assoc, List.drop_append, List.drop_of_length_le (by simp), show xs.length + 2 - (xs ++ ([13, 10] : List Int)).length = 0 by simp]
    rfl
  have dw := data_whole t R ((p + xs.length + 2 : Nat) : Int) (by omega) (by omega) (by omega)
  rw [ht] at dw
  rw [decS, h, c1]
  simp only [hS]
  rw [if_pos trivial, if_neg (by omega), if_pos trivial, if_neg (by omega), hq, e4, dw]
  simp only
  rw [if_neg (by omega), if_pos trivial, if_neg (by simp), Int.toNat_natCast]
  congr 2
  rw [List.take_append_of_le_length (by omega), List.take_of_length_le (by omega)]

end Go.Proofs.YtfjeinnemimjoaaDoor.Pure

namespace Go.Proofs.YtfjeinnemimjoaaDoor.Pure
open Go.RowKit Go.Proofs.YtfjeinnemimjoaaDoor.P Go.Proofs.YtfjeinnemimjoaaDoorW.PrintWords Go.Proofs.YtfjeinnemimjoaaDoorW.PrintLast Go.Proofs.YtfjeinnemimjoaaDoorW.PrintMore
set_option linter.unusedVariables false
set_option linter.unusedSimpArgs false
theorem sameB_l0 (xs : List Int) (hn : xs.length ≤ 4398046511104) (d : Nat) : ∀ (k : Nat) (i : Int), 0 ≤ i → (xs.length : Int) - i = d → d + 1 ≤ k → tollbarref01_SameBytes.l0 k xs xs i = some true := by
  induction d with
  | zero =>
    intro k i h0 hd hk
    obtain ⟨k, rfl⟩ : ∃ m, k = m + 1 := ⟨k - 1, by omega⟩
    simp only [tollbarref01_SameBytes.l0]
    rw [if_neg (by omega)]
  | succ d ih =>
    intro k i h0 hd hk
    obtain ⟨k, rfl⟩ : ∃ m, k = m + 1 := ⟨k - 1, by omega⟩
    simp only [tollbarref01_SameBytes.l0]
    rw [if_pos (by omega), if_pos h0, if_pos (by omega), if_pos trivial, show wrap64 (i + 1) = i + 1 by unfold wrap64; omega]
    exact ih k (i + 1) (by omega) (by omega) (by omega)
theorem sameB_eq (xs : List Int) (hn : xs.length ≤ 4398046511104) (k : Nat) (hk : xs.length + 1 ≤ k) : tollbarref01_SameBytes.f k xs xs = some true := by
  unfold tollbarref01_SameBytes.f
  rw [if_pos rfl]
  exact sameB_l0 xs hn xs.length k 0 (by omega) (by omega) hk

end Go.Proofs.YtfjeinnemimjoaaDoor.Pure

namespace Go.Proofs.YtfjeinnemimjoaaDoor.Pure
open Go.RowKit Go.Proofs.YtfjeinnemimjoaaDoor.P Go.Proofs.YtfjeinnemimjoaaDoorW.PrintWords Go.Proofs.YtfjeinnemimjoaaDoorW.PrintLast Go.Proofs.YtfjeinnemimjoaaDoorW.PrintMore
set_option linter.unusedVariables false
set_option linter.unusedSimpArgs false
/-- A digit at base 16, in great letters or small. -/
def dgt (great : Bool) (d : Nat) : Int := if d < 10 then 48 + (d : Int) else if great = true then 55 + (d : Int) else 87 + (d : Int)
theorem dgt_facts (g : Bool) (d : Nat) (h : d < 16) : digV (dgt g d) = (d : Int) ∧ 48 ≤ dgt g d ∧ dgt g d ≤ 102 ∧ dgt g d ≠ 59 := by
  have : ∀ (g : Bool) (d : Fin 16), digV (dgt g d.val) = (d.val : Int) ∧ 48 ≤ dgt g d.val ∧ dgt g d.val ≤ 102 ∧ dgt g d.val ≠ 59 := by decide +kernel
  exact this g ⟨d, h⟩
theorem numL_zeros (z : Nat) (r : List Int) : numL 16 (List.replicate z 48 ++ r) 0 = numL 16 r 0 := by
  induction z with
  | zero => rfl
  | succ z ih =>
    rw [List.replicate_succ, List.cons_append, numL]
    have h : digV 48 = 0 := by decide +kernel
    rw [h, if_pos (by decide)]
    exact ih
/-- The digits of a size of two places behind noughts. -/
def sizeD (g : Bool) (z n : Nat) : List Int := List.replicate z 48 ++ [dgt g (n / 16), dgt g (n % 16)]
theorem sizeD_num (g : Bool) (z n : Nat) (hn : n < 256) : numL 16 (sizeD g z n) 0 = some (n : Int) := by
  obtain ⟨h1, _⟩ := dgt_facts g (n / 16) (by omega)
  obtain ⟨h2, _⟩ := dgt_facts g (n % 16) (by omega)
  unfold sizeD
  rw [numL_zeros, numL, h1, if_pos (by omega), numL, h2, if_pos (by omega), numL]
  congr 1
  omega
theorem sizeD_mem (g : Bool) (z n : Nat) (hn : n < 256) : ∀ x ∈ sizeD g z n, 48 ≤ x ∧ x ≤ 102 ∧ x ≠ 59 := by
  intro x hx
  rcases List.mem_append.1 hx with hx | hx
  · rw [(List.mem_replicate.1 hx).2]; decide
  · rcases List.mem_cons.1 hx with rfl | hx
    · exact (dgt_facts g (n / 16) (by omega)).2
    · rw [List.mem_singleton.1 hx]; exact (dgt_facts g (n % 16) (by omega)).2
theorem sizeD_bytes (g : Bool) (z n : Nat) (hn : n < 256) : Bytes (sizeD g z n) := fun x hx => by
  have := sizeD_mem g z n hn x hx
  omega
theorem sizeD_spec (g : Bool) (z n : Nat) (hz : z ≤ 7) (hn : n < 256) : numSpec (strOfNums (sizeD g z n)) 16 15 = ((n : Int), true) := by
  have hl : (sizeD g z n).length = z + 2 := by unfold sizeD; rw [List.length_append, List.length_replicate]; rfl
  unfold numSpec
  rw [str_size, hl, if_neg (by omega), bytes_str (sizeD_bytes g z n hn), sizeD_num g z n hn]
theorem sizeD_u8 (g : Bool) (z n : Nat) (hn : n < 256) : ∀ a ∈ (strOfNums (sizeD g z n)).data.toList, a ≠ 59 ∧ blk a = false := by
  intro a ha
  rw [str_list] at ha
  obtain ⟨x, hx, rfl⟩ := List.mem_map.1 ha
  obtain ⟨h1, h2, h3⟩ := sizeD_mem g z n hn x hx
  have : ∀ m : Fin 128, 48 ≤ m.val → m.val ≤ 102 → m.val ≠ 59 → UInt8.ofNat m.val ≠ 59 ∧ blk (UInt8.ofNat m.val) = false := by decide +kernel
  have := this ⟨x.toNat, by omega⟩ (by show 48 ≤ x.toNat; omega) (by show x.toNat ≤ 102; omega) (by show x.toNat ≠ 59; omega)
  exact this
/-- The line: the digits, a blank, a word behind a semicolon. -/
theorem sizeS_up (g : Bool) (z n : Nat) (hz : z ≤ 7) (hn : n < 256) (w : ByteArray) (hw : (bytesOf w).all valB = true) : sizeS (strOfNums (sizeD g z n ++ [32, 59] ++ bytesOf w)).data.toList = ((n : Int), true) := by
  have e : (strOfNums (sizeD g z n ++ [32, 59] ++ bytesOf w)).data.toList = ((strOfNums (sizeD g z n)).data.toList ++ [32]) ++ 59 :: (strOfNums (bytesOf w)).data.toList := by
    rw [str_list, str_list, str_list, List.map_append, List.map_append, List.append_assoc, List.append_assoc]
    rfl
  have h59 : 59 ∉ (strOfNums (sizeD g z n)).data.toList ++ [32] := by
    intro h
    rcases List.mem_append.1 h with h | h
    · exact (sizeD_u8 g z n hn 59 h).1 rfl
    · simp at h
  rw [e, sizeS_yes _ _ h59, rtrim_snoc, if_pos (by decide), rtrim_self _ (fun a ha => (sizeD_u8 g z n hn a ha).2), mkS_self, sizeD_spec g z n hz hn, Bool.true_and]
  have : mkS (strOfNums (bytesOf w)).data.toList = w := by
    rw [mkS_self]
    have h := str_bytes w.data.toList
    rw [mkS_self] at h
    exact h
  rw [this, hw]

end Go.Proofs.YtfjeinnemimjoaaDoor.Pure

namespace Go.Proofs.YtfjeinnemimjoaaDoor.Pure
open Go.RowKit Go.Proofs.YtfjeinnemimjoaaDoor.P Go.Proofs.YtfjeinnemimjoaaDoorW.PrintWords Go.Proofs.YtfjeinnemimjoaaDoorW.PrintLast Go.Proofs.YtfjeinnemimjoaaDoorW.PrintMore
set_option linter.unusedVariables false
set_option linter.unusedSimpArgs false
theorem bad_l0 (s : ByteArray) (hs : s.size ≤ 1000) (d : Nat) : ∀ (k : Nat) (x : Int), 0 ≤ x → (s.size : Int) - x = d → d < k → tollbarlaw06_bad.l0 k s x = some (!((bytesOf s).drop x.toNat).all valB) := by
  induction d with
  | zero =>
    intro k x h0 hd hk
    obtain ⟨k, rfl⟩ : ∃ m, k = m + 1 := ⟨k - 1, by omega⟩
    rw [tollbarlaw06_bad.l0, if_neg (by omega), List.drop_of_length_le (by rw [bytesOf_length]; omega)]
    rfl
  | succ d ih =>
    intro k x h0 hd hk
    obtain ⟨k, rfl⟩ : ∃ m, k = m + 1 := ⟨k - 1, by omega⟩
    have hw : wrap64 (x + 1) = x + 1 := by unfold wrap64; omega
    rw [tollbarlaw06_bad.l0, if_pos (by omega), if_pos h0, P.bytes_drop_all valB s x h0 (by omega), hw, ih k (x + 1) (by omega) (by omega) (by omega), show (x + 1).toNat = x.toNat + 1 by omega]
    have hb : valB (bt s x) = (if bt s x < 32 then (if bt s x = 9 then !decide (bt s x = 127) else false) else !decide (bt s x = 127)) :=
      byte_cases (P := fun c => valB c = (if c < 32 then (if c = 9 then !decide (c = 127) else false) else !decide (c = 127))) (by decide +kernel) _ (bt_range s x).1 (bt_range s x).2
    rw [hb]
    by_cases a : bt s x < 32 <;> by_cases b : bt s x = 9 <;> by_cases c : bt s x = 127 <;> simp [a, b, c]
theorem bad_f (s : ByteArray) (hs : s.size ≤ 1000) (k : Nat) (hk : s.size < k) : tollbarlaw06_bad.f k s = some (!(bytesOf s).all valB) := bad_l0 s hs s.size k 0 (by omega) (by omega) hk
/-- The decoder gets as far as this, with these bytes told. -/
def ReachS (pre want : List Int) : Prop := ∀ (T : List Int) (D : Nat) (L : List Int), L = pre ++ T → L.length ≤ 1000000 → L.length < D → ∃ D', L.length < pre.length + D' ∧ decS L D 0 1048576 [] = decS L D' pre.length (1048576 - (want.length : Int)) want
theorem reachS_nil : ReachS [] [] := fun T D L _ _ hD => ⟨D, by simpa using hD, rfl⟩
/-- A chunk's line. -/
def upL (g : Bool) (z n : Nat) (w : ByteArray) : List Int := sizeD g z n ++ ([32, 59] ++ bytesOf w)
theorem upL_len (g : Bool) (z n : Nat) (w : ByteArray) : (upL g z n w).length = z + 4 + w.size := by
  unfold upL sizeD
  simp only [List.length_append, List.length_replicate, List.length_cons, List.length_nil, bytesOf_length]; omega
theorem upL_mem (g : Bool) (z n : Nat) (hn : n < 256) (w : ByteArray) (hw : (bytesOf w).all valB = true) : ∀ x ∈ upL g z n w, x ≠ 13 ∧ x ≠ 10 := by
  intro x hx
  rcases List.mem_append.1 hx with h | h
  · have := sizeD_mem g z n hn x h; omega
  · rcases List.mem_append.1 h with h | h
    · rcases List.mem_cons.1 h with rfl | h
      · decide
      · rw [List.mem_singleton.1 h]; decide
    · have hv := List.all_eq_true.1 hw x h
      constructor
      · rintro rfl; revert hv; decide
      · rintro rfl; revert hv; decide
theorem reachS_step (pre want t : List Int) (g : Bool) (z n : Nat) (w : ByteArray) (h : ReachS pre want) (hz : z ≤ 7) (ht : t.length = n) (h1 : 1 ≤ n) (hn : n < 256) (hw : (bytesOf w).all valB = true) (hws : w.size ≤ 50) (hu : want.length + n ≤ 1000000) :
    ReachS (pre ++ (upL g z n w ++ ([13, 10] ++ (t ++ [13, 10])))) (want ++ t) := by
  intro T D L hL hl hD
  obtain ⟨D1, hD1, e⟩ := h ((upL g z n w ++ ([13, 10] ++ (t ++ [13, 10]))) ++ T) D L (by rw [hL, List.append_assoc]) hl hD
  have hll := congrArg List.length hL
  simp only [List.length_append, List.length_cons, List.length_nil, upL_len] at hll
  obtain ⟨D2, rfl⟩ : ∃ m, D1 = m + 1 := ⟨D1 - 1, by omega⟩
  have hdrop : L.drop pre.length = upL g z n w ++ ([13, 10] ++ (t ++ ([13, 10] ++ T))) := by
    rw [hL, List.append_assoc, List.drop_left]
    simp only [List.append_assoc]
  have hS : sizeS (strOfNums (upL g z n w)).data.toList = ((n : Int), true) := by
    have := sizeS_up g z n hz hn w hw
    rw [List.append_assoc] at this
    exact this
  have := dec_oneG L (upL g z n w) t T n D2 pre.length (1048576 - (want.length : Int)) want hdrop (upL_mem g z n hn w hw) (by rw [upL_len]; omega) hS ht h1 (by omega) (by omega) hl
  refine ⟨D2, ?_, ?_⟩
  · simp only [List.length_append, List.length_cons, List.length_nil, upL_len]; omega
  · rw [e, this]
    have hp : (pre ++ (upL g z n w ++ ([13, 10] ++ (t ++ [13, 10])))).length = pre.length + (upL g z n w).length + 2 + n + 2 := by
      simp only [List.length_append, List.length_cons, List.length_nil]; omega
    rw [hp, show ((want ++ t).length : Int) = (want.length : Int) + n by rw [List.length_append]; omega, show (1048576 : Int) - (want.length : Int) - n = 1048576 - ((want.length : Int) + n) by omega]
theorem btT (d : Nat) (h : d < 16) : bt (⟨#[48, 49, 50, 51, 52, 53, 54, 55, 56, 57, 65, 66, 67, 68, 69, 70]⟩ : ByteArray) (d : Int) = dgt true d := by
  have : ∀ d : Fin 16, bt (⟨#[48, 49, 50, 51, 52, 53, 54, 55, 56, 57, 65, 66, 67, 68, 69, 70]⟩ : ByteArray) (d.val : Int) = dgt true d.val := by decide +kernel
  exact this ⟨d, h⟩
theorem btF (d : Nat) (h : d < 16) : bt (⟨#[48, 49, 50, 51, 52, 53, 54, 55, 56, 57, 97, 98, 99, 100, 101, 102]⟩ : ByteArray) (d : Int) = dgt false d := by
  have : ∀ d : Fin 16, bt (⟨#[48, 49, 50, 51, 52, 53, 54, 55, 56, 57, 97, 98, 99, 100, 101, 102]⟩ : ByteArray) (d.val : Int) = dgt false d.val := by decide +kernel
  exact this ⟨d, h⟩
theorem word_bytes (w : ByteArray) : bytesOf (((⟨#[32, 59]⟩ : ByteArray) ++ w) ++ (⟨#[13, 10]⟩ : ByteArray)) = [32, 59] ++ (bytesOf w ++ [13, 10]) := by
  unfold bytesOf
  simp [ByteArray.append]
/-- Behind the noughts. -/
theorem sizes_at (x1 : Int) (g : Bool) (w : ByteArray) (hws : w.size ≤ 50) (x9 x10 t : List Int) (x34 : List (List Int)) (x35 x36 : Int) (z n : Nat) (hz : x1 % 8 = (z : Int)) (hn : t.length = n) (hn2 : n < 256) (h9 : x9.length ≤ 100000) (h10 : x10.length ≤ 100000) (k : Nat) :
    tollbarlaw06_ChunkSizes.l1 (k + 1) x1 g w (x9 ++ List.replicate z 48) x10 t z x34 x35 x36 = tollbarlaw06_ChunkSizes.l0 k x1 g w (x9 ++ (upL g z n w ++ ([13, 10] ++ (t ++ [13, 10])))) (x10 ++ t) x34 x35 (wrap64 (x36 + 1)) := by
  have hz7 : z < 8 := by omega
  have hd : wrap64 ((t.length : Int) / 16) = ((n / 16 : Nat) : Int) := by rw [hn]; unfold wrap64; omega
  have hm : ((t.length : Int) % 16) = ((n % 16 : Nat) : Int) := by rw [hn]; omega
  have h1 : n / 16 < 16 := by omega
  have h2 : n % 16 < 16 := by omega
  have hw1 : ((⟨#[32, 59]⟩ : ByteArray) ++ w).size = 2 + w.size := by rw [ByteArray.size_append]; rfl
  have hw2 : (((⟨#[32, 59]⟩ : ByteArray) ++ w) ++ (⟨#[13, 10]⟩ : ByteArray)).size = 4 + w.size := by rw [ByteArray.size_append, hw1]; show 2 + w.size + 2 = _; omega
  have hl1 : (x9 ++ List.replicate z (48 : Int)).length = x9.length + z := by rw [List.length_append, List.length_replicate]
  have hwl := bytesOf_length (((⟨#[32, 59]⟩ : ByteArray) ++ w) ++ (⟨#[13, 10]⟩ : ByteArray))
  rw [tollbarlaw06_ChunkSizes.l1, and_7, hz, if_neg (by omega), hd, hm]
  have hfin : ∀ gg : Bool, ((x9 ++ List.replicate z 48) ++ [dgt gg (n / 16), dgt gg (n % 16)] ++ bytesOf (((⟨#[32, 59]⟩ : ByteArray) ++ w) ++ (⟨#[13, 10]⟩ : ByteArray)) ++ t) ++ [13, 10] = x9 ++ (upL gg z n w ++ ([13, 10] ++ (t ++ [13, 10]))) := by
    intro gg
    rw [word_bytes]
    unfold upL sizeD
    simp only [List.append_assoc]
  cases g
  · rw [if_neg (by simp), if_pos (by omega), if_pos (by omega), if_pos (by omega), if_pos (by omega), btF _ h1, btF _ h2, Option.bind_some, if_pos (by rw [hl1]; simp only [List.length_cons, List.length_nil]; omega), Option.bind_some, if_pos (by omega), if_pos (by omega),
      if_pos (by rw [hw2, List.length_append, hl1]; simp only [List.length_cons, List.length_nil]; omega), Option.bind_some, if_pos (by rw [List.length_append, List.length_append, hl1, hwl, hw2]; simp only [List.length_cons, List.length_nil]; omega), Option.bind_some, Option.bind_some,
      if_pos (by rw [List.length_append, List.length_append, List.length_append, hl1, hwl, hw2]; simp only [List.length_cons, List.length_nil]; omega), if_pos (by omega), hfin]
  · rw [if_pos rfl, if_pos (by omega), if_pos (by omega), if_pos (by omega), if_pos (by omega), btT _ h1, btT _ h2, Option.bind_some, if_pos (by rw [hl1]; simp only [List.length_cons, List.length_nil]; omega), Option.bind_some, if_pos (by omega), if_pos (by omega),
      if_pos (by rw [hw2, List.length_append, hl1]; simp only [List.length_cons, List.length_nil]; omega), Option.bind_some, if_pos (by rw [List.length_append, List.length_append, hl1, hwl, hw2]; simp only [List.length_cons, List.length_nil]; omega), Option.bind_some, Option.bind_some,
      if_pos (by rw [List.length_append, List.length_append, List.length_append, hl1, hwl, hw2]; simp only [List.length_cons, List.length_nil]; omega), if_pos (by omega), hfin]
theorem sizes_l1 (x1 : Int) (g : Bool) (w : ByteArray) (hws : w.size ≤ 50) (x9 x10 t : List Int) (x34 : List (List Int)) (x35 x36 : Int) (z n : Nat) (hz : x1 % 8 = (z : Int)) (hn : t.length = n) (hn2 : n < 256) (h9 : x9.length ≤ 100000) (h10 : x10.length ≤ 100000) (d : Nat) : ∀ (k i : Nat), i + d = z →
    tollbarlaw06_ChunkSizes.l1 (k + 1 + d) x1 g w (x9 ++ List.replicate i 48) x10 t i x34 x35 x36 = tollbarlaw06_ChunkSizes.l0 k x1 g w (x9 ++ (upL g z n w ++ ([13, 10] ++ (t ++ [13, 10])))) (x10 ++ t) x34 x35 (wrap64 (x36 + 1)) := by
  induction d with
  | zero => intro k i hi; obtain rfl : i = z := by omega
            exact sizes_at x1 g w hws x9 x10 t x34 x35 x36 i n hz hn hn2 h9 h10 k
  | succ d ih =>
    intro k i hi
    have hz7 : z < 8 := by omega
    rw [show k + 1 + (d + 1) = (k + 1 + d) + 1 by omega, tollbarlaw06_ChunkSizes.l1, and_7, hz, if_pos (by omega), if_pos (by rw [List.length_append, List.length_replicate]; omega), show wrap64 ((i : Int) + 1) = ((i + 1 : Nat) : Int) by unfold wrap64; omega, List.append_assoc, show List.replicate i (48 : Int) ++ [48] = List.replicate (i + 1) 48 from (List.replicate_succ').symm]
    exact ih k (i + 1) (by omega)
theorem sizes_l0 (x1 : Int) (g : Bool) (w : ByteArray) (hws : w.size ≤ 50) (hw : (bytesOf w).all valB = true) (x34 : List (List Int)) (h34 : x34.length ≤ 10) (d : Nat) : ∀ (k i : Nat) (x9 x10 : List Int), i + d = x34.length → 20 * d + 1000000 ≤ k → x9.length ≤ 400 * i → x10.length ≤ 300 * i → ReachS x9 x10 →
    tollbarlaw06_ChunkSizes.l0 k x1 g w x9 x10 x34 (x34.length : Int) (i : Int) = some true := by
  induction d with
  | zero =>
    intro k i x9 x10 hi hk h9 h10 hR
    obtain ⟨k, rfl⟩ : ∃ m, k = m + 1 := ⟨k - 1, by omega⟩
    have e0 : bytesOf (⟨#[48, 13, 10, 13, 10]⟩ : ByteArray) = [48, 13, 10, 13, 10] := rfl
    obtain ⟨L, hL⟩ : ∃ L, L = x9 ++ [48, 13, 10, 13, 10] := ⟨_, rfl⟩
    have hll : L.length = x9.length + 5 := by rw [hL]; simp
    obtain ⟨D', hD', e⟩ := hR _ (L.length + 1) L hL (by omega) (by omega)
    have e2 := dec_enc0 x9 x10 D' (1048576 - (x10.length : Int)) L hL hD'
    rw [tollbarlaw06_ChunkSizes.l0, if_neg (by omega), if_pos (by omega), e0, Option.bind_some, ← hL, Decode_f L 1048576 (by omega) (by omega) k (by omega), Option.bind_some, show mx 1048576 0 = 1048576 from rfl, e, e2]
    simp only
    rw [if_pos trivial, sameB_eq x10 (by omega) k (by omega), Option.bind_some, if_pos rfl, beq_self_eq_true]
  | succ d ih =>
    intro k i x9 x10 hi hk h9 h10 hR
    obtain ⟨k, rfl⟩ : ∃ m, k = m + 2 := ⟨k - 2, by omega⟩
    obtain ⟨t, ht⟩ : ∃ t, rd_L5 x34 (i : Int) = t := ⟨_, rfl⟩
    have hi1 : wrap64 ((i : Int) + 1) = ((i + 1 : Nat) : Int) := by unfold wrap64; omega
    rw [tollbarlaw06_ChunkSizes.l0, if_pos (by omega), if_pos (by omega), if_pos (by omega), ht]
    by_cases a : (t.length : Int) = 0
    · rw [if_pos a, tollbarlaw06_ChunkSizes.j2, if_pos rfl]
    · rw [if_neg a, tollbarlaw06_ChunkSizes.j2]
      by_cases b : (t.length : Int) > 255
      · rw [decide_eq_true b, if_pos rfl]
      · rw [decide_eq_false b, if_neg (by simp)]
        obtain ⟨z, hz⟩ : ∃ z : Nat, x1 % 8 = (z : Int) := ⟨(x1 % 8).toNat, by omega⟩
        have hz7 : z ≤ 7 := by omega
        have hs := sizes_l1 x1 g w hws x9 x10 t x34 (x34.length : Int) (i : Int) z t.length hz rfl (by omega) (by omega) (by omega) z (k - 1 - z) 0 (by omega)
        rw [show k - 1 - z + 1 + z = k by omega, List.replicate_zero, List.append_nil] at hs
        have hstep := reachS_step x9 x10 t g z t.length w hR hz7 rfl (by omega) (by omega) hw hws (by omega)
        have hs' : tollbarlaw06_ChunkSizes.l1 k x1 g w x9 x10 t 0 x34 (x34.length : Int) (i : Int) = _ := hs
        rw [hs', hi1]
        refine ih _ (i + 1) _ _ (by omega) (by omega) ?_ ?_ hstep
        · simp only [List.length_append, List.length_cons, List.length_nil, upL_len]; omega
        · rw [List.length_append]; omega
theorem ChunkSizes (rows : List (List Int)) (n : Int) (g : Bool) (w : ByteArray) (_h : rows.length ≤ 140737488351232 ∧ rows.length ≤ maxLen ∧ ∀ x ∈ rows, x.length ≤ 140737488351232 ∧ x.length ≤ maxLen ∧ ∀ y ∈ x, (Lit.int .u8 y).wf = true) (_ : (Lit.int .i64 n).wf = true) (_ : w.size ≤ 140737488351232) : ∃ k, tollbarlaw06_ChunkSizes.f k rows n g w = some true := by
  refine ⟨2000000, ?_⟩
  unfold tollbarlaw06_ChunkSizes.f
  rw [show tollbarlaw06_alive.f = some true from rfl, Option.bind_some, if_pos rfl]
  have ht : tollbarlaw06_ChunkSizes.j0 2000000 rows n g w true = some true := by
    rw [show 2000000 = 1999999 + 1 from rfl, tollbarlaw06_ChunkSizes.j0, if_pos rfl]
  by_cases g1 : (rows.length : Int) > 10
  · rw [if_pos g1, ht]
  · rw [if_neg g1]
    by_cases g2 : (w.size : Int) > 50
    · rw [if_pos g2, ht]
    · rw [if_neg g2, bad_f w (by omega) _ (by omega), Option.bind_some]
      cases hw : (bytesOf w).all valB
      · exact ht
      · rw [show 2000000 = 1999999 + 1 from rfl, tollbarlaw06_ChunkSizes.j0, if_neg (by simp)]
        exact sizes_l0 n g w (by omega) hw rows (by omega) rows.length 1999999 0 [] [] (by omega) (by omega) (by simp) (by simp) reachS_nil

end Go.Proofs.YtfjeinnemimjoaaDoor.Pure

