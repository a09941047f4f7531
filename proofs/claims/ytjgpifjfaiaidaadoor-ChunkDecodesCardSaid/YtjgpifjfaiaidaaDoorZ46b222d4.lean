/- Each function below answers as its Lean twin says; plain lemmas; a row where its theorem stands. No further condition. (Laid by this repo's pack.py out of its texts and of the print's words.) -/
import Derived.Test.YtjgpifjfaiaidaaDoorU0base0x0
import Derived.Test.YtjgpifjfaiaidaaDoorUline0x0
import Derived.Test.YtjgpifjfaiaidaaDoorUstrings0x0
import Derived.Test.YtjgpifjfaiaidaaDoorUstringslite0x0
import Derived.Test.YtjgpifjfaiaidaaDoorUsign0x1
import Derived.Test.YtjgpifjfaiaidaaDoorUsign0x0
import Derived.Test.YtjgpifjfaiaidaaDoorUfield1x0
import Derived.Test.YtjgpifjfaiaidaaDoorUfieldright
import Derived.Test.YtjgpifjfaiaidaaDoorUtollbarref020x2
import Derived.Test.YtjgpifjfaiaidaaDoorUchunk0x0
import Derived.Test.YtjgpifjfaiaidaaDoorUchunk0x1
import Derived.Test.YtjgpifjfaiaidaaDoorUtollbarref05Cut
import Derived.Test.YtjgpifjfaiaidaaDoorUtollbarref020x0
import Derived.Test.YtjgpifjfaiaidaaDoorUtollbarref020x1
import Derived.Test.YtjgpifjfaiaidaaDoorUtollbarref040x0
import Derived.Test.YtjgpifjfaiaidaaDoorUtollbarref04Parse
import Derived.Test.YtjgpifjfaiaidaaDoorUtollbarref020x3
import Derived.Test.YtjgpifjfaiaidaaDoorUtollbarref060x0
import Derived.Test.YtjgpifjfaiaidaaDoorUtollbarref06Decode
import Derived.Test.YtjgpifjfaiaidaaDoorUtollbarref010x0
import Derived.Test.YtjgpifjfaiaidaaDoorUtollbarlaw060x0
import Derived.Lib.IndexBytes
import Derived.Lib.Strings
import Derived.Shelf.Strings.SlTrimAscii
namespace Go.Proofs.YtjgpifjfaiaidaaDoor.Pure
open Go.RowKit Go.Proofs.YtjgpifjfaiaidaaDoor.P Go.Proofs.YtjgpifjfaiaidaaDoorW.PrintWords Go.Proofs.YtjgpifjfaiaidaaDoorW.PrintLast Go.Proofs.YtjgpifjfaiaidaaDoorW.PrintMore
set_option linter.unusedVariables false
set_option linter.unusedSimpArgs false
theorem str_append (xs ys : List Int) : strOfNums (xs ++ ys) = strOfNums xs ++ strOfNums ys := by
  apply ByteArray.ext
  simp [strOfNums]
theorem str_size (xs : List Int) : (strOfNums xs).size = xs.length := strOfNums_size xs
theorem take_two (l : List Int) (i : Int) (h0 : 0 ≤ i) (h : i + 1 < (l.length : Int)) : l.take (i + 2).toNat = l.take i.toNat ++ [rd l i, rd l (i + 1)] := by
  obtain ⟨n, rfl⟩ := Int.eq_ofNat_of_zero_le h0
  have e1 : ((n : Int) + 2).toNat = n + 1 + 1 := by omega
  have h1 : n + 1 < l.length := by omega
  rw [e1, List.take_succ_eq_append_getElem h1, List.take_succ_eq_append_getElem (by omega)]
  have e2 : ((n : Int) + 1).toNat = n + 1 := by omega
  simp only [Int.toNat_natCast, rd, e2, List.getD_eq_getElem?_getD, List.getElem?_eq_getElem h1, List.getElem?_eq_getElem (show n < l.length by omega), Option.getD_some, List.append_assoc, List.cons_append, List.nil_append]
theorem w64 {i : Int} {n : Nat} (c : Int) (h0 : 0 ≤ i) (h : i < (n : Int)) (hn : n ≤ 140737488355328) (hc0 : -3 ≤ c) (hc : c ≤ 3) : wrap64 (i + c) = i + c := by
  unfold wrap64; omega
theorem toList_data (s : ByteArray) : s.toList = s.data.toList := by
  simp [ByteArray.toList_eq]
theorem isEmpty_size (s : ByteArray) : s.toList.isEmpty = decide (s.size = 0) := by
  rw [toList_data, Bool.eq_iff_iff, List.isEmpty_iff, decide_eq_true_eq, ← data_length]
  exact List.length_eq_zero_iff.symm

end Go.Proofs.YtjgpifjfaiaidaaDoor.Pure

namespace Go.Proofs.YtjgpifjfaiaidaaDoor.Pure
open Go.RowKit Go.Proofs.YtjgpifjfaiaidaaDoor.P Go.Proofs.YtjgpifjfaiaidaaDoorW.PrintWords Go.Proofs.YtjgpifjfaiaidaaDoorW.PrintLast Go.Proofs.YtjgpifjfaiaidaaDoorW.PrintMore
set_option linter.unusedVariables false
set_option linter.unusedSimpArgs false
/-- The line at the place i of l, with the bound m; d bytes are left. -/
def cutAt (l : List Int) (m : Int) : Nat → Int → (ByteArray × Int × Int)
  | 0, _ => ((⟨#[]⟩ : ByteArray), 0, 0)
  | d + 1, i =>
    if rd l i = 10 then ((⟨#[]⟩ : ByteArray), 0, 20)
    else if rd l i = 13 then
      (if i + 1 < (l.length : Int) then (if rd l (i + 1) = 10 then (strOfNums (l.take i.toNat), i + 2, 0) else ((⟨#[]⟩ : ByteArray), 0, 20)) else ((⟨#[]⟩ : ByteArray), 0, 0))
    else if m ≤ i then ((⟨#[]⟩ : ByteArray), 0, 2) else cutAt l m d (i + 1)

theorem cut_l0 (l : List Int) (a : Int) (hn : l.length ≤ 140737488355328) (d : Nat) : ∀ (k : Nat) (i : Int), 0 ≤ i → (l.length : Int) - i = d → 3 * d + 3 ≤ k →
    line_Cut.l0 k l a l (l.length : Int) i = some (cutAt l (mx a 0) d i) := by
  induction d with
  | zero =>
    intro k i h0 hd hk
    obtain ⟨k, rfl⟩ : ∃ m, k = m + 1 := ⟨k - 1, by omega⟩
    simp only [line_Cut.l0, cutAt]; rw [if_neg (by omega)]
  | succ d ih =>
    intro k i h0 hd hk
    obtain ⟨k, rfl⟩ : ∃ m, k = m + 3 := ⟨k - 3, by omega⟩
    have hlt : i < (l.length : Int) := by omega
    have hw1 : wrap64 (i + 1) = i + 1 := w64 1 h0 hlt hn (by omega) (by omega)
    have hw2 : wrap64 (i + 2) = i + 2 := w64 2 h0 hlt hn (by omega) (by omega)
    have ih' := ih k (i + 1) (by omega) (by omega) (by omega)
    unfold line_Cut.l0
    rw [if_pos hlt, if_pos h0, if_pos hlt]
    unfold line_Cut.j1 line_Cut.j2
    simp only [cutAt, hw1, hw2, ih']
    by_cases h10 : rd l i = 10
    · simp [h10]
    · rw [if_neg h10]
      by_cases h13 : rd l i = 13
      · simp only [h13]
        by_cases h1 : i + 1 < (l.length : Int)
        · by_cases hr : rd l (i + 1) = 10
          · have hne : ¬ (i + 1 = (l.length : Int)) := by omega
            have hle : i ≤ (l.length : Int) := by omega
            have h01 : 0 ≤ i + 1 := by omega
            simp [h1, hr, hne, hle, h01, h0]
          · have h01 : 0 ≤ i + 1 := by omega
            simp [h1, hr, h01]
        · have he : i + 1 = (l.length : Int) := by omega
          simp [he]
      · simp only [h13, if_false, h10]
        by_cases hm : mx a 0 ≤ i
        · simp [hm]
        · simp [hm]

/-- What Cut tells. -/
def cutSpec (l : List Int) (a : Int) : (ByteArray × Int × Int) := cutAt l (mx a 0) l.length 0
theorem cut_f (l : List Int) (a : Int) (hn : l.length ≤ 140737488355328) (k : Nat) (hk : 3 * l.length + 3 ≤ k) : line_Cut.f k l a = some (cutSpec l a) := by
  unfold line_Cut.f cutSpec
  exact cut_l0 l a hn l.length k 0 (by omega) (by omega) hk

end Go.Proofs.YtjgpifjfaiaidaaDoor.Pure

namespace Go.Proofs.YtjgpifjfaiaidaaDoor.Pure
open Go.RowKit Go.Proofs.YtjgpifjfaiaidaaDoor.P Go.Proofs.YtjgpifjfaiaidaaDoorW.PrintWords Go.Proofs.YtjgpifjfaiaidaaDoorW.PrintLast Go.Proofs.YtjgpifjfaiaidaaDoorW.PrintMore
set_option linter.unusedVariables false
set_option linter.unusedSimpArgs false
theorem cutA_shape (l : List Int) (m : Int) (d : Nat) : ∀ (i : Int), 0 ≤ i → (l.length : Int) - i = d →
    ((cutAt l m d i).2.1 > 0 ∧ (cutAt l m d i).2.1 ≤ l.length ∧ strOfNums (l.take (cutAt l m d i).2.1.toNat) = (cutAt l m d i).1 ++ (⟨#[13, 10]⟩ : ByteArray) ∧ ((cutAt l m d i).1.size : Int) = (cutAt l m d i).2.1 - 2 ∧ (cutAt l m d i).2.2 = 0)
    ∨ ((cutAt l m d i).2.1 = 0 ∧ (cutAt l m d i).1 = (⟨#[]⟩ : ByteArray)) := by
  induction d with
  | zero => intro i h0 hd; right; simp [cutAt]
  | succ d ih =>
    intro i h0 hd
    have hlt : i < (l.length : Int) := by omega
    have ih' := ih (i + 1) (by omega) (by omega)
    simp only [cutAt]
    by_cases h10 : rd l i = 10
    · simp [h10]
    · rw [if_neg h10]
      by_cases h13 : rd l i = 13
      · rw [if_pos h13]
        by_cases h1 : i + 1 < (l.length : Int)
        · rw [if_pos h1]
          by_cases hr : rd l (i + 1) = 10
          · rw [if_pos hr]
            left
            refine ⟨by show i + 2 > 0; omega, by show i + 2 ≤ _; omega, ?_, ?_, rfl⟩
            · show strOfNums (l.take (i + 2).toNat) = _
              rw [take_two l i h0 h1, str_append, h13, hr]
              rfl
            · show ((strOfNums (l.take i.toNat)).size : Int) = i + 2 - 2
              rw [str_size, List.length_take]
              omega
          · rw [if_neg hr]; right; exact ⟨rfl, rfl⟩
        · rw [if_neg h1]; right; exact ⟨rfl, rfl⟩
      · rw [if_neg h13]
        by_cases hm : m ≤ i
        · rw [if_pos hm]; right; exact ⟨rfl, rfl⟩
        · rw [if_neg hm]; exact ih'
theorem cutS_shape (l : List Int) (m : Int) :
    (cutSpec l m).2.1 > 0 ∧ (cutSpec l m).2.1 ≤ l.length ∧ ((cutSpec l m).1.size : Int) = (cutSpec l m).2.1 - 2 ∧ (cutSpec l m).2.2 = 0 ∨ (cutSpec l m).2.1 = 0 ∧ (cutSpec l m).1 = (⟨#[]⟩ : ByteArray) := by
  rcases cutA_shape l (mx m 0) l.length 0 (by omega) (by omega) with h | h
  · exact Or.inl ⟨h.1, h.2.1, h.2.2.2.1, h.2.2.2.2⟩
  · exact Or.inr h

end Go.Proofs.YtjgpifjfaiaidaaDoor.Pure

namespace Go.Proofs.YtjgpifjfaiaidaaDoor.Pure
open Go.RowKit Go.Proofs.YtjgpifjfaiaidaaDoor.P Go.Proofs.YtjgpifjfaiaidaaDoorW.PrintWords Go.Proofs.YtjgpifjfaiaidaaDoorW.PrintLast Go.Proofs.YtjgpifjfaiaidaaDoorW.PrintMore
set_option linter.unusedVariables false
set_option linter.unusedSimpArgs false
def mkS (l : List UInt8) : ByteArray := ⟨l.toArray⟩
theorem mkS_data (l : List UInt8) : (mkS l).data.toList = l := by simp [mkS]
theorem mkS_self (s : ByteArray) : mkS s.data.toList = s := by simp [mkS]
theorem mkS_size (l : List UInt8) : (mkS l).size = l.length := by rw [← data_length, mkS_data]
theorem bt_mk (l : List UInt8) (i : Nat) (h : i < l.length) : bt (mkS l) i = ((l[i]).toNat : Int) := by
  unfold bt
  have hs : (mkS l).size = l.length := mkS_size l
  rw [dif_pos (by rw [Int.toNat_natCast]; omega)]
  have : (mkS l)[((i : Nat) : Int).toNat]'(by rw [Int.toNat_natCast]; omega) = l[i] := by simp [mkS, ByteArray.getElem_eq_getElem_data]
  rw [this]
theorem mkS_extract (l : List UInt8) (a b : Nat) : (mkS l).extract a b = mkS ((l.drop a).take (b - a)) := by
  rw [← mkS_self ((mkS l).extract a b), Lib.extract_data, mkS_data]
theorem mkS_bytes (l : List UInt8) : bytesOf (mkS l) = l.map fun b => (b.toNat : Int) := by unfold bytesOf; rw [mkS_data]
end Go.Proofs.YtjgpifjfaiaidaaDoor.Pure

namespace Go.Proofs.YtjgpifjfaiaidaaDoor.Pure
open Go.RowKit Go.Proofs.YtjgpifjfaiaidaaDoor.P Go.Proofs.YtjgpifjfaiaidaaDoorW.PrintWords Go.Proofs.YtjgpifjfaiaidaaDoorW.PrintLast Go.Proofs.YtjgpifjfaiaidaaDoorW.PrintMore
set_option linter.unusedVariables false
set_option linter.unusedSimpArgs false
theorem index_append (sp : UInt8) (a b : List UInt8) (h : sp ∉ a) : Lib.indexByte (a ++ sp :: b) sp = a.length := by
  induction a with
  | nil => simp [Lib.indexByte]
  | cons c a ih =>
    have hc : c ≠ sp := fun e => h (e ▸ List.mem_cons_self ..)
    have hb : (c == sp) = false := by simpa using hc
    have h3 := ih (fun e => h (List.mem_cons_of_mem _ e))
    have hn : ((a.length : Int) == -1) = false := by simp only [beq_eq_false_iff_ne]; omega
    simp [Lib.indexByte, hb, h3, hn]
theorem index_none (sp : UInt8) (a : List UInt8) (h : sp ∉ a) : Lib.indexByte a sp = -1 := by
  induction a with
  | nil => simp [Lib.indexByte]
  | cons c a ih =>
    have hc : c ≠ sp := fun e => h (e ▸ List.mem_cons_self ..)
    have hb : (c == sp) = false := by simpa using hc
    have h3 := ih (fun e => h (List.mem_cons_of_mem _ e))
    simp [Lib.indexByte, hb, h3]
theorem slIndex (s : List UInt8) (sp : UInt8) : stringslite_Index.f (mkS s) ⟨#[sp]⟩ = some (Lib.indexByte s sp) := by
  show some (Lib.indexByte (mkS s).data.toList sp) = _
  rw [mkS_data]
theorem Cut_no (sp : UInt8) (s : List UInt8) (h : sp ∉ s) : strings_Cut.f (mkS s) ⟨#[sp]⟩ = some (mkS s, (⟨#[]⟩ : ByteArray), false) := by
  unfold strings_Cut.f stringslite_Cut.f
  rw [slIndex, index_none sp s h, Option.bind_some, if_neg (by decide), Option.bind_some]
theorem Cut_yes (sp : UInt8) (a b : List UInt8) (h : sp ∉ a) (hn : (a ++ sp :: b).length ≤ 140737488355328) : strings_Cut.f (mkS (a ++ sp :: b)) ⟨#[sp]⟩ = some (mkS a, mkS b, true) := by
  unfold strings_Cut.f stringslite_Cut.f
  have hl : (a ++ sp :: b).length = a.length + b.length + 1 := by rw [List.length_append, List.length_cons]; omega
  rw [hl] at hn
  have h1 : ((⟨#[sp]⟩ : ByteArray).size : Int) = 1 := rfl
  have hw : wrap64 ((a.length : Int) + 1) = (a.length : Int) + 1 := by unfold wrap64; omega
  have e1 : ((a.length : Int) + 1).toNat = a.length + 1 := by omega
  rw [slIndex, index_append sp a b h, Option.bind_some, h1, hw, mkS_size, hl, if_pos (by omega), if_pos (by omega), if_pos (by omega), if_pos (by omega), if_pos (by omega), Option.bind_some, e1, Int.toNat_natCast, mkS_extract, mkS_extract, List.drop_zero, Nat.sub_zero, List.take_left, ← List.drop_drop, List.drop_left]
  rw [show List.drop 1 (sp :: b) = b from rfl, List.take_of_length_le (by omega)]
/-- What stands ahead of the first sp, and behind it. -/
theorem split_first (sp : UInt8) (s : List UInt8) : sp ∉ s ∨ ∃ a b, s = a ++ sp :: b ∧ sp ∉ a := by
  induction s with
  | nil => exact .inl (by simp)
  | cons c s ih =>
    by_cases hc : c = sp
    · exact .inr ⟨[], s, by rw [hc]; rfl, by simp⟩
    · rcases ih with h | ⟨a, b, rfl, h⟩
      · refine .inl fun hm => ?_
        rcases List.mem_cons.1 hm with e | e
        · exact hc e.symm
        · exact h e
      · refine .inr ⟨c :: a, b, rfl, fun hm => ?_⟩
        rcases List.mem_cons.1 hm with e | e
        · exact hc e.symm
        · exact h e

end Go.Proofs.YtjgpifjfaiaidaaDoor.Pure

namespace Go.Proofs.YtjgpifjfaiaidaaDoor.Pure
open Go.RowKit Go.Proofs.YtjgpifjfaiaidaaDoor.P Go.Proofs.YtjgpifjfaiaidaaDoorW.PrintWords Go.Proofs.YtjgpifjfaiaidaaDoorW.PrintLast Go.Proofs.YtjgpifjfaiaidaaDoorW.PrintMore
set_option linter.unusedVariables false
set_option linter.unusedSimpArgs false
theorem byte_cases {P : Int → Prop} (h : ∀ n : Fin 256, P (n.val : Int)) (c : Int) (h0 : 0 ≤ c) (h1 : c ≤ 255) : P c := by
  obtain ⟨n, rfl⟩ := Int.eq_ofNat_of_zero_le h0
  exact h ⟨n, by omega⟩
def tokB (c : Int) : Bool := (sign_Token_1.f c).getD false
def valB (c : Int) : Bool := (sign_Value_1.f c).getD false
theorem Token_f (s : ByteArray) (h : s.size ≤ 140737488355328) : sign_Token.f s = some (!s.toList.isEmpty && (bytesOf s).all tokB) := if_pos h
theorem Value_f (s : ByteArray) (h : s.size ≤ 140737488355328) : sign_Value.f s = some ((bytesOf s).all valB) := if_pos h
theorem drop_all (p : Int → Bool) (s : ByteArray) (x : Int) (h0 : 0 ≤ x) (h : x < (s.size : Int)) :
    ((bytesOf s).drop x.toNat).all p = (p (bt s x) && ((bytesOf s).drop (x + 1).toNat).all p) := by
  rw [show (x + 1).toNat = x.toNat + 1 by omega]
  exact bytes_drop_all p s x h0 h
theorem drop_end (p : Int → Bool) (s : ByteArray) (x : Int) (h : (s.size : Int) ≤ x) : ((bytesOf s).drop x.toNat).all p = true := by
  rw [List.drop_of_length_le (by rw [bytesOf_length]; omega)]; rfl

end Go.Proofs.YtjgpifjfaiaidaaDoor.Pure

namespace Go.Proofs.YtjgpifjfaiaidaaDoor.Pure
open Go.RowKit Go.Proofs.YtjgpifjfaiaidaaDoor.P Go.Proofs.YtjgpifjfaiaidaaDoorW.PrintWords Go.Proofs.YtjgpifjfaiaidaaDoorW.PrintLast Go.Proofs.YtjgpifjfaiaidaaDoorW.PrintMore
set_option linter.unusedVariables false
set_option linter.unusedSimpArgs false
/-- Is a byte a blank? -/
def blk (b : UInt8) : Bool := ([32, 9] : List UInt8).contains b
/-- A text without blanks at its ends. -/
def trm (l : List UInt8) : List UInt8 := (l.reverse.dropWhile blk).reverse.dropWhile blk
/-- No blank at either end. -/
def Clean (l : List UInt8) : Prop := (∀ a, l.head? = some a → blk a = false) ∧ ∀ a, l.getLast? = some a → blk a = false
theorem dw_self {p : UInt8 → Bool} {l : List UInt8} (h : ∀ a, l.head? = some a → p a = false) : l.dropWhile p = l := by
  cases l with
  | nil => rfl
  | cons a l => simp [List.dropWhile, h a rfl]
theorem dw_head (p : UInt8 → Bool) (l : List UInt8) : ∀ a, (l.dropWhile p).head? = some a → p a = false := by
  induction l with
  | nil => intro a h; simp at h
  | cons b l ih =>
    intro a h
    cases hb : p b
    · simp [List.dropWhile, hb] at h; rw [← h]; exact hb
    · simp only [List.dropWhile, hb] at h; exact ih a h
theorem dw_append {p : UInt8 → Bool} (pre t : List UInt8) (h : ∀ a ∈ pre, p a = true) : (pre ++ t).dropWhile p = t.dropWhile p := by
  induction pre with
  | nil => rfl
  | cons b l ih =>
    simp only [List.cons_append, List.dropWhile, h b (List.mem_cons_self ..)]
    exact ih (fun a ha => h a (List.mem_cons_of_mem _ ha))
theorem dw_split (p : UInt8 → Bool) (l : List UInt8) : ∃ pre, l = pre ++ l.dropWhile p ∧ ∀ a ∈ pre, p a = true := by
  induction l with
  | nil => exact ⟨[], rfl, by simp⟩
  | cons b l ih =>
    obtain ⟨pre, h, hp⟩ := ih
    cases hb : p b
    · exact ⟨[], by simp [List.dropWhile, hb], by simp⟩
    · refine ⟨b :: pre, by simp only [List.dropWhile, hb, List.cons_append]; rw [← h], ?_⟩
      intro a ha
      rcases List.mem_cons.1 ha with rfl | ha
      · exact hb
      · exact hp a ha
theorem trm_around (pre t post : List UInt8) (ht : Clean t) (h1 : ∀ a ∈ pre, blk a = true) (h2 : ∀ a ∈ post, blk a = true) : trm (pre ++ t ++ post) = t := by
  unfold trm
  rw [List.reverse_append, dw_append _ _ (by intro a ha; exact h2 a (List.mem_reverse.1 ha)), List.reverse_append]
  by_cases he : t = []
  · subst he
    have := dw_append (p := blk) pre.reverse [] (by intro a ha; exact h1 a (List.mem_reverse.1 ha))
    simp only [List.append_nil] at this
    simp [this]
  · have : (t.reverse ++ pre.reverse).dropWhile blk = t.reverse ++ pre.reverse := dw_self (by
      intro a ha
      rw [List.head?_append] at ha
      obtain ⟨b, hb⟩ : ∃ b, t.reverse.head? = some b := by
        cases hh : t.reverse with
        | nil => exact absurd (List.reverse_eq_nil_iff.1 hh) he
        | cons b _ => exact ⟨b, rfl⟩
      rw [hb] at ha
      obtain rfl : b = a := by simpa using ha
      rw [List.head?_reverse] at hb
      exact ht.2 _ hb)
    rw [this, List.reverse_append, List.reverse_reverse, List.reverse_reverse, dw_append _ _ h1, dw_self ht.1]
theorem trm_length (l : List UInt8) : (trm l).length ≤ l.length := by
  unfold trm
  have h1 : ((l.reverse.dropWhile blk).reverse.dropWhile blk).length ≤ (l.reverse.dropWhile blk).reverse.length := (List.dropWhile_suffix _).length_le
  have h2 : (l.reverse.dropWhile blk).length ≤ l.reverse.length := (List.dropWhile_suffix _).length_le
  rw [List.length_reverse] at h1 h2
  omega
theorem Trim_f (s : ByteArray) (h : s.size ≤ 9223372036854775807) : sign_Trim.f s = some ⟨(trm s.data.toList).toArray⟩ := by
  unfold sign_Trim.f strings_Trim.f
  rw [if_pos ⟨h, by decide, by decide⟩]
  rfl

end Go.Proofs.YtjgpifjfaiaidaaDoor.Pure

namespace Go.Proofs.YtjgpifjfaiaidaaDoor.Pure
open Go.RowKit Go.Proofs.YtjgpifjfaiaidaaDoor.P Go.Proofs.YtjgpifjfaiaidaaDoorW.PrintWords Go.Proofs.YtjgpifjfaiaidaaDoorW.PrintLast Go.Proofs.YtjgpifjfaiaidaaDoorW.PrintMore
set_option linter.unusedVariables false
set_option linter.unusedSimpArgs false
/-- Is a field right? -/
def rightB (a t : ByteArray) : Bool := decide (a.size ≤ 100) && ((!a.toList.isEmpty && (bytesOf a).all tokB) && (decide (t.size ≤ 1000) && ((bytesOf t).all valB && (mkS (trm t.data.toList)).toList == t.toList)))
theorem Trim_mk (s : ByteArray) (h : s.size ≤ 9223372036854775807) : sign_Trim.f s = some (mkS (trm s.data.toList)) := Trim_f s h
theorem field_right_f (a t : ByteArray) : field_right.f a t = some (rightB a t) := by
  unfold field_right.f rightB
  by_cases h1 : (a.size : Int) ≤ 100
  · rw [if_pos h1, Token_f a (by omega), Option.bind_some, decide_eq_true (show a.size ≤ 100 by omega), Bool.true_and]
    cases hT : (!a.toList.isEmpty && (bytesOf a).all tokB)
    · rw [if_neg (by simp), Bool.false_and]
    · rw [if_pos rfl, Bool.true_and]
      by_cases h2 : (t.size : Int) ≤ 1000
      · rw [if_pos h2, Value_f t (by omega), Option.bind_some, decide_eq_true (show t.size ≤ 1000 by omega), Bool.true_and]
        cases (bytesOf t).all valB
        · rw [if_neg (by simp), Bool.false_and]
        · rw [if_pos rfl, Bool.true_and, Trim_mk t (by omega), Option.bind_some]
      · rw [if_neg h2, decide_eq_false (show ¬ t.size ≤ 1000 by omega), Bool.false_and]
  · rw [if_neg h1, decide_eq_false (show ¬ a.size ≤ 100 by omega), Bool.false_and]
def fieldOk (l : List UInt8) : Bool := if 58 ∈ l then rightB (mkS (l.takeWhile (· != 58))) (mkS (trm ((l.dropWhile (· != 58)).drop 1))) else false
theorem take_first (sp : UInt8) (a b : List UInt8) (h : sp ∉ a) : (a ++ sp :: b).takeWhile (· != sp) = a ∧ ((a ++ sp :: b).dropWhile (· != sp)).drop 1 = b := by
  induction a with
  | nil => simp [List.takeWhile_cons, List.dropWhile_cons]
  | cons x a ih =>
    have hx : x ≠ sp := fun e => h (by rw [e]; exact List.mem_cons_self ..)
    have := ih (fun e => h (List.mem_cons_of_mem _ e))
    simp only [List.cons_append, List.takeWhile_cons, List.dropWhile_cons, bne_iff_ne, ne_eq, hx, not_false_eq_true, if_true]
    exact ⟨by rw [this.1], this.2⟩
theorem fieldOk_no (l : List UInt8) (h : 58 ∉ l) : fieldOk l = false := by unfold fieldOk; rw [if_neg h]
theorem fieldOk_yes (a b : List UInt8) (h : 58 ∉ a) : fieldOk (a ++ 58 :: b) = rightB (mkS a) (mkS (trm b)) := by
  unfold fieldOk
  obtain ⟨e1, e2⟩ := take_first 58 a b h
  rw [if_pos (by simp), e1, e2]
theorem field_f (l : List UInt8) (hn : l.length ≤ 140737488355328) : ∃ x y, field_Parse.f (mkS l) = some (x, y, if fieldOk l = true then 0 else 20) := by
  unfold field_Parse.f
  rcases split_first 58 l with h | ⟨a, b, rfl, h⟩
  · rw [Cut_no 58 l h, Option.bind_some, fieldOk_no l h]
    simp only
    rw [Trim_mk _ (by decide), Option.bind_some]
    exact ⟨_, _, rfl⟩
  · rw [Cut_yes 58 a b h hn, Option.bind_some, fieldOk_yes a b h]
    simp only
    rw [Trim_mk _ (by rw [mkS_size]; rw [List.length_append, List.length_cons] at hn; omega), Option.bind_some, if_pos trivial, field_right_f, Option.bind_some, mkS_data]
    cases rightB (mkS a) (mkS (trm b)) <;> exact ⟨_, _, rfl⟩

end Go.Proofs.YtjgpifjfaiaidaaDoor.Pure

namespace Go.Proofs.YtjgpifjfaiaidaaDoor.Pure
open Go.RowKit Go.Proofs.YtjgpifjfaiaidaaDoor.P Go.Proofs.YtjgpifjfaiaidaaDoorW.PrintWords Go.Proofs.YtjgpifjfaiaidaaDoorW.PrintLast Go.Proofs.YtjgpifjfaiaidaaDoorW.PrintMore
set_option linter.unusedVariables false
set_option linter.unusedSimpArgs false
theorem fold_tells (s : ByteArray) (hn : s.size ≤ 140737488355328) : sign_Fold.f s = some (strOfNums ((bytesOf s).map foldC)) := if_pos hn
def Bytes (xs : List Int) : Prop := ∀ x ∈ xs, 0 ≤ x ∧ x ≤ 255
theorem foldC_byte (x : Int) (h0 : 0 ≤ x) (h1 : x ≤ 255) : 0 ≤ foldC x ∧ foldC x ≤ 255 := by unfold foldC; split <;> omega
theorem bytes_str {xs : List Int} (h : Bytes xs) : bytesOf (strOfNums xs) = xs := by
  unfold bytesOf
  rw [strOfNums_data, List.map_map]
  conv => rhs; rw [← List.map_id xs]
  refine List.map_congr_left fun x hx => ?_
  have := h x hx
  show ((UInt8.ofNat x.toNat).toNat : Int) = x
  rw [UInt8.toNat_ofNat']
  omega
end Go.Proofs.YtjgpifjfaiaidaaDoor.Pure

namespace Go.Proofs.YtjgpifjfaiaidaaDoor.Pure
open Go.RowKit Go.Proofs.YtjgpifjfaiaidaaDoor.P Go.Proofs.YtjgpifjfaiaidaaDoorW.PrintWords Go.Proofs.YtjgpifjfaiaidaaDoorW.PrintLast Go.Proofs.YtjgpifjfaiaidaaDoorW.PrintMore
set_option linter.unusedVariables false
set_option linter.unusedSimpArgs false
/-- The value of a digit, or -1. -/
def digV (c : Int) : Int := Lib.indexByte [48, 49, 50, 51, 52, 53, 54, 55, 56, 57, 97, 98, 99, 100, 101, 102] (foldC c).toNat.toUInt8
/-- The number of digits, from n on. -/
def numL (base : Int) : List Int → Int → Option Int
  | [], n => some n
  | c :: r, n => if 0 ≤ digV c ∧ digV c < base then numL base r (n * base + digV c) else none
theorem digV_lt (c : Int) (h0 : 0 ≤ c) (h1 : c ≤ 255) : digV c < 16 := by
  obtain ⟨n, rfl⟩ := Int.eq_ofNat_of_zero_le h0
  have h : ∀ m : Fin 256, digV (m.val : Int) < 16 := by decide +kernel
  exact h ⟨n, by omega⟩
theorem one_fold (s : ByteArray) (i : Int) (h0 : 0 ≤ i) (h : i < (s.size : Int)) : sign_Fold.f (s.extract i.toNat (i + 1).toNat) = some (strOfNums [foldC (bt s i)]) := by
  have hl : i.toNat < s.data.toList.length := by rw [data_length]; omega
  have e1 : (s.extract i.toNat (i + 1).toNat).data.toList = [s.data.toList[i.toNat]] := by
    rw [Lib.extract_data, show (i + 1).toNat - i.toNat = 1 by omega, List.drop_eq_getElem_cons hl]
    rfl
  have hz : (s.extract i.toNat (i + 1).toNat).size = 1 := by rw [← data_length, e1]; rfl
  rw [fold_tells _ (by omega)]
  unfold bytesOf
  rw [e1]
  have e2 : ((s.data.toList[i.toNat]).toNat : Int) = bt s i := by
    unfold bt
    rw [dif_pos (by omega)]
    rfl
  simp only [List.map_cons, List.map_nil, e2]
theorem bt_one (x : Int) (h0 : 0 ≤ x) (h1 : x ≤ 255) : bt (strOfNums [x]) 0 = x := by
  have h := bytes_str (xs := [x]) (by intro y hy; rw [List.mem_singleton.1 hy]; exact ⟨h0, h1⟩)
  rw [← rd_bytesOf, h]
  rfl
theorem index_dig (s : ByteArray) (i : Int) : strings_IndexByte.f (⟨#[48, 49, 50, 51, 52, 53, 54, 55, 56, 57, 97, 98, 99, 100, 101, 102]⟩ : ByteArray) (bt (strOfNums [foldC (bt s i)]) 0) = some (digV (bt s i)) := by
  have hr := bt_range s i
  have hf := foldC_byte _ hr.1 hr.2
  rw [bt_one _ hf.1 hf.2]
  rfl
theorem pow_pos' (b : Int) (hb : 1 ≤ b) : ∀ n : Nat, 1 ≤ b ^ n
  | 0 => by simp
  | n + 1 => by
    rw [Int.pow_succ]
    have h1 := pow_pos' b hb n
    have h2 := Int.mul_le_mul_of_nonneg_left hb (show 0 ≤ b ^ n by omega)
    rw [Int.mul_one] at h2
    omega
theorem pow_mono' (b : Int) (hb : 1 ≤ b) (i : Nat) : ∀ d : Nat, b ^ i ≤ b ^ (i + d)
  | 0 => Int.le_refl _
  | d + 1 => by
    rw [← Nat.add_assoc, Int.pow_succ]
    have h0 := pow_mono' b hb i d
    have h1 := pow_pos' b hb (i + d)
    have h2 := Int.mul_le_mul_of_nonneg_left hb (show 0 ≤ b ^ (i + d) by omega)
    rw [Int.mul_one] at h2
    omega
/-- Too long: none. -/
theorem number_long (s : ByteArray) (base most : Int) (hm : (s.size : Int) > most) (hs : s.size ≤ 140737488355327) (d : Nat) : ∀ (k : Nat) (n i : Int), 0 ≤ i → (s.size : Int) - i = d → 2 * d + 1 ≤ k →
    sign_number.l0 k s base most n (s.size : Int) i = some (0, false) := by
  induction d with
  | zero =>
    intro k n i h0 hd hk
    obtain ⟨k, rfl⟩ : ∃ m, k = m + 1 := ⟨k - 1, by omega⟩
    simp only [sign_number.l0]
    rw [if_neg (by omega)]
    repeat' split
    all_goals first | rfl | (exfalso; omega)
  | succ d ih =>
    intro k n i h0 hd hk
    obtain ⟨k, rfl⟩ : ∃ m, k = m + 2 := ⟨k - 2, by omega⟩
    have hw : wrap64 (i + 1) = i + 1 := by unfold wrap64; omega
    have ih' := fun n => ih k n (i + 1) (by omega) (by omega) (by omega)
    simp only [sign_number.l0]
    rw [if_pos (by omega), if_pos h0, hw, if_pos (by omega), if_pos (by omega), one_fold s i h0 (by omega), Option.bind_some, if_pos (by rw [str_size]; simp), index_dig, Option.bind_some]
    simp only [sign_number.j1]
    rw [hw, ih', ih']
    repeat' split
    all_goals rfl
theorem number_short (s : ByteArray) (base : Int) (most : Nat) (hb0 : 0 ≤ base) (hB : base ^ most ≤ 4611686018427387904) (hb1 : 1 ≤ base) (hm : s.size ≤ most) (hs : s.size ≤ 140737488355327) (d : Nat) : ∀ (k : Nat) (n : Int) (i : Nat), i + d = s.size → 2 * d + 1 ≤ k → 0 ≤ n → n + 1 ≤ base ^ i →
    sign_number.l0 k s base most n (s.size : Int) i = some (match numL base ((bytesOf s).drop i) n with | some v => if s.size = 0 then (0, false) else (v, true) | none => (0, false)) := by
  induction d with
  | zero =>
    intro k n i hi hk h0 hn
    obtain ⟨k, rfl⟩ : ∃ m, k = m + 1 := ⟨k - 1, by omega⟩
    rw [List.drop_of_length_le (by rw [bytesOf_length]; omega)]
    simp only [sign_number.l0, numL]
    rw [if_neg (by omega)]
    by_cases hz : s.size = 0
    · have he : s.toList = [] := by rw [toList_data]; exact List.eq_nil_of_length_eq_zero (by rw [data_length]; exact hz)
      rw [if_pos he, if_pos hz]
    · have he : ¬ (s.toList = []) := by
        intro e
        rw [toList_data] at e
        have := data_length s
        rw [e] at this
        exact hz this.symm
      rw [if_neg he, if_neg hz, if_neg (by omega)]
  | succ d ih =>
    intro k n i hi hk h0 hn
    obtain ⟨k, rfl⟩ : ∃ m, k = m + 2 := ⟨k - 2, by omega⟩
    have hw : wrap64 ((i : Int) + 1) = (i : Int) + 1 := by unfold wrap64; omega
    have hl : i < (bytesOf s).length := by rw [bytesOf_length]; omega
    have hg : (bytesOf s)[i] = bt s i := by rw [← rd_bytesOf]; simp [rd, List.getD_eq_getElem?_getD, List.getElem?_eq_getElem hl]
    have hr := bt_range s i
    have hP : base ^ (i + 1) = base ^ i * base := Int.pow_succ _ _
    have hle : base ^ (i + 1) ≤ base ^ most := by
      have := pow_mono' base hb1 (i + 1) (most - (i + 1))
      rwa [show i + 1 + (most - (i + 1)) = most by omega] at this
    have h1 := Int.mul_le_mul_of_nonneg_right hn hb0
    rw [Int.add_mul, ← hP, Int.one_mul] at h1
    have h2 : 0 ≤ n * base := Int.mul_nonneg h0 hb0
    have h3 : 0 ≤ base := hb0
    have hdl := digV_lt _ hr.1 hr.2
    rw [List.drop_eq_getElem_cons hl, hg]
    simp only [sign_number.l0, numL]
    rw [if_pos (by omega), if_pos (by omega), hw, if_pos (by omega), if_pos (by omega), one_fold s i (by omega) (by omega), Option.bind_some, if_pos (by rw [str_size]; simp), index_dig, Option.bind_some]
    simp only [sign_number.j1]
    obtain ⟨D, hD⟩ : ∃ D, D = digV (bt s i) := ⟨_, rfl⟩
    rw [← hD] at hdl ⊢
    by_cases hv : 0 ≤ D ∧ D < base
    · rw [if_neg (by omega), decide_eq_false (by omega), if_neg (by simp), if_pos (by omega), hw, if_pos hv]
      have e1 : wrap64 (wrap64 (n * base) + D) = n * base + D := by unfold wrap64; omega
      rw [e1]
      have := ih k (n * base + D) (i + 1) (by omega) (by omega) (by omega) (by omega)
      rw [show (((i + 1 : Nat)) : Int) = (i : Int) + 1 by omega] at this
      exact this
    · rw [if_neg hv]
      by_cases hn0 : D < 0
      · rw [if_pos hn0, if_pos trivial]
      · rw [if_neg hn0, decide_eq_true (by omega), if_pos rfl]
/-- What number tells. -/
def numSpec (s : ByteArray) (base : Int) (most : Nat) : Int × Bool :=
  if s.size = 0 ∨ s.size > most then (0, false) else match numL base (bytesOf s) 0 with | some v => (v, true) | none => (0, false)
theorem number_f (s : ByteArray) (base : Int) (most : Nat) (hb1 : 1 ≤ base) (hB : base ^ most ≤ 4611686018427387904) (hs : s.size ≤ 140737488355327) (k : Nat) (hk : 2 * s.size + 1 ≤ k) : sign_number.f k s base most = some (numSpec s base most) := by
  unfold sign_number.f numSpec
  by_cases hm : s.size > most
  · rw [if_pos (Or.inr hm)]
    exact number_long s base most (by omega) hs s.size k 0 0 (by omega) (by omega) hk
  · have := number_short s base most (by omega) hB hb1 (by omega) hs s.size k 0 0 (by omega) hk (by omega) (by simp)
    rw [show ((0 : Nat) : Int) = 0 from rfl] at this
    rw [this]
    by_cases hz : s.size = 0
    · rw [if_pos (Or.inl hz), List.drop_zero]
      cases numL base (bytesOf s) 0 <;> simp [hz]
    · rw [if_neg (by omega), List.drop_zero]
      cases numL base (bytesOf s) 0 <;> simp [hz]
theorem Hex_f (s : ByteArray) (hs : s.size ≤ 140737488355327) (k : Nat) (hk : 2 * s.size + 1 ≤ k) : sign_Hex.f k s = some (numSpec s 16 15) := by
  unfold sign_Hex.f
  rw [show (15 : Int) = ((15 : Nat) : Int) from rfl, number_f s 16 15 (by decide) (by decide) hs k hk, Option.bind_some]

end Go.Proofs.YtjgpifjfaiaidaaDoor.Pure

namespace Go.Proofs.YtjgpifjfaiaidaaDoor.Pure
open Go.RowKit Go.Proofs.YtjgpifjfaiaidaaDoor.P Go.Proofs.YtjgpifjfaiaidaaDoorW.PrintWords Go.Proofs.YtjgpifjfaiaidaaDoorW.PrintLast Go.Proofs.YtjgpifjfaiaidaaDoorW.PrintMore
set_option linter.unusedVariables false
set_option linter.unusedSimpArgs false
theorem blk_iff (b : UInt8) : blk b = (decide (b = 32) || decide (b = 9)) := by
  unfold blk
  simp [List.contains_cons]
theorem blank_f (b : UInt8) : tollbarref02_blank.f (b.toNat : Int) = some (blk b) := by
  unfold tollbarref02_blank.f
  rw [blk_iff]
  by_cases h : b = 32
  · subst h; rfl
  · have h1 : ¬ ((b.toNat : Int) = 32) := fun e => h (UInt8.toNat_inj.1 (show b.toNat = 32 by omega))
    rw [if_neg h1]
    by_cases h2 : b = 9
    · subst h2; rfl
    · have h3 : ¬ ((b.toNat : Int) = 9) := fun e => h2 (UInt8.toNat_inj.1 (show b.toNat = 9 by omega))
      simp [h, h2, h3]
/-- Blanks behind taken away. -/
def rtrim (l : List UInt8) : List UInt8 := (l.reverse.dropWhile blk).reverse
theorem rtrim_snoc (l : List UInt8) (c : UInt8) : rtrim (l ++ [c]) = if blk c = true then rtrim l else l ++ [c] := by
  unfold rtrim
  rw [List.reverse_append, List.reverse_singleton, List.singleton_append, List.dropWhile_cons]
  split <;> simp
theorem rtrim_len (l : List UInt8) : (rtrim l).length ≤ l.length := by
  unfold rtrim
  rw [List.length_reverse]
  have := (List.dropWhile_sublist blk (l := l.reverse)).length_le
  rw [List.length_reverse] at this
  exact this
theorem snoc_parts (l : List UInt8) (c : UInt8) (hn : (l ++ [c]).length ≤ 4398046511104) : ((mkS (l ++ [c])).size : Int) > 0 ∧ wrap64 (((mkS (l ++ [c])).size : Int) - 1) = (l.length : Int) ∧ ((mkS (l ++ [c])).size : Int) = (l.length : Int) + 1 ∧ bt (mkS (l ++ [c])) (l.length : Int) = (c.toNat : Int) ∧ (mkS (l ++ [c])).extract 0 l.length = mkS l := by
  have hs : (mkS (l ++ [c])).size = l.length + 1 := by rw [mkS_size, List.length_append]; rfl
  refine ⟨by omega, ?_, by omega, ?_, ?_⟩
  · rw [hs]; rw [List.length_append] at hn; unfold wrap64; omega
  · rw [bt_mk _ _ (by rw [List.length_append]; simp)]; simp
  · rw [mkS_extract]; simp
theorem rtail (n : Nat) : ∀ (l : List UInt8) (k : Nat), l.length = n → n < k → n ≤ 4398046511104 → tollbarref02_Trim.l1 k (mkS l) = some (mkS (rtrim l)) := by
  induction n with
  | zero =>
    intro l k hl hk _
    obtain ⟨k, rfl⟩ : ∃ m, k = m + 1 := ⟨k - 1, by omega⟩
    obtain rfl := List.eq_nil_of_length_eq_zero hl
    rw [tollbarref02_Trim.l1, if_neg (by rw [mkS_size]; simp)]
    rfl
  | succ n ih =>
    intro l k hl hk hn
    obtain ⟨k, rfl⟩ : ∃ m, k = m + 1 := ⟨k - 1, by omega⟩
    rcases List.eq_nil_or_concat l with rfl | ⟨l', c, rfl⟩
    · simp at hl
    · rw [List.concat_eq_append] at hl ⊢
      rw [List.length_append] at hl
      obtain ⟨h1, h2, h3, h4, h5⟩ := snoc_parts l' c (by rw [List.length_append]; omega)
      rw [tollbarref02_Trim.l1, if_pos h1, h2, if_pos (by omega), if_pos (by omega), h4, blank_f, Option.bind_some, rtrim_snoc]
      cases blk c
      · rw [if_neg (by simp), if_neg (by simp)]
      · rw [if_pos rfl, if_pos (by omega), if_pos rfl, Int.toNat_natCast, h5]
        exact ih l' k (by simpa using hl) (by omega) (by omega)
theorem rfront (n : Nat) : ∀ (l : List UInt8) (k : Nat), l.length = n → 2 * n + 3 ≤ k → n ≤ 4398046511104 → tollbarref02_Trim.l0 k (mkS l) = some (mkS (rtrim (l.dropWhile blk))) := by
  induction n with
  | zero =>
    intro l k hl hk hn
    obtain ⟨k, rfl⟩ : ∃ m, k = m + 2 := ⟨k - 2, by omega⟩
    obtain rfl := List.eq_nil_of_length_eq_zero hl
    rw [tollbarref02_Trim.l0, if_neg (by rw [mkS_size]; simp), tollbarref02_Trim.j1]
    exact rtail 0 [] k rfl (by omega) (by omega)
  | succ n ih =>
    intro l k hl hk hn
    obtain ⟨k, rfl⟩ : ∃ m, k = m + 2 := ⟨k - 2, by omega⟩
    cases l with
    | nil => simp at hl
    | cons c l =>
      have hb : bt (mkS (c :: l)) 0 = (c.toNat : Int) := by have := bt_mk (c :: l) 0 (by simp); simpa using this
      have hs : (mkS (c :: l)).size = l.length + 1 := by rw [mkS_size]; rfl
      rw [List.length_cons] at hl
      rw [tollbarref02_Trim.l0, if_pos (by omega), if_pos (by omega), hb, blank_f, Option.bind_some, List.dropWhile_cons]
      cases blk c
      · rw [if_neg (by simp), if_neg (by simp), tollbarref02_Trim.j1]
        exact rtail (n + 1) (c :: l) k (by rw [List.length_cons]; omega) (by omega) hn
      · rw [if_pos rfl, if_pos (by omega), if_pos rfl, mkS_extract, List.take_of_length_le (by rw [hs]; simp)]
        exact ih l (k + 1) (by omega) (by omega) (by omega)
theorem trm_two (l : List UInt8) : trm l = rtrim (l.dropWhile blk) := by
  obtain ⟨pre, e1, h1⟩ := dw_split blk l
  obtain ⟨post, e2, h2⟩ := dw_split blk (l.dropWhile blk).reverse
  have e3 : l.dropWhile blk = rtrim (l.dropWhile blk) ++ post.reverse := by
    have := congrArg List.reverse e2
    rw [List.reverse_reverse, List.reverse_append] at this
    exact this
  have hc : Clean (rtrim (l.dropWhile blk)) := by
    refine ⟨fun a ha => ?_, fun a ha => ?_⟩
    · refine dw_head blk l a ?_
      rw [e3, List.head?_append, ha]; rfl
    · unfold rtrim at ha
      rw [List.getLast?_reverse] at ha
      exact dw_head blk _ a ha
  have e4 : l = pre ++ rtrim (l.dropWhile blk) ++ post.reverse := by rw [List.append_assoc, ← e3]; exact e1
  conv => lhs; rw [e4]
  exact trm_around pre _ _ hc h1 (fun a ha => h2 a (List.mem_reverse.1 ha))
theorem refTrim_f (s : ByteArray) (hs : s.size ≤ 4398046511104) (k : Nat) (hk : 2 * s.size + 3 ≤ k) : tollbarref02_Trim.f k s = sign_Trim.f s := by
  rw [Trim_f s (by omega), trm_two]
  unfold tollbarref02_Trim.f
  have := rfront s.size s.data.toList k (by rw [data_length]) hk hs
  rw [mkS_self] at this
  exact this

end Go.Proofs.YtjgpifjfaiaidaaDoor.Pure

namespace Go.Proofs.YtjgpifjfaiaidaaDoor.Pure
open Go.RowKit Go.Proofs.YtjgpifjfaiaidaaDoor.P Go.Proofs.YtjgpifjfaiaidaaDoorW.PrintWords Go.Proofs.YtjgpifjfaiaidaaDoorW.PrintLast Go.Proofs.YtjgpifjfaiaidaaDoorW.PrintMore
set_option linter.unusedVariables false
set_option linter.unusedSimpArgs false
/-- The size that a chunk's line tells; is it one? -/
def sizeS (l : List UInt8) : Int × Bool :=
  ((numSpec (mkS (rtrim (l.takeWhile (· != 59)))) 16 15).1, (numSpec (mkS (rtrim (l.takeWhile (· != 59)))) 16 15).2 && (bytesOf (mkS ((l.dropWhile (· != 59)).drop 1))).all valB)
theorem take_none (sp : UInt8) (l : List UInt8) (h : sp ∉ l) : l.takeWhile (· != sp) = l ∧ (l.dropWhile (· != sp)).drop 1 = [] := by
  induction l with
  | nil => simp
  | cons x a ih =>
    have hx : x ≠ sp := fun e => h (by rw [e]; exact List.mem_cons_self ..)
    have := ih (fun e => h (List.mem_cons_of_mem _ e))
    simp only [List.takeWhile_cons, List.dropWhile_cons, bne_iff_ne, ne_eq, hx, not_false_eq_true, if_true]
    exact ⟨by rw [this.1], this.2⟩
theorem sizeS_no (l : List UInt8) (h : 59 ∉ l) : sizeS l = numSpec (mkS (rtrim l)) 16 15 := by
  obtain ⟨e1, e2⟩ := take_none 59 l h
  unfold sizeS
  rw [e1, e2]
  have : (bytesOf (mkS [])).all valB = true := by rw [mkS_bytes]; rfl
  rw [this, Bool.and_true]
theorem sizeS_yes (a b : List UInt8) (h : 59 ∉ a) : sizeS (a ++ 59 :: b) = ((numSpec (mkS (rtrim a)) 16 15).1, (numSpec (mkS (rtrim a)) 16 15).2 && (bytesOf (mkS b)).all valB) := by
  obtain ⟨e1, e2⟩ := take_first 59 a b h
  unfold sizeS
  rw [e1, e2]
theorem TrimRight_f (l : List UInt8) (hl : l.length ≤ 140737488355328) : strings_TrimRight.f (mkS l) ⟨#[32, 9]⟩ = some (mkS (rtrim l)) := by
  unfold strings_TrimRight.f
  rw [if_pos ⟨by rw [mkS_size]; omega, by decide, by decide⟩, mkS_data]
  rfl
theorem numL_bound (xs : List Int) : ∀ (n v : Int) (B : Int), 0 ≤ n → n < B → numL 16 xs n = some v → 0 ≤ v ∧ v < B * 16 ^ xs.length := by
  induction xs with
  | nil => intro n v B h0 h1 h; simp only [numL, Option.some.injEq] at h; subst h; simpa using ⟨h0, h1⟩
  | cons x xs ih =>
    intro n v B h0 h1 h
    rw [numL] at h
    by_cases hd : 0 ≤ digV x ∧ digV x < 16
    · rw [if_pos hd] at h
      have := ih _ v (B * 16) (by omega) (by omega) h
      rw [List.length_cons, Int.pow_succ, Int.mul_comm (16 ^ xs.length) 16, ← Int.mul_assoc]
      exact this
    · rw [if_neg hd] at h; cases h
theorem hexs_bound (s : ByteArray) : 0 ≤ (numSpec s 16 15).1 ∧ (numSpec s 16 15).1 ≤ 1152921504606846976 := by
  unfold numSpec
  split
  · exact ⟨by decide, by decide⟩
  · rename_i h
    cases hv : numL 16 (bytesOf s) 0 with
    | none => exact ⟨by decide, by decide⟩
    | some v =>
      have := numL_bound (bytesOf s) 0 v 1 (by decide) (by decide) hv
      have hl : (bytesOf s).length ≤ 15 := by rw [bytesOf_length]; omega
      have h2 : (16 : Int) ^ (bytesOf s).length ≤ 16 ^ 15 := by
        have := pow_mono' 16 (by decide) (bytesOf s).length (15 - (bytesOf s).length)
        rwa [show (bytesOf s).length + (15 - (bytesOf s).length) = 15 by omega] at this
      exact ⟨this.1, by simp only; have h3 : (16 : Int) ^ 15 = 1152921504606846976 := by decide
                        omega⟩
theorem size_bound (l : List UInt8) : 0 ≤ (sizeS l).1 ∧ (sizeS l).1 ≤ 1152921504606846976 := hexs_bound _
theorem line_f (l : List Int) (p : Nat) (hp : p ≤ l.length) (hl : l.length ≤ 1000000) (k : Nat) (hk : 3 * l.length + 3 ≤ k) :
    chunk_reader_line.f k l p = some ((cutSpec (l.drop p) 256).1, (cutSpec (l.drop p) 256).2.2, (p : Int) + (cutSpec (l.drop p) 256).2.1, decide ((cutSpec (l.drop p) 256).2.1 = 0) && decide ((cutSpec (l.drop p) 256).2.2 = 0)) := by
  unfold chunk_reader_line.f
  have hd : (l.drop p).length = l.length - p := List.length_drop ..
  rw [if_pos (by omega), if_pos (by omega), Int.toNat_natCast, cut_f _ _ (by omega) k (by omega), Option.bind_some]
  have hw : wrap64 ((p : Int) + (cutSpec (l.drop p) 256).2.1) = (p : Int) + (cutSpec (l.drop p) 256).2.1 := by
    rcases cutS_shape (l.drop p) 256 with h | h <;> unfold wrap64 <;> omega
  rw [hw]
theorem size_f (l : List Int) (p : Nat) (hp : p ≤ l.length) (hl : l.length ≤ 1000000) (k : Nat) (hk : 3 * l.length + 3 ≤ k) :
    chunk_reader_size.f k l p = some (if (cutSpec (l.drop p) 256).2.2 = 0 then (if (cutSpec (l.drop p) 256).2.1 = 0 then (0, 0, (p : Int), true) else
        if (sizeS (cutSpec (l.drop p) 256).1.data.toList).2 = true then ((sizeS (cutSpec (l.drop p) 256).1.data.toList).1, 0, (p : Int) + (cutSpec (l.drop p) 256).2.1, false) else (0, 30, (p : Int) + (cutSpec (l.drop p) 256).2.1, false))
      else (0, (cutSpec (l.drop p) 256).2.2, (p : Int) + (cutSpec (l.drop p) 256).2.1, false)) := by
  unfold chunk_reader_size.f
  rw [line_f l p hp hl k hk, Option.bind_some]
  have hsh := cutS_shape (l.drop p) 256
  have hd : (l.drop p).length = l.length - p := List.length_drop ..
  obtain ⟨c, hc⟩ : ∃ c, c = cutSpec (l.drop p) 256 := ⟨_, rfl⟩
  rw [← hc] at hsh ⊢
  simp only
  by_cases h1 : c.2.2 = 0
  · rw [if_pos h1, if_pos h1]
    by_cases h2 : c.2.1 = 0
    · rw [if_pos h2, decide_eq_true h2, decide_eq_true h1, if_pos (by rfl), h2, Int.add_zero]
    · rw [if_neg h2, decide_eq_false h2, Bool.false_and, if_neg (by simp)]
      have hsz : c.1.data.toList.length ≤ 1000000 := by rw [data_length]; rcases hsh with h | h <;> omega
      have e0 : c.1 = mkS c.1.data.toList := (mkS_self _).symm
      obtain ⟨u, hu⟩ : ∃ u, u = c.1.data.toList := ⟨_, rfl⟩
      rw [← hu] at e0 hsz ⊢
      rw [e0]
      have hk2 : 2 * u.length + 1 ≤ k := by
        have : u.length = c.1.size := by rw [hu, data_length]
        rcases hsh with h | h <;> omega
      rcases split_first 59 u with h | ⟨a, b, hab, h⟩
      · have hr := rtrim_len u
        rw [Cut_no 59 u h, Option.bind_some]
        simp only
        rw [TrimRight_f u (by omega), Option.bind_some, Hex_f _ (by rw [mkS_size]; omega) k (by rw [mkS_size]; omega), Option.bind_some, sizeS_no u h]
        cases (numSpec (mkS (rtrim u)) 16 15).2
        · rw [if_neg (by simp), if_neg (by simp)]
        · rw [if_pos rfl, if_pos rfl, Value_f _ (by decide), Option.bind_some, if_pos (by rfl)]
      · subst hab
        have hab : (a ++ 59 :: b).length = a.length + b.length + 1 := by rw [List.length_append, List.length_cons]; omega
        have hr := rtrim_len a
        rw [Cut_yes 59 a b h (by omega), Option.bind_some]
        simp only
        rw [TrimRight_f a (by omega), Option.bind_some, Hex_f _ (by rw [mkS_size]; omega) k (by rw [mkS_size]; omega), Option.bind_some, sizeS_yes a b h]
        cases (numSpec (mkS (rtrim a)) 16 15).2
        · rw [if_neg (by simp), Bool.false_and, if_neg (by simp)]
        · rw [if_pos rfl, Bool.true_and, Value_f _ (by rw [mkS_size]; omega), Option.bind_some]
          cases (bytesOf (mkS b)).all valB <;> rfl
  · rw [if_neg h1, if_neg h1, decide_eq_false h1, Bool.and_false]

end Go.Proofs.YtjgpifjfaiaidaaDoor.Pure

namespace Go.Proofs.YtjgpifjfaiaidaaDoor.Pure
open Go.RowKit Go.Proofs.YtjgpifjfaiaidaaDoor.P Go.Proofs.YtjgpifjfaiaidaaDoorW.PrintWords Go.Proofs.YtjgpifjfaiaidaaDoorW.PrintLast Go.Proofs.YtjgpifjfaiaidaaDoorW.PrintMore
set_option linter.unusedVariables false
set_option linter.unusedSimpArgs false
/-- The lines behind the last chunk, at most d more: the place behind them (0: they are not whole), the error. -/
def trailS (l : List Int) : Nat → Nat → Int × Int
  | 0, _ => (0, 3)
  | d + 1, p => if (cutSpec (l.drop p) 256).2.2 = 0 then (if (cutSpec (l.drop p) 256).2.1 = 0 then (0, 0)
      else if (cutSpec (l.drop p) 256).1.toList = [] then ((p : Int) + (cutSpec (l.drop p) 256).2.1, 0)
      else if fieldOk (cutSpec (l.drop p) 256).1.data.toList = true then trailS l d (p + (cutSpec (l.drop p) 256).2.1.toNat) else (0, 20))
    else (0, (cutSpec (l.drop p) 256).2.2)
/-- The body from a place on. -/
def decS (l : List Int) : Nat → Nat → Int → List Int → List Int × Int × Int
  | 0, _, _, _ => ([], 0, 0)
  | d + 1, p, left, out => if (cutSpec (l.drop p) 256).2.2 = 0 then (if (cutSpec (l.drop p) 256).2.1 = 0 then ([], 0, 0)
      else if (sizeS (cutSpec (l.drop p) 256).1.data.toList).2 = true then (if (sizeS (cutSpec (l.drop p) 256).1.data.toList).1 = 0 then
          (if (trailS l 41 (p + (cutSpec (l.drop p) 256).2.1.toNat)).2 = 0 then (if (trailS l 41 (p + (cutSpec (l.drop p) 256).2.1.toNat)).1 = 0 then ([], 0, 0) else (out, (trailS l 41 (p + (cutSpec (l.drop p) 256).2.1.toNat)).1, 0)) else ([], 0, (trailS l 41 (p + (cutSpec (l.drop p) 256).2.1.toNat)).2))
        else if (sizeS (cutSpec (l.drop p) 256).1.data.toList).1 > left then ([], 0, 2)
        else if (dataOf (l.drop (p + (cutSpec (l.drop p) 256).2.1.toNat)) ((p + (cutSpec (l.drop p) 256).2.1.toNat : Nat) : Int) (sizeS (cutSpec (l.drop p) 256).1.data.toList).1 false).2.1 = 0 then
          (if (dataOf (l.drop (p + (cutSpec (l.drop p) 256).2.1.toNat)) ((p + (cutSpec (l.drop p) 256).2.1.toNat : Nat) : Int) (sizeS (cutSpec (l.drop p) 256).1.data.toList).1 false).2.2.2 = true then ([], 0, 0)
            else decS l d (p + (cutSpec (l.drop p) 256).2.1.toNat + (sizeS (cutSpec (l.drop p) 256).1.data.toList).1.toNat + 2) (left - (sizeS (cutSpec (l.drop p) 256).1.data.toList).1) (out ++ (l.drop (p + (cutSpec (l.drop p) 256).2.1.toNat)).take (sizeS (cutSpec (l.drop p) 256).1.data.toList).1.toNat))
        else ([], 0, 20))
      else ([], 0, 30))
    else ([], 0, (cutSpec (l.drop p) 256).2.2)
theorem trail_f (l : List Int) (hl : l.length ≤ 1000000) : ∀ (d : Nat) (n p k : Nat), n + d = 41 → 1 ≤ d → p ≤ l.length → d + 3 * l.length + 4 ≤ k →
    ∃ q m, chunk_reader_trailer.l k l p n = some ((trailS l d p).2, q, m) ∧ ((trailS l d p).2 = 0 → (m = true ↔ (trailS l d p).1 = 0) ∧ (m = false → q = (trailS l d p).1)) := by
  intro d
  induction d with
  | zero => intro n p k _ h; omega
  | succ d ih =>
    intro n p k hn _ hp hk
    obtain ⟨k, rfl⟩ : ∃ m, k = m + 1 := ⟨k - 1, by omega⟩
    have hsh := cutS_shape (l.drop p) 256
    have hd : (l.drop p).length = l.length - p := List.length_drop ..
    rw [chunk_reader_trailer.l, line_f l p hp hl k (by omega), Option.bind_some, trailS]
    obtain ⟨c, hc⟩ : ∃ c, c = cutSpec (l.drop p) 256 := ⟨_, rfl⟩
    rw [← hc] at hsh ⊢
    simp only
    by_cases h1 : c.2.2 = 0
    · rw [if_pos h1, if_pos h1]
      by_cases h2 : c.2.1 = 0
      · rw [if_pos h2, decide_eq_true h2, decide_eq_true h1, if_pos (by rfl)]
        exact ⟨_, _, rfl, fun _ => ⟨by simp, by simp⟩⟩
      · rw [if_neg h2, decide_eq_false h2, Bool.false_and, if_neg (by simp)]
        by_cases h3 : c.1.toList = []
        · rw [if_pos h3, if_pos h3]
          refine ⟨_, _, rfl, fun _ => ⟨⟨by simp, fun e => ?_⟩, fun _ => rfl⟩⟩
          simp only at e
          rcases hsh with h | h <;> omega
        · rw [if_neg h3, if_neg h3]
          have hz : c.1.data.toList.length = c.1.size := data_length _
          have hz2 : c.2.1 > 0 ∧ c.2.1 ≤ (l.length : Int) - p ∧ (c.1.size : Int) = c.2.1 - 2 := by rcases hsh with h | h <;> omega
          obtain ⟨x, y, hf⟩ := field_f c.1.data.toList (by omega)
          rw [mkS_self] at hf
          rw [hf, Option.bind_some]
          simp only
          cases fieldOk c.1.data.toList
          · rw [if_neg (by simp), if_neg (by decide), if_neg (by simp)]
            exact ⟨_, _, rfl, fun e => by simp at e⟩
          · rw [if_pos rfl, if_pos rfl, if_pos rfl]
            by_cases h4 : (n : Int) = 40
            · obtain rfl : d = 0 := by omega
              rw [if_pos h4, trailS]
              exact ⟨_, _, rfl, fun e => by simp at e⟩
            · rw [if_neg h4]
              have := ih (n + 1) (p + c.2.1.toNat) k (by omega) (by omega) (by omega) (by omega)
              rw [show ((p + c.2.1.toNat : Nat) : Int) = (p : Int) + c.2.1 by omega, show ((n + 1 : Nat) : Int) = (n : Int) + 1 by omega] at this
              exact this
    · rw [if_neg h1, if_neg h1]
      exact ⟨_, _, rfl, fun e => absurd e h1⟩
theorem data_f (l : List Int) (p : Nat) (n : Int) (hp : p ≤ l.length) (h0 : 0 ≤ n) (h1 : n ≤ 1152921504606846976) : chunk_reader_data.f l p n false = some (dataOf (l.drop p) p n false) := by
  unfold chunk_reader_data.f
  rw [if_pos ⟨by omega, by omega, h0, by omega⟩, Int.toNat_natCast]
theorem data_shape (rest : List Int) (p n : Int) (h0 : 0 ≤ p) (hp : p ≤ 1000000) (n0 : 0 ≤ n) (hr : rest.length ≤ 1000000) : (dataOf rest p n false).2.1 = 0 ∨ (dataOf rest p n false).2.1 = 20 := by
  unfold dataOf
  repeat' split
  all_goals first | exact Or.inl rfl | exact Or.inr rfl
theorem data_ok (rest : List Int) (p n : Int) (h0 : 0 ≤ p) (hp : p ≤ 1000000) (n0 : 0 ≤ n) (hr : rest.length ≤ 1000000) (h1 : (dataOf rest p n false).2.1 = 0) (h2 : ¬ (dataOf rest p n false).2.2.2 = true) :
    (dataOf rest p n false).1 = rest.take n.toNat ∧ (dataOf rest p n false).2.2.1 = p + (n + 2) ∧ n + 2 ≤ (rest.length : Int) ∧ rd rest n = 13 ∧ rd rest (n + 1) = 10 := by
  unfold dataOf at h1 h2 ⊢
  by_cases a0 : n < (rest.length : Int)
  · rw [if_pos a0] at h1 h2 ⊢
    by_cases a1 : rd rest n = 13
    · rw [if_pos a1] at h1 h2 ⊢
      by_cases a2 : n + 1 < (rest.length : Int)
      · rw [if_pos a2] at h1 h2 ⊢
        by_cases a3 : rd rest (n + 1) = 10
        · rw [if_pos a3]
          exact ⟨rfl, by show wrap64 (p + (n + 2)) = _; unfold wrap64; omega, by omega, a1, a3⟩
        · rw [if_neg a3] at h1; simp at h1
      · rw [if_neg a2] at h2; simp at h2
    · rw [if_neg a1] at h1; simp at h1
  · rw [if_neg a0] at h2; simp at h2
theorem dec_f (l : List Int) (hl : l.length ≤ 1000000) : ∀ (d p : Nat) (left : Int) (out : List Int) (k : Nat), p ≤ l.length → l.length < p + d → out.length ≤ p → 0 ≤ left → left ≤ 9223372036854775807 → d + 3 * l.length + 60 ≤ k →
    chunk_Decode.l k l p left out = some (decS l d p left out) := by
  intro d
  induction d with
  | zero => intro p left out k h1 h2; omega
  | succ d ih =>
    intro p left out k hp hd ho hl0 hl1 hk
    obtain ⟨k, rfl⟩ : ∃ m, k = m + 1 := ⟨k - 1, by omega⟩
    have hsh := cutS_shape (l.drop p) 256
    have hdl : (l.drop p).length = l.length - p := List.length_drop ..
    rw [chunk_Decode.l, size_f l p hp hl k (by omega), Option.bind_some, decS]
    obtain ⟨c, hc⟩ : ∃ c, c = cutSpec (l.drop p) 256 := ⟨_, rfl⟩
    rw [← hc] at hsh ⊢
    by_cases h1 : c.2.2 = 0
    · rw [if_pos h1, if_pos h1]
      by_cases h2 : c.2.1 = 0
      · rw [if_pos h2, if_pos h2]
        simp
      · have hz2 : c.2.1 > 0 ∧ c.2.1 ≤ (l.length : Int) - p ∧ (c.1.size : Int) = c.2.1 - 2 := by rcases hsh with h | h <;> omega
        rw [if_neg h2, if_neg h2]
        obtain ⟨z, hz⟩ : ∃ z, z = sizeS c.1.data.toList := ⟨_, rfl⟩
        have hzb := size_bound c.1.data.toList
        rw [← hz] at hzb ⊢
        obtain ⟨q, hq⟩ : ∃ q, q = p + c.2.1.toNat := ⟨_, rfl⟩
        have hq2 : (p : Int) + c.2.1 = (q : Int) := by omega
        rw [← hq, hq2]
        by_cases h3 : z.2 = true
        · rw [if_pos h3, if_pos h3]
          simp only
          rw [if_pos trivial, if_neg (by simp)]
          by_cases h4 : z.1 = 0
          · rw [if_pos h4, if_pos h4]
            obtain ⟨q', m, ht, hm⟩ := trail_f l hl 41 0 q k (by omega) (by omega) (by omega) (by omega)
            have ht' : chunk_reader_trailer.f k l q = some ((trailS l 41 q).2, q', m) := ht
            rw [ht', Option.bind_some]
            by_cases h5 : (trailS l 41 q).2 = 0
            · obtain ⟨hm1, hm2⟩ := hm h5
              rw [if_pos h5, if_pos h5]
              by_cases h6 : (trailS l 41 q).1 = 0
              · rw [if_pos h6, if_pos (hm1.2 h6)]
              · have hmf : m = false := by cases m with | false => rfl | true => exact absurd (hm1.1 rfl) h6
                rw [if_neg h6, hmf, if_neg (by simp), hm2 hmf]
            · rw [if_neg h5, if_neg h5]
          · rw [if_neg h4, if_neg h4]
            by_cases h5 : z.1 > left
            · rw [if_pos h5, if_pos h5]
            · rw [if_neg h5, if_neg h5, data_f l q z.1 (by omega) hzb.1 hzb.2, Option.bind_some]
              have hdr : (l.drop q).length = l.length - q := List.length_drop ..
              by_cases h6 : (dataOf (l.drop q) (q : Int) z.1 false).2.1 = 0
              · rw [if_pos h6, if_pos h6]
                by_cases h7 : (dataOf (l.drop q) (q : Int) z.1 false).2.2.2 = true
                · rw [if_pos h7, if_pos h7]
                · obtain ⟨e1, e2, e3, _, _⟩ := data_ok (l.drop q) q z.1 (by omega) (by omega) hzb.1 (by omega) h6 h7
                  have htk : ((l.drop q).take z.1.toNat).length ≤ z.1.toNat := List.length_take_le ..
                  rw [if_neg h7, if_neg h7, e1, e2, if_pos (by omega), show wrap64 (left - z.1) = left - z.1 by unfold wrap64; omega, show (q : Int) + (z.1 + 2) = ((q + z.1.toNat + 2 : Nat) : Int) by omega]
                  exact ih _ _ _ k (by omega) (by omega) (by rw [List.length_append]; omega) (by omega) (by omega) (by omega)
              · rcases data_shape (l.drop q) q z.1 (by omega) (by omega) hzb.1 (by omega) with e | e
                · exact absurd e h6
                · rw [if_neg h6, if_neg h6, e]
        · rw [if_neg h3, if_neg h3]
          simp
    · rw [if_neg h1, if_neg h1]
      simp only
      rw [if_neg h1]
theorem Decode_f (l : List Int) (most : Int) (hl : l.length ≤ 1000000) (hm : most ≤ 9223372036854775807) (k : Nat) (hk : 4 * l.length + 70 ≤ k) : chunk_Decode.f k l most = some (decS l (l.length + 1) 0 (mx most 0) []) := by
  unfold chunk_Decode.f
  exact dec_f l hl (l.length + 1) 0 (mx most 0) [] k (by omega) (by omega) (by simp) (by unfold mx; split <;> omega) (by unfold mx; split <;> omega) (by omega)

end Go.Proofs.YtjgpifjfaiaidaaDoor.Pure

namespace Go.Proofs.YtjgpifjfaiaidaaDoor.Pure
open Go.RowKit Go.Proofs.YtjgpifjfaiaidaaDoor.P Go.Proofs.YtjgpifjfaiaidaaDoorW.PrintWords Go.Proofs.YtjgpifjfaiaidaaDoorW.PrintLast Go.Proofs.YtjgpifjfaiaidaaDoorW.PrintMore
set_option linter.unusedVariables false
set_option linter.unusedSimpArgs false
theorem refCut_l0 (l : List Int) (m : Int) (hm : 0 ≤ m) (hn : l.length ≤ 140737488355328) (d : Nat) : ∀ (k : Nat) (i : Int), 0 ≤ i → (l.length : Int) - i = d → 3 * d + 3 ≤ k →
    tollbarref05_Cut.l0 k l m i = some (cutAt l m d i) := by
  induction d with
  | zero =>
    intro k i h0 hd hk
    obtain ⟨k, rfl⟩ : ∃ m, k = m + 1 := ⟨k - 1, by omega⟩
    simp only [tollbarref05_Cut.l0, cutAt]; rw [if_neg (by omega)]
  | succ d ih =>
    intro k i h0 hd hk
    obtain ⟨k, rfl⟩ : ∃ m, k = m + 3 := ⟨k - 3, by omega⟩
    have hlt : i < (l.length : Int) := by omega
    have hw1 : wrap64 (i + 1) = i + 1 := w64 1 h0 hlt hn (by omega) (by omega)
    have hw2 : wrap64 (i + 2) = i + 2 := w64 2 h0 hlt hn (by omega) (by omega)
    have hw3 : wrap64 ((l.length : Int) - 1) = (l.length : Int) - 1 := by unfold wrap64; omega
    have ih' := ih k (i + 1) (by omega) (by omega) (by omega)
    have hle : i ≤ (l.length : Int) := by omega
    have h01 : 0 ≤ i + 1 := by omega
    unfold tollbarref05_Cut.l0
    rw [if_pos hlt]
    unfold tollbarref05_Cut.j2 tollbarref05_Cut.j4 tollbarref05_Cut.j3 tollbarref05_Cut.j5
    simp only [cutAt, hw1, hw2, hw3, ih']
    by_cases hlast : i = (l.length : Int) - 1
    · have h1 : ¬ (i + 1 < (l.length : Int)) := by omega
      rw [if_pos hlast, if_pos h0]
      by_cases h10 : rd l i = 10
      · simp [h10]
      · by_cases h13 : rd l i = 13
        · simp [h13, h1, h0, hlt]
        · by_cases hm' : m ≤ i <;> simp [h10, h13, h0, hlt, hm']
    · have h1 : i + 1 < (l.length : Int) := by omega
      rw [if_neg hlast, if_pos h0]
      by_cases h10 : rd l i = 10
      · simp [h10]
      · by_cases h13 : rd l i = 13
        · by_cases hr : rd l (i + 1) = 10 <;> simp [h13, h1, h0, hlt, h01, hle, hr]
        · by_cases hm' : m ≤ i <;> simp [h10, h13, h0, hlt, hm']

theorem refCut_f (l : List Int) (a : Int) (hn : l.length ≤ 140737488355328) (k : Nat) (hk : 3 * l.length + 4 ≤ k) : tollbarref05_Cut.f k l a = some (cutSpec l a) := by
  obtain ⟨k, rfl⟩ : ∃ m, k = m + 1 := ⟨k - 1, by omega⟩
  unfold tollbarref05_Cut.f tollbarref05_Cut.j0 cutSpec mx
  by_cases h : a < 0
  · rw [if_pos h, if_pos h]
    exact refCut_l0 l 0 (by omega) hn l.length k 0 (by omega) (by omega) (by omega)
  · rw [if_neg h, if_neg h]
    exact refCut_l0 l a (by omega) hn l.length k 0 (by omega) (by omega) (by omega)

end Go.Proofs.YtjgpifjfaiaidaaDoor.Pure

namespace Go.Proofs.YtjgpifjfaiaidaaDoor.Pure
open Go.RowKit Go.Proofs.YtjgpifjfaiaidaaDoor.P Go.Proofs.YtjgpifjfaiaidaaDoorW.PrintWords Go.Proofs.YtjgpifjfaiaidaaDoorW.PrintLast Go.Proofs.YtjgpifjfaiaidaaDoorW.PrintMore
set_option linter.unusedVariables false
set_option linter.unusedSimpArgs false
theorem tokenByte_tells (c : Int) (h0 : 0 ≤ c) (h1 : c ≤ 255) (k : Nat) (hk : 1 ≤ k) : tollbarref02_tokenByte.f k c = some (tokB c) := by
  refine at_rounds (fun k => tollbarref02_tokenByte.mono c k) hk ?_
  exact byte_cases (P := fun c => tollbarref02_tokenByte.f 1 c = some (tokB c)) (by decide +kernel) c h0 h1
theorem valB_eq (c : Int) (h0 : 0 ≤ c) (h1 : c ≤ 255) : valB c = !(decide (c < 32) && !decide (c = 9) || decide (c = 127)) :=
  byte_cases (P := fun c => valB c = !(decide (c < 32) && !decide (c = 9) || decide (c = 127))) (by decide +kernel) c h0 h1
theorem refToken_l0 (s : ByteArray) (hn : s.size ≤ 140737488355328) (d : Nat) : ∀ (k : Nat) (i : Int), 0 ≤ i → (s.size : Int) - i = d → d + 2 ≤ k →
    tollbarref02_Token.l0 k s i = some (!s.toList.isEmpty && ((bytesOf s).drop i.toNat).all tokB) := by
  induction d with
  | zero =>
    intro k i h0 hd hk
    obtain ⟨k, rfl⟩ : ∃ m, k = m + 1 := ⟨k - 1, by omega⟩
    simp only [tollbarref02_Token.l0]
    rw [if_neg (by omega), drop_end _ _ _ (by omega), isEmpty_size]
    congr 1
    by_cases h : s.size = 0 <;> simp [h]; omega
  | succ d ih =>
    intro k i h0 hd hk
    obtain ⟨k, rfl⟩ : ∃ m, k = m + 1 := ⟨k - 1, by omega⟩
    have hlt : i < (s.size : Int) := by omega
    simp only [tollbarref02_Token.l0]
    rw [if_pos hlt, if_pos h0, tokenByte_tells _ (bt_range s i).1 (bt_range s i).2 k (by omega), w64 1 h0 hlt hn (by omega) (by omega), drop_all _ _ _ h0 hlt, isEmpty_size]
    have ih' := ih k (i + 1) (by omega) (by omega) (by omega)
    rw [isEmpty_size] at ih'
    simp only [Option.bind_some, ih']
    have hz : s.size ≠ 0 := by omega
    cases tokB (bt s i) <;> simp [hz]
theorem refToken_f (s : ByteArray) (hn : s.size ≤ 140737488355328) (k : Nat) (hk : s.size + 2 ≤ k) : tollbarref02_Token.f k s = sign_Token.f s := by
  rw [Token_f s hn]
  unfold tollbarref02_Token.f
  rw [refToken_l0 s hn s.size k 0 (by omega) (by omega) hk]
  rfl
theorem refValue_l0 (s : ByteArray) (hn : s.size ≤ 140737488355328) (d : Nat) : ∀ (k : Nat) (i : Int), 0 ≤ i → (s.size : Int) - i = d → d + 1 ≤ k →
    tollbarref02_Value.l0 k s i = some (((bytesOf s).drop i.toNat).all valB) := by
  induction d with
  | zero =>
    intro k i h0 hd hk
    obtain ⟨k, rfl⟩ : ∃ m, k = m + 1 := ⟨k - 1, by omega⟩
    simp only [tollbarref02_Value.l0]
    rw [if_neg (by omega), drop_end _ _ _ (by omega)]
  | succ d ih =>
    intro k i h0 hd hk
    obtain ⟨k, rfl⟩ : ∃ m, k = m + 1 := ⟨k - 1, by omega⟩
    have hlt : i < (s.size : Int) := by omega
    simp only [tollbarref02_Value.l0]
    have ih' := ih k (i + 1) (by omega) (by omega) (by omega)
    rw [if_pos hlt, if_pos h0, w64 1 h0 hlt hn (by omega) (by omega), drop_all _ _ _ h0 hlt, ih', valB_eq _ (bt_range s i).1 (bt_range s i).2]
    by_cases a : bt s i < 32 <;> by_cases b : bt s i = 9 <;> by_cases c : bt s i = 127 <;> simp [a, b, c]
theorem refValue_f (s : ByteArray) (hn : s.size ≤ 140737488355328) (k : Nat) (hk : s.size + 1 ≤ k) : tollbarref02_Value.f k s = sign_Value.f s := by
  rw [Value_f s hn]
  unfold tollbarref02_Value.f
  rw [refValue_l0 s hn s.size k 0 (by omega) (by omega) hk]
  rfl
end Go.Proofs.YtjgpifjfaiaidaaDoor.Pure

namespace Go.Proofs.YtjgpifjfaiaidaaDoor.Pure
open Go.RowKit Go.Proofs.YtjgpifjfaiaidaaDoor.P Go.Proofs.YtjgpifjfaiaidaaDoorW.PrintWords Go.Proofs.YtjgpifjfaiaidaaDoorW.PrintLast Go.Proofs.YtjgpifjfaiaidaaDoorW.PrintMore
set_option linter.unusedVariables false
set_option linter.unusedSimpArgs false
theorem One_f (a t : ByteArray) (ha : a.size ≤ 1000000) (ht : t.size ≤ 1000000) (k : Nat) (hk : 2 * a.size + 2 * t.size + 5 ≤ k) : tollbarref04_One.f k a t = some (rightB a t) := by
  unfold tollbarref04_One.f rightB
  rw [refToken_f a (by omega) k (by omega), Token_f a (by omega), Option.bind_some]
  cases hT : (!a.toList.isEmpty && (bytesOf a).all tokB)
  · rw [if_neg (by simp), Bool.false_and, Bool.and_false]
  · rw [if_pos rfl, Bool.true_and]
    by_cases h1 : (a.size : Int) ≤ 100
    · rw [if_pos h1, decide_eq_true (show a.size ≤ 100 by omega), Bool.true_and, refValue_f t (by omega) k (by omega), Value_f t (by omega), Option.bind_some]
      cases (bytesOf t).all valB
      · rw [if_neg (by simp), Bool.false_and, Bool.and_false]
      · rw [if_pos rfl, Bool.true_and, refTrim_f t (by omega) k (by omega), Trim_mk t (by omega), Option.bind_some]
        by_cases h2 : (mkS (trm t.data.toList)).toList = t.toList
        · rw [if_pos h2, beq_iff_eq.2 h2, Bool.and_true]
          congr 1
          exact decide_eq_decide.2 (by omega)
        · rw [if_neg h2, beq_eq_false_iff_ne.2 h2, Bool.and_false]
    · rw [if_neg h1, decide_eq_false (show ¬ a.size ≤ 100 by omega), Bool.false_and]
theorem colon (b : UInt8) : ((b.toNat : Int) = 58) ↔ b = 58 := ⟨fun h => UInt8.toNat_inj.1 (show b.toNat = 58 by omega), fun h => by rw [h]; rfl⟩
theorem refField_no (l : List UInt8) (h : 58 ∉ l) (hn : l.length ≤ 1000000) (d : Nat) : ∀ (k i : Nat), i + d = l.length → d < k → ∃ x y, tollbarref04_Parse.l0 k (mkS l) (i : Int) = some (x, y, false) := by
  have hs : (mkS l).size = l.length := mkS_size l
  induction d with
  | zero =>
    intro k i hi hk
    obtain ⟨k, rfl⟩ : ∃ m, k = m + 1 := ⟨k - 1, by omega⟩
    rw [tollbarref04_Parse.l0, if_neg (by omega)]
    exact ⟨_, _, rfl⟩
  | succ d ih =>
    intro k i hi hk
    obtain ⟨k, rfl⟩ : ∃ m, k = m + 1 := ⟨k - 1, by omega⟩
    have hlt : i < l.length := by omega
    rw [tollbarref04_Parse.l0, if_pos (by omega), if_pos (by omega), bt_mk l i hlt, if_neg (fun e => h (by rw [← (colon _).1 e]; exact List.getElem_mem hlt)), show wrap64 ((i : Int) + 1) = ((i + 1 : Nat) : Int) by unfold wrap64; omega]
    exact ih k (i + 1) (by omega) (by omega)
theorem refField_yes (a b : List UInt8) (h : 58 ∉ a) (hn : (a ++ 58 :: b).length ≤ 1000000) (d : Nat) : ∀ (k i : Nat), i + d = a.length → d + 4 * (a ++ 58 :: b).length + 20 ≤ k → ∃ x y, tollbarref04_Parse.l0 k (mkS (a ++ 58 :: b)) (i : Int) = some (x, y, rightB (mkS a) (mkS (trm b))) := by
  have hl : (a ++ 58 :: b).length = a.length + b.length + 1 := by rw [List.length_append, List.length_cons]; omega
  have hs : (mkS (a ++ 58 :: b)).size = a.length + b.length + 1 := by rw [mkS_size, hl]
  induction d with
  | zero =>
    intro k i hi hk
    obtain ⟨k, rfl⟩ : ∃ m, k = m + 1 := ⟨k - 1, by omega⟩
    obtain rfl : i = a.length := by omega
    have e1 : bt (mkS (a ++ 58 :: b)) (a.length : Int) = 58 := by rw [bt_mk _ _ (by omega)]; simp
    have e2 : (mkS (a ++ 58 :: b)).extract (a.length + 1) (a.length + b.length + 1) = mkS b := by
      rw [mkS_extract, List.drop_append, List.drop_of_length_le (by omega), show a.length + 1 - a.length = 1 by omega]
      simp
    have e3 : (mkS (a ++ 58 :: b)).extract 0 a.length = mkS a := by rw [mkS_extract]; simp
    have hb : (mkS b).size = b.length := mkS_size b
    have ht := trm_length b
    rw [tollbarref04_Parse.l0, if_pos (by omega), if_pos (by omega), e1, if_pos rfl, if_pos (by omega), show wrap64 ((a.length : Int) + 1) = ((a.length + 1 : Nat) : Int) by unfold wrap64; omega, if_pos (by omega), if_pos (by omega), Int.toNat_natCast, Int.toNat_natCast, hs, e2, e3,
      refTrim_f (mkS b) (by omega) k (by omega), Trim_mk _ (by omega), Option.bind_some, mkS_data, One_f _ _ (by rw [mkS_size]; omega) (by rw [mkS_size]; omega) k (by rw [mkS_size, mkS_size]; omega), Option.bind_some]
    cases rightB (mkS a) (mkS (trm b)) <;> exact ⟨_, _, rfl⟩
  | succ d ih =>
    intro k i hi hk
    obtain ⟨k, rfl⟩ : ∃ m, k = m + 1 := ⟨k - 1, by omega⟩
    have hlt : i < (a ++ 58 :: b).length := by omega
    have hla : i < a.length := by omega
    have e1 : (a ++ 58 :: b)[i] = a[i] := List.getElem_append_left hla
    rw [tollbarref04_Parse.l0, if_pos (by omega), if_pos (by omega), bt_mk _ i hlt, if_neg (fun e => h (by rw [← (colon _).1 e, e1]; exact List.getElem_mem hla)), show wrap64 ((i : Int) + 1) = ((i + 1 : Nat) : Int) by unfold wrap64; omega]
    exact ih k (i + 1) (by omega) (by omega)
theorem refField_f (l : List UInt8) (hn : l.length ≤ 1000000) (k : Nat) (hk : 5 * l.length + 20 ≤ k) : ∃ x y, tollbarref04_Parse.f k (mkS l) = some (x, y, fieldOk l) := by
  unfold tollbarref04_Parse.f
  rcases split_first 58 l with h | ⟨a, b, rfl, h⟩
  · rw [fieldOk_no l h]
    exact refField_no l h hn l.length k 0 (by omega) (by omega)
  · rw [fieldOk_yes a b h]
    exact refField_yes a b h hn a.length k 0 (by omega) (by rw [List.length_append] at hk ⊢; omega)

end Go.Proofs.YtjgpifjfaiaidaaDoor.Pure

namespace Go.Proofs.YtjgpifjfaiaidaaDoor.Pure
open Go.RowKit Go.Proofs.YtjgpifjfaiaidaaDoor.P Go.Proofs.YtjgpifjfaiaidaaDoorW.PrintWords Go.Proofs.YtjgpifjfaiaidaaDoorW.PrintLast Go.Proofs.YtjgpifjfaiaidaaDoorW.PrintMore
set_option linter.unusedVariables false
set_option linter.unusedSimpArgs false
theorem hdec_fact (c : Int) (h0 : 0 ≤ c) (h1 : c ≤ 255) : tollbarref02_Digit.f c = some (decide (0 ≤ digV c ∧ digV c < 10)) ∧ ((0 ≤ digV c ∧ digV c < 10) → (c - 48) % 256 = digV c) := by
  obtain ⟨n, rfl⟩ := Int.eq_ofNat_of_zero_le h0
  have h : ∀ m : Fin 256, tollbarref02_Digit.f (m.val : Int) = some (decide (0 ≤ digV (m.val : Int) ∧ digV (m.val : Int) < 10)) ∧ ((0 ≤ digV (m.val : Int) ∧ digV (m.val : Int) < 10) → ((m.val : Int) - 48) % 256 = digV (m.val : Int)) := by decide +kernel
  exact h ⟨n, by omega⟩
theorem hhex_fact (c : Int) (h0 : 0 ≤ c) (h1 : c ≤ 255) : ((c ≥ 97 ∧ c ≤ 102) → (c - 97) % 256 + 10 = digV c) ∧ ((c ≥ 65 ∧ c ≤ 70) → (c - 65) % 256 + 10 = digV c) ∧ (¬ (0 ≤ digV c ∧ digV c < 10) → ¬ (c ≥ 97 ∧ c ≤ 102) → ¬ (c ≥ 65 ∧ c ≤ 70) → digV c < 0) := by
  obtain ⟨n, rfl⟩ := Int.eq_ofNat_of_zero_le h0
  have h : ∀ m : Fin 256, (((m.val : Int) ≥ 97 ∧ (m.val : Int) ≤ 102) → ((m.val : Int) - 97) % 256 + 10 = digV (m.val : Int)) ∧ (((m.val : Int) ≥ 65 ∧ (m.val : Int) ≤ 70) → ((m.val : Int) - 65) % 256 + 10 = digV (m.val : Int)) ∧ (¬ (0 ≤ digV (m.val : Int) ∧ digV (m.val : Int) < 10) → ¬ ((m.val : Int) ≥ 97 ∧ (m.val : Int) ≤ 102) → ¬ ((m.val : Int) ≥ 65 ∧ (m.val : Int) ≤ 70) → digV (m.val : Int) < 0) := by decide +kernel
  exact h ⟨n, by omega⟩
/-- What a loop over digits tells. -/
def htold (r : Option Int) : Int × Bool := match r with | some v => (v, true) | none => (0, false)
theorem hrefHex_l0 (s : ByteArray) (hm : s.size ≤ 15) (d : Nat) : ∀ (k : Nat) (n : Int) (i : Nat), i + d = s.size → 2 * d + 1 ≤ k → 0 ≤ n → n + 1 ≤ 16 ^ i →
    tollbarref02_Hex.l0 k s n i = some (htold (numL 16 ((bytesOf s).drop i) n)) := by
  induction d with
  | zero =>
    intro k n i hi hk h0 hn
    obtain ⟨k, rfl⟩ : ∃ m, k = m + 1 := ⟨k - 1, by omega⟩
    rw [List.drop_of_length_le (by rw [bytesOf_length]; omega)]
    simp only [tollbarref02_Hex.l0, numL]
    rw [if_neg (by omega)]
    rfl
  | succ d ih =>
    intro k n i hi hk h0 hn
    obtain ⟨k, rfl⟩ : ∃ m, k = m + 1 := ⟨k - 1, by omega⟩
    have hw : wrap64 ((i : Int) + 1) = ((i + 1 : Nat) : Int) := by unfold wrap64; omega
    have hl : i < (bytesOf s).length := by rw [bytesOf_length]; omega
    have hg : (bytesOf s)[i] = bt s i := by rw [← rd_bytesOf]; simp [rd, List.getD_eq_getElem?_getD, List.getElem?_eq_getElem hl]
    have hr := bt_range s i
    obtain ⟨f1, f2⟩ := hdec_fact _ hr.1 hr.2
    obtain ⟨g1, g2, g3⟩ := hhex_fact _ hr.1 hr.2
    have hlt := digV_lt _ hr.1 hr.2
    have hP : (16 : Int) ^ (i + 1) = 16 ^ i * 16 := Int.pow_succ _ _
    have hle := pow_mono' 16 (by decide) (i + 1) (15 - (i + 1))
    rw [show i + 1 + (15 - (i + 1)) = 15 by omega, hP] at hle
    have hc : (16 : Int) ^ 15 = 1152921504606846976 := by decide
    have ih1 := fun k (hk : 2 * d + 1 ≤ k) (h : 0 ≤ digV (bt s i)) => ih k (n * 16 + digV (bt s i)) (i + 1) (by omega) hk (by omega) (by omega)
    rw [List.drop_eq_getElem_cons hl, hg]
    simp only [tollbarref02_Hex.l0, numL]
    rw [if_pos (by omega), if_pos (by omega), f1, Option.bind_some]
    by_cases hv : 0 ≤ digV (bt s i) ∧ digV (bt s i) < 10
    · have hp : 0 ≤ digV (bt s i) ∧ digV (bt s i) < 16 := ⟨hv.1, hlt⟩
      rw [decide_eq_true hv, if_pos rfl, if_pos hp, f2 hv, hw]
      have e1 : wrap64 (wrap64 (n * 16) + digV (bt s i)) = n * 16 + digV (bt s i) := by unfold wrap64; omega
      rw [e1]
      exact ih1 k (by omega) hv.1
    · obtain ⟨k, rfl⟩ : ∃ m, k = m + 1 := ⟨k - 1, by omega⟩
      rw [decide_eq_false hv, if_neg (by simp)]
      simp only [tollbarref02_Hex.j2]
      by_cases ha : bt s i ≥ 97 ∧ bt s i ≤ 102
      · have e := g1 ha
        have hp : 0 ≤ digV (bt s i) ∧ digV (bt s i) < 16 := ⟨by omega, hlt⟩
        rw [if_pos ha.1, decide_eq_true ha.2, if_pos rfl, if_pos hp, hw]
        have e1 : wrap64 (wrap64 (wrap64 (n * 16) + (bt s i - 97) % 256) + 10) = n * 16 + digV (bt s i) := by unfold wrap64; omega
        rw [e1]
        exact ih1 k (by omega) (by omega)
      · by_cases hA : bt s i ≥ 65 ∧ bt s i ≤ 70
        · have e := g2 hA
          have hp : 0 ≤ digV (bt s i) ∧ digV (bt s i) < 16 := ⟨by omega, hlt⟩
          have h97 : ¬ (bt s i ≥ 97) := by omega
          rw [if_neg h97, if_neg (by simp), if_pos hA.1, if_pos hA.2, if_pos hp, hw]
          have e1 : wrap64 (wrap64 (wrap64 (n * 16) + (bt s i - 65) % 256) + 10) = n * 16 + digV (bt s i) := by unfold wrap64; omega
          rw [e1]
          exact ih1 k (by omega) (by omega)
        · have e := g3 hv ha hA
          have hp : ¬ (0 ≤ digV (bt s i) ∧ digV (bt s i) < 16) := by omega
          rw [if_neg hp]
          have ht : htold none = ((0 : Int), false) := rfl
          rw [ht]
          by_cases h97 : bt s i ≥ 97
          · rw [if_pos h97, decide_eq_false (by omega), if_neg (by simp)]
            repeat' split
            all_goals first | rfl | (exfalso; omega)
          · rw [if_neg h97, if_neg (by simp)]
            repeat' split
            all_goals first | rfl | (exfalso; omega)
theorem hrefHex_f (s : ByteArray) (k : Nat) (hk : 40 ≤ k) (hs : s.size ≤ 140737488355327) : tollbarref02_Hex.f k s = some (numSpec s 16 15) := by
  obtain ⟨k, rfl⟩ : ∃ m, k = m + 1 := ⟨k - 1, by omega⟩
  unfold tollbarref02_Hex.f numSpec
  by_cases h0 : s.size = 0
  · rw [if_pos (by omega), if_pos (Or.inl h0)]
    simp only [tollbarref02_Hex.j0]
    rfl
  · rw [if_neg (by omega)]
    by_cases h1 : s.size > 15
    · rw [decide_eq_true (by omega), if_pos (Or.inr h1)]
      simp only [tollbarref02_Hex.j0]
      rfl
    · rw [decide_eq_false (by omega), if_neg (by omega)]
      simp only [tollbarref02_Hex.j0]
      rw [if_neg (by simp)]
      have := hrefHex_l0 s (by omega) s.size k 0 0 (by omega) (by omega) (by omega) (by simp)
      rw [show ((0 : Nat) : Int) = 0 from rfl, List.drop_zero] at this
      exact this

end Go.Proofs.YtjgpifjfaiaidaaDoor.Pure

namespace Go.Proofs.YtjgpifjfaiaidaaDoor.Pure
open Go.RowKit Go.Proofs.YtjgpifjfaiaidaaDoor.P Go.Proofs.YtjgpifjfaiaidaaDoorW.PrintWords Go.Proofs.YtjgpifjfaiaidaaDoorW.PrintLast Go.Proofs.YtjgpifjfaiaidaaDoorW.PrintMore
set_option linter.unusedVariables false
set_option linter.unusedSimpArgs false
theorem semi (b : UInt8) : ((b.toNat : Int) = 59) ↔ b = 59 := ⟨fun h => UInt8.toNat_inj.1 (show b.toNat = 59 by omega), fun h => by rw [h]; rfl⟩
theorem refsz_l1 (n : Nat) : ∀ (l : List UInt8) (k : Nat), l.length = n → n + 41 ≤ k → n ≤ 1000000 → tollbarref06_size.l1 k (mkS l) = some (numSpec (mkS (rtrim l)) 16 15) := by
  induction n with
  | zero =>
    intro l k hl hk _
    obtain ⟨k, rfl⟩ : ∃ m, k = m + 1 := ⟨k - 1, by omega⟩
    obtain rfl := List.eq_nil_of_length_eq_zero hl
    rw [tollbarref06_size.l1, if_neg (by rw [mkS_size]; simp), hrefHex_f _ k (by omega) (by rw [mkS_size]; simp), Option.bind_some]
    rfl
  | succ n ih =>
    intro l k hl hk hn
    obtain ⟨k, rfl⟩ : ∃ m, k = m + 1 := ⟨k - 1, by omega⟩
    rcases List.eq_nil_or_concat l with rfl | ⟨l', c, rfl⟩
    · simp at hl
    · rw [List.concat_eq_append] at hl ⊢
      rw [List.length_append] at hl
      have hsz : (l' ++ [c]).length = l'.length + 1 := by rw [List.length_append]; rfl
      have hl' : l'.length = n := by simpa using hl
      obtain ⟨h1, h2, h3, h4, h5⟩ := snoc_parts l' c (by omega)
      rw [tollbarref06_size.l1, if_pos h1, h2, if_pos (by omega), if_pos (by omega), h4, rtrim_snoc, if_pos (show (l'.length : Int) ≤ ((mkS (l' ++ [c])).size : Int) by omega), Int.toNat_natCast, h5, ih l' k hl' (by omega) (by omega), blk_iff]
      by_cases c1 : (c.toNat : Int) = 32
      · have : c = 32 := UInt8.toNat_inj.1 (show c.toNat = 32 by omega)
        rw [if_pos c1, this, if_pos (by rfl)]
      · have d1 : c ≠ 32 := fun e => c1 (by rw [e]; rfl)
        rw [if_neg c1]
        by_cases c2 : (c.toNat : Int) = 9
        · have : c = 9 := UInt8.toNat_inj.1 (show c.toNat = 9 by omega)
          rw [if_pos c2, this, if_pos (by rfl)]
        · have d2 : c ≠ 9 := fun e => c2 (by rw [e]; rfl)
          rw [if_neg c2, hrefHex_f _ k (by omega) (by rw [mkS_size]; omega), Option.bind_some, decide_eq_false d1, decide_eq_false d2, if_neg (by simp)]
theorem refsz_down (u : List UInt8) (hu : u.length ≤ 1000000) (x4 : Int) (R : Option (Int × Bool)) (K : Nat) (hR : ∀ k, K ≤ k → tollbarref06_size.l0 k (mkS u) x4 (-1) = R) :
    ∀ (d k : Nat), d ≤ u.length → 59 ∉ u.take d → K + d ≤ k → tollbarref06_size.l0 k (mkS u) x4 ((d : Int) - 1) = R := by
  have hs := mkS_size u
  intro d
  induction d with
  | zero => intro k _ _ hk; exact hR k (by omega)
  | succ d ih =>
    intro k hd h hk
    obtain ⟨k, rfl⟩ : ∃ m, k = m + 1 := ⟨k - 1, by omega⟩
    have hlt : d < u.length := by omega
    have h2 : 59 ∉ u.take d := fun e => h (by rw [List.take_add_one]; exact List.mem_append_left _ e)
    have h3 : u[d] ≠ 59 := fun e => h (by rw [← e]; exact List.mem_take_iff_getElem.2 ⟨d, by omega, rfl⟩)
    rw [show ((d + 1 : Nat) : Int) - 1 = (d : Int) by omega, tollbarref06_size.l0, if_pos (by omega), if_pos (by omega), if_pos (by omega), bt_mk u d hlt, if_neg (fun e => h3 ((semi _).1 e)), show wrap64 ((d : Int) - 1) = (d : Int) - 1 by unfold wrap64; omega]
    exact ih k (by omega) h2 (by omega)
theorem refsz_up (a b : List UInt8) (hu : (a ++ 59 :: b).length ≤ 1000000) (R : Option (Int × Bool)) (K : Nat) (hR : ∀ k, K ≤ k → tollbarref06_size.l0 k (mkS (a ++ 59 :: b)) (a.length : Int) ((a.length : Int) - 1) = R) :
    ∀ (d k : Nat) (x4 : Int), a.length + 1 + d ≤ (a ++ 59 :: b).length → K + d + 1 ≤ k → tollbarref06_size.l0 k (mkS (a ++ 59 :: b)) x4 ((a.length + d : Nat) : Int) = R := by
  have hs := mkS_size (a ++ 59 :: b)
  intro d
  induction d with
  | zero =>
    intro k x4 hd hk
    obtain ⟨k, rfl⟩ : ∃ m, k = m + 1 := ⟨k - 1, by omega⟩
    have e1 : bt (mkS (a ++ 59 :: b)) ((a.length + 0 : Nat) : Int) = 59 := by rw [bt_mk _ _ (by omega)]; simp
    rw [tollbarref06_size.l0, if_pos (by omega), if_pos (by omega), if_pos (by omega), e1, if_pos rfl, show wrap64 (((a.length + 0 : Nat) : Int) - 1) = (a.length : Int) - 1 by unfold wrap64; omega]
    exact hR k (by omega)
  | succ d ih =>
    intro k x4 hd hk
    obtain ⟨k, rfl⟩ : ∃ m, k = m + 1 := ⟨k - 1, by omega⟩
    rw [tollbarref06_size.l0, if_pos (by omega), if_pos (by omega), if_pos (by omega), show wrap64 (((a.length + (d + 1) : Nat) : Int) - 1) = ((a.length + d : Nat) : Int) by unfold wrap64; omega]
    split
    · exact ih k _ (by omega) (by omega)
    · exact ih k _ (by omega) (by omega)
theorem refSize_f (u : List UInt8) (hu : u.length ≤ 1000000) (k : Nat) (hk : 4 * u.length + 100 ≤ k) : ∃ x, tollbarref06_size.f k (mkS u) = some (x, (sizeS u).2) ∧ ((sizeS u).2 = true → x = (sizeS u).1) := by
  have hs := mkS_size u
  unfold tollbarref06_size.f
  rw [show wrap64 (((mkS u).size : Int) - 1) = (u.length : Int) - 1 by unfold wrap64; omega, hs]
  rcases split_first 59 u with h | ⟨a, b, rfl, h⟩
  · rw [sizeS_no u h]
    refine ⟨(numSpec (mkS (rtrim u)) 16 15).1, ?_, fun _ => rfl⟩
    refine refsz_down u hu (u.length : Int) _ (u.length + 60) (fun k hk => ?_) u.length k (Nat.le_refl _) (by rw [List.take_length]; exact h) (by omega)
    obtain ⟨k, rfl⟩ : ∃ m, k = m + 2 := ⟨k - 2, by omega⟩
    rw [tollbarref06_size.l0, if_neg (by decide), if_neg (by omega), tollbarref06_size.j1, if_neg (by decide), if_pos (by omega), if_pos (by omega), Int.toNat_natCast, mkS_extract, List.drop_zero, Nat.sub_zero, List.take_length]
    exact refsz_l1 u.length u k rfl (by omega) hu
  · have hl : (a ++ 59 :: b).length = a.length + b.length + 1 := by rw [List.length_append, List.length_cons]; omega
    rw [sizeS_yes a b h]
    have e2 : (mkS (a ++ 59 :: b)).extract (a.length + 1) (a ++ 59 :: b).length = mkS b := by
      rw [mkS_extract, hl, List.drop_append, List.drop_of_length_le (by omega), show a.length + 1 - a.length = 1 by omega]
      simp
    have e3 : (mkS (a ++ 59 :: b)).extract 0 a.length = mkS a := by rw [mkS_extract]; simp
    have key : ∀ R : Option (Int × Bool), (if (bytesOf (mkS b)).all valB = true then some (numSpec (mkS (rtrim a)) 16 15) else some (0, false)) = R → tollbarref06_size.l0 k (mkS (a ++ 59 :: b)) ((a ++ 59 :: b).length : Int) (((a ++ 59 :: b).length : Int) - 1) = R := by
      intro R hR
      have := refsz_up a b hu R (2 * a.length + b.length + 80) (fun k hk => refsz_down (a ++ 59 :: b) hu (a.length : Int) R (a.length + b.length + 70) (fun k hk => ?_) a.length k (by omega) (by simpa using h) (by omega)) b.length k ((a ++ 59 :: b).length : Int) (by omega) (by omega)
      · rw [show ((a.length + b.length : Nat) : Int) = ((a ++ 59 :: b).length : Int) - 1 by omega] at this
        exact this
      · obtain ⟨k, rfl⟩ : ∃ m, k = m + 2 := ⟨k - 2, by omega⟩
        have hb : (mkS b).size = b.length := mkS_size b
        rw [tollbarref06_size.l0, if_neg (by decide), if_pos (by omega), show wrap64 ((a.length : Int) + 1) = ((a.length + 1 : Nat) : Int) by unfold wrap64; omega, if_pos (by omega), if_pos (by omega), Int.toNat_natCast, hs, e2, refValue_f _ (by omega) _ (by omega), Value_f _ (by omega), Option.bind_some, tollbarref06_size.j1, ← hR]
        cases (bytesOf (mkS b)).all valB
        · rw [if_pos (by rfl), if_neg (by simp)]
        · rw [if_neg (by decide), if_pos (by omega), if_pos (by omega), if_pos rfl, Int.toNat_natCast, e3]
          exact refsz_l1 a.length a k rfl (by omega) (by omega)
    have := key _ rfl
    rw [this]
    cases (bytesOf (mkS b)).all valB
    · exact ⟨0, by simp, by simp⟩
    · exact ⟨_, by rw [if_pos rfl, Bool.and_true], fun _ => rfl⟩

end Go.Proofs.YtjgpifjfaiaidaaDoor.Pure

namespace Go.Proofs.YtjgpifjfaiaidaaDoor.Pure
open Go.RowKit Go.Proofs.YtjgpifjfaiaidaaDoor.P Go.Proofs.YtjgpifjfaiaidaaDoorW.PrintWords Go.Proofs.YtjgpifjfaiaidaaDoorW.PrintLast Go.Proofs.YtjgpifjfaiaidaaDoorW.PrintMore
set_option linter.unusedVariables false
set_option linter.unusedSimpArgs false
theorem ref_trail (l : List Int) (hl : l.length ≤ 1000000) (out : List Int) : ∀ (d n p k : Nat), n + d = 41 → 1 ≤ d → p ≤ l.length → 2 * d + 8 * l.length + 40 ≤ k →
    tollbarref06_Decode.l3 k l out p n = some (if (trailS l d p).2 = 0 then (if (trailS l d p).1 = 0 then ([], 0, 0) else (out, (trailS l d p).1, 0)) else ([], 0, (trailS l d p).2)) := by
  intro d
  induction d with
  | zero => intro n p k _ h; omega
  | succ d ih =>
    intro n p k hn _ hp hk
    obtain ⟨k, rfl⟩ : ∃ m, k = m + 2 := ⟨k - 2, by omega⟩
    have hsh := cutS_shape (l.drop p) 256
    have hd : (l.drop p).length = l.length - p := List.length_drop ..
    rw [tollbarref06_Decode.l3, if_pos (by omega), if_pos (by omega), Int.toNat_natCast, refCut_f _ _ (by omega) _ (by omega), Option.bind_some, trailS]
    obtain ⟨c, hc⟩ : ∃ c, c = cutSpec (l.drop p) 256 := ⟨_, rfl⟩
    rw [← hc] at hsh ⊢
    by_cases h1 : c.2.2 = 0
    · rw [if_pos h1, if_pos h1, tollbarref06_Decode.j6]
      by_cases h2 : c.2.1 = 0
      · rw [if_pos h2, if_pos (by rw [h2]; rfl), h1]
        rfl
      · rw [if_neg h2, if_neg (by simpa using h2)]
        have hz : c.1.data.toList.length = c.1.size := data_length _
        have hz2 : c.2.1 > 0 ∧ c.2.1 ≤ (l.length : Int) - p ∧ (c.1.size : Int) = c.2.1 - 2 := by rcases hsh with h | h <;> omega
        have hw : wrap64 ((p : Int) + c.2.1) = (p : Int) + c.2.1 := by unfold wrap64; omega
        by_cases h3 : c.1.toList = []
        · rw [if_pos h3, if_pos h3, hw]
          simp only
          rw [if_pos trivial, if_neg (by omega)]
        · rw [if_neg h3, if_neg h3]
          obtain ⟨x, y, hf⟩ := refField_f c.1.data.toList (by omega) k (by omega)
          rw [mkS_self] at hf
          rw [hf, Option.bind_some]
          simp only
          cases fieldOk c.1.data.toList
          · rw [if_neg (by simp), if_neg (by simp)]
            rfl
          · rw [if_pos rfl, if_pos rfl, show wrap64 ((n : Int) + 1) = ((n + 1 : Nat) : Int) by unfold wrap64; omega]
            by_cases h4 : n = 40
            · obtain rfl : d = 0 := by omega
              rw [if_pos (by omega), trailS]
              rfl
            · rw [if_neg (by omega), hw, show (p : Int) + c.2.1 = ((p + c.2.1.toNat : Nat) : Int) by omega]
              exact ih (n + 1) (p + c.2.1.toNat) k (by omega) (by omega) (by omega) (by omega)
    · rw [if_neg h1, if_neg h1, tollbarref06_Decode.j6, if_pos rfl]
      simp only
      rw [if_neg h1]
theorem ref_short (l : List Int) (hl : l.length ≤ 1000000) (most total n : Int) (hn : n ≤ 1152921504606846976) : ∀ (j k p : Nat) (i : Int) (out : List Int), p + j = l.length → 0 ≤ i → i + j < n → j + 1 ≤ k → out.length ≤ p → tollbarref06_Decode.l1 k l most out total p n i = some ([], 0, 0) := by
  intro j
  induction j with
  | zero =>
    intro k p i out hp h0 hi hk ho
    obtain ⟨k, rfl⟩ : ∃ m, k = m + 1 := ⟨k - 1, by omega⟩
    rw [tollbarref06_Decode.l1, if_pos (by omega), if_pos (by omega)]
  | succ j ih =>
    intro k p i out hp h0 hi hk ho
    obtain ⟨k, rfl⟩ : ∃ m, k = m + 1 := ⟨k - 1, by omega⟩
    rw [tollbarref06_Decode.l1, if_pos (by omega), if_neg (by omega), if_pos (by omega), if_pos (by omega), if_pos (by omega), show wrap64 ((p : Int) + 1) = ((p + 1 : Nat) : Int) by unfold wrap64; omega, show wrap64 (i + 1) = i + 1 by unfold wrap64; omega]
    exact ih k (p + 1) (i + 1) _ (by omega) (by omega) (by omega) (by omega) (by rw [List.length_append]; simp; omega)
theorem ref_long (l : List Int) (hl : l.length ≤ 1000000) (most total n : Int) (hn : n ≤ 1152921504606846976) : ∀ (j k p : Nat) (i : Int) (out : List Int), p + j ≤ l.length → 0 ≤ i → i + j = n → j + 1 ≤ k → out.length ≤ p → tollbarref06_Decode.l1 k l most out total p n i = tollbarref06_Decode.l2 (k - j - 1) l most (out ++ (l.drop p).take j) total ((p + j : Nat) : Int) [13, 10] 0 := by
  intro j
  induction j with
  | zero =>
    intro k p i out hp h0 hi hk ho
    obtain ⟨k, rfl⟩ : ∃ m, k = m + 1 := ⟨k - 1, by omega⟩
    rw [tollbarref06_Decode.l1, if_neg (by omega), List.take_zero, List.append_nil]
    rfl
  | succ j ih =>
    intro k p i out hp h0 hi hk ho
    obtain ⟨k, rfl⟩ : ∃ m, k = m + 1 := ⟨k - 1, by omega⟩
    have hlt : p < l.length := by omega
    rw [tollbarref06_Decode.l1, if_pos (by omega), if_neg (by omega), if_pos (by omega), if_pos (by omega), if_pos (by omega), show wrap64 ((p : Int) + 1) = ((p + 1 : Nat) : Int) by unfold wrap64; omega, show wrap64 (i + 1) = i + 1 by unfold wrap64; omega,
      ih k (p + 1) (i + 1) _ (by omega) (by omega) (by omega) (by omega) (by rw [List.length_append]; simp; omega), List.drop_eq_getElem_cons hlt, List.take_succ_cons, List.append_assoc, show k + 1 - (j + 1) - 1 = k - j - 1 by omega, show p + 1 + j = p + (j + 1) by omega]
    simp [rd, List.getD_eq_getElem?_getD, List.getElem?_eq_getElem hlt]
theorem ref_end (l : List Int) (hl : l.length ≤ 1000000) (most total : Int) (out : List Int) (p k : Nat) (hp : p ≤ l.length) (hk : 3 ≤ k) :
    tollbarref06_Decode.l2 k l most out total p [13, 10] 0 = if p < l.length then (if rd l p = 13 then (if p + 1 < l.length then (if rd l ((p : Int) + 1) = 10 then tollbarref06_Decode.l0 (k - 3) l most out total ((p + 2 : Nat) : Int) else some ([], 0, 20)) else some ([], 0, 0)) else some ([], 0, 20)) else some ([], 0, 0) := by
  obtain ⟨k, rfl⟩ : ∃ m, k = m + 3 := ⟨k - 3, by omega⟩
  rw [tollbarref06_Decode.l2, if_pos (by decide)]
  by_cases h1 : p < l.length
  · rw [if_pos h1, if_neg (by omega), if_pos (by omega), if_pos (by omega), if_pos (by decide), if_pos (by decide), show rd [13, 10] 0 = 13 from rfl]
    by_cases h2 : rd l p = 13
    · rw [if_pos h2, if_pos h2, show wrap64 ((p : Int) + 1) = (p : Int) + 1 by unfold wrap64; omega, show wrap64 ((0 : Int) + 1) = 1 by unfold wrap64; omega, tollbarref06_Decode.l2, if_pos (by decide)]
      by_cases h3 : p + 1 < l.length
      · rw [if_pos h3, if_neg (by omega), if_pos (by omega), if_pos (by omega), if_pos (by decide), if_pos (by decide), show rd [13, 10] 1 = 10 from rfl]
        by_cases h4 : rd l ((p : Int) + 1) = 10
        · rw [if_pos h4, if_pos h4, show wrap64 ((p : Int) + 1 + 1) = ((p + 2 : Nat) : Int) by unfold wrap64; omega, show wrap64 ((1 : Int) + 1) = 2 by unfold wrap64; omega, tollbarref06_Decode.l2, if_neg (by decide)]
          rfl
        · rw [if_neg h4, if_neg h4]
      · rw [if_neg h3, if_pos (by omega)]
    · rw [if_neg h2, if_neg h2]
  · rw [if_neg h1, if_pos (by omega)]
theorem rd_drop (l : List Int) (p : Nat) (i : Int) (h0 : 0 ≤ i) : rd (l.drop p) i = rd l ((p : Int) + i) := by
  unfold rd
  rw [List.getD_eq_getElem?_getD, List.getD_eq_getElem?_getD, List.getElem?_drop, show ((p : Int) + i).toNat = p + i.toNat by omega]
theorem refdec_f (l : List Int) (hl : l.length ≤ 1000000) (most : Int) (hm0 : 0 ≤ most) (hm : most ≤ 9223372036854775807) : ∀ (d p : Nat) (total : Int) (out : List Int) (k : Nat), p ≤ l.length → l.length < p + d → out.length ≤ p → 0 ≤ total → total ≤ most → 8 * d + 40 * l.length + (l.length - p) + 400 ≤ k →
    tollbarref06_Decode.l0 k l most out total p = some (decS l d p (most - total) out) := by
  intro d
  induction d with
  | zero => intro p total out k h1 h2; omega
  | succ d ih =>
    intro p total out k hp hd ho ht0 ht1 hk
    obtain ⟨k, rfl⟩ : ∃ m, k = m + 2 := ⟨k - 2, by omega⟩
    have hsh := cutS_shape (l.drop p) 256
    have hdl : (l.drop p).length = l.length - p := List.length_drop ..
    rw [tollbarref06_Decode.l0, if_pos (by omega), if_pos (by omega), Int.toNat_natCast, refCut_f _ _ (by omega) _ (by omega), Option.bind_some, decS]
    obtain ⟨c, hc⟩ : ∃ c, c = cutSpec (l.drop p) 256 := ⟨_, rfl⟩
    rw [← hc] at hsh ⊢
    by_cases h1 : c.2.2 = 0
    · rw [if_pos h1, if_pos h1, tollbarref06_Decode.j2]
      by_cases h2 : c.2.1 = 0
      · rw [if_pos h2, if_pos (by rw [h2]; rfl), h1]
      · have hz2 : c.2.1 > 0 ∧ c.2.1 ≤ (l.length : Int) - p ∧ (c.1.size : Int) = c.2.1 - 2 := by rcases hsh with h | h <;> omega
        have hlen : c.1.data.toList.length = c.1.size := data_length _
        rw [if_neg h2, if_neg (by simpa using h2)]
        obtain ⟨x, hx, hx2⟩ := refSize_f c.1.data.toList (by omega) k (by omega)
        rw [mkS_self] at hx
        rw [hx, Option.bind_some]
        obtain ⟨z, hz⟩ : ∃ z, z = sizeS c.1.data.toList := ⟨_, rfl⟩
        have hzb := size_bound c.1.data.toList
        rw [← hz] at hzb hx2 ⊢
        obtain ⟨q, hq⟩ : ∃ q, q = p + c.2.1.toNat := ⟨_, rfl⟩
        have hq2 : wrap64 ((p : Int) + c.2.1) = (q : Int) := by unfold wrap64; omega
        rw [← hq, hq2]
        by_cases h3 : z.2 = true
        · obtain rfl := hx2 h3
          simp only
          rw [if_pos h3, if_pos h3, show wrap64 (most - total) = most - total by unfold wrap64; omega]
          by_cases h4 : z.1 = 0
          · rw [if_pos h4, if_pos h4]
            exact ref_trail l hl out 41 0 q k (by omega) (by omega) (by omega) (by omega)
          · rw [if_neg h4, if_neg h4]
            by_cases h5 : z.1 > most - total
            · rw [if_pos h5, if_pos h5]
            · rw [if_neg h5, if_neg h5, show wrap64 (total + z.1) = total + z.1 by unfold wrap64; omega]
              have hdr : (l.drop q).length = l.length - q := List.length_drop ..
              have hout : out.length ≤ q := by omega
              unfold dataOf
              by_cases a0 : z.1 ≤ ((l.drop q).length : Int)
              · rw [ref_long l hl most _ z.1 hzb.2 z.1.toNat k q 0 out (by omega) (by omega) (by omega) (by omega) hout, ref_end l hl _ _ _ _ _ (by omega) (by omega), rd_drop l q z.1 hzb.1, rd_drop l q (z.1 + 1) (by omega), show (q : Int) + (z.1 + 1) = ((q + z.1.toNat : Nat) : Int) + 1 by omega, show (q : Int) + z.1 = ((q + z.1.toNat : Nat) : Int) by omega]
                by_cases a1 : z.1 < ((l.drop q).length : Int)
                · rw [if_pos (by omega), if_pos a1]
                  by_cases a2 : rd l ((q + z.1.toNat : Nat) : Int) = 13
                  · rw [if_pos a2, if_pos a2]
                    by_cases a3 : z.1 + 1 < ((l.drop q).length : Int)
                    · rw [if_pos (by omega), if_pos a3]
                      by_cases a4 : rd l (((q + z.1.toNat : Nat) : Int) + 1) = 10
                      · rw [if_pos a4, if_pos a4]
                        simp only
                        rw [if_pos trivial, if_neg (by simp)]
                        have htk : ((l.drop q).take z.1.toNat).length ≤ z.1.toNat := List.length_take_le ..
                        have := ih (q + z.1.toNat + 2) (total + z.1) (out ++ (l.drop q).take z.1.toNat) (k - z.1.toNat - 1 - 3) (by omega) (by omega) (by rw [List.length_append]; omega) (by omega) (by omega) (by omega)
                        rw [show most - (total + z.1) = most - total - z.1 by omega] at this
                        exact this
                      · rw [if_neg a4, if_neg a4]
                        rfl
                    · rw [if_neg (by omega), if_neg a3]
                      rfl
                  · rw [if_neg a2, if_neg a2]
                    rfl
                · rw [if_neg (by omega), if_neg a1]
                  rfl
              · rw [ref_short l hl most _ z.1 hzb.2 (l.length - q) k q 0 out (by omega) (by omega) (by omega) (by omega) hout, if_neg (show ¬ (z.1 < ((l.drop q).length : Int)) by omega)]
                rfl
        · rw [if_neg h3, if_neg h3]
    · rw [if_neg h1, if_neg h1, tollbarref06_Decode.j2, if_pos rfl]
theorem refDecode_f (l : List Int) (most : Int) (hl : l.length ≤ 1000000) (hm : most ≤ 9223372036854775807) (k : Nat) (hk : 50 * l.length + 500 ≤ k) : tollbarref06_Decode.f k l most = some (decS l (l.length + 1) 0 (mx most 0) []) := by
  obtain ⟨k, rfl⟩ : ∃ m, k = m + 1 := ⟨k - 1, by omega⟩
  unfold tollbarref06_Decode.f
  by_cases h : most < 0
  · rw [if_pos h, tollbarref06_Decode.j0, show mx most 0 = 0 by unfold mx; rw [if_pos h]]
    have := refdec_f l hl 0 (by omega) (by omega) (l.length + 1) 0 0 [] k (by omega) (by omega) (by simp) (by omega) (by omega) (by omega)
    simpa using this
  · rw [if_neg h, tollbarref06_Decode.j0, show mx most 0 = most by unfold mx; rw [if_neg h]]
    have := refdec_f l hl most (by omega) hm (l.length + 1) 0 0 [] k (by omega) (by omega) (by simp) (by omega) (by omega) (by omega)
    simpa using this

end Go.Proofs.YtjgpifjfaiaidaaDoor.Pure

namespace Go.Proofs.YtjgpifjfaiaidaaDoor.Pure
open Go.RowKit Go.Proofs.YtjgpifjfaiaidaaDoor.P Go.Proofs.YtjgpifjfaiaidaaDoorW.PrintWords Go.Proofs.YtjgpifjfaiaidaaDoorW.PrintLast Go.Proofs.YtjgpifjfaiaidaaDoorW.PrintMore
set_option linter.unusedVariables false
set_option linter.unusedSimpArgs false
theorem sameB_l0 (xs : List Int) (hn : xs.length ≤ 4398046511104) (d : Nat) : ∀ (k : Nat) (i : Int), 0 ≤ i → (xs.length : Int) - i = d → d + 1 ≤ k → tollbarref01_SameBytes.l0 k xs xs i = some true := by
  induction d with
  | zero =>
    intro k i h0 hd hk
    obtain ⟨k, rfl⟩ : ∃ m, k = m + 1 := ⟨k - 1, by omega⟩
    simp only [tollbarref01_SameBytes.l0]
    rw [if_neg (by omega)]
  | succ d ih =>
    intro k i h0 hd hk
    obtain ⟨k, rfl⟩ : ∃ m, k = m + 1 := ⟨k - 1, by omega⟩
    simp only [tollbarref01_SameBytes.l0]
    rw [if_pos (by omega), if_pos h0, if_pos (by omega), if_pos trivial, show wrap64 (i + 1) = i + 1 by unfold wrap64; omega]
    exact ih k (i + 1) (by omega) (by omega) (by omega)
theorem sameB_eq (xs : List Int) (hn : xs.length ≤ 4398046511104) (k : Nat) (hk : xs.length + 1 ≤ k) : tollbarref01_SameBytes.f k xs xs = some true := by
  unfold tollbarref01_SameBytes.f
  rw [if_pos rfl]
  exact sameB_l0 xs hn xs.length k 0 (by omega) (by omega) hk

end Go.Proofs.YtjgpifjfaiaidaaDoor.Pure

namespace Go.Proofs.YtjgpifjfaiaidaaDoor.Pure
open Go.RowKit Go.Proofs.YtjgpifjfaiaidaaDoor.P Go.Proofs.YtjgpifjfaiaidaaDoorW.PrintWords Go.Proofs.YtjgpifjfaiaidaaDoorW.PrintLast Go.Proofs.YtjgpifjfaiaidaaDoorW.PrintMore
set_option linter.unusedVariables false
set_option linter.unusedSimpArgs false
theorem decS_len (l : List Int) (hb : l.length ≤ 1000000) : ∀ (d p : Nat) (left : Int) (out : List Int), p ≤ l.length → out.length ≤ l.length → l.length < p + d → out.length ≤ p → (decS l d p left out).1.length ≤ l.length := by
  intro d
  induction d with
  | zero => intro p left out h1 h2 h3; omega
  | succ d ih =>
    intro p left out hp ho hd hop
    have hsh := cutS_shape (l.drop p) 256
    have hdl : (l.drop p).length = l.length - p := List.length_drop ..
    rw [decS]
    obtain ⟨c, hc⟩ : ∃ c, c = cutSpec (l.drop p) 256 := ⟨_, rfl⟩
    rw [← hc] at hsh ⊢
    by_cases h1 : c.2.2 = 0
    · rw [if_pos h1]
      by_cases h2 : c.2.1 = 0
      · rw [if_pos h2]; simp
      · have hz2 : c.2.1 > 0 ∧ c.2.1 ≤ (l.length : Int) - p := by rcases hsh with h | h <;> omega
        have hzb := size_bound c.1.data.toList
        have hdq : (l.drop (p + c.2.1.toNat)).length = l.length - (p + c.2.1.toNat) := List.length_drop ..
        rw [if_neg h2]
        split
        · split
          · split
            · split
              · simp
              · exact ho
            · simp
          · split
            · simp
            · split
              · split
                · simp
                · rename_i h6 h7
                  obtain ⟨_, _, e3, _, _⟩ := data_ok (l.drop (p + c.2.1.toNat)) ((p + c.2.1.toNat : Nat) : Int) (sizeS c.1.data.toList).1 (by omega) (by omega) hzb.1 (by omega) h6 h7
                  have htk : ((l.drop (p + c.2.1.toNat)).take (sizeS c.1.data.toList).1.toNat).length ≤ (sizeS c.1.data.toList).1.toNat := List.length_take_le ..
                  exact ih _ _ _ (by omega) (by rw [List.length_append]; omega) (by omega) (by rw [List.length_append]; omega)
              · simp
        · simp
    · rw [if_neg h1]; simp
theorem ChunkDecodes : tollbarlaw06_ChunkDecodes.Pure := by
  intro l n hb _ _ hn
  by_cases h : (l.length : Int) > 5000
  · refine ⟨0, ?_⟩
    unfold tollbarlaw06_ChunkDecodes.f
    rw [show tollbarlaw06_alive.f = some true from rfl, Option.bind_some, if_pos rfl, if_pos h]
  · refine ⟨50 * l.length + 500, ?_⟩
    have hr : -9223372036854775808 ≤ n ∧ n ≤ 9223372036854775807 := by simpa [Lit.wf, IntKind.min, IntKind.max, IntKind.signed, IntKind.bits] using hn
    have hn' := hr.2
    have hl := decS_len l (by omega) (l.length + 1) 0 (mx n 0) [] (by omega) (by simp) (by omega) (by simp)
    unfold tollbarlaw06_ChunkDecodes.f
    rw [show tollbarlaw06_alive.f = some true from rfl, Option.bind_some, if_pos rfl, if_neg h, Decode_f l n (by omega) hn' _ (by omega), Option.bind_some, refDecode_f l n (by omega) hn' _ (by omega), Option.bind_some, sameB_eq _ (by omega) _ (by omega), Option.bind_some, if_pos rfl, if_pos rfl, beq_self_eq_true]

end Go.Proofs.YtjgpifjfaiaidaaDoor.Pure

