/- Each function below answers as its Lean twin says; a law answers true at every input that its row speaks of. No further condition. (Laid by this repo's seatprint.py.) -/
import Derived.Test.YthkkkfeiklfjoaaDoorPx0
import Derived.Test.YthkkkfeiklfjoaaDoorFsignTrim
import Derived.Test.YthkkkfeiklfjoaaDoorFstringsTrim
import Derived.Shelf.Strings.SlTrimAscii
namespace Go.Proofs.YthkkkfeiklfjoaaDoor.Pure
open Go.RowKit Go.Proofs.YthkkkfeiklfjoaaDoor.P Go.Proofs.YthkkkfeiklfjoaaDoorW.PrintWords Go.Proofs.YthkkkfeiklfjoaaDoorW.PrintLast Go.Proofs.YthkkkfeiklfjoaaDoorW.PrintMore
set_option linter.unusedVariables false
set_option linter.unusedSimpArgs false
/-- Is a byte a blank? -/
def blk (b : UInt8) : Bool := ([32, 9] : List UInt8).contains b
/-- A text without blanks at its ends. -/
def trm (l : List UInt8) : List UInt8 := (l.reverse.dropWhile blk).reverse.dropWhile blk
theorem trm_eq (l : List UInt8) : Lib.trimS l [32, 9] = trm l := rfl
/-- No blank at either end. -/
def Clean (l : List UInt8) : Prop := (∀ a, l.head? = some a → blk a = false) ∧ ∀ a, l.getLast? = some a → blk a = false
theorem dw_self {p : UInt8 → Bool} {l : List UInt8} (h : ∀ a, l.head? = some a → p a = false) : l.dropWhile p = l := by
  cases l with
  | nil => rfl
  | cons a l => simp [List.dropWhile, h a rfl]
theorem dw_head (p : UInt8 → Bool) (l : List UInt8) : ∀ a, (l.dropWhile p).head? = some a → p a = false := by
  induction l with
  | nil => intro a h; simp at h
  | cons b l ih =>
    intro a h
    cases hb : p b
    · simp [List.dropWhile, hb] at h; rw [← h]; exact hb
    · simp only [List.dropWhile, hb] at h; exact ih a h
theorem dw_append {p : UInt8 → Bool} (pre t : List UInt8) (h : ∀ a ∈ pre, p a = true) : (pre ++ t).dropWhile p = t.dropWhile p := by
  induction pre with
  | nil => rfl
  | cons b l ih =>
    simp only [List.cons_append, List.dropWhile, h b (List.mem_cons_self ..)]
    exact ih (fun a ha => h a (List.mem_cons_of_mem _ ha))
theorem dw_split (p : UInt8 → Bool) (l : List UInt8) : ∃ pre, l = pre ++ l.dropWhile p ∧ ∀ a ∈ pre, p a = true := by
  induction l with
  | nil => exact ⟨[], rfl, by simp⟩
  | cons b l ih =>
    obtain ⟨pre, h, hp⟩ := ih
    cases hb : p b
    · exact ⟨[], by simp [List.dropWhile, hb], by simp⟩
    · refine ⟨b :: pre, by simp only [List.dropWhile, hb, List.cons_append]; rw [← h], ?_⟩
      intro a ha
      rcases List.mem_cons.1 ha with rfl | ha
      · exact hb
      · exact hp a ha
theorem trm_clean (l : List UInt8) : Clean (trm l) := by
  refine ⟨dw_head _ _, fun a ha => ?_⟩
  obtain ⟨pre, h, _⟩ := dw_split blk (l.reverse.dropWhile blk).reverse
  have hl : (l.reverse.dropWhile blk).reverse.getLast? = some a := by
    rw [h, List.getLast?_append]
    unfold trm at ha
    rw [ha]
    rfl
  rw [List.getLast?_reverse] at hl
  exact dw_head _ _ a hl
theorem trm_self {l : List UInt8} (h : Clean l) : trm l = l := by
  unfold trm
  rw [dw_self (l := l.reverse) (by intro a ha; rw [List.head?_reverse] at ha; exact h.2 a ha), List.reverse_reverse, dw_self h.1]
theorem trm_around (pre t post : List UInt8) (ht : Clean t) (h1 : ∀ a ∈ pre, blk a = true) (h2 : ∀ a ∈ post, blk a = true) : trm (pre ++ t ++ post) = t := by
  unfold trm
  rw [List.reverse_append, dw_append _ _ (by intro a ha; exact h2 a (List.mem_reverse.1 ha)), List.reverse_append]
  by_cases he : t = []
  · subst he
    have := dw_append (p := blk) pre.reverse [] (by intro a ha; exact h1 a (List.mem_reverse.1 ha))
    simp only [List.append_nil] at this
    simp [this]
  · have : (t.reverse ++ pre.reverse).dropWhile blk = t.reverse ++ pre.reverse := dw_self (by
      intro a ha
      rw [List.head?_append] at ha
      obtain ⟨b, hb⟩ : ∃ b, t.reverse.head? = some b := by
        cases hh : t.reverse with
        | nil => exact absurd (List.reverse_eq_nil_iff.1 hh) he
        | cons b _ => exact ⟨b, rfl⟩
      rw [hb] at ha
      obtain rfl : b = a := by simpa using ha
      rw [List.head?_reverse] at hb
      exact ht.2 _ hb)
    rw [this, List.reverse_append, List.reverse_reverse, List.reverse_reverse, dw_append _ _ h1, dw_self ht.1]
theorem trm_length (l : List UInt8) : (trm l).length ≤ l.length := by
  unfold trm
  have h1 : ((l.reverse.dropWhile blk).reverse.dropWhile blk).length ≤ (l.reverse.dropWhile blk).reverse.length := (List.dropWhile_suffix _).length_le
  have h2 : (l.reverse.dropWhile blk).length ≤ l.reverse.length := (List.dropWhile_suffix _).length_le
  rw [List.length_reverse] at h1 h2
  omega
theorem Trim_f (s : ByteArray) (h : s.size ≤ 9223372036854775807) : sign_Trim.f s = some ⟨(trm s.data.toList).toArray⟩ := by
  unfold sign_Trim.f strings_Trim.f
  rw [if_pos ⟨h, by decide, by decide⟩]
  rfl

end Go.Proofs.YthkkkfeiklfjoaaDoor.Pure
