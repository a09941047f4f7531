/- Each function below answers as its Lean twin says; a law answers true at every input that its row speaks of. No further condition. (Laid by this repo's seatprint.py.) -/
import Derived.Test.YthkkkfeiklfjoaaPx0
import Derived.Test.YthkkkfeiklfjoaaFtollbarlaw05LineGrows
import Derived.Test.YthkkkfeiklfjoaaFtollbarlaw05cutting
import Derived.Test.YthkkkfeiklfjoaaQBytes
import Derived.Test.YthkkkfeiklfjoaaQCut
namespace Go.Proofs.Ythkkkfeiklfjoaa.Pure
open Go.RowKit Go.Proofs.Ythkkkfeiklfjoaa.P Go.Proofs.YthkkkfeiklfjoaaW.PrintWords Go.Proofs.YthkkkfeiklfjoaaW.PrintLast Go.Proofs.YthkkkfeiklfjoaaW.PrintMore
set_option linter.unusedVariables false
set_option linter.unusedSimpArgs false
theorem cutAt_more (l x : List Int) (m : Int) (d : Nat) : ∀ (i : Int), 0 ≤ i → (l.length : Int) - i = d →
    ((cutAt l m d i).2.1 > 0 ∨ (cutAt l m d i).2.2 ≠ 0) → cutAt (l ++ x) m (d + x.length) i = cutAt l m d i := by
  induction d with
  | zero => intro i h0 hd h; simp [cutAt] at h
  | succ d ih =>
    intro i h0 hd h
    have hlt : i < (l.length : Int) := by omega
    rw [show d + 1 + x.length = (d + x.length) + 1 by omega]
    simp only [cutAt] at h ⊢
    have ih' := ih (i + 1) (by omega) (by omega)
    rw [rd_append_left l x i h0 hlt]
    have htk : (l ++ x).take i.toNat = l.take i.toNat := List.take_append_of_le_length (by omega)
    have hlen : ((l ++ x).length : Int) = l.length + x.length := by simp
    by_cases h10 : rd l i = 10
    · simp [h10]
    · rw [if_neg h10] at h ⊢
      rw [if_neg h10]
      by_cases h13 : rd l i = 13
      · rw [if_pos h13] at h ⊢
        rw [if_pos h13]
        by_cases h1 : i + 1 < (l.length : Int)
        · rw [if_pos h1] at h ⊢
          rw [if_pos (by omega), rd_append_left l x (i + 1) (by omega) h1, htk]
        · rw [if_neg h1] at h
          simp at h
      · rw [if_neg h13] at h ⊢
        rw [if_neg h13]
        by_cases hm : m ≤ i
        · rw [if_pos hm, if_pos hm]
        · rw [if_neg hm] at h ⊢
          rw [if_neg hm]
          exact ih' h
theorem cutAt_shape (l : List Int) (m : Int) (d : Nat) : ∀ (i : Int), 0 ≤ i → (l.length : Int) - i = d →
    ((cutAt l m d i).2.1 > 0 ∧ (cutAt l m d i).2.1 ≤ l.length ∧ strOfNums (l.take (cutAt l m d i).2.1.toNat) = (cutAt l m d i).1 ++ (⟨#[13, 10]⟩ : ByteArray) ∧ ((cutAt l m d i).1.size : Int) = (cutAt l m d i).2.1 - 2 ∧ (cutAt l m d i).2.2 = 0)
    ∨ ((cutAt l m d i).2.1 = 0 ∧ (cutAt l m d i).1 = (⟨#[]⟩ : ByteArray)) := by
  induction d with
  | zero => intro i h0 hd; right; simp [cutAt]
  | succ d ih =>
    intro i h0 hd
    have hlt : i < (l.length : Int) := by omega
    have ih' := ih (i + 1) (by omega) (by omega)
    simp only [cutAt]
    by_cases h10 : rd l i = 10
    · simp [h10]
    · rw [if_neg h10]
      by_cases h13 : rd l i = 13
      · rw [if_pos h13]
        by_cases h1 : i + 1 < (l.length : Int)
        · rw [if_pos h1]
          by_cases hr : rd l (i + 1) = 10
          · rw [if_pos hr]
            left
            refine ⟨by show i + 2 > 0; omega, by show i + 2 ≤ _; omega, ?_, ?_, rfl⟩
            · show strOfNums (l.take (i + 2).toNat) = _
              rw [take_two l i h0 h1, str_append, h13, hr]
              rfl
            · show ((strOfNums (l.take i.toNat)).size : Int) = i + 2 - 2
              rw [str_size, List.length_take]
              omega
          · rw [if_neg hr]; right; exact ⟨rfl, rfl⟩
        · rw [if_neg h1]; right; exact ⟨rfl, rfl⟩
      · rw [if_neg h13]
        by_cases hm : m ≤ i
        · rw [if_pos hm]; right; exact ⟨rfl, rfl⟩
        · rw [if_neg hm]; exact ih'

theorem LineGrows : tollbarlaw05_LineGrows.Pure := by
  intro l x a _ hn hb _ hnx hbx ha
  refine ⟨3 * (l.length + x.length) + 10, ?_⟩
  unfold tollbarlaw05_LineGrows.f tollbarlaw05_cutting.f
  obtain ⟨k, hk⟩ : ∃ k, 3 * (l.length + x.length) + 10 = k + 3 := ⟨3 * (l.length + x.length) + 7, by omega⟩
  rw [hk]
  simp only [Option.bind_some, if_true]
  by_cases h1 : (l.length : Int) > 3000
  · rw [if_pos h1]; unfold tollbarlaw05_LineGrows.j0; simp
  rw [if_neg h1]
  by_cases h2 : (x.length : Int) > 3000
  · unfold tollbarlaw05_LineGrows.j0; simp [h2]
  have c1 := cut_f l a (by omega) (k + 2) (by omega)
  have c2 := cut_f (l ++ x) a (by simp; omega) (k + 1) (by simp; omega)
  have hgrow := cutAt_more l x (mx a 0) l.length 0 (by omega) (by omega)
  have hshape := cutAt_shape l (mx a 0) l.length 0 (by omega) (by omega)
  have hs2 : cutSpec (l ++ x) a = cutAt (l ++ x) (mx a 0) (l.length + x.length) 0 := by simp [cutSpec]
  unfold tollbarlaw05_LineGrows.j0
  simp only [h2, decide_false, Bool.false_eq_true, if_false, Option.bind_some, List.nil_append, List.length_nil, Nat.zero_add]
  rw [if_pos (by omega), if_pos (by omega), c1]
  simp only [Option.bind_some]
  rw [show cutAt l (mx a 0) l.length 0 = cutSpec l a from rfl] at hgrow hshape
  rw [← hs2] at hgrow
  simp only [tollbarlaw05_LineGrows.j1, tollbarlaw05_LineGrows.j2]
  rw [c2]
  rcases hshape with ⟨g1, g2, g3, g4, g5⟩ | ⟨g1, g2⟩
  · rw [hgrow (Or.inl g1), if_pos g1]
    have hw : wrap64 ((cutSpec l a).2.1 - 2) = (cutSpec l a).2.1 - 2 := by unfold wrap64; omega
    have hle : 0 ≤ (cutSpec l a).2.1 := by omega
    have hsz : (cutSpec l a).1.size + 2 ≤ 9223372036854775807 := by omega
    simp [g1, g2, g3, g4, hw, hle, hsz]
  · by_cases he : (cutSpec l a).2.2 = 0
    · simp [g1, g2, he]
    · rw [hgrow (Or.inr he)]
      simp [g1, g2, he]

end Go.Proofs.Ythkkkfeiklfjoaa.Pure
