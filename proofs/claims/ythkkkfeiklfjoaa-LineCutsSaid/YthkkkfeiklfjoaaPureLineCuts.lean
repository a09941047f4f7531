/- Each function below answers as its Lean twin says; a law answers true at every input that its row speaks of. No further condition. (Laid by this repo's seatprint.py.) -/
import Derived.Test.YthkkkfeiklfjoaaPx0
import Derived.Test.YthkkkfeiklfjoaaFtollbarlaw05LineCuts
import Derived.Test.YthkkkfeiklfjoaaFtollbarlaw05cutting
import Derived.Test.YthkkkfeiklfjoaaFtollbarref05Cut
import Derived.Test.YthkkkfeiklfjoaaQCut
namespace Go.Proofs.Ythkkkfeiklfjoaa.Pure
open Go.RowKit Go.Proofs.Ythkkkfeiklfjoaa.P Go.Proofs.YthkkkfeiklfjoaaW.PrintWords Go.Proofs.YthkkkfeiklfjoaaW.PrintLast Go.Proofs.YthkkkfeiklfjoaaW.PrintMore
set_option linter.unusedVariables false
set_option linter.unusedSimpArgs false
theorem refcut_l0 (l : List Int) (m : Int) (hm : 0 ≤ m) (hn : l.length ≤ 140737488355328) (d : Nat) : ∀ (k : Nat) (i : Int), 0 ≤ i → (l.length : Int) - i = d → 3 * d + 3 ≤ k →
    tollbarref05_Cut.l0 k l m i = some (cutAt l m d i) := by
  induction d with
  | zero =>
    intro k i h0 hd hk
    obtain ⟨k, rfl⟩ : ∃ m, k = m + 1 := ⟨k - 1, by omega⟩
    simp only [tollbarref05_Cut.l0, cutAt]; rw [if_neg (by omega)]
  | succ d ih =>
    intro k i h0 hd hk
    obtain ⟨k, rfl⟩ : ∃ m, k = m + 3 := ⟨k - 3, by omega⟩
    have hlt : i < (l.length : Int) := by omega
    have hw1 : wrap64 (i + 1) = i + 1 := w64 1 h0 hlt hn (by omega) (by omega)
    have hw2 : wrap64 (i + 2) = i + 2 := w64 2 h0 hlt hn (by omega) (by omega)
    have hw3 : wrap64 ((l.length : Int) - 1) = (l.length : Int) - 1 := by unfold wrap64; omega
    have ih' := ih k (i + 1) (by omega) (by omega) (by omega)
    have hle : i ≤ (l.length : Int) := by omega
    have h01 : 0 ≤ i + 1 := by omega
    unfold tollbarref05_Cut.l0
    rw [if_pos hlt]
    unfold tollbarref05_Cut.j2 tollbarref05_Cut.j4 tollbarref05_Cut.j3 tollbarref05_Cut.j5
    simp only [cutAt, hw1, hw2, hw3, ih']
    by_cases hlast : i = (l.length : Int) - 1
    · have h1 : ¬ (i + 1 < (l.length : Int)) := by omega
      rw [if_pos hlast, if_pos h0]
      by_cases h10 : rd l i = 10
      · simp [h10]
      · by_cases h13 : rd l i = 13
        · simp [h13, h1, h0, hlt]
        · by_cases hm' : m ≤ i <;> simp [h10, h13, h0, hlt, hm']
    · have h1 : i + 1 < (l.length : Int) := by omega
      rw [if_neg hlast, if_pos h0]
      by_cases h10 : rd l i = 10
      · simp [h10]
      · by_cases h13 : rd l i = 13
        · by_cases hr : rd l (i + 1) = 10 <;> simp [h13, h1, h0, hlt, h01, hle, hr]
        · by_cases hm' : m ≤ i <;> simp [h10, h13, h0, hlt, hm']

theorem refcut_f (l : List Int) (a : Int) (hn : l.length ≤ 140737488355328) (k : Nat) (hk : 3 * l.length + 4 ≤ k) : tollbarref05_Cut.f k l a = some (cutSpec l a) := by
  obtain ⟨k, rfl⟩ : ∃ m, k = m + 1 := ⟨k - 1, by omega⟩
  unfold tollbarref05_Cut.f tollbarref05_Cut.j0 cutSpec mx
  by_cases h : a < 0
  · rw [if_pos h, if_pos h]
    exact refcut_l0 l 0 (by omega) hn l.length k 0 (by omega) (by omega) (by omega)
  · rw [if_neg h, if_neg h]
    exact refcut_l0 l a (by omega) hn l.length k 0 (by omega) (by omega) (by omega)

theorem LineCuts : tollbarlaw05_LineCuts.Pure := by
  intro l a _ hn hb ha
  refine ⟨3 * l.length + 4, ?_⟩
  unfold tollbarlaw05_LineCuts.f tollbarlaw05_cutting.f
  rw [cut_f l a (by omega) _ (by omega), refcut_f l a (by omega) _ (by omega)]
  simp

end Go.Proofs.Ythkkkfeiklfjoaa.Pure
