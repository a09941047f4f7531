/- Each function below answers as its Lean twin says; a law answers true at every input that its row speaks of. No further condition. (Laid by this repo's seatprint.py.) -/
import Derived.Test.YthkkkfeiklfjoaaPx0
import Derived.Test.YthkkkfeiklfjoaaFlineCut
import Derived.Test.YthkkkfeiklfjoaaQBytes
namespace Go.Proofs.Ythkkkfeiklfjoaa.Pure
open Go.RowKit Go.Proofs.Ythkkkfeiklfjoaa.P Go.Proofs.YthkkkfeiklfjoaaW.PrintWords Go.Proofs.YthkkkfeiklfjoaaW.PrintLast Go.Proofs.YthkkkfeiklfjoaaW.PrintMore
set_option linter.unusedVariables false
set_option linter.unusedSimpArgs false
/-- The line at the place i of l, with the bound m; d bytes are left. -/
def cutAt (l : List Int) (m : Int) : Nat → Int → (ByteArray × Int × Int)
  | 0, _ => ((⟨#[]⟩ : ByteArray), 0, 0)
  | d + 1, i =>
    if rd l i = 10 then ((⟨#[]⟩ : ByteArray), 0, 20)
    else if rd l i = 13 then
      (if i + 1 < (l.length : Int) then (if rd l (i + 1) = 10 then (strOfNums (l.take i.toNat), i + 2, 0) else ((⟨#[]⟩ : ByteArray), 0, 20)) else ((⟨#[]⟩ : ByteArray), 0, 0))
    else if m ≤ i then ((⟨#[]⟩ : ByteArray), 0, 2) else cutAt l m d (i + 1)

theorem cut_l0 (l : List Int) (a : Int) (hn : l.length ≤ 140737488355328) (d : Nat) : ∀ (k : Nat) (i : Int), 0 ≤ i → (l.length : Int) - i = d → 3 * d + 3 ≤ k →
    line_Cut.l0 k l a l (l.length : Int) i = some (cutAt l (mx a 0) d i) := by
  induction d with
  | zero =>
    intro k i h0 hd hk
    obtain ⟨k, rfl⟩ : ∃ m, k = m + 1 := ⟨k - 1, by omega⟩
    simp only [line_Cut.l0, cutAt]; rw [if_neg (by omega)]
  | succ d ih =>
    intro k i h0 hd hk
    obtain ⟨k, rfl⟩ : ∃ m, k = m + 3 := ⟨k - 3, by omega⟩
    have hlt : i < (l.length : Int) := by omega
    have hw1 : wrap64 (i + 1) = i + 1 := w64 1 h0 hlt hn (by omega) (by omega)
    have hw2 : wrap64 (i + 2) = i + 2 := w64 2 h0 hlt hn (by omega) (by omega)
    have ih' := ih k (i + 1) (by omega) (by omega) (by omega)
    unfold line_Cut.l0
    rw [if_pos hlt, if_pos h0, if_pos hlt]
    unfold line_Cut.j1 line_Cut.j2
    simp only [cutAt, hw1, hw2, ih']
    by_cases h10 : rd l i = 10
    · simp [h10]
    · rw [if_neg h10]
      by_cases h13 : rd l i = 13
      · simp only [h13]
        by_cases h1 : i + 1 < (l.length : Int)
        · by_cases hr : rd l (i + 1) = 10
          · have hne : ¬ (i + 1 = (l.length : Int)) := by omega
            have hle : i ≤ (l.length : Int) := by omega
            have h01 : 0 ≤ i + 1 := by omega
            simp [h1, hr, hne, hle, h01, h0]
          · have h01 : 0 ≤ i + 1 := by omega
            simp [h1, hr, h01]
        · have he : i + 1 = (l.length : Int) := by omega
          simp [he]
      · simp only [h13, if_false, h10]
        by_cases hm : mx a 0 ≤ i
        · simp [hm]
        · simp [hm]

/-- What Cut tells. -/
def cutSpec (l : List Int) (a : Int) : (ByteArray × Int × Int) := cutAt l (mx a 0) l.length 0
theorem cut_f (l : List Int) (a : Int) (hn : l.length ≤ 140737488355328) (k : Nat) (hk : 3 * l.length + 3 ≤ k) : line_Cut.f k l a = some (cutSpec l a) := by
  unfold line_Cut.f cutSpec
  exact cut_l0 l a hn l.length k 0 (by omega) (by omega) hk

end Go.Proofs.Ythkkkfeiklfjoaa.Pure
