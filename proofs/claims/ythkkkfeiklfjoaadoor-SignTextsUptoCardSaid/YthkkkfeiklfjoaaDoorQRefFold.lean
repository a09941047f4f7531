/- Each function below answers as its Lean twin says; a law answers true at every input that its row speaks of. No further condition. (Laid by this repo's seatprint.py.) -/
import Derived.Test.YthkkkfeiklfjoaaDoorPx0
import Derived.Test.YthkkkfeiklfjoaaDoorFsignFold
import Derived.Test.YthkkkfeiklfjoaaDoorFtollbarref02Fold
import Derived.Test.YthkkkfeiklfjoaaDoorQBytes
namespace Go.Proofs.YthkkkfeiklfjoaaDoor.Pure
open Go.RowKit Go.Proofs.YthkkkfeiklfjoaaDoor.P Go.Proofs.YthkkkfeiklfjoaaDoorW.PrintWords Go.Proofs.YthkkkfeiklfjoaaDoorW.PrintLast Go.Proofs.YthkkkfeiklfjoaaDoorW.PrintMore
set_option linter.unusedVariables false
set_option linter.unusedSimpArgs false
theorem refFold_l0 (s : ByteArray) (hn : s.size ≤ 140737488355327) (d : Nat) : ∀ (k : Nat) (out : List Int) (i : Int), 0 ≤ i → (s.size : Int) - i = d → d + 1 ≤ k → (out.length : Int) = i →
    tollbarref02_Fold.l0 k s out i = some (strOfNums (out ++ ((bytesOf s).drop i.toNat).map foldC)) := by
  induction d with
  | zero =>
    intro k out i h0 hd hk ho
    obtain ⟨k, rfl⟩ : ∃ m, k = m + 1 := ⟨k - 1, by omega⟩
    simp only [tollbarref02_Fold.l0]
    rw [if_neg (by omega), List.drop_of_length_le (by rw [bytesOf_length]; omega), List.map_nil, List.append_nil]
  | succ d ih =>
    intro k out i h0 hd hk ho
    obtain ⟨k, rfl⟩ : ∃ m, k = m + 1 := ⟨k - 1, by omega⟩
    have hlt : i < (s.size : Int) := by omega
    have hl : i.toNat < (bytesOf s).length := by rw [bytesOf_length]; omega
    have hg : (bytesOf s)[i.toNat] = bt s i := by rw [← rd_bytesOf]; simp [rd, List.getD_eq_getElem?_getD, List.getElem?_eq_getElem hl]
    have hr := bt_range s i
    have ih' := fun v => ih k (out ++ [v]) (i + 1) (by omega) (by omega) (by omega) (by rw [List.length_append]; simp; omega)
    have e1 : (i + 1).toNat = i.toNat + 1 := by omega
    rw [List.drop_eq_getElem_cons hl, hg, List.map_cons]
    simp only [tollbarref02_Fold.l0]
    rw [if_pos hlt, if_pos h0, show wrap64 (i + 1) = i + 1 by unfold wrap64; omega]
    have hf : ∀ v, v = foldC (bt s i) → some (strOfNums (out ++ [v] ++ ((bytesOf s).drop (i.toNat + 1)).map foldC)) = some (strOfNums (out ++ foldC (bt s i) :: ((bytesOf s).drop (i.toNat + 1)).map foldC)) := by
      intro v hv
      rw [hv, List.append_assoc]
      rfl
    have ho2 : out.length < 140737488355328 := by omega
    by_cases h1 : bt s i ≥ 65
    · rw [if_pos h1]
      by_cases h2 : bt s i ≤ 90
      · rw [if_pos h2, if_pos ho2, ih', e1]; exact hf _ (by unfold foldC; rw [if_pos ⟨h1, h2⟩]; omega)
      · rw [if_neg h2, if_pos ho2, ih', e1]; exact hf _ (by unfold foldC; rw [if_neg (by omega)])
    · rw [if_neg h1, if_pos ho2, ih', e1]; exact hf _ (by unfold foldC; rw [if_neg (by omega)])
theorem refFold_f (s : ByteArray) (hn : s.size ≤ 140737488355327) (k : Nat) (hk : s.size + 1 ≤ k) : tollbarref02_Fold.f k s = sign_Fold.f s := by
  unfold tollbarref02_Fold.f sign_Fold.f
  rw [refFold_l0 s hn s.size k [] 0 (by omega) (by omega) hk rfl, if_pos (by omega)]
  rfl
theorem Fold_f (s : ByteArray) (hn : s.size ≤ 140737488355328) : sign_Fold.f s = some (strOfNums ((bytesOf s).map foldC)) := if_pos hn
theorem str_len (xs : List Int) : (strOfNums xs).size = xs.length := str_size xs

end Go.Proofs.YthkkkfeiklfjoaaDoor.Pure
