/- Each function below answers as its Lean twin says; a law answers true at every input that its row speaks of. No further condition. (Laid by this repo's seatprint.py.) -/
import Derived.Test.YthkkkfeiklfjoaaDoorPx0
import Derived.Test.YthkkkfeiklfjoaaDoorFsignFold
import Derived.Test.YthkkkfeiklfjoaaDoorFsignSame
import Derived.Test.YthkkkfeiklfjoaaDoorFtollbarlaw02SignFolds
import Derived.Test.YthkkkfeiklfjoaaDoorQBits
import Derived.Test.YthkkkfeiklfjoaaDoorQBytes
import Derived.Test.YthkkkfeiklfjoaaDoorQFold
namespace Go.Proofs.YthkkkfeiklfjoaaDoor.Pure
open Go.RowKit Go.Proofs.YthkkkfeiklfjoaaDoor.P Go.Proofs.YthkkkfeiklfjoaaDoorW.PrintWords Go.Proofs.YthkkkfeiklfjoaaDoorW.PrintLast Go.Proofs.YthkkkfeiklfjoaaDoorW.PrintMore
set_option linter.unusedVariables false
set_option linter.unusedSimpArgs false
theorem xor_byte (c : Int) (h0 : 0 ≤ c) (h1 : c ≤ 255) : 0 ≤ Go.bits .xor .u8 c 32 ∧ Go.bits .xor .u8 c 32 ≤ 255 ∧ decide (foldC c = foldC (Go.bits .xor .u8 c 32)) = isLetter c := by
  obtain ⟨n, rfl⟩ := Int.eq_ofNat_of_zero_le h0
  have h : ∀ m : Fin 256, 0 ≤ Go.bits .xor .u8 (m.val : Int) 32 ∧ Go.bits .xor .u8 (m.val : Int) 32 ≤ 255 ∧ decide (foldC (m.val : Int) = foldC (Go.bits .xor .u8 (m.val : Int) 32)) = isLetter (m.val : Int) := by decide +kernel
  exact h ⟨n, by omega⟩
theorem set_same (l : List Int) (i : Nat) (hi : i < l.length) (v : Int) : (l = l.set i v) ↔ l[i] = v := by
  refine ⟨fun e => ?_, fun e => by rw [← e, List.set_getElem_self]⟩
  have : (l.set i v)[i]'(by simpa using hi) = v := by simp
  rw [← this]
  congr 1
theorem SignFolds : ∀ (a0 : ByteArray) (a1 : Int), a0.size ≤ 140737488351232 → (Lit.int .i64 a1).wf = true → ∃ k, tollbarlaw02_SignFolds.f k a0 a1 = some true := by
  intro s a hs ha
  refine ⟨40, ?_⟩
  have hf := fold_tells s (by omega)
  have hb : bytesOf (strOfNums ((bytesOf s).map foldC)) = (bytesOf s).map foldC := bytes_str (bytes_fold (bytes_of s))
  have hz : (strOfNums ((bytesOf s).map foldC)).size = s.size := by rw [str_size, List.length_map, bytesOf_length]
  have hff : ((bytesOf s).map foldC).map foldC = (bytesOf s).map foldC := by
    rw [List.map_map]
    exact List.map_congr_left fun x _ => foldC_twice x
  have h2 : sign_Fold.f (strOfNums ((bytesOf s).map foldC)) = some (strOfNums ((bytesOf s).map foldC)) := by rw [fold_tells _ (by omega), hb, hff]
  have h3 : sign_Same.f s (strOfNums ((bytesOf s).map foldC)) = some true := by rw [same_tells _ _ (by omega) (by omega), hb, hff]; simp
  have h4 : sign_Same.f s s = some true := by rw [same_tells _ _ (by omega) (by omega)]; simp
  have hv := and_1048575 a
  unfold tollbarlaw02_SignFolds.f
  rw [if_pos ⟨by kernel_rfl, by omega, by rw [hv]; omega, by rw [hv]; omega⟩, hf, Option.bind_some, if_pos ⟨h2, hz, h3, h4⟩]
  by_cases h0 : s.size = 0
  · rw [if_pos h0]
  · rw [if_neg h0]
    have hx0 : 0 ≤ foldsAt s a := Int.emod_nonneg _ (by omega)
    have hx1 : foldsAt s a < (s.size : Int) := Int.emod_lt_of_pos _ (by omega)
    obtain ⟨x, hx⟩ : ∃ x, x = foldsAt s a := ⟨_, rfl⟩
    unfold foldsTo
    rw [← hx] at hx0 hx1 ⊢
    have hr := bt_range s x
    obtain ⟨e1, e2, e3⟩ := xor_byte (bt s x) hr.1 hr.2
    have hl : x.toNat < (bytesOf s).length := by rw [bytesOf_length]; omega
    have hg : (bytesOf s)[x.toNat] = bt s x := by rw [← rd_bytesOf]; simp [rd, List.getD_eq_getElem?_getD, List.getElem?_eq_getElem hl]
    have hby : Bytes ((bytesOf s).set x.toNat (Go.bits .xor .u8 (bt s x) 32)) := by
      intro y hy
      rcases List.mem_or_eq_of_mem_set hy with hy | rfl
      · exact bytes_of s y hy
      · exact ⟨e1, e2⟩
    have hsame : sign_Same.f s (strOfNums ((bytesOf s).set x.toNat (Go.bits .xor .u8 (bt s x) 32))) = some (isLetter (bt s x)) := by
      rw [same_tells _ _ (by omega) (by rw [str_size, List.length_set, bytesOf_length]; omega), bytes_str hby, List.map_set, ← e3]
      congr 1
      rw [decide_eq_decide, set_same _ _ (by rw [List.length_map]; exact hl), List.getElem_map, hg]
    rw [if_pos hsame]

end Go.Proofs.YthkkkfeiklfjoaaDoor.Pure
