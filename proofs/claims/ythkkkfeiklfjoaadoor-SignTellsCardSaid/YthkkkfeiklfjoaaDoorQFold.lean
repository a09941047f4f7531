/- Each function below answers as its Lean twin says; a law answers true at every input that its row speaks of. No further condition. (Laid by this repo's seatprint.py.) -/
import Derived.Test.YthkkkfeiklfjoaaDoorPx0
import Derived.Test.YthkkkfeiklfjoaaDoorFsignFold
import Derived.Test.YthkkkfeiklfjoaaDoorFsignSame
import Derived.Test.YthkkkfeiklfjoaaDoorQBytes
namespace Go.Proofs.YthkkkfeiklfjoaaDoor.Pure
open Go.RowKit Go.Proofs.YthkkkfeiklfjoaaDoor.P Go.Proofs.YthkkkfeiklfjoaaDoorW.PrintWords Go.Proofs.YthkkkfeiklfjoaaDoorW.PrintLast Go.Proofs.YthkkkfeiklfjoaaDoorW.PrintMore
set_option linter.unusedVariables false
set_option linter.unusedSimpArgs false
theorem fold_tells (s : ByteArray) (hn : s.size ≤ 140737488355328) : sign_Fold.f s = some (strOfNums ((bytesOf s).map foldC)) := if_pos hn
def Bytes (xs : List Int) : Prop := ∀ x ∈ xs, 0 ≤ x ∧ x ≤ 255
theorem bytes_of (s : ByteArray) : Bytes (bytesOf s) := by
  intro x hx
  obtain ⟨b, _, rfl⟩ := List.mem_map.1 hx
  have := b.toNat_lt
  omega
theorem foldC_byte (x : Int) (h0 : 0 ≤ x) (h1 : x ≤ 255) : 0 ≤ foldC x ∧ foldC x ≤ 255 := by unfold foldC; split <;> omega
theorem foldC_twice (x : Int) : foldC (foldC x) = foldC x := by
  unfold foldC
  by_cases h : 65 ≤ x ∧ x ≤ 90
  · rw [if_pos h, if_neg (by omega)]
  · rw [if_neg h, if_neg h]
theorem bytes_fold {xs : List Int} (h : Bytes xs) : Bytes (xs.map foldC) := by
  intro x hx
  obtain ⟨y, hy, rfl⟩ := List.mem_map.1 hx
  exact foldC_byte y (h y hy).1 (h y hy).2
theorem bytes_str {xs : List Int} (h : Bytes xs) : bytesOf (strOfNums xs) = xs := by
  unfold bytesOf
  rw [strOfNums_data, List.map_map]
  conv => rhs; rw [← List.map_id xs]
  refine List.map_congr_left fun x hx => ?_
  have := h x hx
  show ((UInt8.ofNat x.toNat).toNat : Int) = x
  rw [UInt8.toNat_ofNat']
  omega
theorem str_inj {xs ys : List Int} (hx : Bytes xs) (hy : Bytes ys) : ((strOfNums xs).toList == (strOfNums ys).toList) = decide (xs = ys) := by
  rw [Bool.eq_iff_iff, beq_iff_eq, decide_eq_true_eq]
  refine ⟨fun e => ?_, fun e => by rw [e]⟩
  rw [← bytes_str hx, ← bytes_str hy]
  unfold bytesOf
  rw [← toList_data, ← toList_data, e]
theorem same_tells (a b : ByteArray) (ha : a.size ≤ 140737488355328) (hb : b.size ≤ 140737488355328) : sign_Same.f a b = some (decide ((bytesOf a).map foldC = (bytesOf b).map foldC)) := by
  unfold sign_Same.f
  by_cases h : (a.size : Int) = b.size
  · rw [if_pos h, fold_tells a ha, Option.bind_some, fold_tells b hb, Option.bind_some, str_inj (bytes_fold (bytes_of a)) (bytes_fold (bytes_of b))]
  · rw [if_neg h]
    have hne : ¬ ((bytesOf a).map foldC = (bytesOf b).map foldC) := by
      intro e
      have := congrArg List.length e
      rw [List.length_map, List.length_map, bytesOf_length, bytesOf_length] at this
      omega
    rw [decide_eq_false hne]

end Go.Proofs.YthkkkfeiklfjoaaDoor.Pure
