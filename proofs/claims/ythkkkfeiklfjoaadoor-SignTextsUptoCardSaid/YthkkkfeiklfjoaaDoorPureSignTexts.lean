/- Each function below answers as its Lean twin says; a law answers true at every input that its row speaks of. No further condition. (Laid by this repo's seatprint.py.) -/
import Derived.Test.YthkkkfeiklfjoaaDoorPx0
import Derived.Test.YthkkkfeiklfjoaaDoorFsignFold
import Derived.Test.YthkkkfeiklfjoaaDoorFsignSame
import Derived.Test.YthkkkfeiklfjoaaDoorFsignTrim
import Derived.Test.YthkkkfeiklfjoaaDoorFtollbarlaw02SignTexts
import Derived.Test.YthkkkfeiklfjoaaDoorFtollbarlaw02texts
import Derived.Test.YthkkkfeiklfjoaaDoorQBytes
import Derived.Test.YthkkkfeiklfjoaaDoorQRefFold
import Derived.Test.YthkkkfeiklfjoaaDoorQRefTexts
import Derived.Test.YthkkkfeiklfjoaaDoorQSame
import Derived.Test.YthkkkfeiklfjoaaDoorQSplit
import Derived.Test.YthkkkfeiklfjoaaDoorQTrim
namespace Go.Proofs.YthkkkfeiklfjoaaDoor.Pure
open Go.RowKit Go.Proofs.YthkkkfeiklfjoaaDoor.P Go.Proofs.YthkkkfeiklfjoaaDoorW.PrintWords Go.Proofs.YthkkkfeiklfjoaaDoorW.PrintLast Go.Proofs.YthkkkfeiklfjoaaDoorW.PrintMore
set_option linter.unusedVariables false
set_option linter.unusedSimpArgs false
theorem same_fold (a b : ByteArray) (ha : a.size ≤ 140737488355328) (hb : b.size ≤ 140737488355328) (fa fb : ByteArray) (ea : sign_Fold.f a = some fa) (eb : sign_Fold.f b = some fb) : sign_Same.f a b = some (fa.toList == fb.toList) := by
  unfold sign_Same.f
  by_cases h : (a.size : Int) = b.size
  · rw [if_pos h, ea, Option.bind_some, eb, Option.bind_some]
  · rw [if_neg h]
    have hne : ¬ (fa.toList = fb.toList) := by
      intro e
      rw [Fold_f a ha] at ea
      rw [Fold_f b hb] at eb
      obtain rfl := Option.some.inj ea
      obtain rfl := Option.some.inj eb
      have := congrArg List.length e
      rw [toList_data, toList_data, data_length, data_length, str_size, str_size, List.length_map, List.length_map, bytesOf_length, bytesOf_length] at this
      omega
    rw [beq_eq_false_iff_ne.2 hne]
theorem SignTextsU : ∀ (a0 a1 : ByteArray), a0.size ≤ 1048576 → a1.size ≤ 1048576 → ∃ k, tollbarlaw02_SignTexts.f k a0 a1 = some true := by
  intro a b ha hb
  obtain ⟨K, hK⟩ : ∃ K : Nat, K = 10000000 := ⟨_, rfl⟩
  refine ⟨K, ?_⟩
  have htx : tollbarlaw02_texts.f K = some true := at_rounds (fun k => tollbarlaw02_texts.mono k) (show 40 ≤ K by omega) (by kernel_rfl)
  have hdl := data_length a
  have h1 := refTrim_f a.data.toList (by omega) K (by omega)
  have h2 := refSplit_f a.data.toList (by omega) K (by omega)
  rw [mkS_self] at h1 h2
  obtain ⟨fa, hfa⟩ : ∃ fa, sign_Fold.f a = some fa := ⟨_, Fold_f a (by omega)⟩
  obtain ⟨fb, hfb⟩ : ∃ fb, sign_Fold.f b = some fb := ⟨_, Fold_f b (by omega)⟩
  have hlen : (commaParts a.data.toList).length ≤ 1048577 := by
    have h1 : (commaParts a.data.toList).length ≤ ((pieces a.data.toList).map trm).length := List.length_filter_le _ _
    rw [List.length_map, pieces_length] at h1
    have h2 := cnt_le a.data.toList
    omega
  have h0 : sign_Trim.f a = some (mkS (trm a.data.toList)) := Trim_f a (by omega)
  unfold tollbarlaw02_SignTexts.f
  rw [htx, Option.bind_some, if_pos rfl, h0, Option.bind_some, h1, Option.bind_some, if_pos rfl, refFold_f a (by omega) K (by omega), refFold_f b (by omega) K (by omega), hfa, Option.bind_some, Option.bind_some, if_pos rfl,
    signSplit_f a (by omega) K (by omega), Option.bind_some, h2, Option.bind_some, same_self _ (by rw [List.length_map]; omega) K (by rw [List.length_map]; omega), Option.bind_some, if_pos rfl, same_fold a b (by omega) (by omega) fa fb hfa hfb, Option.bind_some, Option.bind_some, hfb, Option.bind_some]
  simp

end Go.Proofs.YthkkkfeiklfjoaaDoor.Pure
