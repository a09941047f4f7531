/- Each function below answers as its Lean twin says; a law answers true at every input that its row speaks of. No further condition. (Laid by this repo's seatprint.py.) -/
import Derived.Test.YthkkkfeiklfjoaaPx0
import Derived.Test.YthkkkfeiklfjoaaBase
import Derived.Test.YthkkkfeiklfjoaaFsignTarget
import Derived.Test.YthkkkfeiklfjoaaFsignTarget1
import Derived.Test.YthkkkfeiklfjoaaFsignToken
import Derived.Test.YthkkkfeiklfjoaaFsignToken1
import Derived.Test.YthkkkfeiklfjoaaFsignValue
import Derived.Test.YthkkkfeiklfjoaaFsignValue1
namespace Go.Proofs.Ythkkkfeiklfjoaa.Pure
open Go.RowKit Go.Proofs.Ythkkkfeiklfjoaa.P Go.Proofs.YthkkkfeiklfjoaaW.PrintWords Go.Proofs.YthkkkfeiklfjoaaW.PrintLast Go.Proofs.YthkkkfeiklfjoaaW.PrintMore
set_option linter.unusedVariables false
set_option linter.unusedSimpArgs false
theorem byte_cases {P : Int → Prop} (h : ∀ n : Fin 256, P (n.val : Int)) (c : Int) (h0 : 0 ≤ c) (h1 : c ≤ 255) : P c := by
  obtain ⟨n, rfl⟩ := Int.eq_ofNat_of_zero_le h0
  exact h ⟨n, by omega⟩
def tokB (c : Int) : Bool := (sign_Token_1.f c).getD false
def valB (c : Int) : Bool := (sign_Value_1.f c).getD false
def tgtB (c : Int) : Bool := (sign_Target_1.f c).getD false
theorem Token_f (s : ByteArray) (h : s.size ≤ 140737488355328) : sign_Token.f s = some (!s.toList.isEmpty && (bytesOf s).all tokB) := if_pos h
theorem Value_f (s : ByteArray) (h : s.size ≤ 140737488355328) : sign_Value.f s = some ((bytesOf s).all valB) := if_pos h
theorem Target_f (s : ByteArray) (h : s.size ≤ 140737488355328) : sign_Target.f s = some (!s.toList.isEmpty && (bytesOf s).all tgtB) := if_pos h
theorem toList_data (s : ByteArray) : s.toList = s.data.toList := by
  simp [ByteArray.toList_eq]
theorem isEmpty_size (s : ByteArray) : s.toList.isEmpty = decide (s.size = 0) := by
  rw [toList_data, Bool.eq_iff_iff, List.isEmpty_iff, decide_eq_true_eq, ← data_length]
  exact List.length_eq_zero_iff.symm
theorem drop_all (p : Int → Bool) (s : ByteArray) (x : Int) (h0 : 0 ≤ x) (h : x < (s.size : Int)) :
    ((bytesOf s).drop x.toNat).all p = (p (bt s x) && ((bytesOf s).drop (x + 1).toNat).all p) := by
  rw [show (x + 1).toNat = x.toNat + 1 by omega]
  exact bytes_drop_all p s x h0 h
theorem drop_end (p : Int → Bool) (s : ByteArray) (x : Int) (h : (s.size : Int) ≤ x) : ((bytesOf s).drop x.toNat).all p = true := by
  rw [List.drop_of_length_le (by rw [bytesOf_length]; omega)]; rfl

end Go.Proofs.Ythkkkfeiklfjoaa.Pure
