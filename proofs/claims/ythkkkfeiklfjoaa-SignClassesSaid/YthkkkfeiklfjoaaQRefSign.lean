/- Each function below answers as its Lean twin says; a law answers true at every input that its row speaks of. No further condition. (Laid by this repo's seatprint.py.) -/
import Derived.Test.YthkkkfeiklfjoaaPx0
import Derived.Test.YthkkkfeiklfjoaaFsignTarget
import Derived.Test.YthkkkfeiklfjoaaFsignToken
import Derived.Test.YthkkkfeiklfjoaaFsignValue
import Derived.Test.YthkkkfeiklfjoaaFtollbarref02Target
import Derived.Test.YthkkkfeiklfjoaaFtollbarref02Token
import Derived.Test.YthkkkfeiklfjoaaFtollbarref02Value
import Derived.Test.YthkkkfeiklfjoaaFtollbarref02tokenByte
import Derived.Test.YthkkkfeiklfjoaaQBytes
import Derived.Test.YthkkkfeiklfjoaaQSign
namespace Go.Proofs.Ythkkkfeiklfjoaa.Pure
open Go.RowKit Go.Proofs.Ythkkkfeiklfjoaa.P Go.Proofs.YthkkkfeiklfjoaaW.PrintWords Go.Proofs.YthkkkfeiklfjoaaW.PrintLast Go.Proofs.YthkkkfeiklfjoaaW.PrintMore
set_option linter.unusedVariables false
set_option linter.unusedSimpArgs false
theorem tokenByte_tells (c : Int) (h0 : 0 ≤ c) (h1 : c ≤ 255) (k : Nat) (hk : 1 ≤ k) : tollbarref02_tokenByte.f k c = some (tokB c) := by
  refine at_rounds (fun k => tollbarref02_tokenByte.mono c k) hk ?_
  exact byte_cases (P := fun c => tollbarref02_tokenByte.f 1 c = some (tokB c)) (by decide +kernel) c h0 h1
theorem valB_eq (c : Int) (h0 : 0 ≤ c) (h1 : c ≤ 255) : valB c = !(decide (c < 32) && !decide (c = 9) || decide (c = 127)) :=
  byte_cases (P := fun c => valB c = !(decide (c < 32) && !decide (c = 9) || decide (c = 127))) (by decide +kernel) c h0 h1
theorem tgtB_eq (c : Int) (h0 : 0 ≤ c) (h1 : c ≤ 255) : tgtB c = !(decide (c ≤ 32) || decide (127 ≤ c)) :=
  byte_cases (P := fun c => tgtB c = !(decide (c ≤ 32) || decide (127 ≤ c))) (by decide +kernel) c h0 h1
theorem refToken_l0 (s : ByteArray) (hn : s.size ≤ 140737488355328) (d : Nat) : ∀ (k : Nat) (i : Int), 0 ≤ i → (s.size : Int) - i = d → d + 2 ≤ k →
    tollbarref02_Token.l0 k s i = some (!s.toList.isEmpty && ((bytesOf s).drop i.toNat).all tokB) := by
  induction d with
  | zero =>
    intro k i h0 hd hk
    obtain ⟨k, rfl⟩ : ∃ m, k = m + 1 := ⟨k - 1, by omega⟩
    simp only [tollbarref02_Token.l0]
    rw [if_neg (by omega), drop_end _ _ _ (by omega), isEmpty_size]
    congr 1
    by_cases h : s.size = 0 <;> simp [h]; omega
  | succ d ih =>
    intro k i h0 hd hk
    obtain ⟨k, rfl⟩ : ∃ m, k = m + 1 := ⟨k - 1, by omega⟩
    have hlt : i < (s.size : Int) := by omega
    simp only [tollbarref02_Token.l0]
    rw [if_pos hlt, if_pos h0, tokenByte_tells _ (bt_range s i).1 (bt_range s i).2 k (by omega), w64 1 h0 hlt hn (by omega) (by omega), drop_all _ _ _ h0 hlt, isEmpty_size]
    have ih' := ih k (i + 1) (by omega) (by omega) (by omega)
    rw [isEmpty_size] at ih'
    simp only [Option.bind_some, ih']
    have hz : s.size ≠ 0 := by omega
    cases tokB (bt s i) <;> simp [hz]
theorem refToken_f (s : ByteArray) (hn : s.size ≤ 140737488355328) (k : Nat) (hk : s.size + 2 ≤ k) : tollbarref02_Token.f k s = sign_Token.f s := by
  rw [Token_f s hn]
  unfold tollbarref02_Token.f
  rw [refToken_l0 s hn s.size k 0 (by omega) (by omega) hk]
  rfl
theorem refValue_l0 (s : ByteArray) (hn : s.size ≤ 140737488355328) (d : Nat) : ∀ (k : Nat) (i : Int), 0 ≤ i → (s.size : Int) - i = d → d + 1 ≤ k →
    tollbarref02_Value.l0 k s i = some (((bytesOf s).drop i.toNat).all valB) := by
  induction d with
  | zero =>
    intro k i h0 hd hk
    obtain ⟨k, rfl⟩ : ∃ m, k = m + 1 := ⟨k - 1, by omega⟩
    simp only [tollbarref02_Value.l0]
    rw [if_neg (by omega), drop_end _ _ _ (by omega)]
  | succ d ih =>
    intro k i h0 hd hk
    obtain ⟨k, rfl⟩ : ∃ m, k = m + 1 := ⟨k - 1, by omega⟩
    have hlt : i < (s.size : Int) := by omega
    simp only [tollbarref02_Value.l0]
    have ih' := ih k (i + 1) (by omega) (by omega) (by omega)
    rw [if_pos hlt, if_pos h0, w64 1 h0 hlt hn (by omega) (by omega), drop_all _ _ _ h0 hlt, ih', valB_eq _ (bt_range s i).1 (bt_range s i).2]
    by_cases a : bt s i < 32 <;> by_cases b : bt s i = 9 <;> by_cases c : bt s i = 127 <;> simp [a, b, c]
theorem refValue_f (s : ByteArray) (hn : s.size ≤ 140737488355328) (k : Nat) (hk : s.size + 1 ≤ k) : tollbarref02_Value.f k s = sign_Value.f s := by
  rw [Value_f s hn]
  unfold tollbarref02_Value.f
  rw [refValue_l0 s hn s.size k 0 (by omega) (by omega) hk]
  rfl
theorem refTarget_l0 (s : ByteArray) (hn : s.size ≤ 140737488355328) (d : Nat) : ∀ (k : Nat) (i : Int), 0 ≤ i → (s.size : Int) - i = d → d + 1 ≤ k →
    tollbarref02_Target.l0 k s i = some (!s.toList.isEmpty && ((bytesOf s).drop i.toNat).all tgtB) := by
  induction d with
  | zero =>
    intro k i h0 hd hk
    obtain ⟨k, rfl⟩ : ∃ m, k = m + 1 := ⟨k - 1, by omega⟩
    simp only [tollbarref02_Target.l0]
    rw [if_neg (by omega), drop_end _ _ _ (by omega), isEmpty_size]
    congr 1
    by_cases h : s.size = 0 <;> simp [h]; omega
  | succ d ih =>
    intro k i h0 hd hk
    obtain ⟨k, rfl⟩ : ∃ m, k = m + 1 := ⟨k - 1, by omega⟩
    have hlt : i < (s.size : Int) := by omega
    simp only [tollbarref02_Target.l0]
    have ih' := ih k (i + 1) (by omega) (by omega) (by omega)
    rw [isEmpty_size] at ih'
    have hz : s.size ≠ 0 := by omega
    rw [if_pos hlt, if_pos h0, w64 1 h0 hlt hn (by omega) (by omega), drop_all _ _ _ h0 hlt, ih', tgtB_eq _ (bt_range s i).1 (bt_range s i).2, isEmpty_size]
    by_cases a : bt s i ≤ 32 <;> by_cases b : 127 ≤ bt s i <;> simp [a, b, hz]
theorem refTarget_f (s : ByteArray) (hn : s.size ≤ 140737488355328) (k : Nat) (hk : s.size + 1 ≤ k) : tollbarref02_Target.f k s = sign_Target.f s := by
  rw [Target_f s hn]
  unfold tollbarref02_Target.f
  rw [refTarget_l0 s hn s.size k 0 (by omega) (by omega) hk]
  rfl

end Go.Proofs.Ythkkkfeiklfjoaa.Pure
