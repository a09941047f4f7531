/- Each function below answers as its Lean twin says; a law answers true at every input that its row speaks of. No further condition. (Laid by this repo's seatprint.py.) -/
import Derived.Test.YthkkkfeiklfjoaaDoorPx0
import Derived.Test.YthkkkfeiklfjoaaDoorFtollbarlaw02SignTrims
import Derived.Test.YthkkkfeiklfjoaaDoorFtollbarlaw02texts
import Derived.Test.YthkkkfeiklfjoaaDoorQBits
import Derived.Test.YthkkkfeiklfjoaaDoorQBytes
import Derived.Test.YthkkkfeiklfjoaaDoorQTrim
namespace Go.Proofs.YthkkkfeiklfjoaaDoor.Pure
open Go.RowKit Go.Proofs.YthkkkfeiklfjoaaDoor.P Go.Proofs.YthkkkfeiklfjoaaDoorW.PrintWords Go.Proofs.YthkkkfeiklfjoaaDoorW.PrintLast Go.Proofs.YthkkkfeiklfjoaaDoorW.PrintMore
set_option linter.unusedVariables false
set_option linter.unusedSimpArgs false
theorem one_blank (c : ByteArray) (hc : c = ⟨#[32, 9]⟩ ∨ c = ⟨#[9, 32]⟩) (i : Int) : ∃ b, strOfNums [bt c (i % 2)] = ⟨#[b]⟩ ∧ blk b = true := by
  have h : i % 2 = 0 ∨ i % 2 = 1 := by omega
  rcases h with h | h <;> rcases hc with rfl | rfl <;> rw [h]
  · exact ⟨32, by decide +kernel, by decide⟩
  · exact ⟨9, by decide +kernel, by decide⟩
  · exact ⟨9, by decide +kernel, by decide⟩
  · exact ⟨32, by decide +kernel, by decide⟩
/-- x is t amid blanks. -/
def Amid (t x : ByteArray) : Prop := ∃ pre post, x.data.toList = pre ++ t.data.toList ++ post ∧ (∀ a ∈ pre, blk a = true) ∧ ∀ a ∈ post, blk a = true
theorem trims_l1 (t : ByteArray) (ht : Clean t.data.toList) (hn : t.size ≤ 140737488355328) (n : Int) (d : Nat) : ∀ (k : Nat) (j : Int) (x : ByteArray), 0 ≤ j → j ≤ n % 8 → n % 8 - j = d → d + 1 ≤ k → Amid t x → (x.size : Int) ≤ t.size + 10 + j →
    tollbarlaw02_SignTrims.l1 k n t x j = some true := by
  induction d with
  | zero =>
    intro k j x h0 hj hd hk hA hsz
    obtain ⟨k, rfl⟩ : ∃ m, k = m + 1 := ⟨k - 1, by omega⟩
    simp only [tollbarlaw02_SignTrims.l1, and_7]
    rw [if_neg (by omega), Trim_f x (by omega)]
    obtain ⟨pre, post, hx, h1, h2⟩ := hA
    have e1 : trm x.data.toList = t.data.toList := by rw [hx]; exact trm_around _ _ _ ht h1 h2
    simp only [Option.bind_some, e1]
    rw [if_pos trivial, if_pos (by omega), if_pos (by rw [ByteArray.size_append]; show 2 + t.size + 2 ≤ _; omega), Trim_f _ (by rw [ByteArray.size_append, ByteArray.size_append]; show 2 + t.size + 2 ≤ _; omega)]
    simp only [Option.bind_some]
    have e3 : ((⟨#[120, 32]⟩ : ByteArray) ++ t ++ ⟨#[9, 121]⟩).data.toList = [120, 32] ++ t.data.toList ++ [9, 121] := by simp
    rw [e3, trm_self ⟨by intro a ha; simp at ha; rw [← ha]; decide, by intro a ha; rw [List.getLast?_append] at ha; (have e4 : a = 121 := by simpa using ha.symm); rw [e4]; decide⟩, ← e3, toList_data]
    simp
  | succ d ih =>
    intro k j x h0 hj hd hk hA hsz
    obtain ⟨k, rfl⟩ : ∃ m, k = m + 1 := ⟨k - 1, by omega⟩
    simp only [tollbarlaw02_SignTrims.l1, and_7, and_1]
    obtain ⟨b, hb, hbl⟩ := one_blank ⟨#[9, 32]⟩ (Or.inr rfl) j
    have hs1 : (⟨#[b]⟩ : ByteArray).size = 1 := rfl
    rw [if_pos (by omega), if_pos (by omega), if_pos (by omega)]
    simp only [Option.bind_some, hb]
    rw [if_pos (by rw [hs1]; omega), show wrap64 (j + 1) = j + 1 by unfold wrap64; omega]
    refine ih k (j + 1) _ (by omega) (by omega) (by omega) (by omega) ?_ (by rw [ByteArray.size_append, hs1]; omega)
    obtain ⟨pre, post, hx, h1, h2⟩ := hA
    refine ⟨pre, post ++ [b], by simp [hx], h1, fun a ha => ?_⟩
    rcases List.mem_append.1 ha with ha | ha
    · exact h2 a ha
    · rw [List.mem_singleton.1 ha]; exact hbl
theorem trims_l0 (t : ByteArray) (ht : Clean t.data.toList) (hn : t.size ≤ 140737488355328) (m n : Int) (d : Nat) : ∀ (k : Nat) (j : Int) (x : ByteArray), 0 ≤ j → j ≤ m % 8 → m % 8 - j = d → d + 10 ≤ k → Amid t x → (x.size : Int) ≤ t.size + j →
    tollbarlaw02_SignTrims.l0 k m n t x j = some true := by
  induction d with
  | zero =>
    intro k j x h0 hj hd hk hA hsz
    obtain ⟨k, rfl⟩ : ∃ m, k = m + 1 := ⟨k - 1, by omega⟩
    simp only [tollbarlaw02_SignTrims.l0, and_7]
    rw [if_neg (by omega)]
    obtain ⟨d, hd'⟩ := Int.eq_ofNat_of_zero_le (show 0 ≤ n % 8 by omega)
    exact trims_l1 t ht hn n d k 0 x (by omega) (by omega) (by omega) (by omega) hA (by omega)
  | succ d ih =>
    intro k j x h0 hj hd hk hA hsz
    obtain ⟨k, rfl⟩ : ∃ m, k = m + 1 := ⟨k - 1, by omega⟩
    simp only [tollbarlaw02_SignTrims.l0, and_7, and_1]
    obtain ⟨b, hb, hbl⟩ := one_blank ⟨#[32, 9]⟩ (Or.inl rfl) j
    have hs1 : (⟨#[b]⟩ : ByteArray).size = 1 := rfl
    rw [if_pos (by omega), if_pos (by omega), if_pos (by omega)]
    simp only [Option.bind_some, hb]
    rw [if_pos (by rw [hs1]; omega), show wrap64 (j + 1) = j + 1 by unfold wrap64; omega]
    refine ih k (j + 1) _ (by omega) (by omega) (by omega) (by omega) ?_ (by rw [ByteArray.size_append, hs1]; omega)
    obtain ⟨pre, post, hx, h1, h2⟩ := hA
    refine ⟨b :: pre, post, by simp [hx], fun a ha => ?_, h2⟩
    rcases List.mem_cons.1 ha with rfl | ha
    · exact hbl
    · exact h1 a ha

theorem SignTrims : tollbarlaw02_SignTrims.Pure := by
  intro s m n hs hm hn
  refine ⟨40, ?_⟩
  have hsz : (⟨(trm s.data.toList).toArray⟩ : ByteArray).size ≤ s.size := by
    have := trm_length s.data.toList
    rw [data_length] at this
    show (trm s.data.toList).toArray.size ≤ _
    rw [List.size_toArray]
    exact this
  have hcl : Clean (⟨(trm s.data.toList).toArray⟩ : ByteArray).data.toList := trm_clean _
  unfold tollbarlaw02_SignTrims.f
  rw [show tollbarlaw02_texts.f 40 = some true by kernel_rfl, Trim_f s (by omega)]
  simp only [Option.bind_some, if_true]
  rw [Trim_f _ (by omega)]
  simp only [Option.bind_some]
  rw [trm_self hcl, if_pos rfl]
  simp only [tollbarlaw02_SignTrims.j0]
  rw [show decide (((⟨(trm s.data.toList).toArray⟩ : ByteArray).size : Int) > (s.size : Int)) = false by simp only [decide_eq_false_iff_not]; omega]
  simp only [Bool.false_eq_true, if_false]
  obtain ⟨d, hd⟩ := Int.eq_ofNat_of_zero_le (show 0 ≤ m % 8 by omega)
  exact trims_l0 _ hcl (by omega) m n d 39 0 _ (by omega) (by omega) (by omega) (by omega) ⟨[], [], by simp, by simp, by simp⟩ (by omega)

end Go.Proofs.YthkkkfeiklfjoaaDoor.Pure
