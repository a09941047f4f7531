/- Each function below answers as its Lean twin says; a law answers true at every input that its row speaks of. No further condition. (Laid by this repo's seatprint.py.) -/
import Derived.Test.YthkkkfeiklfjoaaDoorPx0
import Derived.Test.YthkkkfeiklfjoaaDoorFstrconvformatBits
import Derived.Test.YthkkkfeiklfjoaaDoorTabs
import Derived.Test.YthkkkfeiklfjoaaDoorShelf
namespace Go.Proofs.YthkkkfeiklfjoaaDoor.P
open Go.RowKit Go.Proofs.YthkkkfeiklfjoaaDoorW.PrintWords Go.Proofs.YthkkkfeiklfjoaaDoorW.PrintLast Go.Proofs.YthkkkfeiklfjoaaDoorW.PrintMore
attribute [local go_sem] max2_int min2_int max_two min_two max_three min_three max_four min_four   -- for this text's walks alone
set_option linter.unusedVariables false
set_option linter.unusedSimpArgs false

/-! ### strconv_FormatInt_34: function 34 -/
/-- At the base 10, and of a number from 0 on at the base 16. -/
def strconv_FormatInt_34.f (a0 a1 : Int) : Option ByteArray :=
  if a1 = 10 then (if -9223372036854775808 ≤ a0 ∧ a0 ≤ 9223372036854775807 then some ⟨(Lib.itoa a0).toArray⟩ else none)
  else if a1 = 16 then (if 0 ≤ a0 ∧ a0 ≤ 9223372036854775807 then some (strOfNums (hexD a0.toNat)) else none)
  else none
theorem below_grow {w : World} (k : Nat) (os : Array Obj) : Below w.heap.size w (Go.Sort.grow (w.drewN k) os) :=
  ⟨rfl, rfl, rfl, by simp [Go.Sort.grow], fun b hb => by simp only [Go.Sort.grow]; rw [Array.getElem?_append_left (by simpa using hb)]; rfl⟩
set_option maxHeartbeats 4000000 in
theorem formatInt_16 (a0 : Int) (h0 : 0 ≤ a0) (h1 : a0 ≤ 9223372036854775807) (w : World) (ht : Tabs w) :
    Calls Tryd.prog 34 #[.int .i64 a0, .int .i64 16] w fun e w' => e = .returned (.string (strOfNums (hexD a0.toNat))) ∧ Below w.heap.size w w' := by
  have HT := Aside0.mk ht
  clear ht
  have hw : IntKind.u64.wrap a0 = a0 := by simp [IntKind.wrap, IntKind.bits, IntKind.signed]; omega
  have HF := Aside0.mk (formatBits_16 a0.toNat (by omega))
  have hn : ((a0.toNat : Nat) : Int) = a0 := by omega
  rw [hn] at HF
  clear hn
  have hneg : decide (a0 < 0) = false := decide_eq_false (by omega)
  go_enter Tryd.func34, Tryd.ntmps34
  go_wp2_with (go_at_call 47; (with_reducible refine (HF.out _ HT.out).mono ?_); rintro e w1 ⟨rfl, hb⟩)
  go_ret
  exact ⟨rfl, hb⟩
theorem strconv_FormatInt_34.calls (a0 a1 : Int) (r : ByteArray) (w : World) (h : strconv_FormatInt_34.f a0 a1 = some r) (ht : Tabs w) :
    Calls Tryd.prog 34 #[.int .i64 a0, .int .i64 a1] w fun e w' => e = .returned (.string r) ∧ Below w.heap.size w w' := by
  unfold strconv_FormatInt_34.f at h
  split at h
  · rename_i h10
    subst h10
    split at h
    · rename_i hr
      obtain rfl := Option.some.inj h
      refine (Tryd.internal_strconv_FormatInt_10 a0 hr.1 hr.2 w ht.1).mono ?_
      rintro e w' ⟨rfl, k, os, rfl⟩
      exact ⟨rfl, below_grow k os⟩
    · cases h
  · split at h
    · rename_i h16
      subst h16
      split at h
      · rename_i hr
        obtain rfl := Option.some.inj h
        exact formatInt_16 a0 hr.1 hr.2 w ht
      · cases h
    · cases h


end Go.Proofs.YthkkkfeiklfjoaaDoor.P
