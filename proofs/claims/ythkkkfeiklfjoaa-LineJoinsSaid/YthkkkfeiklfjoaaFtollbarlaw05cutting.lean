/- Each function below answers as its Lean twin says; a law answers true at every input that its row speaks of. No further condition. (Laid by this repo's seatprint.py.) -/
import Derived.Test.YthkkkfeiklfjoaaPx0
import Derived.Test.YthkkkfeiklfjoaaBase
import Derived.Test.YthkkkfeiklfjoaaFlineCut
namespace Go.Proofs.Ythkkkfeiklfjoaa.P
open Go.RowKit Go.Proofs.YthkkkfeiklfjoaaW.PrintWords Go.Proofs.YthkkkfeiklfjoaaW.PrintLast Go.Proofs.YthkkkfeiklfjoaaW.PrintMore
attribute [local go_sem] max2_int min2_int max_two min_two max_three min_three max_four min_four   -- for this text's walks alone
set_option linter.unusedVariables false
set_option linter.unusedSimpArgs false

/-! ### tollbarlaw05_cutting: function 7 -/
def tollbarlaw05_cutting.f : Option (Bool) := some true
theorem cutting_1 : line_Cut.f 40 [97, 98, 13, 10, 99, 100] 9 = some (⟨#[97, 98]⟩, 4, 0) := by kernel_rfl
theorem cutting_2 : line_Cut.f 40 [97, 98] 2 = some (⟨#[]⟩, 0, 0) := by kernel_rfl
theorem cutting_3 : line_Cut.f 40 [97, 98, 99] 2 = some (⟨#[]⟩, 0, 2) := by kernel_rfl
theorem cutting_4 : line_Cut.f 40 [97, 10, 98] 9 = some (⟨#[]⟩, 0, 20) := by kernel_rfl
set_option maxHeartbeats 8000000 in
set_option maxRecDepth 100000 in
theorem tollbarlaw05_cutting.calls (r : Bool) (w : World) (h : tollbarlaw05_cutting.f = some r) :
    Calls Try.prog 7 #[] w fun e w' => e = .returned (.bool r) ∧ Below w.heap.size w w' := by
  obtain rfl := Option.some.inj h
  clear h
  have kc := fun (w : World) (C : Array Value) (n c : Nat) => Lib.run_convert_bytes_const (P := Try.prog) w 22 5 C n c Try.underlying22 Try.underlying5
  go_enter Try.func7, Try.ntmps7
  have HB := Aside0.mk (Below.refl w.heap.size w)
  go_wp2_with fail
  go_at_call 8
  refine (line_Cut.calls 40 _ _ [97, 98, 13, 10, 99, 100] 9 _ _ _ _ (C_const _ _ _ _ (by decide)) (by decide) cutting_1).mono ?_
  rintro e w1 ⟨rfl, hb⟩
  have HB' := Aside0.mk (below_step (by repeat (first | exact HB.out | apply below_alloc)) hb)
  clear HB hb
  have HB := HB'
  clear HB'
  go_wp2_with fail
  go_at_call 8
  refine (line_Cut.calls 40 _ _ [97, 98] 2 _ _ _ _ (C_const _ _ _ _ (by decide)) (by decide) cutting_2).mono ?_
  rintro e w2 ⟨rfl, hb⟩
  have HB' := Aside0.mk (below_step (by repeat (first | exact HB.out | apply below_alloc)) hb)
  clear HB hb
  have HB := HB'
  clear HB'
  go_wp2_with fail
  go_at_call 8
  refine (line_Cut.calls 40 _ _ [97, 98, 99] 2 _ _ _ _ (C_const _ _ _ _ (by decide)) (by decide) cutting_3).mono ?_
  rintro e w3 ⟨rfl, hb⟩
  have HB' := Aside0.mk (below_step (by repeat (first | exact HB.out | apply below_alloc)) hb)
  clear HB hb
  have HB := HB'
  clear HB'
  go_wp2_with fail
  go_at_call 8
  refine (line_Cut.calls 40 _ _ [97, 10, 98] 9 _ _ _ _ (C_const _ _ _ _ (by decide)) (by decide) cutting_4).mono ?_
  rintro e w4 ⟨rfl, hb⟩
  have HB' := Aside0.mk (below_step (by repeat (first | exact HB.out | apply below_alloc)) hb)
  clear HB hb
  have HB := HB'
  clear HB'
  go_wp2
  go_ret
  exact ⟨rfl, HB.out⟩


end Go.Proofs.Ythkkkfeiklfjoaa.P
