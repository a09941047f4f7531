/- Each function below answers as its Lean twin says; a law answers true at every input that its row speaks of. No further condition. (Laid by this repo's seatprint.py.) -/
import Derived.Test.YthkkkfeiklfjoaaPx0
import Derived.Test.YthkkkfeiklfjoaaFsignValue1
import Derived.Test.YthkkkfeiklfjoaaFsignall
namespace Go.Proofs.Ythkkkfeiklfjoaa.P
open Go.RowKit Go.Proofs.YthkkkfeiklfjoaaW.PrintWords Go.Proofs.YthkkkfeiklfjoaaW.PrintLast Go.Proofs.YthkkkfeiklfjoaaW.PrintMore
attribute [local go_sem] max2_int min2_int max_two min_two max_three min_three max_four min_four   -- for this text's walks alone
set_option linter.unusedVariables false
set_option linter.unusedSimpArgs false

/-! ### sign_Value: function 14 -/
def sign_Value.f (a0 : ByteArray) : Option Bool := if a0.size ≤ 140737488355328 then some ((bytesOf a0).all fun c => (sign_Value_1.f c).getD false) else none
theorem sign_Value_1.tells (c : Int) : ∃ b, sign_Value_1.f c = some b := by
  unfold sign_Value_1.f
  repeat' split
  all_goals exact ⟨_, rfl⟩
theorem sign_Value_1.any (c : Int) (w : World) : Calls Try.prog 23 #[.int .u8 c] w fun e w' => e = .returned (.bool ((sign_Value_1.f c).getD false)) ∧ Drawn0 w w' := by
  obtain ⟨b, hb⟩ := sign_Value_1.tells c
  have := sign_Value_1.calls c b w hb
  rw [hb]
  exact this
theorem sign_Value.calls (a0 : ByteArray) (r : Bool) (w : World) (h : sign_Value.f a0 = some r) :
    Calls Try.prog 14 #[.string a0] w fun e w' => e = .returned (.bool r) ∧ Drawn0 w w' := by
  unfold sign_Value.f at h
  by_cases h0 : a0.size ≤ 140737488355328
  · rw [if_pos h0] at h
    obtain rfl := Option.some.inj h
    clear h
    have he : ∀ args w, (callFunc 23 args).run Try.prog w = .ok (.enter 23 args) w := fun args w => enters_ Try.func23 (by kernel_rfl) rfl args w
    have HC := Aside0.mk (fun w' => sign_all.callsOf 23 (fun c => (sign_Value_1.f c).getD false) he (fun c w _ _ => sign_Value_1.any c w) a0 h0 w')
    clear he h0
    go_enter Try.func14, Try.ntmps14
    go_wp2_with (go_at_call 18; (with_reducible refine (HC.out _).mono ?_); rintro e w' ⟨rfl, ⟨nd, rfl⟩⟩)
    go_ret
    exact ⟨rfl, by repeat (first | exact Drawn0.refl _ | apply Drawn0.step)⟩
  · rw [if_neg h0] at h
    cases h


end Go.Proofs.Ythkkkfeiklfjoaa.P
