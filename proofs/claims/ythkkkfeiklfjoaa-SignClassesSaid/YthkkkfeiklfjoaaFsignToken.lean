/- Each function below answers as its Lean twin says; a law answers true at every input that its row speaks of. No further condition. (Laid by this repo's seatprint.py.) -/
import Derived.Test.YthkkkfeiklfjoaaPx0
import Derived.Test.YthkkkfeiklfjoaaFsignToken1
import Derived.Test.YthkkkfeiklfjoaaFsignall
import Derived.Test.YthkkkfeiklfjoaaFsignalnum
import Derived.Test.YthkkkfeiklfjoaaFstringsIndexByte
namespace Go.Proofs.Ythkkkfeiklfjoaa.P
open Go.RowKit Go.Proofs.YthkkkfeiklfjoaaW.PrintWords Go.Proofs.YthkkkfeiklfjoaaW.PrintLast Go.Proofs.YthkkkfeiklfjoaaW.PrintMore
attribute [local go_sem] max2_int min2_int max_two min_two max_three min_three max_four min_four   -- for this text's walks alone
set_option linter.unusedVariables false
set_option linter.unusedSimpArgs false

/-! ### sign_Token: function 12 -/
def sign_Token.f (a0 : ByteArray) : Option Bool := if a0.size ≤ 140737488355328 then some (!a0.toList.isEmpty && (bytesOf a0).all fun c => (sign_Token_1.f c).getD false) else none
theorem sign_Token_1.tells (c : Int) : ∃ b, sign_Token_1.f c = some b := by
  unfold sign_Token_1.f sign_alnum.f strings_IndexByte.f
  repeat' split
  all_goals first | exact ⟨_, rfl⟩ | (simp only [Option.bind_some]; split <;> exact ⟨_, rfl⟩)
theorem sign_Token_1.any (c : Int) (w : World) : Calls Try.prog 19 #[.int .u8 c] w fun e w' => e = .returned (.bool ((sign_Token_1.f c).getD false)) ∧ Drawn0 w w' := by
  obtain ⟨b, hb⟩ := sign_Token_1.tells c
  have := sign_Token_1.calls c b w hb
  rw [hb]
  exact this
theorem sign_Token.calls (a0 : ByteArray) (r : Bool) (w : World) (h : sign_Token.f a0 = some r) :
    Calls Try.prog 12 #[.string a0] w fun e w' => e = .returned (.bool r) ∧ Drawn0 w w' := by
  unfold sign_Token.f at h
  by_cases h0 : a0.size ≤ 140737488355328
  · rw [if_pos h0] at h
    obtain rfl := Option.some.inj h
    clear h
    have he : ∀ args w, (callFunc 19 args).run Try.prog w = .ok (.enter 19 args) w := fun args w => enters_ Try.func19 (by kernel_rfl) rfl args w
    have HC := Aside0.mk (fun w' => sign_all.callsOf 19 (fun c => (sign_Token_1.f c).getD false) he (fun c w _ _ => sign_Token_1.any c w) a0 h0 w')
    clear he h0
    go_enter Try.func12, Try.ntmps12
    go_wp2_with (go_at_call 18; (with_reducible refine (HC.out _).mono ?_); rintro e w' ⟨rfl, ⟨nd, rfl⟩⟩)
    all_goals
      go_ret
      exact ⟨by first | rfl | (simp [*]; done), by repeat (first | exact Drawn0.refl _ | apply Drawn0.step)⟩
  · rw [if_neg h0] at h
    cases h


end Go.Proofs.Ythkkkfeiklfjoaa.P
