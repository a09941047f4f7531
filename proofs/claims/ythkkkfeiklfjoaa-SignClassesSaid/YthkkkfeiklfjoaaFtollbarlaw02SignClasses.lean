/- Each function below answers as its Lean twin says; a law answers true at every input that its row speaks of. No further condition. (Laid by this repo's seatprint.py.) -/
import Derived.Test.YthkkkfeiklfjoaaPx0
import Derived.Test.YthkkkfeiklfjoaaFsignTarget
import Derived.Test.YthkkkfeiklfjoaaFsignToken
import Derived.Test.YthkkkfeiklfjoaaFsignValue
import Derived.Test.YthkkkfeiklfjoaaFtollbarlaw02classes
import Derived.Test.YthkkkfeiklfjoaaFtollbarref02Target
import Derived.Test.YthkkkfeiklfjoaaFtollbarref02Token
import Derived.Test.YthkkkfeiklfjoaaFtollbarref02Value
namespace Go.Proofs.Ythkkkfeiklfjoaa.P
open Go.RowKit Go.Proofs.YthkkkfeiklfjoaaW.PrintWords Go.Proofs.YthkkkfeiklfjoaaW.PrintLast Go.Proofs.YthkkkfeiklfjoaaW.PrintMore
attribute [local go_sem] max2_int min2_int max_two min_two max_three min_three max_four min_four   -- for this text's walks alone
set_option linter.unusedVariables false
set_option linter.unusedSimpArgs false

/-! ### tollbarlaw02_SignClasses: function 6 -/
def tollbarlaw02_SignClasses.f (k : Nat) (a0 : ByteArray) : Option (Bool) := (tollbarlaw02_classes.f).bind fun t171 => (if t171 = true then ((sign_Token.f a0).bind fun t172 => ((tollbarref02_Token.f k a0).bind fun t173 => (if (t172 == t173) = true then ((sign_Value.f a0).bind fun t174 => ((tollbarref02_Value.f k a0).bind fun t175 => (if (t174 == t175) = true then ((sign_Target.f a0).bind fun t176 => ((tollbarref02_Target.f k a0).bind fun t177 => (some (t176 == t177)))) else (some false)))) else (some false)))) else (some false))
theorem tollbarlaw02_SignClasses.mono : ∀ a0 k, LeO (tollbarlaw02_SignClasses.f k a0) (tollbarlaw02_SignClasses.f (k + 1) a0) := by
  intro a0 k
  unfold tollbarlaw02_SignClasses.f
  repeat' first
      | (with_reducible exact tollbarref02_Target.mono _ _)
      | (with_reducible exact tollbarref02_Token.mono _ _)
      | (with_reducible exact tollbarref02_Value.mono _ _)
      | (with_reducible exact LeO.refl _)
      | (with_reducible exact LeO.none _)
      | (with_reducible refine LeO.ite ?_ ?_)
      | (with_reducible refine LeO.bind ?_ (fun _ => ?_))
      | exact tollbarref02_Target.mono _ _
      | exact tollbarref02_Token.mono _ _
      | exact tollbarref02_Value.mono _ _
      | exact LeO.none _
      | refine LeO.ite ?_ ?_
      | refine LeO.bind ?_ (fun _ => ?_)
set_option maxHeartbeats 8000000 in
set_option maxRecDepth 100000 in
theorem tollbarlaw02_SignClasses.calls (k : Nat) (a0 : ByteArray) (r : Bool) (w : World) (h : tollbarlaw02_SignClasses.f k a0 = some r) :
    Calls Try.prog 6 #[.string a0] w fun e w' => e = .returned (.bool r) ∧ Drawn0 w w' := by
  have H : ((tollbarlaw02_classes.f).bind fun t171 => (if t171 = true then ((sign_Token.f a0).bind fun t172 => ((tollbarref02_Token.f k a0).bind fun t173 => (if (t172 == t173) = true then ((sign_Value.f a0).bind fun t174 => ((tollbarref02_Value.f k a0).bind fun t175 => (if (t174 == t175) = true then ((sign_Target.f a0).bind fun t176 => ((tollbarref02_Target.f k a0).bind fun t177 => (some (t176 == t177)))) else (some false)))) else (some false)))) else (some false))) = some r := h
  clear h
  replace H := Option.bind_eq_some_iff.mp H
  obtain ⟨t171, A20, H⟩ := H
  replace H : (if t171 = true then ((sign_Token.f a0).bind fun t172 => ((tollbarref02_Token.f k a0).bind fun t173 => (if (t172 == t173) = true then ((sign_Value.f a0).bind fun t174 => ((tollbarref02_Value.f k a0).bind fun t175 => (if (t174 == t175) = true then ((sign_Target.f a0).bind fun t176 => ((tollbarref02_Target.f k a0).bind fun t177 => (some (t176 == t177)))) else (some false)))) else (some false)))) else (some false)) = some r := H
  have A2 := Aside0.mk A20
  clear A20
  by_cases c3 : t171 = true
  · subst c3
    have H1 : ((sign_Token.f a0).bind fun t172 => ((tollbarref02_Token.f k a0).bind fun t173 => (if (t172 == t173) = true then ((sign_Value.f a0).bind fun t174 => ((tollbarref02_Value.f k a0).bind fun t175 => (if (t174 == t175) = true then ((sign_Target.f a0).bind fun t176 => ((tollbarref02_Target.f k a0).bind fun t177 => (some (t176 == t177)))) else (some false)))) else (some false)))) = some r := by rw [if_pos rfl] at H; exact H
    clear H
    have H := H1
    clear H1
    replace H := Option.bind_eq_some_iff.mp H
    obtain ⟨t172, A40, H⟩ := H
    replace H : ((tollbarref02_Token.f k a0).bind fun t173 => (if (t172 == t173) = true then ((sign_Value.f a0).bind fun t174 => ((tollbarref02_Value.f k a0).bind fun t175 => (if (t174 == t175) = true then ((sign_Target.f a0).bind fun t176 => ((tollbarref02_Target.f k a0).bind fun t177 => (some (t176 == t177)))) else (some false)))) else (some false))) = some r := H
    have A4 := Aside0.mk A40
    clear A40
    replace H := Option.bind_eq_some_iff.mp H
    obtain ⟨t173, A50, H⟩ := H
    replace H : (if (t172 == t173) = true then ((sign_Value.f a0).bind fun t174 => ((tollbarref02_Value.f k a0).bind fun t175 => (if (t174 == t175) = true then ((sign_Target.f a0).bind fun t176 => ((tollbarref02_Target.f k a0).bind fun t177 => (some (t176 == t177)))) else (some false)))) else (some false)) = some r := H
    have A5 := Aside0.mk A50
    clear A50
    by_cases c6 : (t172 == t173) = true
    · rw [if_pos c6] at H
      have c6b0 : (t172 == t173) = true := c6
      (try (have c6b1 : decide (t172 = t173) = true := by simpa using c6))
      (try (have c6b2 : (t172 == t173) = true := by simpa using c6))
      clear c6
      replace H := Option.bind_eq_some_iff.mp H
      obtain ⟨t174, A70, H⟩ := H
      replace H : ((tollbarref02_Value.f k a0).bind fun t175 => (if (t174 == t175) = true then ((sign_Target.f a0).bind fun t176 => ((tollbarref02_Target.f k a0).bind fun t177 => (some (t176 == t177)))) else (some false))) = some r := H
      have A7 := Aside0.mk A70
      clear A70
      replace H := Option.bind_eq_some_iff.mp H
      obtain ⟨t175, A80, H⟩ := H
      replace H : (if (t174 == t175) = true then ((sign_Target.f a0).bind fun t176 => ((tollbarref02_Target.f k a0).bind fun t177 => (some (t176 == t177)))) else (some false)) = some r := H
      have A8 := Aside0.mk A80
      clear A80
      by_cases c9 : (t174 == t175) = true
      · rw [if_pos c9] at H
        have c9b0 : (t174 == t175) = true := c9
        (try (have c9b1 : decide (t174 = t175) = true := by simpa using c9))
        (try (have c9b2 : (t174 == t175) = true := by simpa using c9))
        clear c9
        replace H := Option.bind_eq_some_iff.mp H
        obtain ⟨t176, A100, H⟩ := H
        replace H : ((tollbarref02_Target.f k a0).bind fun t177 => (some (t176 == t177))) = some r := H
        have A10 := Aside0.mk A100
        clear A100
        replace H := Option.bind_eq_some_iff.mp H
        obtain ⟨t177, A110, H⟩ := H
        replace H : (some (t176 == t177)) = some r := H
        have A11 := Aside0.mk A110
        clear A110
        obtain rfl := Option.some.inj H
        go_enter Try.func6, Try.ntmps6
        go_wp2_with (first | ((with_reducible refine gate_callee (f := 11) rfl ?_); refine goesL_ (some 3) rfl rfl Try.func11 (by kernel_rfl) rfl #[] rfl (by (try simp only [List.map_toArray, List.map_cons, List.map_nil]); first | done | rfl | (simp only [List.length_drop, List.length_take]; rfl)) ?_; (with_reducible refine (tollbarlaw02_classes.calls  true _ A2.out).mono ?_); rintro e w' ⟨rfl, ⟨nd, rfl⟩⟩; refine ⟨_, rfl, ?_⟩) | (go_at_call 12; (with_reducible refine (sign_Token.calls a0 t172 _ A4.out).mono ?_); rintro e w' ⟨rfl, ⟨nd, rfl⟩⟩) | (go_at_call 13; (with_reducible refine (tollbarref02_Token.calls k a0 t173 _ A5.out).mono ?_); rintro e w' ⟨rfl, ⟨nd, rfl⟩⟩) | (go_at_call 14; (with_reducible refine (sign_Value.calls a0 t174 _ A7.out).mono ?_); rintro e w' ⟨rfl, ⟨nd, rfl⟩⟩) | (go_at_call 15; (with_reducible refine (tollbarref02_Value.calls k a0 t175 _ A8.out).mono ?_); rintro e w' ⟨rfl, ⟨nd, rfl⟩⟩) | (go_at_call 16; (with_reducible refine (sign_Target.calls a0 t176 _ A10.out).mono ?_); rintro e w' ⟨rfl, ⟨nd, rfl⟩⟩) | (go_at_call 17; (with_reducible refine (tollbarref02_Target.calls k a0 t177 _ A11.out).mono ?_); rintro e w' ⟨rfl, ⟨nd, rfl⟩⟩))
        go_ret
        exact ⟨by first | rfl | (simp; done) | (simp [*]; done), by repeat (first | exact Drawn0.refl _ | apply Drawn0.step)⟩
      · rw [if_neg c9] at H
        have c9b0 : (t174 == t175) = false := by simpa using c9
        (try (have c9b1 : decide (t174 = t175) = false := by simpa using c9))
        (try (have c9b2 : (t174 == t175) = false := by simpa using c9))
        (try (have c9b3 : ¬ (t174 = t175) := by simpa using c9))
        clear c9
        obtain rfl := Option.some.inj H
        go_enter Try.func6, Try.ntmps6
        go_wp2_with (first | ((with_reducible refine gate_callee (f := 11) rfl ?_); refine goesL_ (some 3) rfl rfl Try.func11 (by kernel_rfl) rfl #[] rfl (by (try simp only [List.map_toArray, List.map_cons, List.map_nil]); first | done | rfl | (simp only [List.length_drop, List.length_take]; rfl)) ?_; (with_reducible refine (tollbarlaw02_classes.calls  true _ A2.out).mono ?_); rintro e w' ⟨rfl, ⟨nd, rfl⟩⟩; refine ⟨_, rfl, ?_⟩) | (go_at_call 12; (with_reducible refine (sign_Token.calls a0 t172 _ A4.out).mono ?_); rintro e w' ⟨rfl, ⟨nd, rfl⟩⟩) | (go_at_call 13; (with_reducible refine (tollbarref02_Token.calls k a0 t173 _ A5.out).mono ?_); rintro e w' ⟨rfl, ⟨nd, rfl⟩⟩) | (go_at_call 14; (with_reducible refine (sign_Value.calls a0 t174 _ A7.out).mono ?_); rintro e w' ⟨rfl, ⟨nd, rfl⟩⟩) | (go_at_call 15; (with_reducible refine (tollbarref02_Value.calls k a0 t175 _ A8.out).mono ?_); rintro e w' ⟨rfl, ⟨nd, rfl⟩⟩))
        go_ret
        exact ⟨by first | rfl | (simp; done) | (simp [*]; done), by repeat (first | exact Drawn0.refl _ | apply Drawn0.step)⟩
    · rw [if_neg c6] at H
      have c6b0 : (t172 == t173) = false := by simpa using c6
      (try (have c6b1 : decide (t172 = t173) = false := by simpa using c6))
      (try (have c6b2 : (t172 == t173) = false := by simpa using c6))
      (try (have c6b3 : ¬ (t172 = t173) := by simpa using c6))
      clear c6
      obtain rfl := Option.some.inj H
      go_enter Try.func6, Try.ntmps6
      go_wp2_with (first | ((with_reducible refine gate_callee (f := 11) rfl ?_); refine goesL_ (some 3) rfl rfl Try.func11 (by kernel_rfl) rfl #[] rfl (by (try simp only [List.map_toArray, List.map_cons, List.map_nil]); first | done | rfl | (simp only [List.length_drop, List.length_take]; rfl)) ?_; (with_reducible refine (tollbarlaw02_classes.calls  true _ A2.out).mono ?_); rintro e w' ⟨rfl, ⟨nd, rfl⟩⟩; refine ⟨_, rfl, ?_⟩) | (go_at_call 12; (with_reducible refine (sign_Token.calls a0 t172 _ A4.out).mono ?_); rintro e w' ⟨rfl, ⟨nd, rfl⟩⟩) | (go_at_call 13; (with_reducible refine (tollbarref02_Token.calls k a0 t173 _ A5.out).mono ?_); rintro e w' ⟨rfl, ⟨nd, rfl⟩⟩))
      go_ret
      exact ⟨by first | rfl | (simp; done) | (simp [*]; done), by repeat (first | exact Drawn0.refl _ | apply Drawn0.step)⟩
  · replace c3 := Bool.eq_false_iff.mpr c3
    subst c3
    have H1 : (some false) = some r := by rw [if_neg (show ¬ (false = true) by decide)] at H; exact H
    clear H
    have H := H1
    clear H1
    obtain rfl := Option.some.inj H
    go_enter Try.func6, Try.ntmps6
    go_wp2_with (first | ((with_reducible refine gate_callee (f := 11) rfl ?_); refine goesL_ (some 3) rfl rfl Try.func11 (by kernel_rfl) rfl #[] rfl (by (try simp only [List.map_toArray, List.map_cons, List.map_nil]); first | done | rfl | (simp only [List.length_drop, List.length_take]; rfl)) ?_; (with_reducible refine (tollbarlaw02_classes.calls  false _ A2.out).mono ?_); rintro e w' ⟨rfl, ⟨nd, rfl⟩⟩; refine ⟨_, rfl, ?_⟩))
    go_ret
    exact ⟨by first | rfl | (simp; done) | (simp [*]; done), by repeat (first | exact Drawn0.refl _ | apply Drawn0.step)⟩

/-- THE ONE PURE STATEMENT of tollbarlaw02_SignClasses: yours. -/
def tollbarlaw02_SignClasses.Pure : Prop := ∀ (a0 : ByteArray), a0.size ≤ 140737488351232 → ∃ k, tollbarlaw02_SignClasses.f k a0 = some true
theorem tollbarlaw02_SignClasses.walk (P : tollbarlaw02_SignClasses.Pure) (a0 : ByteArray) (w : World) (w0 : a0.size ≤ 140737488351232) :
    Calls Try.prog 6 #[.string a0] w fun e w' => e = .returned (.bool true) ∧ Below w.heap.size w w' := by
  obtain ⟨k, h⟩ := P a0 w0
  refine (tollbarlaw02_SignClasses.calls k a0 true w h).mono ?_
  rintro e w' ⟨rfl, hd⟩
  exact ⟨rfl, hd.below⟩

end Go.Proofs.Ythkkkfeiklfjoaa.P
