/- Each function below answers as its Lean twin says; a law answers true at every input that its row speaks of. No further condition. (Laid by this repo's seatprint.py.) -/
import Derived.Test.YthkkkfeiklfjoaaPx0
import Derived.Test.YthkkkfeiklfjoaaFsignTarget
import Derived.Test.YthkkkfeiklfjoaaFsignToken
import Derived.Test.YthkkkfeiklfjoaaFsignValue
namespace Go.Proofs.Ythkkkfeiklfjoaa.P
open Go.RowKit Go.Proofs.YthkkkfeiklfjoaaW.PrintWords Go.Proofs.YthkkkfeiklfjoaaW.PrintLast Go.Proofs.YthkkkfeiklfjoaaW.PrintMore
attribute [local go_sem] max2_int min2_int max_two min_two max_three min_three max_four min_four   -- for this text's walks alone
set_option linter.unusedVariables false
set_option linter.unusedSimpArgs false

/-! ### tollbarlaw02_classes: function 11 -/
def tollbarlaw02_classes.f  : Option (Bool) := (sign_Token.f (⟨#[97, 45, 49]⟩ : ByteArray)).bind fun t161 => (if t161 = true then ((sign_Token.f (⟨#[97, 32, 98]⟩ : ByteArray)).bind fun t162 => (if t162 = true then (some false) else ((sign_Token.f (⟨#[]⟩ : ByteArray)).bind fun t163 => (if t163 = true then (some false) else ((sign_Value.f (⟨#[97, 32, 98]⟩ : ByteArray)).bind fun t164 => (if t164 = true then ((sign_Value.f (⟨#[97, 10]⟩ : ByteArray)).bind fun t165 => (if t165 = true then (some false) else ((sign_Target.f (⟨#[47, 97]⟩ : ByteArray)).bind fun t166 => (if t166 = true then ((sign_Target.f (⟨#[47, 32, 97]⟩ : ByteArray)).bind fun t167 => (some (!t167))) else (some false))))) else (some false))))))) else (some false))
set_option maxHeartbeats 8000000 in
set_option maxRecDepth 100000 in
theorem tollbarlaw02_classes.calls  (r : Bool) (w : World) (h : tollbarlaw02_classes.f  = some r) :
    Calls Try.prog 11 #[] w fun e w' => e = .returned (.bool r) ∧ Drawn0 w w' := by
  have H : ((sign_Token.f (⟨#[97, 45, 49]⟩ : ByteArray)).bind fun t161 => (if t161 = true then ((sign_Token.f (⟨#[97, 32, 98]⟩ : ByteArray)).bind fun t162 => (if t162 = true then (some false) else ((sign_Token.f (⟨#[]⟩ : ByteArray)).bind fun t163 => (if t163 = true then (some false) else ((sign_Value.f (⟨#[97, 32, 98]⟩ : ByteArray)).bind fun t164 => (if t164 = true then ((sign_Value.f (⟨#[97, 10]⟩ : ByteArray)).bind fun t165 => (if t165 = true then (some false) else ((sign_Target.f (⟨#[47, 97]⟩ : ByteArray)).bind fun t166 => (if t166 = true then ((sign_Target.f (⟨#[47, 32, 97]⟩ : ByteArray)).bind fun t167 => (some (!t167))) else (some false))))) else (some false))))))) else (some false))) = some r := h
  clear h
  replace H := Option.bind_eq_some_iff.mp H
  obtain ⟨t161, A10, H⟩ := H
  replace H : (if t161 = true then ((sign_Token.f (⟨#[97, 32, 98]⟩ : ByteArray)).bind fun t162 => (if t162 = true then (some false) else ((sign_Token.f (⟨#[]⟩ : ByteArray)).bind fun t163 => (if t163 = true then (some false) else ((sign_Value.f (⟨#[97, 32, 98]⟩ : ByteArray)).bind fun t164 => (if t164 = true then ((sign_Value.f (⟨#[97, 10]⟩ : ByteArray)).bind fun t165 => (if t165 = true then (some false) else ((sign_Target.f (⟨#[47, 97]⟩ : ByteArray)).bind fun t166 => (if t166 = true then ((sign_Target.f (⟨#[47, 32, 97]⟩ : ByteArray)).bind fun t167 => (some (!t167))) else (some false))))) else (some false))))))) else (some false)) = some r := H
  have A1 := Aside0.mk A10
  clear A10
  by_cases c2 : t161 = true
  · subst c2
    have H1 : ((sign_Token.f (⟨#[97, 32, 98]⟩ : ByteArray)).bind fun t162 => (if t162 = true then (some false) else ((sign_Token.f (⟨#[]⟩ : ByteArray)).bind fun t163 => (if t163 = true then (some false) else ((sign_Value.f (⟨#[97, 32, 98]⟩ : ByteArray)).bind fun t164 => (if t164 = true then ((sign_Value.f (⟨#[97, 10]⟩ : ByteArray)).bind fun t165 => (if t165 = true then (some false) else ((sign_Target.f (⟨#[47, 97]⟩ : ByteArray)).bind fun t166 => (if t166 = true then ((sign_Target.f (⟨#[47, 32, 97]⟩ : ByteArray)).bind fun t167 => (some (!t167))) else (some false))))) else (some false))))))) = some r := by rw [if_pos rfl] at H; exact H
    clear H
    have H := H1
    clear H1
    replace H := Option.bind_eq_some_iff.mp H
    obtain ⟨t162, A30, H⟩ := H
    replace H : (if t162 = true then (some false) else ((sign_Token.f (⟨#[]⟩ : ByteArray)).bind fun t163 => (if t163 = true then (some false) else ((sign_Value.f (⟨#[97, 32, 98]⟩ : ByteArray)).bind fun t164 => (if t164 = true then ((sign_Value.f (⟨#[97, 10]⟩ : ByteArray)).bind fun t165 => (if t165 = true then (some false) else ((sign_Target.f (⟨#[47, 97]⟩ : ByteArray)).bind fun t166 => (if t166 = true then ((sign_Target.f (⟨#[47, 32, 97]⟩ : ByteArray)).bind fun t167 => (some (!t167))) else (some false))))) else (some false)))))) = some r := H
    have A3 := Aside0.mk A30
    clear A30
    by_cases c4 : t162 = true
    · subst c4
      have H1 : (some false) = some r := by rw [if_pos rfl] at H; exact H
      clear H
      have H := H1
      clear H1
      obtain rfl := Option.some.inj H
      go_enter Try.func11, Try.ntmps11
      go_wp2_with (first | ((with_reducible refine gate_callee (f := 12) rfl ?_); refine goesL_ (some 1) rfl rfl Try.func12 (by kernel_rfl) rfl #[.string (⟨#[97, 45, 49]⟩ : ByteArray)] rfl (by (try simp only [List.map_toArray, List.map_cons, List.map_nil]); first | done | rfl | (simp only [List.length_drop, List.length_take]; rfl)) ?_; (with_reducible refine (sign_Token.calls (⟨#[97, 45, 49]⟩ : ByteArray) true _ A1.out).mono ?_); rintro e w' ⟨rfl, ⟨nd, rfl⟩⟩; refine ⟨_, rfl, ?_⟩) | (go_at_call 12; (with_reducible refine (sign_Token.calls (⟨#[97, 32, 98]⟩ : ByteArray) true _ A3.out).mono ?_); rintro e w' ⟨rfl, ⟨nd, rfl⟩⟩))
      go_ret
      exact ⟨by first | rfl | (simp; done) | (simp [*]; done), by repeat (first | exact Drawn0.refl _ | apply Drawn0.step)⟩
    · replace c4 := Bool.eq_false_iff.mpr c4
      subst c4
      have H1 : ((sign_Token.f (⟨#[]⟩ : ByteArray)).bind fun t163 => (if t163 = true then (some false) else ((sign_Value.f (⟨#[97, 32, 98]⟩ : ByteArray)).bind fun t164 => (if t164 = true then ((sign_Value.f (⟨#[97, 10]⟩ : ByteArray)).bind fun t165 => (if t165 = true then (some false) else ((sign_Target.f (⟨#[47, 97]⟩ : ByteArray)).bind fun t166 => (if t166 = true then ((sign_Target.f (⟨#[47, 32, 97]⟩ : ByteArray)).bind fun t167 => (some (!t167))) else (some false))))) else (some false))))) = some r := by rw [if_neg (show ¬ (false = true) by decide)] at H; exact H
      clear H
      have H := H1
      clear H1
      replace H := Option.bind_eq_some_iff.mp H
      obtain ⟨t163, A50, H⟩ := H
      replace H : (if t163 = true then (some false) else ((sign_Value.f (⟨#[97, 32, 98]⟩ : ByteArray)).bind fun t164 => (if t164 = true then ((sign_Value.f (⟨#[97, 10]⟩ : ByteArray)).bind fun t165 => (if t165 = true then (some false) else ((sign_Target.f (⟨#[47, 97]⟩ : ByteArray)).bind fun t166 => (if t166 = true then ((sign_Target.f (⟨#[47, 32, 97]⟩ : ByteArray)).bind fun t167 => (some (!t167))) else (some false))))) else (some false)))) = some r := H
      have A5 := Aside0.mk A50
      clear A50
      by_cases c6 : t163 = true
      · subst c6
        have H1 : (some false) = some r := by rw [if_pos rfl] at H; exact H
        clear H
        have H := H1
        clear H1
        obtain rfl := Option.some.inj H
        go_enter Try.func11, Try.ntmps11
        go_wp2_with (first | ((with_reducible refine gate_callee (f := 12) rfl ?_); refine goesL_ (some 1) rfl rfl Try.func12 (by kernel_rfl) rfl #[.string (⟨#[97, 45, 49]⟩ : ByteArray)] rfl (by (try simp only [List.map_toArray, List.map_cons, List.map_nil]); first | done | rfl | (simp only [List.length_drop, List.length_take]; rfl)) ?_; (with_reducible refine (sign_Token.calls (⟨#[97, 45, 49]⟩ : ByteArray) true _ A1.out).mono ?_); rintro e w' ⟨rfl, ⟨nd, rfl⟩⟩; refine ⟨_, rfl, ?_⟩) | (go_at_call 12; (with_reducible refine (sign_Token.calls (⟨#[97, 32, 98]⟩ : ByteArray) false _ A3.out).mono ?_); rintro e w' ⟨rfl, ⟨nd, rfl⟩⟩) | (go_at_call 12; (with_reducible refine (sign_Token.calls (⟨#[]⟩ : ByteArray) true _ A5.out).mono ?_); rintro e w' ⟨rfl, ⟨nd, rfl⟩⟩))
        go_ret
        exact ⟨by first | rfl | (simp; done) | (simp [*]; done), by repeat (first | exact Drawn0.refl _ | apply Drawn0.step)⟩
      · replace c6 := Bool.eq_false_iff.mpr c6
        subst c6
        have H1 : ((sign_Value.f (⟨#[97, 32, 98]⟩ : ByteArray)).bind fun t164 => (if t164 = true then ((sign_Value.f (⟨#[97, 10]⟩ : ByteArray)).bind fun t165 => (if t165 = true then (some false) else ((sign_Target.f (⟨#[47, 97]⟩ : ByteArray)).bind fun t166 => (if t166 = true then ((sign_Target.f (⟨#[47, 32, 97]⟩ : ByteArray)).bind fun t167 => (some (!t167))) else (some false))))) else (some false))) = some r := by rw [if_neg (show ¬ (false = true) by decide)] at H; exact H
        clear H
        have H := H1
        clear H1
        replace H := Option.bind_eq_some_iff.mp H
        obtain ⟨t164, A70, H⟩ := H
        replace H : (if t164 = true then ((sign_Value.f (⟨#[97, 10]⟩ : ByteArray)).bind fun t165 => (if t165 = true then (some false) else ((sign_Target.f (⟨#[47, 97]⟩ : ByteArray)).bind fun t166 => (if t166 = true then ((sign_Target.f (⟨#[47, 32, 97]⟩ : ByteArray)).bind fun t167 => (some (!t167))) else (some false))))) else (some false)) = some r := H
        have A7 := Aside0.mk A70
        clear A70
        by_cases c8 : t164 = true
        · subst c8
          have H1 : ((sign_Value.f (⟨#[97, 10]⟩ : ByteArray)).bind fun t165 => (if t165 = true then (some false) else ((sign_Target.f (⟨#[47, 97]⟩ : ByteArray)).bind fun t166 => (if t166 = true then ((sign_Target.f (⟨#[47, 32, 97]⟩ : ByteArray)).bind fun t167 => (some (!t167))) else (some false))))) = some r := by rw [if_pos rfl] at H; exact H
          clear H
          have H := H1
          clear H1
          replace H := Option.bind_eq_some_iff.mp H
          obtain ⟨t165, A90, H⟩ := H
          replace H : (if t165 = true then (some false) else ((sign_Target.f (⟨#[47, 97]⟩ : ByteArray)).bind fun t166 => (if t166 = true then ((sign_Target.f (⟨#[47, 32, 97]⟩ : ByteArray)).bind fun t167 => (some (!t167))) else (some false)))) = some r := H
          have A9 := Aside0.mk A90
          clear A90
          by_cases c10 : t165 = true
          · subst c10
            have H1 : (some false) = some r := by rw [if_pos rfl] at H; exact H
            clear H
            have H := H1
            clear H1
            obtain rfl := Option.some.inj H
            go_enter Try.func11, Try.ntmps11
            go_wp2_with (first | ((with_reducible refine gate_callee (f := 12) rfl ?_); refine goesL_ (some 1) rfl rfl Try.func12 (by kernel_rfl) rfl #[.string (⟨#[97, 45, 49]⟩ : ByteArray)] rfl (by (try simp only [List.map_toArray, List.map_cons, List.map_nil]); first | done | rfl | (simp only [List.length_drop, List.length_take]; rfl)) ?_; (with_reducible refine (sign_Token.calls (⟨#[97, 45, 49]⟩ : ByteArray) true _ A1.out).mono ?_); rintro e w' ⟨rfl, ⟨nd, rfl⟩⟩; refine ⟨_, rfl, ?_⟩) | (go_at_call 12; (with_reducible refine (sign_Token.calls (⟨#[97, 32, 98]⟩ : ByteArray) false _ A3.out).mono ?_); rintro e w' ⟨rfl, ⟨nd, rfl⟩⟩) | (go_at_call 12; (with_reducible refine (sign_Token.calls (⟨#[]⟩ : ByteArray) false _ A5.out).mono ?_); rintro e w' ⟨rfl, ⟨nd, rfl⟩⟩) | (go_at_call 14; (with_reducible refine (sign_Value.calls (⟨#[97, 32, 98]⟩ : ByteArray) true _ A7.out).mono ?_); rintro e w' ⟨rfl, ⟨nd, rfl⟩⟩) | (go_at_call 14; (with_reducible refine (sign_Value.calls (⟨#[97, 10]⟩ : ByteArray) true _ A9.out).mono ?_); rintro e w' ⟨rfl, ⟨nd, rfl⟩⟩))
            go_ret
            exact ⟨by first | rfl | (simp; done) | (simp [*]; done), by repeat (first | exact Drawn0.refl _ | apply Drawn0.step)⟩
          · replace c10 := Bool.eq_false_iff.mpr c10
            subst c10
            have H1 : ((sign_Target.f (⟨#[47, 97]⟩ : ByteArray)).bind fun t166 => (if t166 = true then ((sign_Target.f (⟨#[47, 32, 97]⟩ : ByteArray)).bind fun t167 => (some (!t167))) else (some false))) = some r := by rw [if_neg (show ¬ (false = true) by decide)] at H; exact H
            clear H
            have H := H1
            clear H1
            replace H := Option.bind_eq_some_iff.mp H
            obtain ⟨t166, A110, H⟩ := H
            replace H : (if t166 = true then ((sign_Target.f (⟨#[47, 32, 97]⟩ : ByteArray)).bind fun t167 => (some (!t167))) else (some false)) = some r := H
            have A11 := Aside0.mk A110
            clear A110
            by_cases c12 : t166 = true
            · subst c12
              have H1 : ((sign_Target.f (⟨#[47, 32, 97]⟩ : ByteArray)).bind fun t167 => (some (!t167))) = some r := by rw [if_pos rfl] at H; exact H
              clear H
              have H := H1
              clear H1
              replace H := Option.bind_eq_some_iff.mp H
              obtain ⟨t167, A130, H⟩ := H
              replace H : (some (!t167)) = some r := H
              have A13 := Aside0.mk A130
              clear A130
              obtain rfl := Option.some.inj H
              go_enter Try.func11, Try.ntmps11
              go_wp2_with (first | ((with_reducible refine gate_callee (f := 12) rfl ?_); refine goesL_ (some 1) rfl rfl Try.func12 (by kernel_rfl) rfl #[.string (⟨#[97, 45, 49]⟩ : ByteArray)] rfl (by (try simp only [List.map_toArray, List.map_cons, List.map_nil]); first | done | rfl | (simp only [List.length_drop, List.length_take]; rfl)) ?_; (with_reducible refine (sign_Token.calls (⟨#[97, 45, 49]⟩ : ByteArray) true _ A1.out).mono ?_); rintro e w' ⟨rfl, ⟨nd, rfl⟩⟩; refine ⟨_, rfl, ?_⟩) | (go_at_call 12; (with_reducible refine (sign_Token.calls (⟨#[97, 32, 98]⟩ : ByteArray) false _ A3.out).mono ?_); rintro e w' ⟨rfl, ⟨nd, rfl⟩⟩) | (go_at_call 12; (with_reducible refine (sign_Token.calls (⟨#[]⟩ : ByteArray) false _ A5.out).mono ?_); rintro e w' ⟨rfl, ⟨nd, rfl⟩⟩) | (go_at_call 14; (with_reducible refine (sign_Value.calls (⟨#[97, 32, 98]⟩ : ByteArray) true _ A7.out).mono ?_); rintro e w' ⟨rfl, ⟨nd, rfl⟩⟩) | (go_at_call 14; (with_reducible refine (sign_Value.calls (⟨#[97, 10]⟩ : ByteArray) false _ A9.out).mono ?_); rintro e w' ⟨rfl, ⟨nd, rfl⟩⟩) | (go_at_call 16; (with_reducible refine (sign_Target.calls (⟨#[47, 97]⟩ : ByteArray) true _ A11.out).mono ?_); rintro e w' ⟨rfl, ⟨nd, rfl⟩⟩) | (go_at_call 16; (with_reducible refine (sign_Target.calls (⟨#[47, 32, 97]⟩ : ByteArray) t167 _ A13.out).mono ?_); rintro e w' ⟨rfl, ⟨nd, rfl⟩⟩))
              go_ret
              exact ⟨by first | rfl | (simp; done) | (simp [*]; done), by repeat (first | exact Drawn0.refl _ | apply Drawn0.step)⟩
            · replace c12 := Bool.eq_false_iff.mpr c12
              subst c12
              have H1 : (some false) = some r := by rw [if_neg (show ¬ (false = true) by decide)] at H; exact H
              clear H
              have H := H1
              clear H1
              obtain rfl := Option.some.inj H
              go_enter Try.func11, Try.ntmps11
              go_wp2_with (first | ((with_reducible refine gate_callee (f := 12) rfl ?_); refine goesL_ (some 1) rfl rfl Try.func12 (by kernel_rfl) rfl #[.string (⟨#[97, 45, 49]⟩ : ByteArray)] rfl (by (try simp only [List.map_toArray, List.map_cons, List.map_nil]); first | done | rfl | (simp only [List.length_drop, List.length_take]; rfl)) ?_; (with_reducible refine (sign_Token.calls (⟨#[97, 45, 49]⟩ : ByteArray) true _ A1.out).mono ?_); rintro e w' ⟨rfl, ⟨nd, rfl⟩⟩; refine ⟨_, rfl, ?_⟩) | (go_at_call 12; (with_reducible refine (sign_Token.calls (⟨#[97, 32, 98]⟩ : ByteArray) false _ A3.out).mono ?_); rintro e w' ⟨rfl, ⟨nd, rfl⟩⟩) | (go_at_call 12; (with_reducible refine (sign_Token.calls (⟨#[]⟩ : ByteArray) false _ A5.out).mono ?_); rintro e w' ⟨rfl, ⟨nd, rfl⟩⟩) | (go_at_call 14; (with_reducible refine (sign_Value.calls (⟨#[97, 32, 98]⟩ : ByteArray) true _ A7.out).mono ?_); rintro e w' ⟨rfl, ⟨nd, rfl⟩⟩) | (go_at_call 14; (with_reducible refine (sign_Value.calls (⟨#[97, 10]⟩ : ByteArray) false _ A9.out).mono ?_); rintro e w' ⟨rfl, ⟨nd, rfl⟩⟩) | (go_at_call 16; (with_reducible refine (sign_Target.calls (⟨#[47, 97]⟩ : ByteArray) false _ A11.out).mono ?_); rintro e w' ⟨rfl, ⟨nd, rfl⟩⟩))
              go_ret
              exact ⟨by first | rfl | (simp; done) | (simp [*]; done), by repeat (first | exact Drawn0.refl _ | apply Drawn0.step)⟩
        · replace c8 := Bool.eq_false_iff.mpr c8
          subst c8
          have H1 : (some false) = some r := by rw [if_neg (show ¬ (false = true) by decide)] at H; exact H
          clear H
          have H := H1
          clear H1
          obtain rfl := Option.some.inj H
          go_enter Try.func11, Try.ntmps11
          go_wp2_with (first | ((with_reducible refine gate_callee (f := 12) rfl ?_); refine goesL_ (some 1) rfl rfl Try.func12 (by kernel_rfl) rfl #[.string (⟨#[97, 45, 49]⟩ : ByteArray)] rfl (by (try simp only [List.map_toArray, List.map_cons, List.map_nil]); first | done | rfl | (simp only [List.length_drop, List.length_take]; rfl)) ?_; (with_reducible refine (sign_Token.calls (⟨#[97, 45, 49]⟩ : ByteArray) true _ A1.out).mono ?_); rintro e w' ⟨rfl, ⟨nd, rfl⟩⟩; refine ⟨_, rfl, ?_⟩) | (go_at_call 12; (with_reducible refine (sign_Token.calls (⟨#[97, 32, 98]⟩ : ByteArray) false _ A3.out).mono ?_); rintro e w' ⟨rfl, ⟨nd, rfl⟩⟩) | (go_at_call 12; (with_reducible refine (sign_Token.calls (⟨#[]⟩ : ByteArray) false _ A5.out).mono ?_); rintro e w' ⟨rfl, ⟨nd, rfl⟩⟩) | (go_at_call 14; (with_reducible refine (sign_Value.calls (⟨#[97, 32, 98]⟩ : ByteArray) false _ A7.out).mono ?_); rintro e w' ⟨rfl, ⟨nd, rfl⟩⟩))
          go_ret
          exact ⟨by first | rfl | (simp; done) | (simp [*]; done), by repeat (first | exact Drawn0.refl _ | apply Drawn0.step)⟩
  · replace c2 := Bool.eq_false_iff.mpr c2
    subst c2
    have H1 : (some false) = some r := by rw [if_neg (show ¬ (false = true) by decide)] at H; exact H
    clear H
    have H := H1
    clear H1
    obtain rfl := Option.some.inj H
    go_enter Try.func11, Try.ntmps11
    go_wp2_with (first | ((with_reducible refine gate_callee (f := 12) rfl ?_); refine goesL_ (some 1) rfl rfl Try.func12 (by kernel_rfl) rfl #[.string (⟨#[97, 45, 49]⟩ : ByteArray)] rfl (by (try simp only [List.map_toArray, List.map_cons, List.map_nil]); first | done | rfl | (simp only [List.length_drop, List.length_take]; rfl)) ?_; (with_reducible refine (sign_Token.calls (⟨#[97, 45, 49]⟩ : ByteArray) false _ A1.out).mono ?_); rintro e w' ⟨rfl, ⟨nd, rfl⟩⟩; refine ⟨_, rfl, ?_⟩))
    go_ret
    exact ⟨by first | rfl | (simp; done) | (simp [*]; done), by repeat (first | exact Drawn0.refl _ | apply Drawn0.step)⟩

end Go.Proofs.Ythkkkfeiklfjoaa.P
