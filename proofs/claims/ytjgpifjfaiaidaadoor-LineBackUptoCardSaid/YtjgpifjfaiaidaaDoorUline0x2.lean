/- Each function below answers as its Lean twin says. No further condition. (Laid by this repo's packseat.py out of the seat's texts and of the print's words.) -/
import Derived.Test.YtjgpifjfaiaidaaDoorU0base0x0
import Derived.Test.YtjgpifjfaiaidaaDoorUline0x1
import Derived.Test.YtjgpifjfaiaidaaDoorUstrings0x0
import Derived.Test.YtjgpifjfaiaidaaDoorUsign0x0
namespace Go.Proofs.YtjgpifjfaiaidaaDoor.P
open Go.RowKit Go.Proofs.YtjgpifjfaiaidaaDoorW.PrintWords Go.Proofs.YtjgpifjfaiaidaaDoorW.PrintLast Go.Proofs.YtjgpifjfaiaidaaDoorW.PrintMore
attribute [local go_sem] max2_int min2_int max_two min_two max_three min_three max_four min_four   -- for this text's walks alone
set_option linter.unusedVariables false
set_option linter.unusedSimpArgs false

def line_numbered.f (a0 : ByteArray) : Option (Bool) := (strings_CutPrefix.f a0 (⟨#[72, 84, 84, 80, 47]⟩ : ByteArray)).bind fun bt129 => (if bt129.2 = true then (if (bt129.1.size : Int) = 3 then (if 0 < (bt129.1.size : Int) then ((line_digit.f (bt bt129.1 0)).bind fun t131 => (if t131 = true then (if 1 < (bt129.1.size : Int) then (if (bt bt129.1 1) = 46 then (if 2 < (bt129.1.size : Int) then ((line_digit.f (bt bt129.1 2)).bind fun t132 => (some t132)) else (none)) else (some false)) else (none)) else (some false))) else (none)) else (some false)) else (some false))
set_option maxHeartbeats 8000000 in
set_option maxRecDepth 100000 in
theorem line_numbered.calls (a0 : ByteArray) (r : Bool) (w : World) (h : line_numbered.f a0 = some r) :
    Calls Tryd.prog 39 #[.string a0] w fun e w' => e = .returned (.bool r) ∧ Drawn0 w w' := by
  have H : ((strings_CutPrefix.f a0 (⟨#[72, 84, 84, 80, 47]⟩ : ByteArray)).bind fun bt129 => (if bt129.2 = true then (if (bt129.1.size : Int) = 3 then (if 0 < (bt129.1.size : Int) then ((line_digit.f (bt bt129.1 0)).bind fun t131 => (if t131 = true then (if 1 < (bt129.1.size : Int) then (if (bt bt129.1 1) = 46 then (if 2 < (bt129.1.size : Int) then ((line_digit.f (bt bt129.1 2)).bind fun t132 => (some t132)) else (none)) else (some false)) else (none)) else (some false))) else (none)) else (some false)) else (some false))) = some r := h
  clear h
  replace H := Option.bind_eq_some_iff.mp H
  obtain ⟨⟨t129, t130⟩, A20, H⟩ := H
  replace H : (if t130 = true then (if (t129.size : Int) = 3 then (if 0 < (t129.size : Int) then ((line_digit.f (bt t129 0)).bind fun t131 => (if t131 = true then (if 1 < (t129.size : Int) then (if (bt t129 1) = 46 then (if 2 < (t129.size : Int) then ((line_digit.f (bt t129 2)).bind fun t132 => (some t132)) else (none)) else (some false)) else (none)) else (some false))) else (none)) else (some false)) else (some false)) = some r := H
  have A2 := Aside0.mk A20
  clear A20
  by_cases c3 : t130 = true
  · subst c3
    have H1 : (if (t129.size : Int) = 3 then (if 0 < (t129.size : Int) then ((line_digit.f (bt t129 0)).bind fun t131 => (if t131 = true then (if 1 < (t129.size : Int) then (if (bt t129 1) = 46 then (if 2 < (t129.size : Int) then ((line_digit.f (bt t129 2)).bind fun t132 => (some t132)) else (none)) else (some false)) else (none)) else (some false))) else (none)) else (some false)) = some r := by rw [if_pos rfl] at H; exact H
    clear H
    have H := H1
    clear H1
    by_cases c4 : (t129.size : Int) = 3
    · rw [if_pos c4] at H
      have c4b0 : ((t129.size : Int) == 3) = true := beq_iff_eq.mpr c4
      have c4b1 : ((t129.size : Int) != 3) = false := bne_eq_false_iff_eq.mpr c4
      clear c4
      by_cases c5 : 0 < (t129.size : Int)
      · rw [if_pos c5] at H
        have c5b0 : decide (0 < (t129.size : Int)) = true := decide_eq_true c5
        have c5b1 : decide (0 < t129.size) = true := decide_eq_true (by omega)
        clear c5
        replace H := Option.bind_eq_some_iff.mp H
        obtain ⟨t131, A70, H⟩ := H
        replace H : (if t131 = true then (if 1 < (t129.size : Int) then (if (bt t129 1) = 46 then (if 2 < (t129.size : Int) then ((line_digit.f (bt t129 2)).bind fun t132 => (some t132)) else (none)) else (some false)) else (none)) else (some false)) = some r := H
        have A7 := Aside0.mk A70
        clear A70
        by_cases c8 : t131 = true
        · subst c8
          have H1 : (if 1 < (t129.size : Int) then (if (bt t129 1) = 46 then (if 2 < (t129.size : Int) then ((line_digit.f (bt t129 2)).bind fun t132 => (some t132)) else (none)) else (some false)) else (none)) = some r := by rw [if_pos rfl] at H; exact H
          clear H
          have H := H1
          clear H1
          by_cases c9 : 1 < (t129.size : Int)
          · rw [if_pos c9] at H
            have c9b0 : decide (1 < (t129.size : Int)) = true := decide_eq_true c9
            have c9b1 : decide (1 < t129.size) = true := decide_eq_true (by omega)
            clear c9
            by_cases c11 : (bt t129 1) = 46
            · rw [if_pos c11] at H
              have c11b0 : ((bt t129 1) == 46) = true := beq_iff_eq.mpr c11
              have c11b1 : ((bt t129 1) != 46) = false := bne_eq_false_iff_eq.mpr c11
              clear c11
              by_cases c12 : 2 < (t129.size : Int)
              · rw [if_pos c12] at H
                have c12b0 : decide (2 < (t129.size : Int)) = true := decide_eq_true c12
                have c12b1 : decide (2 < t129.size) = true := decide_eq_true (by omega)
                clear c12
                replace H := Option.bind_eq_some_iff.mp H
                obtain ⟨t132, A140, H⟩ := H
                replace H : (some t132) = some r := H
                have A14 := Aside0.mk A140
                clear A140
                obtain rfl := Option.some.inj H
                go_enter Tryd.func39, Tryd.ntmps39
                go_wp2_with (first | ((with_reducible refine gate_callee (f := 46) rfl ?_); refine goesL_ (some 7) rfl rfl Tryd.func46 (by kernel_rfl) rfl #[.string a0, .string (⟨#[72, 84, 84, 80, 47]⟩ : ByteArray)] rfl (by (try simp only [List.map_toArray, List.map_cons, List.map_nil]); first | done | rfl | (simp only [List.length_drop, List.length_take]; rfl)) ?_; (with_reducible refine (strings_CutPrefix.calls a0 (⟨#[72, 84, 84, 80, 47]⟩ : ByteArray) t129 true _ A2.out).mono ?_); rintro e w' ⟨rfl, ⟨nd, rfl⟩⟩; (try clear A2); refine ⟨_, rfl, ?_⟩; have p6 : 0 ≤ (0 : Int) := (by omega); have q6 : 0 < t129.size := (by have : (0 : Int) < (t129.size : Int) := of_decide_eq_true (by first | (with_reducible assumption) | assumption); omega); have hx6 : ∀ h : 0 < t129.size, ((t129[0]'h).toNat : Int) = bt t129 0 := bt_at t129 0; clear p6; have qi6 : (0 < (t129.size : Int)) = True := eq_true (of_decide_eq_true (by first | (with_reducible assumption) | assumption)); replace q6 := eq_true q6) | (go_at_call 71; (with_reducible refine (line_digit.calls (bt t129 0) true _ A7.out).mono ?_); rintro e w' ⟨rfl, ⟨nd, rfl⟩⟩; (try clear A7); have p10 : 0 ≤ (1 : Int) := (by omega); have q10 : 1 < t129.size := (by have : (1 : Int) < (t129.size : Int) := of_decide_eq_true (by first | (with_reducible assumption) | assumption); omega); have hx10 : ∀ h : 1 < t129.size, ((t129[1]'h).toNat : Int) = bt t129 1 := bt_at t129 1; clear p10; have qi10 : (1 < (t129.size : Int)) = True := eq_true (of_decide_eq_true (by first | (with_reducible assumption) | assumption)); replace q10 := eq_true q10; have p13 : 0 ≤ (2 : Int) := (by omega); have q13 : 2 < t129.size := (by have : (2 : Int) < (t129.size : Int) := of_decide_eq_true (by first | (with_reducible assumption) | assumption); omega); have hx13 : ∀ h : 2 < t129.size, ((t129[2]'h).toNat : Int) = bt t129 2 := bt_at t129 2; clear p13; have qi13 : (2 < (t129.size : Int)) = True := eq_true (of_decide_eq_true (by first | (with_reducible assumption) | assumption)); replace q13 := eq_true q13) | (go_at_call 71; (with_reducible refine (line_digit.calls (bt t129 2) t132 _ A14.out).mono ?_); rintro e w' ⟨rfl, ⟨nd, rfl⟩⟩; (try clear A14)))
                go_ret
                exact ⟨by first | rfl | (simp; done) | (simp [*]; done), by repeat (first | exact Drawn0.refl _ | apply Drawn0.step)⟩
              · rw [if_neg c12] at H
                exact absurd H (by simp)
            · rw [if_neg c11] at H
              have c11b0 : ((bt t129 1) == 46) = false := beq_eq_false_iff_ne.mpr c11
              have c11b1 : ((bt t129 1) != 46) = true := bne_iff_ne.mpr c11
              obtain rfl := Option.some.inj H
              go_enter Tryd.func39, Tryd.ntmps39
              go_wp2_with (first | ((with_reducible refine gate_callee (f := 46) rfl ?_); refine goesL_ (some 7) rfl rfl Tryd.func46 (by kernel_rfl) rfl #[.string a0, .string (⟨#[72, 84, 84, 80, 47]⟩ : ByteArray)] rfl (by (try simp only [List.map_toArray, List.map_cons, List.map_nil]); first | done | rfl | (simp only [List.length_drop, List.length_take]; rfl)) ?_; (with_reducible refine (strings_CutPrefix.calls a0 (⟨#[72, 84, 84, 80, 47]⟩ : ByteArray) t129 true _ A2.out).mono ?_); rintro e w' ⟨rfl, ⟨nd, rfl⟩⟩; (try clear A2); refine ⟨_, rfl, ?_⟩; have p6 : 0 ≤ (0 : Int) := (by omega); have q6 : 0 < t129.size := (by have : (0 : Int) < (t129.size : Int) := of_decide_eq_true (by first | (with_reducible assumption) | assumption); omega); have hx6 : ∀ h : 0 < t129.size, ((t129[0]'h).toNat : Int) = bt t129 0 := bt_at t129 0; clear p6; have qi6 : (0 < (t129.size : Int)) = True := eq_true (of_decide_eq_true (by first | (with_reducible assumption) | assumption)); replace q6 := eq_true q6) | (go_at_call 71; (with_reducible refine (line_digit.calls (bt t129 0) true _ A7.out).mono ?_); rintro e w' ⟨rfl, ⟨nd, rfl⟩⟩; (try clear A7); have p10 : 0 ≤ (1 : Int) := (by omega); have q10 : 1 < t129.size := (by have : (1 : Int) < (t129.size : Int) := of_decide_eq_true (by first | (with_reducible assumption) | assumption); omega); have hx10 : ∀ h : 1 < t129.size, ((t129[1]'h).toNat : Int) = bt t129 1 := bt_at t129 1; clear p10; have qi10 : (1 < (t129.size : Int)) = True := eq_true (of_decide_eq_true (by first | (with_reducible assumption) | assumption)); replace q10 := eq_true q10))
              go_ret
              exact ⟨by first | rfl | (simp; done) | (simp [*]; done), by repeat (first | exact Drawn0.refl _ | apply Drawn0.step)⟩
          · rw [if_neg c9] at H
            exact absurd H (by simp)
        · replace c8 := Bool.eq_false_iff.mpr c8
          subst c8
          have H1 : (some false) = some r := by rw [if_neg (show ¬ (false = true) by decide)] at H; exact H
          clear H
          have H := H1
          clear H1
          obtain rfl := Option.some.inj H
          go_enter Tryd.func39, Tryd.ntmps39
          go_wp2_with (first | ((with_reducible refine gate_callee (f := 46) rfl ?_); refine goesL_ (some 7) rfl rfl Tryd.func46 (by kernel_rfl) rfl #[.string a0, .string (⟨#[72, 84, 84, 80, 47]⟩ : ByteArray)] rfl (by (try simp only [List.map_toArray, List.map_cons, List.map_nil]); first | done | rfl | (simp only [List.length_drop, List.length_take]; rfl)) ?_; (with_reducible refine (strings_CutPrefix.calls a0 (⟨#[72, 84, 84, 80, 47]⟩ : ByteArray) t129 true _ A2.out).mono ?_); rintro e w' ⟨rfl, ⟨nd, rfl⟩⟩; (try clear A2); refine ⟨_, rfl, ?_⟩; have p6 : 0 ≤ (0 : Int) := (by omega); have q6 : 0 < t129.size := (by have : (0 : Int) < (t129.size : Int) := of_decide_eq_true (by first | (with_reducible assumption) | assumption); omega); have hx6 : ∀ h : 0 < t129.size, ((t129[0]'h).toNat : Int) = bt t129 0 := bt_at t129 0; clear p6; have qi6 : (0 < (t129.size : Int)) = True := eq_true (of_decide_eq_true (by first | (with_reducible assumption) | assumption)); replace q6 := eq_true q6) | (go_at_call 71; (with_reducible refine (line_digit.calls (bt t129 0) false _ A7.out).mono ?_); rintro e w' ⟨rfl, ⟨nd, rfl⟩⟩; (try clear A7)))
          go_ret
          exact ⟨by first | rfl | (simp; done) | (simp [*]; done), by repeat (first | exact Drawn0.refl _ | apply Drawn0.step)⟩
      · rw [if_neg c5] at H
        exact absurd H (by simp)
    · rw [if_neg c4] at H
      have c4b0 : ((t129.size : Int) == 3) = false := beq_eq_false_iff_ne.mpr c4
      have c4b1 : ((t129.size : Int) != 3) = true := bne_iff_ne.mpr c4
      obtain rfl := Option.some.inj H
      go_enter Tryd.func39, Tryd.ntmps39
      go_wp2_with (first | ((with_reducible refine gate_callee (f := 46) rfl ?_); refine goesL_ (some 7) rfl rfl Tryd.func46 (by kernel_rfl) rfl #[.string a0, .string (⟨#[72, 84, 84, 80, 47]⟩ : ByteArray)] rfl (by (try simp only [List.map_toArray, List.map_cons, List.map_nil]); first | done | rfl | (simp only [List.length_drop, List.length_take]; rfl)) ?_; (with_reducible refine (strings_CutPrefix.calls a0 (⟨#[72, 84, 84, 80, 47]⟩ : ByteArray) t129 true _ A2.out).mono ?_); rintro e w' ⟨rfl, ⟨nd, rfl⟩⟩; (try clear A2); refine ⟨_, rfl, ?_⟩))
      go_ret
      exact ⟨by first | rfl | (simp; done) | (simp [*]; done), by repeat (first | exact Drawn0.refl _ | apply Drawn0.step)⟩
  · replace c3 := Bool.eq_false_iff.mpr c3
    subst c3
    have H1 : (some false) = some r := by rw [if_neg (show ¬ (false = true) by decide)] at H; exact H
    clear H
    have H := H1
    clear H1
    obtain rfl := Option.some.inj H
    go_enter Tryd.func39, Tryd.ntmps39
    go_wp2_with (first | ((with_reducible refine gate_callee (f := 46) rfl ?_); refine goesL_ (some 7) rfl rfl Tryd.func46 (by kernel_rfl) rfl #[.string a0, .string (⟨#[72, 84, 84, 80, 47]⟩ : ByteArray)] rfl (by (try simp only [List.map_toArray, List.map_cons, List.map_nil]); first | done | rfl | (simp only [List.length_drop, List.length_take]; rfl)) ?_; (with_reducible refine (strings_CutPrefix.calls a0 (⟨#[72, 84, 84, 80, 47]⟩ : ByteArray) t129 false _ A2.out).mono ?_); rintro e w' ⟨rfl, ⟨nd, rfl⟩⟩; (try clear A2); refine ⟨_, rfl, ?_⟩))
    go_ret
    exact ⟨by first | rfl | (simp; done) | (simp [*]; done), by repeat (first | exact Drawn0.refl _ | apply Drawn0.step)⟩

end Go.Proofs.YtjgpifjfaiaidaaDoor.P

namespace Go.Proofs.YtjgpifjfaiaidaaDoor.P
open Go.RowKit Go.Proofs.YtjgpifjfaiaidaaDoorW.PrintWords Go.Proofs.YtjgpifjfaiaidaaDoorW.PrintLast Go.Proofs.YtjgpifjfaiaidaaDoorW.PrintMore
attribute [local go_sem] max2_int min2_int max_two min_two max_three min_three max_four min_four   -- for this text's walks alone
set_option linter.unusedVariables false
set_option linter.unusedSimpArgs false

def line_target.f (a0 : ByteArray) (a1 : ByteArray) : Option (Bool) := (sign_Target.f a1).bind fun t125 => (if t125 = true then (if 0 < (a1.size : Int) then (if (bt a1 0) = 47 then (some true) else (if a1.toList = ([42] : List UInt8) then (some (a0.toList == ([79, 80, 84, 73, 79, 78, 83] : List UInt8))) else (some false))) else (none)) else (some false))
set_option maxHeartbeats 8000000 in
set_option maxRecDepth 100000 in
theorem line_target.calls (a0 : ByteArray) (a1 : ByteArray) (r : Bool) (w : World) (h : line_target.f a0 a1 = some r) :
    Calls Tryd.prog 37 #[.string a0, .string a1] w fun e w' => e = .returned (.bool r) ∧ Drawn0 w w' := by
  have H : ((sign_Target.f a1).bind fun t125 => (if t125 = true then (if 0 < (a1.size : Int) then (if (bt a1 0) = 47 then (some true) else (if a1.toList = ([42] : List UInt8) then (some (a0.toList == ([79, 80, 84, 73, 79, 78, 83] : List UInt8))) else (some false))) else (none)) else (some false))) = some r := h
  clear h
  replace H := Option.bind_eq_some_iff.mp H
  obtain ⟨t125, A30, H⟩ := H
  replace H : (if t125 = true then (if 0 < (a1.size : Int) then (if (bt a1 0) = 47 then (some true) else (if a1.toList = ([42] : List UInt8) then (some (a0.toList == ([79, 80, 84, 73, 79, 78, 83] : List UInt8))) else (some false))) else (none)) else (some false)) = some r := H
  have A3 := Aside0.mk A30
  clear A30
  by_cases c4 : t125 = true
  · subst c4
    have H1 : (if 0 < (a1.size : Int) then (if (bt a1 0) = 47 then (some true) else (if a1.toList = ([42] : List UInt8) then (some (a0.toList == ([79, 80, 84, 73, 79, 78, 83] : List UInt8))) else (some false))) else (none)) = some r := by rw [if_pos rfl] at H; exact H
    clear H
    have H := H1
    clear H1
    by_cases c5 : 0 < (a1.size : Int)
    · rw [if_pos c5] at H
      have c5b0 : decide (0 < (a1.size : Int)) = true := decide_eq_true c5
      have c5b1 : decide (0 < a1.size) = true := decide_eq_true (by omega)
      clear c5
      by_cases c7 : (bt a1 0) = 47
      · rw [if_pos c7] at H
        have c7b0 : ((bt a1 0) == 47) = true := beq_iff_eq.mpr c7
        have c7b1 : ((bt a1 0) != 47) = false := bne_eq_false_iff_eq.mpr c7
        clear c7
        obtain rfl := Option.some.inj H
        go_enter Tryd.func37, Tryd.ntmps37
        go_wp2_with (first | ((with_reducible refine gate_callee (f := 70) rfl ?_); refine goesL_ (some 6) rfl rfl Tryd.func70 (by kernel_rfl) rfl #[.string a1] rfl (by (try simp only [List.map_toArray, List.map_cons, List.map_nil]); first | done | rfl | (simp only [List.length_drop, List.length_take]; rfl)) ?_; (with_reducible refine (sign_Target.calls a1 true _ A3.out).mono ?_); rintro e w' ⟨rfl, ⟨nd, rfl⟩⟩; (try clear A3); refine ⟨_, rfl, ?_⟩; have p6 : 0 ≤ (0 : Int) := (by omega); have q6 : 0 < a1.size := (by have : (0 : Int) < (a1.size : Int) := of_decide_eq_true (by first | (with_reducible assumption) | assumption); omega); have hx6 : ∀ h : 0 < a1.size, ((a1[0]'h).toNat : Int) = bt a1 0 := bt_at a1 0; clear p6; have qi6 : (0 < (a1.size : Int)) = True := eq_true (of_decide_eq_true (by first | (with_reducible assumption) | assumption)); replace q6 := eq_true q6))
        go_ret
        exact ⟨by first | rfl | (simp; done) | (simp [*]; done), by repeat (first | exact Drawn0.refl _ | apply Drawn0.step)⟩
      · rw [if_neg c7] at H
        have c7b0 : ((bt a1 0) == 47) = false := beq_eq_false_iff_ne.mpr c7
        have c7b1 : ((bt a1 0) != 47) = true := bne_iff_ne.mpr c7
        by_cases c8 : a1.toList = ([42] : List UInt8)
        · rw [if_pos c8] at H
          have c8b0 : (a1.toList == ([42] : List UInt8)) = true := beq_iff_eq.mpr c8
          have c8b1 : (a1.toList != ([42] : List UInt8)) = false := bne_eq_false_iff_eq.mpr c8
          clear c8
          obtain rfl := Option.some.inj H
          go_enter Tryd.func37, Tryd.ntmps37
          go_wp2_with (first | ((with_reducible refine gate_callee (f := 70) rfl ?_); refine goesL_ (some 6) rfl rfl Tryd.func70 (by kernel_rfl) rfl #[.string a1] rfl (by (try simp only [List.map_toArray, List.map_cons, List.map_nil]); first | done | rfl | (simp only [List.length_drop, List.length_take]; rfl)) ?_; (with_reducible refine (sign_Target.calls a1 true _ A3.out).mono ?_); rintro e w' ⟨rfl, ⟨nd, rfl⟩⟩; (try clear A3); refine ⟨_, rfl, ?_⟩; have p6 : 0 ≤ (0 : Int) := (by omega); have q6 : 0 < a1.size := (by have : (0 : Int) < (a1.size : Int) := of_decide_eq_true (by first | (with_reducible assumption) | assumption); omega); have hx6 : ∀ h : 0 < a1.size, ((a1[0]'h).toNat : Int) = bt a1 0 := bt_at a1 0; clear p6; have qi6 : (0 < (a1.size : Int)) = True := eq_true (of_decide_eq_true (by first | (with_reducible assumption) | assumption)); replace q6 := eq_true q6))
          go_ret
          exact ⟨by first | rfl | (simp; done) | (simp [*]; done), by repeat (first | exact Drawn0.refl _ | apply Drawn0.step)⟩
        · rw [if_neg c8] at H
          have c8b0 : (a1.toList == ([42] : List UInt8)) = false := beq_eq_false_iff_ne.mpr c8
          have c8b1 : (a1.toList != ([42] : List UInt8)) = true := bne_iff_ne.mpr c8
          obtain rfl := Option.some.inj H
          go_enter Tryd.func37, Tryd.ntmps37
          go_wp2_with (first | ((with_reducible refine gate_callee (f := 70) rfl ?_); refine goesL_ (some 6) rfl rfl Tryd.func70 (by kernel_rfl) rfl #[.string a1] rfl (by (try simp only [List.map_toArray, List.map_cons, List.map_nil]); first | done | rfl | (simp only [List.length_drop, List.length_take]; rfl)) ?_; (with_reducible refine (sign_Target.calls a1 true _ A3.out).mono ?_); rintro e w' ⟨rfl, ⟨nd, rfl⟩⟩; (try clear A3); refine ⟨_, rfl, ?_⟩; have p6 : 0 ≤ (0 : Int) := (by omega); have q6 : 0 < a1.size := (by have : (0 : Int) < (a1.size : Int) := of_decide_eq_true (by first | (with_reducible assumption) | assumption); omega); have hx6 : ∀ h : 0 < a1.size, ((a1[0]'h).toNat : Int) = bt a1 0 := bt_at a1 0; clear p6; have qi6 : (0 < (a1.size : Int)) = True := eq_true (of_decide_eq_true (by first | (with_reducible assumption) | assumption)); replace q6 := eq_true q6))
          go_ret
          exact ⟨by first | rfl | (simp; done) | (simp [*]; done), by repeat (first | exact Drawn0.refl _ | apply Drawn0.step)⟩
    · rw [if_neg c5] at H
      exact absurd H (by simp)
  · replace c4 := Bool.eq_false_iff.mpr c4
    subst c4
    have H1 : (some false) = some r := by rw [if_neg (show ¬ (false = true) by decide)] at H; exact H
    clear H
    have H := H1
    clear H1
    obtain rfl := Option.some.inj H
    go_enter Tryd.func37, Tryd.ntmps37
    go_wp2_with (first | ((with_reducible refine gate_callee (f := 70) rfl ?_); refine goesL_ (some 6) rfl rfl Tryd.func70 (by kernel_rfl) rfl #[.string a1] rfl (by (try simp only [List.map_toArray, List.map_cons, List.map_nil]); first | done | rfl | (simp only [List.length_drop, List.length_take]; rfl)) ?_; (with_reducible refine (sign_Target.calls a1 false _ A3.out).mono ?_); rintro e w' ⟨rfl, ⟨nd, rfl⟩⟩; (try clear A3); refine ⟨_, rfl, ?_⟩))
    go_ret
    exact ⟨by first | rfl | (simp; done) | (simp [*]; done), by repeat (first | exact Drawn0.refl _ | apply Drawn0.step)⟩

end Go.Proofs.YtjgpifjfaiaidaaDoor.P

namespace Go.Proofs.YtjgpifjfaiaidaaDoor.P
open Go.RowKit Go.Proofs.YtjgpifjfaiaidaaDoorW.PrintWords Go.Proofs.YtjgpifjfaiaidaaDoorW.PrintLast Go.Proofs.YtjgpifjfaiaidaaDoorW.PrintMore
attribute [local go_sem] max2_int min2_int max_two min_two max_three min_three max_four min_four   -- for this text's walks alone
set_option linter.unusedVariables false
set_option linter.unusedSimpArgs false

def line_RequestLine.f (a0_0 : ByteArray) (a0_1 : ByteArray) (a0_2 : Int) (l0_3 : List (S84)) (l0_4 : List Int) : Option (ByteArray) := if a0_0.size + 1 ≤ 9223372036854775807 then (if (a0_0 ++ (⟨#[32]⟩ : ByteArray)).size + a0_1.size ≤ 9223372036854775807 then (if ((a0_0 ++ (⟨#[32]⟩ : ByteArray)) ++ a0_1).size + 8 ≤ 9223372036854775807 then ((sign_Text.f a0_2).bind fun t194 => (if (((a0_0 ++ (⟨#[32]⟩ : ByteArray)) ++ a0_1) ++ (⟨#[32, 72, 84, 84, 80, 47, 49, 46]⟩ : ByteArray)).size + t194.size ≤ 9223372036854775807 then (if ((((a0_0 ++ (⟨#[32]⟩ : ByteArray)) ++ a0_1) ++ (⟨#[32, 72, 84, 84, 80, 47, 49, 46]⟩ : ByteArray)) ++ t194).size + 2 ≤ 9223372036854775807 then (some (((((a0_0 ++ (⟨#[32]⟩ : ByteArray)) ++ a0_1) ++ (⟨#[32, 72, 84, 84, 80, 47, 49, 46]⟩ : ByteArray)) ++ t194) ++ (⟨#[13, 10]⟩ : ByteArray))) else (none)) else (none))) else (none)) else (none)) else (none)
def line_RequestLine.T1 : Bool × List (List Nat × List Nat) := (true, [([], []), ([0], [0]), ([1], [1]), ([], []), ([3], [3]), ([2, 4], [2, 4]), ([5], [5]), ([], []), ([7], [7]), ([8], [8]), ([6, 9], [6, 9]), ([10], [10]), ([11, 9, 0, 1, 2, 3, 4, 5, 6, 7, 8, 9, 10, 11], [11])])
def line_RequestLine.B1 : List Nat := [0, 1, 3, 0, 8, 31, 63, 0, 128, 384, 1023, 2047, 4095]
theorem line_RequestLine.tab1 : rtab .any (opsOf Tryd.f22 1) = line_RequestLine.T1 := by kernel_rfl
theorem line_RequestLine.bits1 : waitsOk line_RequestLine.T1.2 line_RequestLine.B1 = true := by kernel_rfl
set_option maxHeartbeats 8000000 in
set_option maxRecDepth 100000 in
theorem line_RequestLine.calls (a0_0 : ByteArray) (a0_1 : ByteArray) (a0_2 : Int) (A0_3 : Option Addr) (c0_3 : Nat) (l0_3 : List (S84)) (A0_4 : Option Addr) (c0_4 : Nat) (l0_4 : List Int) (r : ByteArray) (w : World) (hr0_3 : Kd.C k84 w A0_3 l0_3.length l0_3) (hc0_3 : l0_3.length ≤ c0_3) (hr0_4 : Kd.C (Kd.int .u8) w A0_4 l0_4.length l0_4) (hc0_4 : l0_4.length ≤ c0_4) (h : line_RequestLine.f a0_0 a0_1 a0_2 l0_3 l0_4 = some r) (ht : Tabs w) :
    Calls Tryd.prog 22 #[.agg #[.string a0_0, .string a0_1, .int .i64 a0_2, .slice A0_3 l0_3.length c0_3, .slice A0_4 l0_4.length c0_4]] w fun e w' => e = .returned (.string r) ∧ Below w.heap.size w w' := by
  have HTB := Aside0.mk ht
  clear ht
  have hu26 := Tryd.underlying26
  have HR0_3 := Aside0.mk hr0_3
  have HC0_3 := Aside0.mk hc0_3
  clear hr0_3 hc0_3
  have HR0_4 := Aside0.mk hr0_4
  have HC0_4 := Aside0.mk hc0_4
  clear hr0_4 hc0_4
  have HB := Aside0.mk (Below.refl w.heap.size w)
  have H : (if a0_0.size + 1 ≤ 9223372036854775807 then (if (a0_0 ++ (⟨#[32]⟩ : ByteArray)).size + a0_1.size ≤ 9223372036854775807 then (if ((a0_0 ++ (⟨#[32]⟩ : ByteArray)) ++ a0_1).size + 8 ≤ 9223372036854775807 then ((sign_Text.f a0_2).bind fun t194 => (if (((a0_0 ++ (⟨#[32]⟩ : ByteArray)) ++ a0_1) ++ (⟨#[32, 72, 84, 84, 80, 47, 49, 46]⟩ : ByteArray)).size + t194.size ≤ 9223372036854775807 then (if ((((a0_0 ++ (⟨#[32]⟩ : ByteArray)) ++ a0_1) ++ (⟨#[32, 72, 84, 84, 80, 47, 49, 46]⟩ : ByteArray)) ++ t194).size + 2 ≤ 9223372036854775807 then (some (((((a0_0 ++ (⟨#[32]⟩ : ByteArray)) ++ a0_1) ++ (⟨#[32, 72, 84, 84, 80, 47, 49, 46]⟩ : ByteArray)) ++ t194) ++ (⟨#[13, 10]⟩ : ByteArray))) else (none)) else (none))) else (none)) else (none)) else (none)) = some r := h
  clear h
  by_cases c2 : a0_0.size + 1 ≤ 9223372036854775807
  · rw [if_pos c2] at H
    have c2b0 := eq_true c2
    have c2b1 : decide (a0_0.size + 1 ≤ 9223372036854775807) = true := decide_eq_true c2
    try have c2b2 : (9223372036854775807 < a0_0.size + 1) = False := eq_false (Nat.not_lt.2 c2)
    by_cases c3 : (a0_0 ++ (⟨#[32]⟩ : ByteArray)).size + a0_1.size ≤ 9223372036854775807
    · rw [if_pos c3] at H
      have c3b0 := eq_true c3
      have c3b1 : decide ((a0_0 ++ (⟨#[32]⟩ : ByteArray)).size + a0_1.size ≤ 9223372036854775807) = true := decide_eq_true c3
      try have c3b2 : (9223372036854775807 < (a0_0 ++ (⟨#[32]⟩ : ByteArray)).size + a0_1.size) = False := eq_false (Nat.not_lt.2 c3)
      try (have c3b3 := c3b0; simp only [ByteArray.size_append] at c3b3; have c3b4 := c3b2; simp only [ByteArray.size_append] at c3b4)
      try have c3b5 : (9223372036854775807 < a0_0.size + 1 + a0_1.size) = False := eq_false (by have q_ := c3; simp only [ByteArray.size_append] at q_; have e0_ : (⟨#[32]⟩ : ByteArray).size = 1 := rfl; omega)
      try have c3b6 : (a0_0.size + 1 + a0_1.size ≤ 9223372036854775807) = True := eq_true (by have q_ := c3; simp only [ByteArray.size_append] at q_; have e0_ : (⟨#[32]⟩ : ByteArray).size = 1 := rfl; omega)
      by_cases c4 : ((a0_0 ++ (⟨#[32]⟩ : ByteArray)) ++ a0_1).size + 8 ≤ 9223372036854775807
      · rw [if_pos c4] at H
        have c4b0 := eq_true c4
        have c4b1 : decide (((a0_0 ++ (⟨#[32]⟩ : ByteArray)) ++ a0_1).size + 8 ≤ 9223372036854775807) = true := decide_eq_true c4
        try have c4b2 : (9223372036854775807 < ((a0_0 ++ (⟨#[32]⟩ : ByteArray)) ++ a0_1).size + 8) = False := eq_false (Nat.not_lt.2 c4)
        try (have c4b3 := c4b0; simp only [ByteArray.size_append] at c4b3; have c4b4 := c4b2; simp only [ByteArray.size_append] at c4b4)
        try have c4b5 : (9223372036854775807 < a0_0.size + 1 + a0_1.size + 8) = False := eq_false (by have q_ := c4; simp only [ByteArray.size_append] at q_; have e0_ : (⟨#[32]⟩ : ByteArray).size = 1 := rfl; omega)
        try have c4b6 : (a0_0.size + 1 + a0_1.size + 8 ≤ 9223372036854775807) = True := eq_true (by have q_ := c4; simp only [ByteArray.size_append] at q_; have e0_ : (⟨#[32]⟩ : ByteArray).size = 1 := rfl; omega)
        replace H := Option.bind_eq_some_iff.mp H
        obtain ⟨t194, A50, H⟩ := H
        replace H : (if (((a0_0 ++ (⟨#[32]⟩ : ByteArray)) ++ a0_1) ++ (⟨#[32, 72, 84, 84, 80, 47, 49, 46]⟩ : ByteArray)).size + t194.size ≤ 9223372036854775807 then (if ((((a0_0 ++ (⟨#[32]⟩ : ByteArray)) ++ a0_1) ++ (⟨#[32, 72, 84, 84, 80, 47, 49, 46]⟩ : ByteArray)) ++ t194).size + 2 ≤ 9223372036854775807 then (some (((((a0_0 ++ (⟨#[32]⟩ : ByteArray)) ++ a0_1) ++ (⟨#[32, 72, 84, 84, 80, 47, 49, 46]⟩ : ByteArray)) ++ t194) ++ (⟨#[13, 10]⟩ : ByteArray))) else (none)) else (none)) = some r := H
        have A5 := Aside0.mk A50
        clear A50
        by_cases c6 : (((a0_0 ++ (⟨#[32]⟩ : ByteArray)) ++ a0_1) ++ (⟨#[32, 72, 84, 84, 80, 47, 49, 46]⟩ : ByteArray)).size + t194.size ≤ 9223372036854775807
        · rw [if_pos c6] at H
          have c6b0 := eq_true c6
          have c6b1 : decide ((((a0_0 ++ (⟨#[32]⟩ : ByteArray)) ++ a0_1) ++ (⟨#[32, 72, 84, 84, 80, 47, 49, 46]⟩ : ByteArray)).size + t194.size ≤ 9223372036854775807) = true := decide_eq_true c6
          try have c6b2 : (9223372036854775807 < (((a0_0 ++ (⟨#[32]⟩ : ByteArray)) ++ a0_1) ++ (⟨#[32, 72, 84, 84, 80, 47, 49, 46]⟩ : ByteArray)).size + t194.size) = False := eq_false (Nat.not_lt.2 c6)
          try (have c6b3 := c6b0; simp only [ByteArray.size_append] at c6b3; have c6b4 := c6b2; simp only [ByteArray.size_append] at c6b4)
          try have c6b5 : (9223372036854775807 < a0_0.size + 1 + a0_1.size + 8 + t194.size) = False := eq_false (by have q_ := c6; simp only [ByteArray.size_append] at q_; have e0_ : (⟨#[32, 72, 84, 84, 80, 47, 49, 46]⟩ : ByteArray).size = 8 := rfl; have e1_ : (⟨#[32]⟩ : ByteArray).size = 1 := rfl; omega)
          try have c6b6 : (a0_0.size + 1 + a0_1.size + 8 + t194.size ≤ 9223372036854775807) = True := eq_true (by have q_ := c6; simp only [ByteArray.size_append] at q_; have e0_ : (⟨#[32, 72, 84, 84, 80, 47, 49, 46]⟩ : ByteArray).size = 8 := rfl; have e1_ : (⟨#[32]⟩ : ByteArray).size = 1 := rfl; omega)
          by_cases c7 : ((((a0_0 ++ (⟨#[32]⟩ : ByteArray)) ++ a0_1) ++ (⟨#[32, 72, 84, 84, 80, 47, 49, 46]⟩ : ByteArray)) ++ t194).size + 2 ≤ 9223372036854775807
          · rw [if_pos c7] at H
            have c7b0 := eq_true c7
            have c7b1 : decide (((((a0_0 ++ (⟨#[32]⟩ : ByteArray)) ++ a0_1) ++ (⟨#[32, 72, 84, 84, 80, 47, 49, 46]⟩ : ByteArray)) ++ t194).size + 2 ≤ 9223372036854775807) = true := decide_eq_true c7
            try have c7b2 : (9223372036854775807 < ((((a0_0 ++ (⟨#[32]⟩ : ByteArray)) ++ a0_1) ++ (⟨#[32, 72, 84, 84, 80, 47, 49, 46]⟩ : ByteArray)) ++ t194).size + 2) = False := eq_false (Nat.not_lt.2 c7)
            try (have c7b3 := c7b0; simp only [ByteArray.size_append] at c7b3; have c7b4 := c7b2; simp only [ByteArray.size_append] at c7b4)
            try have c7b5 : (9223372036854775807 < a0_0.size + 1 + a0_1.size + 8 + t194.size + 2) = False := eq_false (by have q_ := c7; simp only [ByteArray.size_append] at q_; have e0_ : (⟨#[32, 72, 84, 84, 80, 47, 49, 46]⟩ : ByteArray).size = 8 := rfl; have e1_ : (⟨#[32]⟩ : ByteArray).size = 1 := rfl; omega)
            try have c7b6 : (a0_0.size + 1 + a0_1.size + 8 + t194.size + 2 ≤ 9223372036854775807) = True := eq_true (by have q_ := c7; simp only [ByteArray.size_append] at q_; have e0_ : (⟨#[32, 72, 84, 84, 80, 47, 49, 46]⟩ : ByteArray).size = 8 := rfl; have e1_ : (⟨#[32]⟩ : ByteArray).size = 1 := rfl; omega)
            obtain rfl := Option.some.inj H
            go_enter Tryd.func22, Tryd.ntmps22
            try go_wp2_with (first | ((with_reducible refine gate_dst (N := 1) rfl ?_); refine box_event ?hg (N := 1) ?hd (cs := #[.string a0_0, .string a0_1, .int .i64 a0_2, .slice A0_3 l0_3.length c0_3, .slice A0_4 l0_4.length c0_4]) (t := 26) ?hr ?_; (case hd => rfl); (case hg => rfl); (case hr => first | (go_simp; done) | (go_simp; rfl)); intro gb193 hg w8 hbox hb; have n0_ := Aside0.mk (below_step (by repeat (first | (with_reducible first | exact HB.out | apply below_alloc | apply pw_below_drewN | apply below_drew1) | exact HB.out)) hb); have n1_ := Aside0.mk (hbox); have n2_ := Aside0.mk ((by rw [hg]; exact (below_size (by repeat (first | (with_reducible first | exact HB.out | apply below_alloc | apply pw_below_drewN | apply below_drew1) | exact HB.out))) : w.heap.size ≤ gb193)); have n3_ := Aside0.mk ((by rw [hg]; exact (below_size (by repeat (first | (with_reducible first | exact HB.out | apply below_alloc | apply pw_below_drewN | apply below_drew1) | exact HB.out))) : w.heap.size ≤ gb193)); clear HB; have HB := n0_; have BK193 := n1_; have GW193 := n2_; have GE193 := n3_; clear n0_ n1_ n2_ n3_; clear hb hbox hg))
            have n0_ := Aside0.mk (blk_drew BK193.out)
            have n1_ := Aside0.mk (below_drew1 HB.out)
            clear BK193
            clear HB
            have BK193 := n0_
            have HB := n1_
            clear n0_ n1_
            refine start_ (n := 13) (S := fun w' => w'.cell? ⟨gb193, 0, none⟩ = some (.string a0_0) ∧ w'.cell? ⟨gb193, 1, none⟩ = some (.string a0_1) ∧ w'.cell? ⟨gb193, 2, none⟩ = some (.int .i64 a0_2) ∧ w'.cell? ⟨gb193, 3, none⟩ = some (.slice A0_3 l0_3.length c0_3) ∧ w'.cell? ⟨gb193, 4, none⟩ = some (.slice A0_4 l0_4.length c0_4)) (ds := []) #[false, false, false, false, false, false, false, false, false, false, false, false, false] (by kernel_rfl) rfl rfl ⟨(blk_cell BK193.out 0).trans rfl, (blk_cell BK193.out 1).trans rfl, (blk_cell BK193.out 2).trans rfl, (blk_cell BK193.out 3).trans rfl, (blk_cell BK193.out 4).trans rfl⟩ (fun hHeld => ?_); refine with_tabW line_RequestLine.tab1 line_RequestLine.bits1 (fun HT_ HW_ => ?_)
            generalize w8.drew = w9 at BK193 HB hHeld ⊢
            refine pure_ (i := 0) (N := some 3) (v := ?_) (a' := ?_) #[true, false, false, false, false, false, false, false, false, false, false, false, false] rfl rfl (any_of HT_.out (by kernel_rfl)) (fun _ _ _ h => h) (Or.inl ⟨by rfl, ?_⟩) ?_ ?_
            rotate_left
            · intro w'
              go_simp
              with_reducible rfl
            rotate_left
            · simp only [Act.put, List.setIfInBounds_toArray, List.set_cons_zero, List.set_cons_succ, i64_w, i32_w]
              rfl
            refine pure_ (i := 3) (N := some 6) (v := ?_) (a' := ?_) #[true, false, false, true, false, false, false, false, false, false, false, false, false] rfl rfl (any_of HT_.out (by kernel_rfl)) (fun _ _ _ h => h) (Or.inl ⟨by rfl, ?_⟩) ?_ ?_
            rotate_left
            · intro w'
              go_simp
              with_reducible rfl
            rotate_left
            · simp only [Act.put, List.setIfInBounds_toArray, List.set_cons_zero, List.set_cons_succ, i64_w, i32_w]
              rfl
            refine pure_ (i := 7) (N := some 10) (v := ?_) (a' := ?_) #[true, false, false, true, false, false, false, true, false, false, false, false, false] rfl rfl (any_of HT_.out (by kernel_rfl)) (fun _ _ _ h => h) (Or.inl ⟨by rfl, ?_⟩) ?_ ?_
            rotate_left
            · intro w'
              go_simp
              with_reducible rfl
            rotate_left
            · simp only [Act.put, List.setIfInBounds_toArray, List.set_cons_zero, List.set_cons_succ, i64_w, i32_w]
              rfl
            refine take_ (i := 1) (N := some 4) (v := ?_) (a' := ?_) #[true, true, false, true, false, false, false, true, false, false, false, false, false] rfl rfl (take_ofW HT_.out HW_.out (by kernel_rfl)) (fun _ _ _ h => h) (Or.inl ⟨by rfl, ?_⟩) hHeld ?_ ?_
            rotate_left
            · rintro w' ⟨s0, s1, s2, s3, s4⟩
              go_simp
              with_reducible rfl
            rotate_left
            · simp only [Act.put, List.setIfInBounds_toArray, List.set_cons_zero, List.set_cons_succ, i64_w, i32_w]
              rfl
            refine pure_ (i := 2) (N := some 5) (v := ?_) (a' := ?_) #[true, true, true, true, false, false, false, true, false, false, false, false, false] rfl rfl (any_of HT_.out (by kernel_rfl)) (fun _ _ _ h => h) (Or.inl ⟨by rfl, ?_⟩) ?_ ?_
            rotate_left
            · intro w'
              go_simp
              with_reducible rfl
            rotate_left
            · simp only [Act.put, List.setIfInBounds_toArray, List.set_cons_zero, List.set_cons_succ, i64_w, i32_w]
              rfl
            refine take_ (i := 4) (N := some 7) (v := ?_) (a' := ?_) #[true, true, true, true, true, false, false, true, false, false, false, false, false] rfl rfl (take_ofW HT_.out HW_.out (by kernel_rfl)) (fun _ _ _ h => h) (Or.inl ⟨by rfl, ?_⟩) hHeld ?_ ?_
            rotate_left
            · rintro w' ⟨s0, s1, s2, s3, s4⟩
              go_simp
              with_reducible rfl
            rotate_left
            · simp only [Act.put, List.setIfInBounds_toArray, List.set_cons_zero, List.set_cons_succ, i64_w, i32_w]
              rfl
            refine pure_ (i := 5) (N := some 8) (v := ?_) (a' := ?_) #[true, true, true, true, true, true, false, true, false, false, false, false, false] rfl rfl (any_of HT_.out (by kernel_rfl)) (fun _ _ _ h => h) (Or.inl ⟨by rfl, ?_⟩) ?_ ?_
            rotate_left
            · intro w'
              go_simp
              with_reducible rfl
            rotate_left
            · simp only [Act.put, List.setIfInBounds_toArray, List.set_cons_zero, List.set_cons_succ, i64_w, i32_w]
              rfl
            refine pure_ (i := 6) (N := some 9) (v := ?_) (a' := ?_) #[true, true, true, true, true, true, true, true, false, false, false, false, false] rfl rfl (any_of HT_.out (by kernel_rfl)) (fun _ _ _ h => h) (Or.inl ⟨by rfl, ?_⟩) ?_ ?_
            rotate_left
            · intro w'
              go_simp
              with_reducible rfl
            rotate_left
            · simp only [Act.put, List.setIfInBounds_toArray, List.set_cons_zero, List.set_cons_succ, i64_w, i32_w]
              rfl
            refine take_ (i := 8) (N := some 11) (v := ?_) (a' := ?_) #[true, true, true, true, true, true, true, true, true, false, false, false, false] rfl rfl (take_ofW HT_.out HW_.out (by kernel_rfl)) (fun _ _ _ h => h) (Or.inl ⟨by rfl, ?_⟩) hHeld ?_ ?_
            rotate_left
            · rintro w' ⟨s0, s1, s2, s3, s4⟩
              go_simp
              with_reducible rfl
            rotate_left
            · simp only [Act.put, List.setIfInBounds_toArray, List.set_cons_zero, List.set_cons_succ, i64_w, i32_w]
              rfl
            refine one_ (i := 9) (N := some 12) #[true, true, true, true, true, true, true, true, true, true, false, false, false] rfl rfl (one_of HT_.out (by kernel_rfl)) (by decide) (fun K hK => ?_)
            refine goes_ Tryd.func54 (by kernel_rfl) rfl #[.int .i64 a0_2] (by rfl) rfl rfl (by (try simp only [List.map_toArray, List.map_cons, List.map_nil]); first | done | rfl | (simp only [List.length_drop, List.length_take]; rfl)) ?_
            with_reducible refine (sign_Text.calls a0_2 t194 _ A5.out ?hT).mono ?_; (case hT => exact HTB.out.below (by repeat (first | (with_reducible first | exact HB.out | apply below_alloc | apply pw_below_drewN | apply below_drew1 | refine below_set ?_ GE193.out) | exact HB.out)))
            rintro e w10 ⟨rfl, hb⟩
            refine ⟨_, rfl, ?_⟩
            have n0_ := Aside0.mk (blk_below (g := gb193) (o := .cells #[.string a0_0, .string a0_1, .int .i64 a0_2, .slice A0_3 l0_3.length c0_3, .slice A0_4 l0_4.length c0_4] 26 (0, 0)) (by (with_reducible repeat (first | refine blk_drewN ?_ _ | refine blk_drew ?_ | refine blk_alloc ?_ _)); exact BK193.out) hb)
            have n1_ := Aside0.mk (below_step (by repeat (first | (with_reducible first | exact HB.out | apply below_alloc | apply pw_below_drewN | apply below_drew1 | refine below_set ?_ GE193.out) | exact HB.out)) hb)
            clear BK193
            clear HB
            have BK193 := n0_
            have HB := n1_
            clear n0_ n1_
            (try clear hb)
            (try clear hb2)
            (try clear hk)
            (try clear hi)
            refine hK.out _ _ ⟨(blk_cell BK193.out 0).trans rfl, (blk_cell BK193.out 1).trans rfl, (blk_cell BK193.out 2).trans rfl, (blk_cell BK193.out 3).trans rfl, (blk_cell BK193.out 4).trans rfl⟩ (fun hHeld => ?_)
            clear hK K
            refine norm_ (a' := ?_) ?_ ?_
            rotate_left
            · show Act.put _ (some 12) _ = _
              simp only [Act.put, List.setIfInBounds_toArray, List.set_cons_zero, List.set_cons_succ, i64_w, i32_w]
              rfl
            refine pure_ (i := 10) (N := some 13) (v := ?_) (a' := ?_) #[true, true, true, true, true, true, true, true, true, true, true, false, false] rfl rfl (any_of HT_.out (by kernel_rfl)) (fun _ _ _ h => h) (Or.inl ⟨by rfl, ?_⟩) ?_ ?_
            rotate_left
            · intro w'
              go_simp
              with_reducible rfl
            rotate_left
            · simp only [Act.put, List.setIfInBounds_toArray, List.set_cons_zero, List.set_cons_succ, i64_w, i32_w]
              rfl
            refine pure_ (i := 11) (N := some 14) (v := ?_) (a' := ?_) #[true, true, true, true, true, true, true, true, true, true, true, true, false] rfl rfl (any_of HT_.out (by kernel_rfl)) (fun _ _ _ h => h) (Or.inl ⟨by rfl, ?_⟩) ?_ ?_
            rotate_left
            · intro w'
              go_simp
              with_reducible rfl
            rotate_left
            · simp only [Act.put, List.setIfInBounds_toArray, List.set_cons_zero, List.set_cons_succ, i64_w, i32_w]
              rfl
            refine pure_ (i := 12) (N := some 2) (v := ?_) (a' := ?_) #[true, true, true, true, true, true, true, true, true, true, true, true, true] rfl rfl (any_of HT_.out (by kernel_rfl)) (fun _ _ _ h => h) (Or.inl ⟨by rfl, ?_⟩) ?_ ?_
            rotate_left
            · intro w'
              go_simp
              with_reducible rfl
            rotate_left
            · simp only [Act.put, List.setIfInBounds_toArray, List.set_cons_zero, List.set_cons_succ, i64_w, i32_w]
              rfl
            refine done_ (done_of HT_.out (by kernel_rfl)) ?_
            try go_wp2
            go_ret
            exact ⟨by first | rfl | (simp [errW_none, errW_some] <;> rfl) | (simp [*, errW_none, errW_some] <;> rfl), by repeat (first | (with_reducible first | exact HB.out | apply below_alloc | apply pw_below_drewN | apply below_drew1 | refine below_set ?_ GE193.out) | exact HB.out)⟩
          · rw [if_neg c7] at H
            exact absurd H (by simp)
        · rw [if_neg c6] at H
          exact absurd H (by simp)
      · rw [if_neg c4] at H
        exact absurd H (by simp)
    · rw [if_neg c3] at H
      exact absurd H (by simp)
  · rw [if_neg c2] at H
    exact absurd H (by simp)

end Go.Proofs.YtjgpifjfaiaidaaDoor.P

