/- Each function below answers as its Lean twin says. No further condition. (Laid by this repo's packseat.py out of the seat's texts and of the print's words.) -/
import Derived.Test.YtjgpifjfaiaidaaDoorU0base0x0
import Derived.Test.YtjgpifjfaiaidaaDoorUtollbarref020x3
import Derived.Test.YtjgpifjfaiaidaaDoorUtollbarref020x1
namespace Go.Proofs.YtjgpifjfaiaidaaDoor.P
open Go.RowKit Go.Proofs.YtjgpifjfaiaidaaDoorW.PrintWords Go.Proofs.YtjgpifjfaiaidaaDoorW.PrintLast Go.Proofs.YtjgpifjfaiaidaaDoorW.PrintMore
attribute [local go_sem] max2_int min2_int max_two min_two max_three min_three max_four min_four   -- for this text's walks alone
set_option linter.unusedVariables false
set_option linter.unusedSimpArgs false

mutual
def tollbarref06_size.l0 : Nat → ByteArray → Int → Int → Option (Int × Bool)
  | 0, _, _, _ => none
  | k + 1, x0, x4, x5 => if x5 ≥ 0 then (if 0 ≤ x5 then (if x5 < (x0.size : Int) then (if (bt x0 x5) = 59 then (tollbarref06_size.l0 k x0 x5 (wrap64 (x5 - 1))) else (tollbarref06_size.l0 k x0 x4 (wrap64 (x5 - 1)))) else (none)) else (none)) else (if x4 < (x0.size : Int) then (if 0 ≤ (wrap64 (x4 + 1)) then (if (wrap64 (x4 + 1)) ≤ (x0.size : Int) then ((tollbarref02_Value.f k (x0.extract ((wrap64 (x4 + 1)) : Int).toNat x0.size)).bind fun t454 => (tollbarref06_size.j1 k x0 x4 (!t454))) else (none)) else (none)) else (tollbarref06_size.j1 k x0 x4 false))
def tollbarref06_size.j1 : Nat → ByteArray → Int → Bool → Option (Int × Bool)
  | 0, _, _, _ => none
  | k + 1, x0, x4, x32 => if x32 = true then (some (0, false)) else (if 0 ≤ x4 then (if x4 ≤ (x0.size : Int) then (tollbarref06_size.l1 k (x0.extract 0 (x4 : Int).toNat)) else (none)) else (none))
def tollbarref06_size.l1 : Nat → ByteArray → Option (Int × Bool)
  | 0, _ => none
  | k + 1, x6 => if (x6.size : Int) > 0 then (if 0 ≤ (wrap64 ((x6.size : Int) - 1)) then (if (wrap64 ((x6.size : Int) - 1)) < (x6.size : Int) then (if (bt x6 (wrap64 ((x6.size : Int) - 1))) = 32 then (if (wrap64 ((x6.size : Int) - 1)) ≤ (x6.size : Int) then (tollbarref06_size.l1 k (x6.extract 0 ((wrap64 ((x6.size : Int) - 1)) : Int).toNat)) else (none)) else (if (bt x6 (wrap64 ((x6.size : Int) - 1))) = 9 then (if (wrap64 ((x6.size : Int) - 1)) ≤ (x6.size : Int) then (tollbarref06_size.l1 k (x6.extract 0 ((wrap64 ((x6.size : Int) - 1)) : Int).toNat)) else (none)) else ((tollbarref02_Hex.f k x6).bind fun bt455 => (some (bt455.1, bt455.2))))) else (none)) else (none)) else ((tollbarref02_Hex.f k x6).bind fun bt457 => (some (bt457.1, bt457.2)))
end
def tollbarref06_size.f (k : Nat) (a0 : ByteArray) : Option (Int × Bool) := tollbarref06_size.l0 k a0 (a0.size : Int) (wrap64 ((a0.size : Int) - 1))
theorem tollbarref06_size.mono_l : ∀ k, (∀ y0 y1 y2, LeO (tollbarref06_size.l0 k y0 y1 y2) (tollbarref06_size.l0 (k + 1) y0 y1 y2)) ∧ (∀ y0 y1 y2, LeO (tollbarref06_size.j1 k y0 y1 y2) (tollbarref06_size.j1 (k + 1) y0 y1 y2)) ∧ (∀ y0, LeO (tollbarref06_size.l1 k y0) (tollbarref06_size.l1 (k + 1) y0))
  | 0 => ⟨fun _ _ _ r h => by simp [tollbarref06_size.l0] at h, fun _ _ _ r h => by simp [tollbarref06_size.j1] at h, fun _ r h => by simp [tollbarref06_size.l1] at h⟩
  | k + 1 => by
    obtain ⟨ih0, ih1, ih2⟩ := tollbarref06_size.mono_l k
    refine ⟨?_, ?_, ?_⟩
    · intro y0 y1 y2
      unfold tollbarref06_size.l0
      repeat' first
      | (with_reducible exact ih0 _ _ _)
      | (with_reducible exact ih1 _ _ _)
      | (with_reducible exact ih2 _)
      | (with_reducible exact tollbarref02_Hex.mono _ _)
      | (with_reducible exact tollbarref02_Value.mono _ _)
      | (with_reducible exact LeO.refl _)
      | (with_reducible exact LeO.none _)
      | (with_reducible refine LeO.ite ?_ ?_)
      | (with_reducible refine LeO.bind ?_ (fun _ => ?_))
      | exact ih0 _ _ _
      | exact ih1 _ _ _
      | exact ih2 _
      | exact tollbarref02_Hex.mono _ _
      | exact tollbarref02_Value.mono _ _
      | exact LeO.none _
      | refine LeO.ite ?_ ?_
      | refine LeO.bind ?_ (fun _ => ?_)
    · intro y0 y1 y2
      unfold tollbarref06_size.j1
      repeat' first
      | (with_reducible exact ih0 _ _ _)
      | (with_reducible exact ih1 _ _ _)
      | (with_reducible exact ih2 _)
      | (with_reducible exact tollbarref02_Hex.mono _ _)
      | (with_reducible exact tollbarref02_Value.mono _ _)
      | (with_reducible exact LeO.refl _)
      | (with_reducible exact LeO.none _)
      | (with_reducible refine LeO.ite ?_ ?_)
      | (with_reducible refine LeO.bind ?_ (fun _ => ?_))
      | exact ih0 _ _ _
      | exact ih1 _ _ _
      | exact ih2 _
      | exact tollbarref02_Hex.mono _ _
      | exact tollbarref02_Value.mono _ _
      | exact LeO.none _
      | refine LeO.ite ?_ ?_
      | refine LeO.bind ?_ (fun _ => ?_)
    · intro y0
      unfold tollbarref06_size.l1
      repeat' first
      | (with_reducible exact ih0 _ _ _)
      | (with_reducible exact ih1 _ _ _)
      | (with_reducible exact ih2 _)
      | (with_reducible exact tollbarref02_Hex.mono _ _)
      | (with_reducible exact tollbarref02_Value.mono _ _)
      | (with_reducible exact LeO.refl _)
      | (with_reducible exact LeO.none _)
      | (with_reducible refine LeO.ite ?_ ?_)
      | (with_reducible refine LeO.bind ?_ (fun _ => ?_))
      | exact ih0 _ _ _
      | exact ih1 _ _ _
      | exact ih2 _
      | exact tollbarref02_Hex.mono _ _
      | exact tollbarref02_Value.mono _ _
      | exact LeO.none _
      | refine LeO.ite ?_ ?_
      | refine LeO.bind ?_ (fun _ => ?_)
theorem tollbarref06_size.mono : ∀ a0 k, LeO (tollbarref06_size.f k a0) (tollbarref06_size.f (k + 1) a0) := by
  intro a0 k
  obtain ⟨ih0, ih1, ih2⟩ := tollbarref06_size.mono_l k
  unfold tollbarref06_size.f
  repeat' first
      | (with_reducible exact ih0 _ _ _)
      | (with_reducible exact ih1 _ _ _)
      | (with_reducible exact ih2 _)
      | (with_reducible exact tollbarref02_Hex.mono _ _)
      | (with_reducible exact tollbarref02_Value.mono _ _)
      | (with_reducible exact LeO.refl _)
      | (with_reducible exact LeO.none _)
      | (with_reducible refine LeO.ite ?_ ?_)
      | (with_reducible refine LeO.bind ?_ (fun _ => ?_))
      | exact ih0 _ _ _
      | exact ih1 _ _ _
      | exact ih2 _
      | exact tollbarref02_Hex.mono _ _
      | exact tollbarref02_Value.mono _ _
      | exact LeO.none _
      | refine LeO.ite ?_ ?_
      | refine LeO.bind ?_ (fun _ => ?_)
set_option maxHeartbeats 8000000 in
set_option maxRecDepth 100000 in
theorem tollbarref06_size.calls (k : Nat) (a0 : ByteArray) (r1 : Int) (r2 : Bool) (w : World) (h : tollbarref06_size.f k a0 = some (r1, r2)) :
    Calls Tryd.prog 60 #[.string a0] w fun e w' => e = .returned (.tuple #[.int .i64 r1, .bool r2]) ∧ Drawn0 w w' := by
  have H : (tollbarref06_size.l0 k a0 (a0.size : Int) (wrap64 ((a0.size : Int) - 1))) = some (r1, r2) := h
  clear h
  have H' := Aside0.mk H
  clear H
  go_enter Tryd.func60, Tryd.ntmps60
  go_wp2
  go_loopg [4, 5] k (fun kq v4 v5 w' => ∃ (x4_1 : Int) (x5_1 : Int), v4 = .int .i64 x4_1 ∧ v5 = .int .i64 x5_1 ∧ Aside0 (tollbarref06_size.l0 kq a0 x4_1 x5_1 = some (r1, r2)) ∧ Aside0 (kq ≤ k) ∧ Drawn0 w w')
  case atStart => exact ⟨((a0.size : Int)), (wrap64 ((a0.size : Int) - 1)), (by first | rfl | (simp; done) | (simp [*]; done)), (by first | rfl | (simp; done) | (simp [*]; done)), H', ⟨Nat.le_refl _⟩, by repeat (first | exact Drawn0.refl _ | apply Drawn0.step)⟩
  case round =>
    clear H'
    obtain ⟨x4_1, x5_1, rfl, rfl, HA, HK1, ⟨m1, rfl⟩⟩ := hrel
    cases gk with
    | zero => exact absurd HA.out (by simp [tollbarref06_size.l0])
    | succ k1 =>
      have H := HA.out
      clear HA
      simp only [tollbarref06_size.l0] at H
      by_cases c2 : x5_1 ≥ 0
      · rw [if_pos c2] at H
        have c2b0 : decide (0 ≤ x5_1) = true := decide_eq_true c2
        clear c2
        by_cases c3 : 0 ≤ x5_1
        · rw [if_pos c3] at H
          have c3b0 : decide (0 ≤ x5_1) = true := decide_eq_true c3
          clear c3
          by_cases c4 : x5_1 < (a0.size : Int)
          · rw [if_pos c4] at H
            have c4b0 : decide (x5_1 < (a0.size : Int)) = true := decide_eq_true c4
            clear c4
            by_cases c6 : (bt a0 x5_1) = 59
            · rw [if_pos c6] at H
              have c6b0 : ((bt a0 x5_1) == 59) = true := beq_iff_eq.mpr c6
              have c6b1 : ((bt a0 x5_1) != 59) = false := bne_eq_false_iff_eq.mpr c6
              clear c6
              have H' := Aside0.mk H
              clear H
              have p5 : 0 ≤ (x5_1 : Int) := of_decide_eq_true (by first | (with_reducible assumption) | assumption)
              have q5 : x5_1 < (a0.size : Int) := of_decide_eq_true (by first | (with_reducible assumption) | assumption)
              have hx5 := bt_at a0 x5_1
              replace p5 := eq_true p5
              replace q5 := eq_true q5
              go_wp2
              go_roundg k1
              case measure => have := HK1.out; omega
              case rel => exact ⟨(x5_1), (wrap64 (x5_1 - 1)), (by first | rfl | (simp; done) | (simp [*]; done)), (by first | rfl | (simp; done) | (simp [*]; done)), H', ⟨by have := HK1.out; omega⟩, by repeat (first | exact Drawn0.refl _ | apply Drawn0.step)⟩
            · rw [if_neg c6] at H
              have c6b0 : ((bt a0 x5_1) == 59) = false := beq_eq_false_iff_ne.mpr c6
              have c6b1 : ((bt a0 x5_1) != 59) = true := bne_iff_ne.mpr c6
              have H' := Aside0.mk H
              clear H
              have p5 : 0 ≤ (x5_1 : Int) := of_decide_eq_true (by first | (with_reducible assumption) | assumption)
              have q5 : x5_1 < (a0.size : Int) := of_decide_eq_true (by first | (with_reducible assumption) | assumption)
              have hx5 := bt_at a0 x5_1
              replace p5 := eq_true p5
              replace q5 := eq_true q5
              go_wp2
              go_roundg k1
              case measure => have := HK1.out; omega
              case rel => exact ⟨(x4_1), (wrap64 (x5_1 - 1)), (by first | rfl | (simp; done) | (simp [*]; done)), (by first | rfl | (simp; done) | (simp [*]; done)), H', ⟨by have := HK1.out; omega⟩, by repeat (first | exact Drawn0.refl _ | apply Drawn0.step)⟩
          · rw [if_neg c4] at H
            exact absurd H (by simp)
        · rw [if_neg c3] at H
          exact absurd H (by simp)
      · rw [if_neg c2] at H
        have c2b0 : decide (0 ≤ x5_1) = false := decide_eq_false c2
        clear c2
        have HC7 := Aside0.mk H
        clear H
        go_upto_region 7 with (fail)
        go_cut [32] (fun v32 wc => ∃ (kq : Nat) (x32_6 : Bool), v32 = .bool x32_6 ∧ Aside0 (tollbarref06_size.j1 kq a0 x4_1 x32_6 = some (r1, r2)) ∧ Aside0 (kq ≤ k1) ∧ Drawn0 w wc)
        case first =>
          have H := HC7.out
          clear HC7
          by_cases c8 : x4_1 < (a0.size : Int)
          · rw [if_pos c8] at H
            have c8b0 : decide (x4_1 < (a0.size : Int)) = true := decide_eq_true c8
            clear c8
            (first | rw [c8b0] | (simp only [i64_w, i32_w]; rw [c8b0]) | skip)
            obtain ⟨ji9, hji9⟩ : ∃ j_ : Int, (wrap64 (x4_1 + 1)) = j_ := ⟨_, rfl⟩
            replace H : (if 0 ≤ (ji9) then (if (ji9) ≤ (a0.size : Int) then ((tollbarref02_Value.f k1 (a0.extract ((ji9) : Int).toNat a0.size)).bind fun t454 => (tollbarref06_size.j1 k1 a0 x4_1 (!t454))) else (none)) else (none)) = some (r1, r2) := by first | (rw [hji9] at H; exact H) | (simp only [hji9] at H ⊢; exact H)
            have hji9w : (IntKind.i64.wrap (x4_1 + 1)) = ji9 := (i64_w _).trans hji9
            by_cases c10 : 0 ≤ (ji9)
            · rw [if_pos c10] at H
              have c10b0 := eq_true c10
              have c10b1 : decide (0 ≤ (ji9)) = true := decide_eq_true c10
              clear c10
              by_cases c11 : (ji9) ≤ (a0.size : Int)
              · rw [if_pos c11] at H
                have c11b0 := eq_true c11
                have c11b1 : decide ((ji9) ≤ (a0.size : Int)) = true := decide_eq_true c11
                clear c11
                replace H := Option.bind_eq_some_iff.mp H
                obtain ⟨t454, A120, H⟩ := H
                replace H : (tollbarref06_size.j1 k1 a0 x4_1 (!t454)) = some (r1, r2) := H
                have A12 := Aside0.mk A120
                clear A120
                have H' := Aside0.mk H
                clear H
                go_wp2_with (first | (go_at_call 49; (with_reducible refine (tollbarref02_Value.calls k1 (a0.extract ((ji9) : Int).toNat a0.size) t454 _ A12.out).mono ?_); rintro e w' ⟨rfl, ⟨nd, rfl⟩⟩; (try clear A12)))
                go_meet
                case rel => exact ⟨_, (!t454), (by first | rfl | (simp; done) | (simp [*]; done)), H', ⟨by have := HK1.out; first | omega | exact Nat.le_refl _⟩, by repeat (first | exact Drawn0.refl _ | apply Drawn0.step)⟩
              · rw [if_neg c11] at H
                exact absurd H (by simp)
            · rw [if_neg c10] at H
              exact absurd H (by simp)
          · rw [if_neg c8] at H
            have c8b0 : decide (x4_1 < (a0.size : Int)) = false := decide_eq_false c8
            clear c8
            (first | rw [c8b0] | (simp only [i64_w, i32_w]; rw [c8b0]) | skip)
            have H' := Aside0.mk H
            clear H
            go_wp2
            go_meet
            case rel => exact ⟨_, (false), (by first | rfl | (simp; done) | (simp [*]; done)), H', ⟨by have := HK1.out; first | omega | exact Nat.le_refl _⟩, by repeat (first | exact Drawn0.refl _ | apply Drawn0.step)⟩
        case rest =>
          clear HC7
          try clear c1
          try clear c2
          try clear c2b0
          try clear p2
          try clear c3
          try clear c3b0
          try clear c4
          try clear c4b0
          try clear p5
          try clear q5
          try clear hx5
          try clear c6
          try clear c6b0
          try clear c6b1
          try clear p6
          try clear c8
          try clear c8b0
          try clear c10
          try clear c10b0
          try clear c10b1
          try clear c11
          try clear c11b0
          try clear c11b1
          try clear p5
          try clear q5
          obtain ⟨kq, x32_6, rfl, HA, HJ6, ⟨mc6, rfl⟩⟩ := hcut
          cases kq with
          | zero => exact absurd HA.out (by simp [tollbarref06_size.j1])
          | succ kj6 =>
            have H := HA.out
            clear HA
            simp only [tollbarref06_size.j1] at H
            by_cases c13 : x32_6 = true
            · subst c13
              have H1 : (some (0, false)) = some (r1, r2) := by rw [if_pos rfl] at H; exact H
              clear H
              have H := H1
              clear H1
              simp only [Option.some.injEq, Prod.mk.injEq] at H
              obtain ⟨rfl, rfl⟩ := H
              go_wp2
              go_ret2
              exact ⟨by first | rfl | (simp; done) | (simp [*]; done), by repeat (first | exact Drawn0.refl _ | apply Drawn0.step)⟩
            · replace c13 := Bool.eq_false_iff.mpr c13
              subst c13
              have H1 : (if 0 ≤ x4_1 then (if x4_1 ≤ (a0.size : Int) then (tollbarref06_size.l1 kj6 (a0.extract 0 (x4_1 : Int).toNat)) else (none)) else (none)) = some (r1, r2) := by rw [if_neg (show ¬ (false = true) by decide)] at H; exact H
              clear H
              have H := H1
              clear H1
              by_cases c14 : 0 ≤ x4_1
              · rw [if_pos c14] at H
                have c14b0 := eq_true c14
                have c14b1 : decide (0 ≤ x4_1) = true := decide_eq_true c14
                clear c14
                by_cases c15 : x4_1 ≤ (a0.size : Int)
                · rw [if_pos c15] at H
                  have c15b0 := eq_true c15
                  have c15b1 : decide (x4_1 ≤ (a0.size : Int)) = true := decide_eq_true c15
                  clear c15
                  have H' := Aside0.mk H
                  clear H
                  go_wp2
                  go_loopg [6] kj6 (fun kq v6 w' => ∃ (x6_3 : ByteArray), v6 = .string x6_3 ∧ Aside0 (tollbarref06_size.l1 kq x6_3 = some (r1, r2)) ∧ Aside0 (kq ≤ kj6) ∧ Drawn0 w w')
                  case atStart => exact ⟨(a0.extract 0 (x4_1 : Int).toNat), (by first | rfl | (simp; done) | (simp [*]; done)), H', ⟨Nat.le_refl _⟩, by repeat (first | exact Drawn0.refl _ | apply Drawn0.step)⟩
                  case round =>
                    clear H'
                    try clear c1
                    try clear c2
                    try clear c2b0
                    try clear p2
                    try clear c3
                    try clear c3b0
                    try clear c4
                    try clear c4b0
                    try clear p5
                    try clear q5
                    try clear hx5
                    try clear c6
                    try clear c6b0
                    try clear c6b1
                    try clear p6
                    try clear c8
                    try clear c8b0
                    try clear c10
                    try clear c10b0
                    try clear c10b1
                    try clear c11
                    try clear c11b0
                    try clear c11b1
                    try clear c13
                    try clear c14
                    try clear c14b0
                    try clear c14b1
                    try clear c15
                    try clear c15b0
                    try clear c15b1
                    try clear p2
                    try clear p5
                    try clear p6
                    try clear q5
                    obtain ⟨x6_3, rfl, HA, HK3, ⟨m3, rfl⟩⟩ := hrel
                    cases gk with
                    | zero => exact absurd HA.out (by simp [tollbarref06_size.l1])
                    | succ k3 =>
                      have H := HA.out
                      clear HA
                      simp only [tollbarref06_size.l1] at H
                      by_cases c16 : (x6_3.size : Int) > 0
                      · rw [if_pos c16] at H
                        have c16b0 : decide (0 < (x6_3.size : Int)) = true := decide_eq_true c16
                        have c16b1 : decide (0 < x6_3.size) = true := decide_eq_true (by omega)
                        clear c16
                        obtain ⟨ji17, hji17⟩ : ∃ j_ : Int, (wrap64 ((x6_3.size : Int) - 1)) = j_ := ⟨_, rfl⟩
                        replace H : (if 0 ≤ (ji17) then (if (ji17) < (x6_3.size : Int) then (if (bt x6_3 (ji17)) = 32 then (if (ji17) ≤ (x6_3.size : Int) then (tollbarref06_size.l1 k3 (x6_3.extract 0 ((ji17) : Int).toNat)) else (none)) else (if (bt x6_3 (ji17)) = 9 then (if (ji17) ≤ (x6_3.size : Int) then (tollbarref06_size.l1 k3 (x6_3.extract 0 ((ji17) : Int).toNat)) else (none)) else ((tollbarref02_Hex.f k3 x6_3).bind fun bt455 => (some (bt455.1, bt455.2))))) else (none)) else (none)) = some (r1, r2) := by first | (rw [hji17] at H; exact H) | (simp only [hji17] at H ⊢; exact H)
                        have hji17w : (IntKind.i64.wrap ((x6_3.size : Int) - 1)) = ji17 := (i64_w _).trans hji17
                        by_cases c18 : 0 ≤ (ji17)
                        · rw [if_pos c18] at H
                          have c18b0 : decide (0 ≤ (ji17)) = true := decide_eq_true c18
                          clear c18
                          by_cases c19 : (ji17) < (x6_3.size : Int)
                          · rw [if_pos c19] at H
                            have c19b0 : decide ((ji17) < (x6_3.size : Int)) = true := decide_eq_true c19
                            clear c19
                            by_cases c21 : (bt x6_3 (ji17)) = 32
                            · rw [if_pos c21] at H
                              have c21b0 : ((bt x6_3 (ji17)) == 32) = true := beq_iff_eq.mpr c21
                              have c21b1 : ((bt x6_3 (ji17)) != 32) = false := bne_eq_false_iff_eq.mpr c21
                              clear c21
                              have c22b0 := eq_true (of_decide_eq_true (by first | (with_reducible assumption) | assumption) : 0 ≤ (ji17))
                              by_cases c23 : (ji17) ≤ (x6_3.size : Int)
                              · rw [if_pos c23] at H
                                have c23b0 := eq_true c23
                                have c23b1 : decide ((ji17) ≤ (x6_3.size : Int)) = true := decide_eq_true c23
                                clear c23
                                have H' := Aside0.mk H
                                clear H
                                have p20 : 0 ≤ ((ji17) : Int) := of_decide_eq_true (by first | (with_reducible assumption) | assumption)
                                have q20 : (ji17) < (x6_3.size : Int) := of_decide_eq_true (by first | (with_reducible assumption) | assumption)
                                have hx20 := bt_at x6_3 (ji17)
                                replace p20 := eq_true p20
                                replace q20 := eq_true q20
                                go_wp2
                                go_roundg k3
                                case measure => have := HK1.out; have := HJ6.out; have := HK3.out; omega
                                case rel => exact ⟨(x6_3.extract 0 ((ji17) : Int).toNat), (by first | rfl | (simp; done) | (simp only [← hji17] <;> (first | rfl | simp)) | (simp [*]; done)), H', ⟨by have := HK1.out; have := HJ6.out; have := HK3.out; omega⟩, by repeat (first | exact Drawn0.refl _ | apply Drawn0.step)⟩
                              · rw [if_neg c23] at H
                                exact absurd H (by simp)
                            · rw [if_neg c21] at H
                              have c21b0 : ((bt x6_3 (ji17)) == 32) = false := beq_eq_false_iff_ne.mpr c21
                              have c21b1 : ((bt x6_3 (ji17)) != 32) = true := bne_iff_ne.mpr c21
                              by_cases c25 : (bt x6_3 (ji17)) = 9
                              · rw [if_pos c25] at H
                                have c25b0 : ((bt x6_3 (ji17)) == 9) = true := beq_iff_eq.mpr c25
                                have c25b1 : ((bt x6_3 (ji17)) != 9) = false := bne_eq_false_iff_eq.mpr c25
                                clear c25
                                have c26b0 := eq_true (of_decide_eq_true (by first | (with_reducible assumption) | assumption) : 0 ≤ (ji17))
                                by_cases c27 : (ji17) ≤ (x6_3.size : Int)
                                · rw [if_pos c27] at H
                                  have c27b0 := eq_true c27
                                  have c27b1 : decide ((ji17) ≤ (x6_3.size : Int)) = true := decide_eq_true c27
                                  clear c27
                                  have H' := Aside0.mk H
                                  clear H
                                  have p20 : 0 ≤ ((ji17) : Int) := of_decide_eq_true (by first | (with_reducible assumption) | assumption)
                                  have q20 : (ji17) < (x6_3.size : Int) := of_decide_eq_true (by first | (with_reducible assumption) | assumption)
                                  have hx20 := bt_at x6_3 (ji17)
                                  replace p20 := eq_true p20
                                  replace q20 := eq_true q20
                                  have p24 : 0 ≤ ((ji17) : Int) := of_decide_eq_true (by first | (with_reducible assumption) | assumption)
                                  have q24 : (ji17) < (x6_3.size : Int) := of_decide_eq_true (by first | (with_reducible assumption) | assumption)
                                  have hx24 := bt_at x6_3 (ji17)
                                  replace p24 := eq_true p24
                                  replace q24 := eq_true q24
                                  go_wp2
                                  go_roundg k3
                                  case measure => have := HK1.out; have := HJ6.out; have := HK3.out; omega
                                  case rel => exact ⟨(x6_3.extract 0 ((ji17) : Int).toNat), (by first | rfl | (simp; done) | (simp only [← hji17] <;> (first | rfl | simp)) | (simp [*]; done)), H', ⟨by have := HK1.out; have := HJ6.out; have := HK3.out; omega⟩, by repeat (first | exact Drawn0.refl _ | apply Drawn0.step)⟩
                                · rw [if_neg c27] at H
                                  exact absurd H (by simp)
                              · rw [if_neg c25] at H
                                have c25b0 : ((bt x6_3 (ji17)) == 9) = false := beq_eq_false_iff_ne.mpr c25
                                have c25b1 : ((bt x6_3 (ji17)) != 9) = true := bne_iff_ne.mpr c25
                                replace H := Option.bind_eq_some_iff.mp H
                                obtain ⟨⟨t455, t456⟩, A280, H⟩ := H
                                replace H : (some (t455, t456)) = some (r1, r2) := H
                                have A28 := Aside0.mk A280
                                clear A280
                                simp only [Option.some.injEq, Prod.mk.injEq] at H
                                obtain ⟨rfl, rfl⟩ := H
                                have p20 : 0 ≤ ((ji17) : Int) := of_decide_eq_true (by first | (with_reducible assumption) | assumption)
                                have q20 : (ji17) < (x6_3.size : Int) := of_decide_eq_true (by first | (with_reducible assumption) | assumption)
                                have hx20 := bt_at x6_3 (ji17)
                                replace p20 := eq_true p20
                                replace q20 := eq_true q20
                                have p24 : 0 ≤ ((ji17) : Int) := of_decide_eq_true (by first | (with_reducible assumption) | assumption)
                                have q24 : (ji17) < (x6_3.size : Int) := of_decide_eq_true (by first | (with_reducible assumption) | assumption)
                                have hx24 := bt_at x6_3 (ji17)
                                replace p24 := eq_true p24
                                replace q24 := eq_true q24
                                go_wp2_with (first | ((with_reducible refine gate_callee (f := 90) rfl ?_); refine goesL_ (some 61) rfl rfl Tryd.func90 (by kernel_rfl) rfl #[.string x6_3] rfl (by (try simp only [List.map_toArray, List.map_cons, List.map_nil]); first | done | rfl | (simp only [List.length_drop, List.length_take]; rfl)) ?_; (with_reducible refine (tollbarref02_Hex.calls k3 x6_3 t455 t456 _ A28.out).mono ?_); rintro e w' ⟨rfl, ⟨nd, rfl⟩⟩; (try clear A28); refine ⟨_, rfl, ?_⟩))
                                go_ret2
                                exact ⟨by first | rfl | (simp; done) | (simp only [← hji17] <;> (first | rfl | simp)) | (simp [*]; done), by repeat (first | exact Drawn0.refl _ | apply Drawn0.step)⟩
                          · rw [if_neg c19] at H
                            exact absurd H (by simp)
                        · rw [if_neg c18] at H
                          exact absurd H (by simp)
                      · rw [if_neg c16] at H
                        have c16b0 : decide (0 < (x6_3.size : Int)) = false := decide_eq_false c16
                        have c16b1 : decide (0 < x6_3.size) = false := decide_eq_false (by omega)
                        clear c16
                        replace H := Option.bind_eq_some_iff.mp H
                        obtain ⟨⟨t457, t458⟩, A290, H⟩ := H
                        replace H : (some (t457, t458)) = some (r1, r2) := H
                        have A29 := Aside0.mk A290
                        clear A290
                        simp only [Option.some.injEq, Prod.mk.injEq] at H
                        obtain ⟨rfl, rfl⟩ := H
                        go_wp2_with (first | ((with_reducible refine gate_callee (f := 90) rfl ?_); refine goesL_ (some 61) rfl rfl Tryd.func90 (by kernel_rfl) rfl #[.string x6_3] rfl (by (try simp only [List.map_toArray, List.map_cons, List.map_nil]); first | done | rfl | (simp only [List.length_drop, List.length_take]; rfl)) ?_; (with_reducible refine (tollbarref02_Hex.calls k3 x6_3 t457 t458 _ A29.out).mono ?_); rintro e w' ⟨rfl, ⟨nd, rfl⟩⟩; (try clear A29); refine ⟨_, rfl, ?_⟩))
                        go_ret2
                        exact ⟨by first | rfl | (simp; done) | (simp [*]; done), by repeat (first | exact Drawn0.refl _ | apply Drawn0.step)⟩
                · rw [if_neg c15] at H
                  exact absurd H (by simp)
              · rw [if_neg c14] at H
                exact absurd H (by simp)

end Go.Proofs.YtjgpifjfaiaidaaDoor.P

