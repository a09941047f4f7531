/- Each function below answers as its Lean twin says. No further condition. (Laid by this repo's packseat.py out of the seat's texts and of the print's words.) -/
import Derived.Test.YtjgpifjfaiaidaaDoorU0base0x0
import Derived.Test.YtjgpifjfaiaidaaDoorUtollbarref020x0
namespace Go.Proofs.YtjgpifjfaiaidaaDoor.P
open Go.RowKit Go.Proofs.YtjgpifjfaiaidaaDoorW.PrintWords Go.Proofs.YtjgpifjfaiaidaaDoorW.PrintLast Go.Proofs.YtjgpifjfaiaidaaDoorW.PrintMore
attribute [local go_sem] max2_int min2_int max_two min_two max_three min_three max_four min_four   -- for this text's walks alone
set_option linter.unusedVariables false
set_option linter.unusedSimpArgs false

mutual
def tollbarref02_Hex.j0 : Nat → ByteArray → Bool → Option (Int × Bool)
  | 0, _, _ => none
  | k + 1, x0, x14 => if x14 = true then (some (0, false)) else (tollbarref02_Hex.l0 k x0 0 0)
def tollbarref02_Hex.l0 : Nat → ByteArray → Int → Int → Option (Int × Bool)
  | 0, _, _, _ => none
  | k + 1, x0, x4, x5 => if x5 < (x0.size : Int) then (if 0 ≤ x5 then ((tollbarref02_Digit.f (bt x0 x5)).bind fun t453 => (if t453 = true then (tollbarref02_Hex.l0 k x0 (wrap64 ((wrap64 (x4 * 16)) + (((bt x0 x5) - 48) % 256))) (wrap64 (x5 + 1))) else (if (bt x0 x5) ≥ 97 then (tollbarref02_Hex.j2 k x0 x4 x5 (bt x0 x5) (decide ((bt x0 x5) ≤ 102))) else (tollbarref02_Hex.j2 k x0 x4 x5 (bt x0 x5) false)))) else (none)) else (some (x4, true))
def tollbarref02_Hex.j2 : Nat → ByteArray → Int → Int → Int → Bool → Option (Int × Bool)
  | 0, _, _, _, _, _ => none
  | k + 1, x0, x4, x5, x6, x33 => if x33 = true then (tollbarref02_Hex.l0 k x0 (wrap64 ((wrap64 ((wrap64 (x4 * 16)) + ((x6 - 97) % 256))) + 10)) (wrap64 (x5 + 1))) else (if x6 ≥ 65 then (if x6 ≤ 70 then (tollbarref02_Hex.l0 k x0 (wrap64 ((wrap64 ((wrap64 (x4 * 16)) + ((x6 - 65) % 256))) + 10)) (wrap64 (x5 + 1))) else (some (0, false))) else (some (0, false)))
end
def tollbarref02_Hex.f (k : Nat) (a0 : ByteArray) : Option (Int × Bool) := if (a0.size : Int) < 1 then (tollbarref02_Hex.j0 k a0 true) else (tollbarref02_Hex.j0 k a0 (decide ((a0.size : Int) > 15)))
theorem tollbarref02_Hex.mono_l : ∀ k, (∀ y0 y1, LeO (tollbarref02_Hex.j0 k y0 y1) (tollbarref02_Hex.j0 (k + 1) y0 y1)) ∧ (∀ y0 y1 y2, LeO (tollbarref02_Hex.l0 k y0 y1 y2) (tollbarref02_Hex.l0 (k + 1) y0 y1 y2)) ∧ (∀ y0 y1 y2 y3 y4, LeO (tollbarref02_Hex.j2 k y0 y1 y2 y3 y4) (tollbarref02_Hex.j2 (k + 1) y0 y1 y2 y3 y4))
  | 0 => ⟨fun _ _ r h => by simp [tollbarref02_Hex.j0] at h, fun _ _ _ r h => by simp [tollbarref02_Hex.l0] at h, fun _ _ _ _ _ r h => by simp [tollbarref02_Hex.j2] at h⟩
  | k + 1 => by
    obtain ⟨ih0, ih1, ih2⟩ := tollbarref02_Hex.mono_l k
    refine ⟨?_, ?_, ?_⟩
    · intro y0 y1
      unfold tollbarref02_Hex.j0
      repeat' first
      | (with_reducible exact ih0 _ _)
      | (with_reducible exact ih1 _ _ _)
      | (with_reducible exact ih2 _ _ _ _ _)
      | (with_reducible exact LeO.refl _)
      | (with_reducible exact LeO.none _)
      | (with_reducible refine LeO.ite ?_ ?_)
      | (with_reducible refine LeO.bind ?_ (fun _ => ?_))
      | exact ih0 _ _
      | exact ih1 _ _ _
      | exact ih2 _ _ _ _ _
      | exact LeO.none _
      | refine LeO.ite ?_ ?_
      | refine LeO.bind ?_ (fun _ => ?_)
    · intro y0 y1 y2
      unfold tollbarref02_Hex.l0
      repeat' first
      | (with_reducible exact ih0 _ _)
      | (with_reducible exact ih1 _ _ _)
      | (with_reducible exact ih2 _ _ _ _ _)
      | (with_reducible exact LeO.refl _)
      | (with_reducible exact LeO.none _)
      | (with_reducible refine LeO.ite ?_ ?_)
      | (with_reducible refine LeO.bind ?_ (fun _ => ?_))
      | exact ih0 _ _
      | exact ih1 _ _ _
      | exact ih2 _ _ _ _ _
      | exact LeO.none _
      | refine LeO.ite ?_ ?_
      | refine LeO.bind ?_ (fun _ => ?_)
    · intro y0 y1 y2 y3 y4
      unfold tollbarref02_Hex.j2
      repeat' first
      | (with_reducible exact ih0 _ _)
      | (with_reducible exact ih1 _ _ _)
      | (with_reducible exact ih2 _ _ _ _ _)
      | (with_reducible exact LeO.refl _)
      | (with_reducible exact LeO.none _)
      | (with_reducible refine LeO.ite ?_ ?_)
      | (with_reducible refine LeO.bind ?_ (fun _ => ?_))
      | exact ih0 _ _
      | exact ih1 _ _ _
      | exact ih2 _ _ _ _ _
      | exact LeO.none _
      | refine LeO.ite ?_ ?_
      | refine LeO.bind ?_ (fun _ => ?_)
theorem tollbarref02_Hex.mono : ∀ a0 k, LeO (tollbarref02_Hex.f k a0) (tollbarref02_Hex.f (k + 1) a0) := by
  intro a0 k
  obtain ⟨ih0, ih1, ih2⟩ := tollbarref02_Hex.mono_l k
  unfold tollbarref02_Hex.f
  repeat' first
      | (with_reducible exact ih0 _ _)
      | (with_reducible exact ih1 _ _ _)
      | (with_reducible exact ih2 _ _ _ _ _)
      | (with_reducible exact LeO.refl _)
      | (with_reducible exact LeO.none _)
      | (with_reducible refine LeO.ite ?_ ?_)
      | (with_reducible refine LeO.bind ?_ (fun _ => ?_))
      | exact ih0 _ _
      | exact ih1 _ _ _
      | exact ih2 _ _ _ _ _
      | exact LeO.none _
      | refine LeO.ite ?_ ?_
      | refine LeO.bind ?_ (fun _ => ?_)
set_option maxHeartbeats 8000000 in
set_option maxRecDepth 100000 in
theorem tollbarref02_Hex.calls (k : Nat) (a0 : ByteArray) (r1 : Int) (r2 : Bool) (w : World) (h : tollbarref02_Hex.f k a0 = some (r1, r2)) :
    Calls Tryd.prog 90 #[.string a0] w fun e w' => e = .returned (.tuple #[.int .i64 r1, .bool r2]) ∧ Drawn0 w w' := by
  have H : (if (a0.size : Int) < 1 then (tollbarref02_Hex.j0 k a0 true) else (tollbarref02_Hex.j0 k a0 (decide ((a0.size : Int) > 15)))) = some (r1, r2) := h
  clear h
  have HC2 := Aside0.mk H
  clear H
  go_enter Tryd.func90, Tryd.ntmps90
  go_upto_region 1 with (fail)
  go_cut [14] (fun v14 wc => ∃ (kq : Nat) (x14_1 : Bool), v14 = .bool x14_1 ∧ Aside0 (tollbarref02_Hex.j0 kq a0 x14_1 = some (r1, r2)) ∧ Aside0 (kq ≤ k) ∧ Drawn0 w wc)
  case first =>
    have H := HC2.out
    clear HC2
    by_cases c3 : (a0.size : Int) < 1
    · rw [if_pos c3] at H
      have c3b0 : decide ((a0.size : Int) < 1) = true := decide_eq_true c3
      have c3b1 : decide (a0.size < 1) = true := decide_eq_true (by omega)
      clear c3
      (first | rw [c3b0] | (simp only [i64_w, i32_w]; rw [c3b0]) | skip)
      have H' := Aside0.mk H
      clear H
      go_wp2
      go_meet
      case rel => exact ⟨_, (true), (by first | rfl | (simp; done) | (simp [*]; done)), H', ⟨by first | omega | exact Nat.le_refl _⟩, by repeat (first | exact Drawn0.refl _ | apply Drawn0.step)⟩
    · rw [if_neg c3] at H
      have c3b0 : decide ((a0.size : Int) < 1) = false := decide_eq_false c3
      have c3b1 : decide (a0.size < 1) = false := decide_eq_false (by omega)
      clear c3
      (first | rw [c3b0] | (simp only [i64_w, i32_w]; rw [c3b0]) | skip)
      have H' := Aside0.mk H
      clear H
      go_wp2
      go_meet
      case rel => exact ⟨_, (decide ((a0.size : Int) > 15)), (by first | rfl | (simp; done) | (simp [*]; done)), H', ⟨by first | omega | exact Nat.le_refl _⟩, by repeat (first | exact Drawn0.refl _ | apply Drawn0.step)⟩
  case rest =>
    clear HC2
    try clear p2
    try clear c3
    try clear c3b0
    try clear c3b1
    obtain ⟨kq, x14_1, rfl, HA, HJ1, ⟨mc1, rfl⟩⟩ := hcut
    cases kq with
    | zero => exact absurd HA.out (by simp [tollbarref02_Hex.j0])
    | succ kj1 =>
      have H := HA.out
      clear HA
      simp only [tollbarref02_Hex.j0] at H
      by_cases c4 : x14_1 = true
      · subst c4
        have H1 : (some (0, false)) = some (r1, r2) := by rw [if_pos rfl] at H; exact H
        clear H
        have H := H1
        clear H1
        simp only [Option.some.injEq, Prod.mk.injEq] at H
        obtain ⟨rfl, rfl⟩ := H
        go_wp2
        go_ret2
        exact ⟨by first | rfl | (simp; done) | (simp [*]; done), by repeat (first | exact Drawn0.refl _ | apply Drawn0.step)⟩
      · replace c4 := Bool.eq_false_iff.mpr c4
        subst c4
        have H1 : (tollbarref02_Hex.l0 kj1 a0 0 0) = some (r1, r2) := by rw [if_neg (show ¬ (false = true) by decide)] at H; exact H
        clear H
        have H := H1
        clear H1
        have H' := Aside0.mk H
        clear H
        go_wp2
        go_loopg [4, 5] kj1 (fun kq v4 v5 w' => ∃ (x4_2 : Int) (x5_2 : Int), v4 = .int .i64 x4_2 ∧ v5 = .int .i64 x5_2 ∧ Aside0 (tollbarref02_Hex.l0 kq a0 x4_2 x5_2 = some (r1, r2)) ∧ Aside0 (kq ≤ kj1) ∧ Drawn0 w w')
        case atStart => exact ⟨(0), (0), (by first | rfl | (simp; done) | (simp [*]; done)), (by first | rfl | (simp; done) | (simp [*]; done)), H', ⟨Nat.le_refl _⟩, by repeat (first | exact Drawn0.refl _ | apply Drawn0.step)⟩
        case round =>
          clear H'
          try clear c1
          try clear p2
          try clear c3
          try clear c3b0
          try clear c3b1
          try clear c4
          try clear p2
          obtain ⟨x4_2, x5_2, rfl, rfl, HA, HK2, ⟨m2, rfl⟩⟩ := hrel
          cases gk with
          | zero => exact absurd HA.out (by simp [tollbarref02_Hex.l0])
          | succ k2 =>
            have H := HA.out
            clear HA
            simp only [tollbarref02_Hex.l0] at H
            by_cases c5 : x5_2 < (a0.size : Int)
            · rw [if_pos c5] at H
              have c5b0 : decide (x5_2 < (a0.size : Int)) = true := decide_eq_true c5
              clear c5
              by_cases c6 : 0 ≤ x5_2
              · rw [if_pos c6] at H
                have c6b0 : decide (0 ≤ x5_2) = true := decide_eq_true c6
                clear c6
                replace H := Option.bind_eq_some_iff.mp H
                obtain ⟨t453, A80, H⟩ := H
                replace H : (if t453 = true then (tollbarref02_Hex.l0 k2 a0 (wrap64 ((wrap64 (x4_2 * 16)) + (((bt a0 x5_2) - 48) % 256))) (wrap64 (x5_2 + 1))) else (if (bt a0 x5_2) ≥ 97 then (tollbarref02_Hex.j2 k2 a0 x4_2 x5_2 (bt a0 x5_2) (decide ((bt a0 x5_2) ≤ 102))) else (tollbarref02_Hex.j2 k2 a0 x4_2 x5_2 (bt a0 x5_2) false))) = some (r1, r2) := H
                have A8 := Aside0.mk A80
                clear A80
                by_cases c9 : t453 = true
                · subst c9
                  have H1 : (tollbarref02_Hex.l0 k2 a0 (wrap64 ((wrap64 (x4_2 * 16)) + (((bt a0 x5_2) - 48) % 256))) (wrap64 (x5_2 + 1))) = some (r1, r2) := by rw [if_pos rfl] at H; exact H
                  clear H
                  have H := H1
                  clear H1
                  have H' := Aside0.mk H
                  clear H
                  have p7 : 0 ≤ (x5_2 : Int) := of_decide_eq_true (by first | (with_reducible assumption) | assumption)
                  have q7 : x5_2 < (a0.size : Int) := of_decide_eq_true (by first | (with_reducible assumption) | assumption)
                  have hx7 := bt_at a0 x5_2
                  replace p7 := eq_true p7
                  replace q7 := eq_true q7
                  go_wp2_with (first | ((with_reducible refine gate_callee (f := 48) rfl ?_); refine goesL_ (some 26) rfl rfl Tryd.func48 (by kernel_rfl) rfl #[.int .u8 (bt a0 x5_2)] rfl (by (try simp only [List.map_toArray, List.map_cons, List.map_nil]); first | done | rfl | (simp only [List.length_drop, List.length_take]; rfl)) ?_; (with_reducible refine (tollbarref02_Digit.calls (bt a0 x5_2) true _ A8.out).mono ?_); rintro e w' ⟨rfl, ⟨nd, rfl⟩⟩; (try clear A8); refine ⟨_, rfl, ?_⟩))
                  go_roundg k2
                  case measure => have := HJ1.out; have := HK2.out; omega
                  case rel => exact ⟨(wrap64 ((wrap64 (x4_2 * 16)) + (((bt a0 x5_2) - 48) % 256))), (wrap64 (x5_2 + 1)), (by first | rfl | (simp; done) | (simp [*]; done)), (by first | rfl | (simp; done) | (simp [*]; done)), H', ⟨by have := HJ1.out; have := HK2.out; omega⟩, by repeat (first | exact Drawn0.refl _ | apply Drawn0.step)⟩
                · replace c9 := Bool.eq_false_iff.mpr c9
                  subst c9
                  have H1 : (if (bt a0 x5_2) ≥ 97 then (tollbarref02_Hex.j2 k2 a0 x4_2 x5_2 (bt a0 x5_2) (decide ((bt a0 x5_2) ≤ 102))) else (tollbarref02_Hex.j2 k2 a0 x4_2 x5_2 (bt a0 x5_2) false)) = some (r1, r2) := by rw [if_neg (show ¬ (false = true) by decide)] at H; exact H
                  clear H
                  have H := H1
                  clear H1
                  have HC10 := Aside0.mk H
                  clear H
                  have p7 : 0 ≤ (x5_2 : Int) := of_decide_eq_true (by first | (with_reducible assumption) | assumption)
                  have q7 : x5_2 < (a0.size : Int) := of_decide_eq_true (by first | (with_reducible assumption) | assumption)
                  have hx7 := bt_at a0 x5_2
                  replace p7 := eq_true p7
                  replace q7 := eq_true q7
                  go_upto_region 11 with (first | ((with_reducible refine gate_callee (f := 48) rfl ?_); refine goesL_ (some 26) rfl rfl Tryd.func48 (by kernel_rfl) rfl #[.int .u8 (bt a0 x5_2)] rfl (by (try simp only [List.map_toArray, List.map_cons, List.map_nil]); first | done | rfl | (simp only [List.length_drop, List.length_take]; rfl)) ?_; (with_reducible refine (tollbarref02_Digit.calls (bt a0 x5_2) false _ A8.out).mono ?_); rintro e w' ⟨rfl, ⟨nd, rfl⟩⟩; refine ⟨_, rfl, ?_⟩))
                  (try simp only [Act.put, List.setIfInBounds_toArray, List.set_cons_zero, List.set_cons_succ])
                  go_cut [33] (fun v33 wc => ∃ (kq : Nat) (x33_9 : Bool), v33 = .bool x33_9 ∧ Aside0 (tollbarref02_Hex.j2 kq a0 x4_2 x5_2 (bt a0 x5_2) x33_9 = some (r1, r2)) ∧ Aside0 (kq ≤ k2) ∧ Drawn0 w wc)
                  case first =>
                    have H := HC10.out
                    clear HC10
                    by_cases c11 : (bt a0 x5_2) ≥ 97
                    · rw [if_pos c11] at H
                      have c11b0 : decide (97 ≤ (bt a0 x5_2)) = true := decide_eq_true c11
                      clear c11
                      (first | rw [c11b0] | (simp only [i64_w, i32_w]; rw [c11b0]) | skip)
                      have H' := Aside0.mk H
                      clear H
                      go_wp2
                      go_meet
                      case rel => exact ⟨_, (decide ((bt a0 x5_2) ≤ 102)), (by first | rfl | (simp; done) | (simp [*]; done)), H', ⟨by have := HJ1.out; have := HK2.out; first | omega | exact Nat.le_refl _⟩, by repeat (first | exact Drawn0.refl _ | apply Drawn0.step)⟩
                    · rw [if_neg c11] at H
                      have c11b0 : decide (97 ≤ (bt a0 x5_2)) = false := decide_eq_false c11
                      clear c11
                      (first | rw [c11b0] | (simp only [i64_w, i32_w]; rw [c11b0]) | skip)
                      have H' := Aside0.mk H
                      clear H
                      go_wp2
                      go_meet
                      case rel => exact ⟨_, (false), (by first | rfl | (simp; done) | (simp [*]; done)), H', ⟨by have := HJ1.out; have := HK2.out; first | omega | exact Nat.le_refl _⟩, by repeat (first | exact Drawn0.refl _ | apply Drawn0.step)⟩
                  case rest =>
                    clear HC10
                    try clear c1
                    try clear p2
                    try clear c3
                    try clear c3b0
                    try clear c3b1
                    try clear c4
                    try clear c5
                    try clear c5b0
                    try clear c6
                    try clear c6b0
                    try clear p6
                    try clear p7
                    try clear q7
                    try clear hx7
                    try clear c9
                    try clear c11
                    try clear c11b0
                    try clear p2
                    try clear p7
                    try clear q7
                    obtain ⟨kq, x33_9, rfl, HA, HJ9, ⟨mc9, rfl⟩⟩ := hcut
                    cases kq with
                    | zero => exact absurd HA.out (by simp [tollbarref02_Hex.j2])
                    | succ kj9 =>
                      have H := HA.out
                      clear HA
                      simp only [tollbarref02_Hex.j2] at H
                      by_cases c12 : x33_9 = true
                      · subst c12
                        have H1 : (tollbarref02_Hex.l0 kj9 a0 (wrap64 ((wrap64 ((wrap64 (x4_2 * 16)) + (((bt a0 x5_2) - 97) % 256))) + 10)) (wrap64 (x5_2 + 1))) = some (r1, r2) := by rw [if_pos rfl] at H; exact H
                        clear H
                        have H := H1
                        clear H1
                        have H' := Aside0.mk H
                        clear H
                        go_wp2
                        go_roundg kj9
                        case measure => have := HJ1.out; have := HK2.out; have := HJ9.out; omega
                        case rel => exact ⟨(wrap64 ((wrap64 ((wrap64 (x4_2 * 16)) + (((bt a0 x5_2) - 97) % 256))) + 10)), (wrap64 (x5_2 + 1)), (by first | rfl | (simp; done) | (simp [*]; done)), (by first | rfl | (simp; done) | (simp [*]; done)), H', ⟨by have := HJ1.out; have := HK2.out; have := HJ9.out; omega⟩, by repeat (first | exact Drawn0.refl _ | apply Drawn0.step)⟩
                      · replace c12 := Bool.eq_false_iff.mpr c12
                        subst c12
                        have H1 : (if (bt a0 x5_2) ≥ 65 then (if (bt a0 x5_2) ≤ 70 then (tollbarref02_Hex.l0 kj9 a0 (wrap64 ((wrap64 ((wrap64 (x4_2 * 16)) + (((bt a0 x5_2) - 65) % 256))) + 10)) (wrap64 (x5_2 + 1))) else (some (0, false))) else (some (0, false))) = some (r1, r2) := by rw [if_neg (show ¬ (false = true) by decide)] at H; exact H
                        clear H
                        have H := H1
                        clear H1
                        by_cases c13 : (bt a0 x5_2) ≥ 65
                        · rw [if_pos c13] at H
                          have c13b0 : decide (65 ≤ (bt a0 x5_2)) = true := decide_eq_true c13
                          clear c13
                          by_cases c14 : (bt a0 x5_2) ≤ 70
                          · rw [if_pos c14] at H
                            have c14b0 : decide ((bt a0 x5_2) ≤ 70) = true := decide_eq_true c14
                            clear c14
                            have H' := Aside0.mk H
                            clear H
                            go_wp2
                            go_roundg kj9
                            case measure => have := HJ1.out; have := HK2.out; have := HJ9.out; omega
                            case rel => exact ⟨(wrap64 ((wrap64 ((wrap64 (x4_2 * 16)) + (((bt a0 x5_2) - 65) % 256))) + 10)), (wrap64 (x5_2 + 1)), (by first | rfl | (simp; done) | (simp [*]; done)), (by first | rfl | (simp; done) | (simp [*]; done)), H', ⟨by have := HJ1.out; have := HK2.out; have := HJ9.out; omega⟩, by repeat (first | exact Drawn0.refl _ | apply Drawn0.step)⟩
                          · rw [if_neg c14] at H
                            have c14b0 : decide ((bt a0 x5_2) ≤ 70) = false := decide_eq_false c14
                            clear c14
                            simp only [Option.some.injEq, Prod.mk.injEq] at H
                            obtain ⟨rfl, rfl⟩ := H
                            go_wp2
                            go_ret2
                            exact ⟨by first | rfl | (simp; done) | (simp [*]; done), by repeat (first | exact Drawn0.refl _ | apply Drawn0.step)⟩
                        · rw [if_neg c13] at H
                          have c13b0 : decide (65 ≤ (bt a0 x5_2)) = false := decide_eq_false c13
                          clear c13
                          simp only [Option.some.injEq, Prod.mk.injEq] at H
                          obtain ⟨rfl, rfl⟩ := H
                          go_wp2
                          go_ret2
                          exact ⟨by first | rfl | (simp; done) | (simp [*]; done), by repeat (first | exact Drawn0.refl _ | apply Drawn0.step)⟩
              · rw [if_neg c6] at H
                exact absurd H (by simp)
            · rw [if_neg c5] at H
              have c5b0 : decide (x5_2 < (a0.size : Int)) = false := decide_eq_false c5
              clear c5
              simp only [Option.some.injEq, Prod.mk.injEq] at H
              obtain ⟨rfl, rfl⟩ := H
              go_wp2
              go_ret2
              exact ⟨by first | rfl | (simp; done) | (simp [*]; done), by repeat (first | exact Drawn0.refl _ | apply Drawn0.step)⟩

end Go.Proofs.YtjgpifjfaiaidaaDoor.P

namespace Go.Proofs.YtjgpifjfaiaidaaDoor.P
open Go.RowKit Go.Proofs.YtjgpifjfaiaidaaDoorW.PrintWords Go.Proofs.YtjgpifjfaiaidaaDoorW.PrintLast Go.Proofs.YtjgpifjfaiaidaaDoorW.PrintMore
attribute [local go_sem] max2_int min2_int max_two min_two max_three min_three max_four min_four   -- for this text's walks alone
set_option linter.unusedVariables false
set_option linter.unusedSimpArgs false

mutual
def tollbarref02_HexText.j0 : Nat → Int → Option (ByteArray)
  | 0, _ => none
  | k + 1, x0 => tollbarref02_HexText.l0 k x0 (⟨#[]⟩ : ByteArray)
def tollbarref02_HexText.l0 : Nat → Int → ByteArray → Option (ByteArray)
  | 0, _, _ => none
  | k + 1, x0, x3 => if x3.toList = ([] : List UInt8) then (tollbarref02_HexText.j2 k x0 x3 true) else (tollbarref02_HexText.j2 k x0 x3 (decide (x0 > 0)))
def tollbarref02_HexText.j2 : Nat → Int → ByteArray → Bool → Option (ByteArray)
  | 0, _, _, _ => none
  | k + 1, x0, x3, x12 => if x12 = true then (if (Int.tmod x0 16) > 9 then ((some (([(wrap64 ((wrap64 (97 + (Int.tmod x0 16))) - 10)) % 256] : List Int) : List Int)).bind fun y520 => (if (strOfNums y520).size + x3.size ≤ 9223372036854775807 then (tollbarref02_HexText.l0 k (wrap64 (Int.tdiv x0 16)) ((strOfNums y520) ++ x3)) else (none))) else ((some (([(wrap64 (48 + (Int.tmod x0 16))) % 256] : List Int) : List Int)).bind fun y523 => (if (strOfNums y523).size + x3.size ≤ 9223372036854775807 then (tollbarref02_HexText.l0 k (wrap64 (Int.tdiv x0 16)) ((strOfNums y523) ++ x3)) else (none)))) else (some x3)
end
def tollbarref02_HexText.f (k : Nat) (a0 : Int) : Option (ByteArray) := if a0 < 0 then (tollbarref02_HexText.j0 k 0) else (tollbarref02_HexText.j0 k a0)
theorem tollbarref02_HexText.mono_l : ∀ k, (∀ y0, LeO (tollbarref02_HexText.j0 k y0) (tollbarref02_HexText.j0 (k + 1) y0)) ∧ (∀ y0 y1, LeO (tollbarref02_HexText.l0 k y0 y1) (tollbarref02_HexText.l0 (k + 1) y0 y1)) ∧ (∀ y0 y1 y2, LeO (tollbarref02_HexText.j2 k y0 y1 y2) (tollbarref02_HexText.j2 (k + 1) y0 y1 y2))
  | 0 => ⟨fun _ r h => by simp [tollbarref02_HexText.j0] at h, fun _ _ r h => by simp [tollbarref02_HexText.l0] at h, fun _ _ _ r h => by simp [tollbarref02_HexText.j2] at h⟩
  | k + 1 => by
    obtain ⟨ih0, ih1, ih2⟩ := tollbarref02_HexText.mono_l k
    refine ⟨?_, ?_, ?_⟩
    · intro y0
      unfold tollbarref02_HexText.j0
      repeat' first
      | (with_reducible exact ih0 _)
      | (with_reducible exact ih1 _ _)
      | (with_reducible exact ih2 _ _ _)
      | (with_reducible exact LeO.refl _)
      | (with_reducible exact LeO.none _)
      | (with_reducible refine LeO.ite ?_ ?_)
      | (with_reducible refine LeO.bind ?_ (fun _ => ?_))
      | exact ih0 _
      | exact ih1 _ _
      | exact ih2 _ _ _
      | exact LeO.none _
      | refine LeO.ite ?_ ?_
      | refine LeO.bind ?_ (fun _ => ?_)
    · intro y0 y1
      unfold tollbarref02_HexText.l0
      repeat' first
      | (with_reducible exact ih0 _)
      | (with_reducible exact ih1 _ _)
      | (with_reducible exact ih2 _ _ _)
      | (with_reducible exact LeO.refl _)
      | (with_reducible exact LeO.none _)
      | (with_reducible refine LeO.ite ?_ ?_)
      | (with_reducible refine LeO.bind ?_ (fun _ => ?_))
      | exact ih0 _
      | exact ih1 _ _
      | exact ih2 _ _ _
      | exact LeO.none _
      | refine LeO.ite ?_ ?_
      | refine LeO.bind ?_ (fun _ => ?_)
    · intro y0 y1 y2
      unfold tollbarref02_HexText.j2
      repeat' first
      | (with_reducible exact ih0 _)
      | (with_reducible exact ih1 _ _)
      | (with_reducible exact ih2 _ _ _)
      | (with_reducible exact LeO.refl _)
      | (with_reducible exact LeO.none _)
      | (with_reducible refine LeO.ite ?_ ?_)
      | (with_reducible refine LeO.bind ?_ (fun _ => ?_))
      | exact ih0 _
      | exact ih1 _ _
      | exact ih2 _ _ _
      | exact LeO.none _
      | refine LeO.ite ?_ ?_
      | refine LeO.bind ?_ (fun _ => ?_)
theorem tollbarref02_HexText.mono : ∀ a0 k, LeO (tollbarref02_HexText.f k a0) (tollbarref02_HexText.f (k + 1) a0) := by
  intro a0 k
  obtain ⟨ih0, ih1, ih2⟩ := tollbarref02_HexText.mono_l k
  unfold tollbarref02_HexText.f
  repeat' first
      | (with_reducible exact ih0 _)
      | (with_reducible exact ih1 _ _)
      | (with_reducible exact ih2 _ _ _)
      | (with_reducible exact LeO.refl _)
      | (with_reducible exact LeO.none _)
      | (with_reducible refine LeO.ite ?_ ?_)
      | (with_reducible refine LeO.bind ?_ (fun _ => ?_))
      | exact ih0 _
      | exact ih1 _ _
      | exact ih2 _ _ _
      | exact LeO.none _
      | refine LeO.ite ?_ ?_
      | refine LeO.bind ?_ (fun _ => ?_)
set_option maxHeartbeats 8000000 in
set_option maxRecDepth 100000 in
theorem tollbarref02_HexText.calls (k : Nat) (a0 : Int) (r : ByteArray) (w : World) (h : tollbarref02_HexText.f k a0 = some r) :
    Calls Tryd.prog 64 #[.int .i64 a0] w fun e w' => e = .returned (.string r) ∧ Below w.heap.size w w' := by
  have HB := Aside0.mk (Below.refl w.heap.size w)
  have H : (if a0 < 0 then (tollbarref02_HexText.j0 k 0) else (tollbarref02_HexText.j0 k a0)) = some r := h
  clear h
  have HC2 := Aside0.mk H
  clear H
  go_enter Tryd.func64, Tryd.ntmps64
  go_upto_if 6 with (fail)
  go_cut [0] (fun v0 wc => ∃ (kq : Nat) (x0_1 : Int), v0 = .int .i64 x0_1 ∧ Aside0 (tollbarref02_HexText.j0 kq x0_1 = some r) ∧ Aside0 (kq ≤ k) ∧ Aside0 (Below w.heap.size w wc))
  case first =>
    have H := HC2.out
    clear HC2
    by_cases c3 : a0 < 0
    · rw [if_pos c3] at H
      have c3b0 : decide (a0 < 0) = true := decide_eq_true c3
      clear c3
      (first | rw [c3b0] | (simp only [i64_w, i32_w]; rw [c3b0]) | skip)
      have H' := Aside0.mk H
      clear H
      go_wp2
      go_meet
      case rel => exact ⟨_, (0), (by first | rfl | (simp; done) | (simp [*]; done)), H', ⟨by first | omega | exact Nat.le_refl _⟩, ⟨by repeat (first | (with_reducible first | exact HB.out | apply below_alloc | apply pw_below_drewN | apply below_drew1) | exact HB.out)⟩⟩
    · rw [if_neg c3] at H
      have c3b0 : decide (a0 < 0) = false := decide_eq_false c3
      clear c3
      (first | rw [c3b0] | (simp only [i64_w, i32_w]; rw [c3b0]) | skip)
      have H' := Aside0.mk H
      clear H
      go_wp2
      go_meet
      case rel => exact ⟨_, (a0), (by first | rfl | (simp; done) | (simp [*]; done)), H', ⟨by first | omega | exact Nat.le_refl _⟩, ⟨by repeat (first | (with_reducible first | exact HB.out | apply below_alloc | apply pw_below_drewN | apply below_drew1) | exact HB.out)⟩⟩
  case rest =>
    clear HC2
    try clear p2
    try clear c3
    try clear c3b0
    obtain ⟨kq, x0_1, rfl, HA, HJ1, HB⟩ := hcut
    cases kq with
    | zero => exact absurd HA.out (by simp [tollbarref02_HexText.j0])
    | succ kj1 =>
      have H := HA.out
      clear HA
      simp only [tollbarref02_HexText.j0] at H
      have H' := Aside0.mk H
      clear H
      go_wp2
      go_loopg [0, 3] kj1 (fun kq v0 v3 w' => ∃ (x0_2 : Int) (x3_2 : ByteArray), v0 = .int .i64 x0_2 ∧ v3 = .string x3_2 ∧ Aside0 (tollbarref02_HexText.l0 kq x0_2 x3_2 = some r) ∧ Aside0 (kq ≤ kj1) ∧ Aside0 (Below w.heap.size w w'))
      case atStart => exact ⟨(x0_1), ((⟨#[]⟩ : ByteArray)), (by first | rfl | (simp; done) | (simp [*]; done)), (by first | rfl | (simp; done) | (simp [*]; done)), H', ⟨Nat.le_refl _⟩, ⟨by repeat (first | (with_reducible first | exact HB.out | apply below_alloc | apply pw_below_drewN | apply below_drew1) | exact HB.out)⟩⟩
      case round =>
        clear H'
        try clear p2
        try clear c3
        try clear c3b0
        try clear p2
        obtain ⟨x0_2, x3_2, rfl, rfl, HA, HK2, HB⟩ := hrel
        cases gk with
        | zero => exact absurd HA.out (by simp [tollbarref02_HexText.l0])
        | succ k2 =>
          have H := HA.out
          clear HA
          simp only [tollbarref02_HexText.l0] at H
          have HC4 := Aside0.mk H
          clear H
          go_upto_region 4 with (fail)
          go_cut [12] (fun v12 wc => ∃ (kq : Nat) (x12_3 : Bool), v12 = .bool x12_3 ∧ Aside0 (tollbarref02_HexText.j2 kq x0_2 x3_2 x12_3 = some r) ∧ Aside0 (kq ≤ k2) ∧ Aside0 (Below w.heap.size w wc))
          case first =>
            have H := HC4.out
            clear HC4
            by_cases c5 : x3_2.toList = ([] : List UInt8)
            · rw [if_pos c5] at H
              have c5b0 : (x3_2.toList == ([] : List UInt8)) = true := beq_iff_eq.mpr c5
              have c5b1 : (x3_2.toList != ([] : List UInt8)) = false := bne_eq_false_iff_eq.mpr c5
              clear c5
              (first | rw [c5b0] | (simp only [i64_w, i32_w]; rw [c5b0]) | skip)
              have H' := Aside0.mk H
              clear H
              go_wp2
              go_meet
              case rel => exact ⟨_, (true), (by first | rfl | (simp; done) | (simp [*]; done)), H', ⟨by have := HJ1.out; have := HK2.out; first | omega | exact Nat.le_refl _⟩, ⟨by repeat (first | (with_reducible first | exact HB.out | apply below_alloc | apply pw_below_drewN | apply below_drew1) | exact HB.out)⟩⟩
            · rw [if_neg c5] at H
              have c5b0 : (x3_2.toList == ([] : List UInt8)) = false := beq_eq_false_iff_ne.mpr c5
              have c5b1 : (x3_2.toList != ([] : List UInt8)) = true := bne_iff_ne.mpr c5
              (first | rw [c5b0] | (simp only [i64_w, i32_w]; rw [c5b0]) | skip)
              have H' := Aside0.mk H
              clear H
              go_wp2
              go_meet
              case rel => exact ⟨_, (decide (x0_2 > 0)), (by first | rfl | (simp; done) | (simp [*]; done)), H', ⟨by have := HJ1.out; have := HK2.out; first | omega | exact Nat.le_refl _⟩, ⟨by repeat (first | (with_reducible first | exact HB.out | apply below_alloc | apply pw_below_drewN | apply below_drew1) | exact HB.out)⟩⟩
          case rest =>
            clear HC4
            try clear p2
            try clear c3
            try clear c3b0
            try clear c5
            try clear c5b0
            try clear c5b1
            try clear p2
            obtain ⟨kq, x12_3, rfl, HA, HJ3, HB⟩ := hcut
            cases kq with
            | zero => exact absurd HA.out (by simp [tollbarref02_HexText.j2])
            | succ kj3 =>
              have H := HA.out
              clear HA
              simp only [tollbarref02_HexText.j2] at H
              by_cases c6 : x12_3 = true
              · subst c6
                have H1 : (if (Int.tmod x0_2 16) > 9 then ((some (([(wrap64 ((wrap64 (97 + (Int.tmod x0_2 16))) - 10)) % 256] : List Int) : List Int)).bind fun y520 => (if (strOfNums y520).size + x3_2.size ≤ 9223372036854775807 then (tollbarref02_HexText.l0 kj3 (wrap64 (Int.tdiv x0_2 16)) ((strOfNums y520) ++ x3_2)) else (none))) else ((some (([(wrap64 (48 + (Int.tmod x0_2 16))) % 256] : List Int) : List Int)).bind fun y523 => (if (strOfNums y523).size + x3_2.size ≤ 9223372036854775807 then (tollbarref02_HexText.l0 kj3 (wrap64 (Int.tdiv x0_2 16)) ((strOfNums y523) ++ x3_2)) else (none)))) = some r := by rw [if_pos rfl] at H; exact H
                clear H
                have H := H1
                clear H1
                by_cases c7 : (Int.tmod x0_2 16) > 9
                · rw [if_pos c7] at H
                  have c7b0 : decide (9 < (Int.tmod x0_2 16)) = true := decide_eq_true c7
                  clear c7
                  obtain ⟨y520, hy520⟩ : ∃ y_ : List Int, y_ = (([(wrap64 ((wrap64 (97 + (Int.tmod x0_2 16))) - 10)) % 256] : List Int)) := ⟨_, rfl⟩
                  replace H : (if (strOfNums y520).size + x3_2.size ≤ 9223372036854775807 then (tollbarref02_HexText.l0 kj3 (wrap64 (Int.tdiv x0_2 16)) ((strOfNums y520) ++ x3_2)) else (none)) = some r := by first | (rw [hy520]; with_reducible exact H) | (have H2_ := (Option.bind_some _ _).symm.trans H; rw [hy520]; with_reducible exact H2_) | (have H2_ := (Option.bind_some _ _).symm.trans H; with_reducible exact H2_) | with_reducible exact H | (rw [hy520]; exact H) | exact H
                  have Ny520 := Aside0.mk hy520
                  clear hy520
                  by_cases c8 : (strOfNums y520).size + x3_2.size ≤ 9223372036854775807
                  · rw [if_pos c8] at H
                    have c8b0 := eq_true c8
                    have c8b1 : decide ((strOfNums y520).size + x3_2.size ≤ 9223372036854775807) = true := decide_eq_true c8
                    try have c8b2 : (9223372036854775807 < (strOfNums y520).size + x3_2.size) = False := eq_false (Nat.not_lt.2 c8)
                    have H' := Aside0.mk H
                    clear H
                    go_wp2_with (first | ((with_reducible refine gate_dst (N := 26) rfl ?_); refine Kd.R_lit (Kd.int .u8) _ 5 ?hg (N := 26) ?hd (xs := ([(wrap64 ((wrap64 (97 + (Int.tmod x0_2 16))) - 10)) % 256] : List Int)) (inner := [.int .u8 ((wrap64 ((wrap64 (97 + (Int.tmod x0_2 16))) - 10)) % 256)]) (ok := fun _ => True) (okp := fun _ => True) ?hr ?hp (fun _ hk => hk) trivial (Below.refl _ _) (Nat.le_refl _) (by simp) ?_; (case hd => rfl); (case hg => rfl); (case hr => first | (go_simp; done) | (go_simp; rfl)); (case hp => exact (Reps.one (show Kd.M (Kd.int .u8) _ _ _ ((wrap64 ((wrap64 (97 + (Int.tmod x0_2 16))) - 10)) % 256) [.int .u8 ((wrap64 ((wrap64 (97 + (Int.tmod x0_2 16))) - 10)) % 256)] from rfl) (Reps.none _ _))); intro v521 w9 ho10 hb hg_ hnew_; clear hg_ hnew_; (first | rw [← Ny520.out] at ho10 | (simp only [Int.reduceToNat] at ho10; rw [← Ny520.out] at ho10)); have n0_ := Aside0.mk (Kd.R_lower ho10 (below_size (by repeat (first | (with_reducible first | exact HB.out | apply below_alloc | apply pw_below_drewN | apply below_drew1) | exact HB.out)))); have n1_ := Aside0.mk (below_step (by repeat (first | (with_reducible first | exact HB.out | apply below_alloc | apply pw_below_drewN | apply below_drew1) | exact HB.out)) hb); clear HB; have HO522 := n0_; have HB := n1_; clear n0_ n1_; clear hb ho10; have hcv11 := own_string (P := Tryd.prog) Tryd.underlying24 Tryd.underlying5 Tryd.underlying9 (Kd.own_of_R HO522.out)))
                    go_roundg kj3
                    case measure => have := HJ1.out; have := HK2.out; have := HJ3.out; omega
                    case rel => exact ⟨(wrap64 (Int.tdiv x0_2 16)), ((strOfNums y520) ++ x3_2), (by first | rfl | (simp; done) | (simp [*]; done)), (by first | rfl | (simp; done) | (simp [*]; done)), H', ⟨by have := HJ1.out; have := HK2.out; have := HJ3.out; omega⟩, ⟨by repeat (first | (with_reducible first | exact HB.out | apply below_alloc | apply pw_below_drewN | apply below_drew1) | exact HB.out)⟩⟩
                  · rw [if_neg c8] at H
                    exact absurd H (by simp)
                · rw [if_neg c7] at H
                  have c7b0 : decide (9 < (Int.tmod x0_2 16)) = false := decide_eq_false c7
                  clear c7
                  obtain ⟨y523, hy523⟩ : ∃ y_ : List Int, y_ = (([(wrap64 (48 + (Int.tmod x0_2 16))) % 256] : List Int)) := ⟨_, rfl⟩
                  replace H : (if (strOfNums y523).size + x3_2.size ≤ 9223372036854775807 then (tollbarref02_HexText.l0 kj3 (wrap64 (Int.tdiv x0_2 16)) ((strOfNums y523) ++ x3_2)) else (none)) = some r := by first | (rw [hy523]; with_reducible exact H) | (have H2_ := (Option.bind_some _ _).symm.trans H; rw [hy523]; with_reducible exact H2_) | (have H2_ := (Option.bind_some _ _).symm.trans H; with_reducible exact H2_) | with_reducible exact H | (rw [hy523]; exact H) | exact H
                  have Ny523 := Aside0.mk hy523
                  clear hy523
                  by_cases c12 : (strOfNums y523).size + x3_2.size ≤ 9223372036854775807
                  · rw [if_pos c12] at H
                    have c12b0 := eq_true c12
                    have c12b1 : decide ((strOfNums y523).size + x3_2.size ≤ 9223372036854775807) = true := decide_eq_true c12
                    try have c12b2 : (9223372036854775807 < (strOfNums y523).size + x3_2.size) = False := eq_false (Nat.not_lt.2 c12)
                    have H' := Aside0.mk H
                    clear H
                    go_wp2_with (first | ((with_reducible refine gate_dst (N := 26) rfl ?_); refine Kd.R_lit (Kd.int .u8) _ 5 ?hg (N := 26) ?hd (xs := ([(wrap64 (48 + (Int.tmod x0_2 16))) % 256] : List Int)) (inner := [.int .u8 ((wrap64 (48 + (Int.tmod x0_2 16))) % 256)]) (ok := fun _ => True) (okp := fun _ => True) ?hr ?hp (fun _ hk => hk) trivial (Below.refl _ _) (Nat.le_refl _) (by simp) ?_; (case hd => rfl); (case hg => rfl); (case hr => first | (go_simp; done) | (go_simp; rfl)); (case hp => exact (Reps.one (show Kd.M (Kd.int .u8) _ _ _ ((wrap64 (48 + (Int.tmod x0_2 16))) % 256) [.int .u8 ((wrap64 (48 + (Int.tmod x0_2 16))) % 256)] from rfl) (Reps.none _ _))); intro v524 w13 ho14 hb hg_ hnew_; clear hg_ hnew_; (first | rw [← Ny523.out] at ho14 | (simp only [Int.reduceToNat] at ho14; rw [← Ny523.out] at ho14)); have n0_ := Aside0.mk (Kd.R_lower ho14 (below_size (by repeat (first | (with_reducible first | exact HB.out | apply below_alloc | apply pw_below_drewN | apply below_drew1) | exact HB.out)))); have n1_ := Aside0.mk (below_step (by repeat (first | (with_reducible first | exact HB.out | apply below_alloc | apply pw_below_drewN | apply below_drew1) | exact HB.out)) hb); clear HB; have HO525 := n0_; have HB := n1_; clear n0_ n1_; clear hb ho14; have hcv15 := own_string (P := Tryd.prog) Tryd.underlying24 Tryd.underlying5 Tryd.underlying9 (Kd.own_of_R HO525.out)))
                    go_roundg kj3
                    case measure => have := HJ1.out; have := HK2.out; have := HJ3.out; omega
                    case rel => exact ⟨(wrap64 (Int.tdiv x0_2 16)), ((strOfNums y523) ++ x3_2), (by first | rfl | (simp; done) | (simp [*]; done)), (by first | rfl | (simp; done) | (simp [*]; done)), H', ⟨by have := HJ1.out; have := HK2.out; have := HJ3.out; omega⟩, ⟨by repeat (first | (with_reducible first | exact HB.out | apply below_alloc | apply pw_below_drewN | apply below_drew1) | exact HB.out)⟩⟩
                  · rw [if_neg c12] at H
                    exact absurd H (by simp)
              · replace c6 := Bool.eq_false_iff.mpr c6
                subst c6
                have H1 : (some x3_2) = some r := by rw [if_neg (show ¬ (false = true) by decide)] at H; exact H
                clear H
                have H := H1
                clear H1
                obtain rfl := Option.some.inj H
                go_wp2
                go_ret
                exact ⟨by first | rfl | (simp [errW_none, errW_some] <;> rfl) | (simp [*, errW_none, errW_some] <;> rfl), by repeat (first | (with_reducible first | exact HB.out | apply below_alloc | apply pw_below_drewN | apply below_drew1) | exact HB.out)⟩

end Go.Proofs.YtjgpifjfaiaidaaDoor.P

