/- Each function below answers as its Lean twin says. No further condition. (Laid by this repo's packseat.py out of the seat's texts and of the print's words.) -/
import Derived.Test.YtjgpifjfaiaidaaDoorU0base0x0
namespace Go.Proofs.YtjgpifjfaiaidaaDoor.P
open Go.RowKit Go.Proofs.YtjgpifjfaiaidaaDoorW.PrintWords Go.Proofs.YtjgpifjfaiaidaaDoorW.PrintLast Go.Proofs.YtjgpifjfaiaidaaDoorW.PrintMore
attribute [local go_sem] max2_int min2_int max_two min_two max_three min_three max_four min_four   -- for this text's walks alone
set_option linter.unusedVariables false
set_option linter.unusedSimpArgs false

mutual
def tollbarref05_Cut.j0 : Nat → List Int → Int → Option (ByteArray × Int × Int)
  | 0, _, _ => none
  | k + 1, x0, x1 => tollbarref05_Cut.l0 k x0 x1 0
def tollbarref05_Cut.l0 : Nat → List Int → Int → Int → Option (ByteArray × Int × Int)
  | 0, _, _, _ => none
  | k + 1, x0, x1, x7 => if x7 < (x0.length : Int) then (if x7 = (wrap64 ((x0.length : Int) - 1)) then (if 0 ≤ x7 then (if (rd x0 x7) = 10 then (tollbarref05_Cut.j2 k x0 x1 x7 true true) else (if (rd x0 x7) = 13 then (tollbarref05_Cut.j2 k x0 x1 x7 true false) else (tollbarref05_Cut.j2 k x0 x1 x7 true false))) else (none)) else (if 0 ≤ x7 then (if (rd x0 x7) = 10 then (tollbarref05_Cut.j4 k x0 x1 x7 false true) else (if (rd x0 x7) = 13 then (if 0 ≤ (wrap64 (x7 + 1)) then (if (wrap64 (x7 + 1)) < (x0.length : Int) then (tollbarref05_Cut.j4 k x0 x1 x7 false ((rd x0 (wrap64 (x7 + 1))) != 10)) else (none)) else (none)) else (tollbarref05_Cut.j4 k x0 x1 x7 false false))) else (none))) else (some ((⟨#[]⟩ : ByteArray), 0, 0))
def tollbarref05_Cut.j2 : Nat → List Int → Int → Int → Bool → Bool → Option (ByteArray × Int × Int)
  | 0, _, _, _, _, _ => none
  | k + 1, x0, x1, x7, x8, x45 => if x45 = true then (some ((⟨#[]⟩ : ByteArray), 0, 20)) else (if 0 ≤ x7 then (if x7 < (x0.length : Int) then (if (rd x0 x7) = 13 then (tollbarref05_Cut.j3 k x0 x1 x7 x8) else (tollbarref05_Cut.j3 k x0 x1 x7 false)) else (none)) else (none))
def tollbarref05_Cut.j3 : Nat → List Int → Int → Int → Bool → Option (ByteArray × Int × Int)
  | 0, _, _, _, _ => none
  | k + 1, x0, x1, x7, x53 => if x53 = true then (some ((⟨#[]⟩ : ByteArray), 0, 0)) else (if 0 ≤ x7 then (if x7 < (x0.length : Int) then (if (rd x0 x7) = 13 then (if x7 ≤ (x0.length : Int) then (some (strOfNums (x0.take (x7 : Int).toNat), wrap64 (x7 + 2), 0)) else (none)) else (if x7 ≥ x1 then (some ((⟨#[]⟩ : ByteArray), 0, 2)) else (tollbarref05_Cut.l0 k x0 x1 (wrap64 (x7 + 1))))) else (none)) else (none))
def tollbarref05_Cut.j4 : Nat → List Int → Int → Int → Bool → Bool → Option (ByteArray × Int × Int)
  | 0, _, _, _, _, _ => none
  | k + 1, x0, x1, x7, x8, x45 => if x45 = true then (some ((⟨#[]⟩ : ByteArray), 0, 20)) else (if 0 ≤ x7 then (if x7 < (x0.length : Int) then (if (rd x0 x7) = 13 then (tollbarref05_Cut.j5 k x0 x1 x7 x8) else (tollbarref05_Cut.j5 k x0 x1 x7 false)) else (none)) else (none))
def tollbarref05_Cut.j5 : Nat → List Int → Int → Int → Bool → Option (ByteArray × Int × Int)
  | 0, _, _, _, _ => none
  | k + 1, x0, x1, x7, x53 => if x53 = true then (some ((⟨#[]⟩ : ByteArray), 0, 0)) else (if 0 ≤ x7 then (if x7 < (x0.length : Int) then (if (rd x0 x7) = 13 then (if x7 ≤ (x0.length : Int) then (some (strOfNums (x0.take (x7 : Int).toNat), wrap64 (x7 + 2), 0)) else (none)) else (if x7 ≥ x1 then (some ((⟨#[]⟩ : ByteArray), 0, 2)) else (tollbarref05_Cut.l0 k x0 x1 (wrap64 (x7 + 1))))) else (none)) else (none))
end
def tollbarref05_Cut.f (k : Nat) (l0 : List Int) (a1 : Int) : Option (ByteArray × Int × Int) := if a1 < 0 then (tollbarref05_Cut.j0 k l0 0) else (tollbarref05_Cut.j0 k l0 a1)
theorem tollbarref05_Cut.mono_l : ∀ k, (∀ y0 y1, LeO (tollbarref05_Cut.j0 k y0 y1) (tollbarref05_Cut.j0 (k + 1) y0 y1)) ∧ (∀ y0 y1 y2, LeO (tollbarref05_Cut.l0 k y0 y1 y2) (tollbarref05_Cut.l0 (k + 1) y0 y1 y2)) ∧ (∀ y0 y1 y2 y3 y4, LeO (tollbarref05_Cut.j2 k y0 y1 y2 y3 y4) (tollbarref05_Cut.j2 (k + 1) y0 y1 y2 y3 y4)) ∧ (∀ y0 y1 y2 y3, LeO (tollbarref05_Cut.j3 k y0 y1 y2 y3) (tollbarref05_Cut.j3 (k + 1) y0 y1 y2 y3)) ∧ (∀ y0 y1 y2 y3 y4, LeO (tollbarref05_Cut.j4 k y0 y1 y2 y3 y4) (tollbarref05_Cut.j4 (k + 1) y0 y1 y2 y3 y4)) ∧ (∀ y0 y1 y2 y3, LeO (tollbarref05_Cut.j5 k y0 y1 y2 y3) (tollbarref05_Cut.j5 (k + 1) y0 y1 y2 y3))
  | 0 => ⟨fun _ _ r h => by simp [tollbarref05_Cut.j0] at h, fun _ _ _ r h => by simp [tollbarref05_Cut.l0] at h, fun _ _ _ _ _ r h => by simp [tollbarref05_Cut.j2] at h, fun _ _ _ _ r h => by simp [tollbarref05_Cut.j3] at h, fun _ _ _ _ _ r h => by simp [tollbarref05_Cut.j4] at h, fun _ _ _ _ r h => by simp [tollbarref05_Cut.j5] at h⟩
  | k + 1 => by
    obtain ⟨ih0, ih1, ih2, ih3, ih4, ih5⟩ := tollbarref05_Cut.mono_l k
    refine ⟨?_, ?_, ?_, ?_, ?_, ?_⟩
    · intro y0 y1
      unfold tollbarref05_Cut.j0
      repeat' first
      | (with_reducible exact ih0 _ _)
      | (with_reducible exact ih1 _ _ _)
      | (with_reducible exact ih2 _ _ _ _ _)
      | (with_reducible exact ih3 _ _ _ _)
      | (with_reducible exact ih4 _ _ _ _ _)
      | (with_reducible exact ih5 _ _ _ _)
      | (with_reducible exact LeO.refl _)
      | (with_reducible exact LeO.none _)
      | (with_reducible refine LeO.ite ?_ ?_)
      | (with_reducible refine LeO.bind ?_ (fun _ => ?_))
      | exact ih0 _ _
      | exact ih1 _ _ _
      | exact ih2 _ _ _ _ _
      | exact ih3 _ _ _ _
      | exact ih4 _ _ _ _ _
      | exact ih5 _ _ _ _
      | exact LeO.none _
      | refine LeO.ite ?_ ?_
      | refine LeO.bind ?_ (fun _ => ?_)
    · intro y0 y1 y2
      unfold tollbarref05_Cut.l0
      repeat' first
      | (with_reducible exact ih0 _ _)
      | (with_reducible exact ih1 _ _ _)
      | (with_reducible exact ih2 _ _ _ _ _)
      | (with_reducible exact ih3 _ _ _ _)
      | (with_reducible exact ih4 _ _ _ _ _)
      | (with_reducible exact ih5 _ _ _ _)
      | (with_reducible exact LeO.refl _)
      | (with_reducible exact LeO.none _)
      | (with_reducible refine LeO.ite ?_ ?_)
      | (with_reducible refine LeO.bind ?_ (fun _ => ?_))
      | exact ih0 _ _
      | exact ih1 _ _ _
      | exact ih2 _ _ _ _ _
      | exact ih3 _ _ _ _
      | exact ih4 _ _ _ _ _
      | exact ih5 _ _ _ _
      | exact LeO.none _
      | refine LeO.ite ?_ ?_
      | refine LeO.bind ?_ (fun _ => ?_)
    · intro y0 y1 y2 y3 y4
      unfold tollbarref05_Cut.j2
      repeat' first
      | (with_reducible exact ih0 _ _)
      | (with_reducible exact ih1 _ _ _)
      | (with_reducible exact ih2 _ _ _ _ _)
      | (with_reducible exact ih3 _ _ _ _)
      | (with_reducible exact ih4 _ _ _ _ _)
      | (with_reducible exact ih5 _ _ _ _)
      | (with_reducible exact LeO.refl _)
      | (with_reducible exact LeO.none _)
      | (with_reducible refine LeO.ite ?_ ?_)
      | (with_reducible refine LeO.bind ?_ (fun _ => ?_))
      | exact ih0 _ _
      | exact ih1 _ _ _
      | exact ih2 _ _ _ _ _
      | exact ih3 _ _ _ _
      | exact ih4 _ _ _ _ _
      | exact ih5 _ _ _ _
      | exact LeO.none _
      | refine LeO.ite ?_ ?_
      | refine LeO.bind ?_ (fun _ => ?_)
    · intro y0 y1 y2 y3
      unfold tollbarref05_Cut.j3
      repeat' first
      | (with_reducible exact ih0 _ _)
      | (with_reducible exact ih1 _ _ _)
      | (with_reducible exact ih2 _ _ _ _ _)
      | (with_reducible exact ih3 _ _ _ _)
      | (with_reducible exact ih4 _ _ _ _ _)
      | (with_reducible exact ih5 _ _ _ _)
      | (with_reducible exact LeO.refl _)
      | (with_reducible exact LeO.none _)
      | (with_reducible refine LeO.ite ?_ ?_)
      | (with_reducible refine LeO.bind ?_ (fun _ => ?_))
      | exact ih0 _ _
      | exact ih1 _ _ _
      | exact ih2 _ _ _ _ _
      | exact ih3 _ _ _ _
      | exact ih4 _ _ _ _ _
      | exact ih5 _ _ _ _
      | exact LeO.none _
      | refine LeO.ite ?_ ?_
      | refine LeO.bind ?_ (fun _ => ?_)
    · intro y0 y1 y2 y3 y4
      unfold tollbarref05_Cut.j4
      repeat' first
      | (with_reducible exact ih0 _ _)
      | (with_reducible exact ih1 _ _ _)
      | (with_reducible exact ih2 _ _ _ _ _)
      | (with_reducible exact ih3 _ _ _ _)
      | (with_reducible exact ih4 _ _ _ _ _)
      | (with_reducible exact ih5 _ _ _ _)
      | (with_reducible exact LeO.refl _)
      | (with_reducible exact LeO.none _)
      | (with_reducible refine LeO.ite ?_ ?_)
      | (with_reducible refine LeO.bind ?_ (fun _ => ?_))
      | exact ih0 _ _
      | exact ih1 _ _ _
      | exact ih2 _ _ _ _ _
      | exact ih3 _ _ _ _
      | exact ih4 _ _ _ _ _
      | exact ih5 _ _ _ _
      | exact LeO.none _
      | refine LeO.ite ?_ ?_
      | refine LeO.bind ?_ (fun _ => ?_)
    · intro y0 y1 y2 y3
      unfold tollbarref05_Cut.j5
      repeat' first
      | (with_reducible exact ih0 _ _)
      | (with_reducible exact ih1 _ _ _)
      | (with_reducible exact ih2 _ _ _ _ _)
      | (with_reducible exact ih3 _ _ _ _)
      | (with_reducible exact ih4 _ _ _ _ _)
      | (with_reducible exact ih5 _ _ _ _)
      | (with_reducible exact LeO.refl _)
      | (with_reducible exact LeO.none _)
      | (with_reducible refine LeO.ite ?_ ?_)
      | (with_reducible refine LeO.bind ?_ (fun _ => ?_))
      | exact ih0 _ _
      | exact ih1 _ _ _
      | exact ih2 _ _ _ _ _
      | exact ih3 _ _ _ _
      | exact ih4 _ _ _ _ _
      | exact ih5 _ _ _ _
      | exact LeO.none _
      | refine LeO.ite ?_ ?_
      | refine LeO.bind ?_ (fun _ => ?_)
theorem tollbarref05_Cut.mono : ∀ a0 a1 k, LeO (tollbarref05_Cut.f k a0 a1) (tollbarref05_Cut.f (k + 1) a0 a1) := by
  intro a0 a1 k
  obtain ⟨ih0, ih1, ih2, ih3, ih4, ih5⟩ := tollbarref05_Cut.mono_l k
  unfold tollbarref05_Cut.f
  repeat' first
      | (with_reducible exact ih0 _ _)
      | (with_reducible exact ih1 _ _ _)
      | (with_reducible exact ih2 _ _ _ _ _)
      | (with_reducible exact ih3 _ _ _ _)
      | (with_reducible exact ih4 _ _ _ _ _)
      | (with_reducible exact ih5 _ _ _ _)
      | (with_reducible exact LeO.refl _)
      | (with_reducible exact LeO.none _)
      | (with_reducible refine LeO.ite ?_ ?_)
      | (with_reducible refine LeO.bind ?_ (fun _ => ?_))
      | exact ih0 _ _
      | exact ih1 _ _ _
      | exact ih2 _ _ _ _ _
      | exact ih3 _ _ _ _
      | exact ih4 _ _ _ _ _
      | exact ih5 _ _ _ _
      | exact LeO.none _
      | refine LeO.ite ?_ ?_
      | refine LeO.bind ?_ (fun _ => ?_)
set_option maxHeartbeats 8000000 in
set_option maxRecDepth 100000 in
theorem tollbarref05_Cut.calls (k : Nat) (A0 : Option Addr) (c0 : Nat) (l0 : List Int) (a1 : Int) (r1 : ByteArray) (r2 : Int) (r3 : Int) (w : World) (hr0 : Kd.C (Kd.int .u8) w A0 l0.length l0) (hc0 : l0.length ≤ c0) (h : tollbarref05_Cut.f k l0 a1 = some (r1, r2, r3)) :
    Calls Tryd.prog 59 #[.slice A0 l0.length c0, .int .i64 a1] w fun e w' => e = .returned (.tuple #[.string r1, .int .i64 r2, .int .i64 r3]) ∧ Drawn0 w w' := by
  have HR0 := Aside0.mk hr0
  have HC0 := Aside0.mk hc0
  clear hr0 hc0
  have H : (if a1 < 0 then (tollbarref05_Cut.j0 k l0 0) else (tollbarref05_Cut.j0 k l0 a1)) = some (r1, r2, r3) := h
  clear h
  have HC3 := Aside0.mk H
  clear H
  go_enter Tryd.func59, Tryd.ntmps59
  go_upto_if 10 with (fail)
  go_cut [1] (fun v1 wc => ∃ (kq : Nat) (x1_2 : Int), v1 = .int .i64 x1_2 ∧ Aside0 (tollbarref05_Cut.j0 kq l0 x1_2 = some (r1, r2, r3)) ∧ Aside0 (kq ≤ k) ∧ Drawn0 w wc)
  case first =>
    have H := HC3.out
    clear HC3
    by_cases c4 : a1 < 0
    · rw [if_pos c4] at H
      have c4b0 : decide (a1 < 0) = true := decide_eq_true c4
      clear c4
      (first | rw [c4b0] | (simp only [i64_w, i32_w]; rw [c4b0]) | skip)
      have H' := Aside0.mk H
      clear H
      go_wp2
      go_meet
      case rel => exact ⟨_, (0), (by first | rfl | (simp; done) | (simp [*]; done)), H', ⟨by first | omega | exact Nat.le_refl _⟩, by repeat (first | exact Drawn0.refl _ | apply Drawn0.step)⟩
    · rw [if_neg c4] at H
      have c4b0 : decide (a1 < 0) = false := decide_eq_false c4
      clear c4
      (first | rw [c4b0] | (simp only [i64_w, i32_w]; rw [c4b0]) | skip)
      have H' := Aside0.mk H
      clear H
      go_wp2
      go_meet
      case rel => exact ⟨_, (a1), (by first | rfl | (simp; done) | (simp [*]; done)), H', ⟨by first | omega | exact Nat.le_refl _⟩, by repeat (first | exact Drawn0.refl _ | apply Drawn0.step)⟩
  case rest =>
    clear HC3
    try clear p2
    try clear c4
    try clear c4b0
    obtain ⟨kq, x1_2, rfl, HA, HJ2, ⟨mc2, rfl⟩⟩ := hcut
    cases kq with
    | zero => exact absurd HA.out (by simp [tollbarref05_Cut.j0])
    | succ kj2 =>
      have H := HA.out
      clear HA
      simp only [tollbarref05_Cut.j0] at H
      have H' := Aside0.mk H
      clear H
      go_wp2
      go_loopg [7] kj2 (fun kq v7 w' => ∃ (x7_2 : Int), v7 = .int .i64 x7_2 ∧ Aside0 (tollbarref05_Cut.l0 kq l0 x1_2 x7_2 = some (r1, r2, r3)) ∧ Aside0 (kq ≤ kj2) ∧ Drawn0 w w')
      case atStart => exact ⟨(0), (by first | rfl | (simp; done) | (simp [*]; done)), H', ⟨Nat.le_refl _⟩, by repeat (first | exact Drawn0.refl _ | apply Drawn0.step)⟩
      case round =>
        clear H'
        try clear c2
        try clear p2
        try clear c4
        try clear c4b0
        try clear p2
        obtain ⟨x7_2, rfl, HA, HK2, ⟨m2, rfl⟩⟩ := hrel
        cases gk with
        | zero => exact absurd HA.out (by simp [tollbarref05_Cut.l0])
        | succ k2 =>
          have H := HA.out
          clear HA
          simp only [tollbarref05_Cut.l0] at H
          by_cases c5 : x7_2 < (l0.length : Int)
          · rw [if_pos c5] at H
            have c5b0 : decide (x7_2 < (l0.length : Int)) = true := decide_eq_true c5
            clear c5
            by_cases c6 : x7_2 = (wrap64 ((l0.length : Int) - 1))
            · rw [if_pos c6] at H
              have c6b0 : (x7_2 == (wrap64 ((l0.length : Int) - 1))) = true := beq_iff_eq.mpr c6
              have c6b1 : (x7_2 != (wrap64 ((l0.length : Int) - 1))) = false := bne_eq_false_iff_eq.mpr c6
              clear c6
              have HC7 := Aside0.mk H
              clear H
              go_upto_region 7 with (fail)
              go_cut [45] (fun v45 wc => ∃ (kq : Nat) (x45_6 : Bool), v45 = .bool x45_6 ∧ Aside0 (tollbarref05_Cut.j2 kq l0 x1_2 x7_2 true x45_6 = some (r1, r2, r3)) ∧ Aside0 (kq ≤ k2) ∧ Drawn0 w wc)
              case first =>
                have H := HC7.out
                clear HC7
                by_cases c8 : 0 ≤ x7_2
                · rw [if_pos c8] at H
                  have c8b0 : decide (0 ≤ x7_2) = true := decide_eq_true c8
                  clear c8
                  (first | rw [c8b0] | (simp only [i64_w, i32_w]; rw [c8b0]) | skip)
                  by_cases c9 : (rd l0 x7_2) = 10
                  · rw [if_pos c9] at H
                    have c9b0 : ((rd l0 x7_2) == 10) = true := beq_iff_eq.mpr c9
                    have c9b1 : ((rd l0 x7_2) != 10) = false := bne_eq_false_iff_eq.mpr c9
                    clear c9
                    have H' := Aside0.mk H
                    clear H
                    have p442 : 0 ≤ (x7_2 : Int) := of_decide_eq_true (by first | (with_reducible assumption) | assumption)
                    have q442 : x7_2 < (l0.length : Int) := of_decide_eq_true (by first | (with_reducible assumption) | assumption)
                    obtain ⟨ad442, e442, hx442_0⟩ := Kd.at_int HR0.out x7_2 p442 q442
                    cases e442
                    replace p442 := eq_true p442
                    replace q442 := eq_true q442
                    go_wp2
                    go_meet
                    case rel => exact ⟨_, (true), (by first | rfl | (simp; done) | (simp [*]; done)), H', ⟨by have := HJ2.out; have := HK2.out; first | omega | exact Nat.le_refl _⟩, by repeat (first | exact Drawn0.refl _ | apply Drawn0.step)⟩
                  · rw [if_neg c9] at H
                    have c9b0 : ((rd l0 x7_2) == 10) = false := beq_eq_false_iff_ne.mpr c9
                    have c9b1 : ((rd l0 x7_2) != 10) = true := bne_iff_ne.mpr c9
                    by_cases c10 : (rd l0 x7_2) = 13
                    · rw [if_pos c10] at H
                      have c10b0 : ((rd l0 x7_2) == 13) = true := beq_iff_eq.mpr c10
                      have c10b1 : ((rd l0 x7_2) != 13) = false := bne_eq_false_iff_eq.mpr c10
                      clear c10
                      have H' := Aside0.mk H
                      clear H
                      have p442 : 0 ≤ (x7_2 : Int) := of_decide_eq_true (by first | (with_reducible assumption) | assumption)
                      have q442 : x7_2 < (l0.length : Int) := of_decide_eq_true (by first | (with_reducible assumption) | assumption)
                      obtain ⟨ad442, e442, hx442_0⟩ := Kd.at_int HR0.out x7_2 p442 q442
                      cases e442
                      replace p442 := eq_true p442
                      replace q442 := eq_true q442
                      have p443 : 0 ≤ (x7_2 : Int) := of_decide_eq_true (by first | (with_reducible assumption) | assumption)
                      have q443 : x7_2 < (l0.length : Int) := of_decide_eq_true (by first | (with_reducible assumption) | assumption)
                      obtain ⟨ad443, e443, hx443_0⟩ := Kd.at_int HR0.out x7_2 p443 q443
                      obtain rfl : ad442 = ad443 := (by injection e443)
                      replace p443 := eq_true p443
                      replace q443 := eq_true q443
                      go_wp2
                      go_meet
                      case rel => exact ⟨_, (false), (by first | rfl | (simp; done) | (simp [*]; done)), H', ⟨by have := HJ2.out; have := HK2.out; first | omega | exact Nat.le_refl _⟩, by repeat (first | exact Drawn0.refl _ | apply Drawn0.step)⟩
                    · rw [if_neg c10] at H
                      have c10b0 : ((rd l0 x7_2) == 13) = false := beq_eq_false_iff_ne.mpr c10
                      have c10b1 : ((rd l0 x7_2) != 13) = true := bne_iff_ne.mpr c10
                      have H' := Aside0.mk H
                      clear H
                      have p442 : 0 ≤ (x7_2 : Int) := of_decide_eq_true (by first | (with_reducible assumption) | assumption)
                      have q442 : x7_2 < (l0.length : Int) := of_decide_eq_true (by first | (with_reducible assumption) | assumption)
                      obtain ⟨ad442, e442, hx442_0⟩ := Kd.at_int HR0.out x7_2 p442 q442
                      cases e442
                      replace p442 := eq_true p442
                      replace q442 := eq_true q442
                      have p443 : 0 ≤ (x7_2 : Int) := of_decide_eq_true (by first | (with_reducible assumption) | assumption)
                      have q443 : x7_2 < (l0.length : Int) := of_decide_eq_true (by first | (with_reducible assumption) | assumption)
                      obtain ⟨ad443, e443, hx443_0⟩ := Kd.at_int HR0.out x7_2 p443 q443
                      obtain rfl : ad442 = ad443 := (by injection e443)
                      replace p443 := eq_true p443
                      replace q443 := eq_true q443
                      go_wp2
                      go_meet
                      case rel => exact ⟨_, (false), (by first | rfl | (simp; done) | (simp [*]; done)), H', ⟨by have := HJ2.out; have := HK2.out; first | omega | exact Nat.le_refl _⟩, by repeat (first | exact Drawn0.refl _ | apply Drawn0.step)⟩
                · rw [if_neg c8] at H
                  exact absurd H (by simp)
              case rest =>
                clear HC7
                try clear c1
                try clear c2
                try clear p2
                try clear c4
                try clear c4b0
                try clear p4
                try clear q4
                try clear hx4
                try clear c5
                try clear c5b0
                try clear c6
                try clear c6b0
                try clear c6b1
                try clear p6
                try clear c8
                try clear c8b0
                try clear c9
                try clear c9b0
                try clear c9b1
                try clear c10
                try clear c10b0
                try clear c10b1
                try clear hx442_0
                try clear hx443_0
                try clear p2
                try clear p442
                try clear p443
                try clear q442
                try clear q443
                obtain ⟨kq, x45_6, rfl, HA, HJ6, ⟨mc6, rfl⟩⟩ := hcut
                cases kq with
                | zero => exact absurd HA.out (by simp [tollbarref05_Cut.j2])
                | succ kj6 =>
                  have H := HA.out
                  clear HA
                  simp only [tollbarref05_Cut.j2] at H
                  by_cases c11 : x45_6 = true
                  · subst c11
                    have H1 : (some ((⟨#[]⟩ : ByteArray), 0, 20)) = some (r1, r2, r3) := by rw [if_pos rfl] at H; exact H
                    clear H
                    have H := H1
                    clear H1
                    simp only [Option.some.injEq, Prod.mk.injEq] at H
                    obtain ⟨rfl, rfl, rfl⟩ := H
                    go_wp2
                    go_ret3
                    exact ⟨by first | rfl | (simp; done) | (simp [*]; done), by repeat (first | exact Drawn0.refl _ | apply Drawn0.step)⟩
                  · replace c11 := Bool.eq_false_iff.mpr c11
                    subst c11
                    have H1 : (if 0 ≤ x7_2 then (if x7_2 < (l0.length : Int) then (if (rd l0 x7_2) = 13 then (tollbarref05_Cut.j3 kj6 l0 x1_2 x7_2 true) else (tollbarref05_Cut.j3 kj6 l0 x1_2 x7_2 false)) else (none)) else (none)) = some (r1, r2, r3) := by rw [if_neg (show ¬ (false = true) by decide)] at H; exact H
                    clear H
                    have H := H1
                    clear H1
                    have HC12 := Aside0.mk H
                    clear H
                    go_upto_region 9 with (fail)
                    go_cut [53] (fun v53 wc => ∃ (kq : Nat) (x53_11 : Bool), v53 = .bool x53_11 ∧ Aside0 (tollbarref05_Cut.j3 kq l0 x1_2 x7_2 x53_11 = some (r1, r2, r3)) ∧ Aside0 (kq ≤ kj6) ∧ Drawn0 w wc)
                    case first =>
                      have H := HC12.out
                      clear HC12
                      by_cases c13 : 0 ≤ x7_2
                      · rw [if_pos c13] at H
                        have c13b0 : decide (0 ≤ x7_2) = true := decide_eq_true c13
                        clear c13
                        (first | rw [c13b0] | (simp only [i64_w, i32_w]; rw [c13b0]) | skip)
                        by_cases c14 : x7_2 < (l0.length : Int)
                        · rw [if_pos c14] at H
                          have c14b0 : decide (x7_2 < (l0.length : Int)) = true := decide_eq_true c14
                          clear c14
                          by_cases c15 : (rd l0 x7_2) = 13
                          · rw [if_pos c15] at H
                            have c15b0 : ((rd l0 x7_2) == 13) = true := beq_iff_eq.mpr c15
                            have c15b1 : ((rd l0 x7_2) != 13) = false := bne_eq_false_iff_eq.mpr c15
                            clear c15
                            have H' := Aside0.mk H
                            clear H
                            have p444 : 0 ≤ (x7_2 : Int) := of_decide_eq_true (by first | (with_reducible assumption) | assumption)
                            have q444 : x7_2 < (l0.length : Int) := of_decide_eq_true (by first | (with_reducible assumption) | assumption)
                            obtain ⟨ad444, e444, hx444_0⟩ := Kd.at_int HR0.out x7_2 p444 q444
                            cases e444
                            replace p444 := eq_true p444
                            replace q444 := eq_true q444
                            go_wp2
                            go_meet
                            case rel => exact ⟨_, (true), (by first | rfl | (simp; done) | (simp [*]; done)), H', ⟨by have := HJ2.out; have := HK2.out; have := HJ6.out; first | omega | exact Nat.le_refl _⟩, by repeat (first | exact Drawn0.refl _ | apply Drawn0.step)⟩
                          · rw [if_neg c15] at H
                            have c15b0 : ((rd l0 x7_2) == 13) = false := beq_eq_false_iff_ne.mpr c15
                            have c15b1 : ((rd l0 x7_2) != 13) = true := bne_iff_ne.mpr c15
                            have H' := Aside0.mk H
                            clear H
                            have p444 : 0 ≤ (x7_2 : Int) := of_decide_eq_true (by first | (with_reducible assumption) | assumption)
                            have q444 : x7_2 < (l0.length : Int) := of_decide_eq_true (by first | (with_reducible assumption) | assumption)
                            obtain ⟨ad444, e444, hx444_0⟩ := Kd.at_int HR0.out x7_2 p444 q444
                            cases e444
                            replace p444 := eq_true p444
                            replace q444 := eq_true q444
                            go_wp2
                            go_meet
                            case rel => exact ⟨_, (false), (by first | rfl | (simp; done) | (simp [*]; done)), H', ⟨by have := HJ2.out; have := HK2.out; have := HJ6.out; first | omega | exact Nat.le_refl _⟩, by repeat (first | exact Drawn0.refl _ | apply Drawn0.step)⟩
                        · rw [if_neg c14] at H
                          exact absurd H (by simp)
                      · rw [if_neg c13] at H
                        exact absurd H (by simp)
                    case rest =>
                      clear HC12
                      try clear c1
                      try clear c2
                      try clear p2
                      try clear c4
                      try clear c4b0
                      try clear p4
                      try clear q4
                      try clear hx4
                      try clear c5
                      try clear c5b0
                      try clear c6
                      try clear c6b0
                      try clear c6b1
                      try clear p6
                      try clear c8
                      try clear c8b0
                      try clear c9
                      try clear c9b0
                      try clear c9b1
                      try clear c10
                      try clear c10b0
                      try clear c10b1
                      try clear c11
                      try clear c13
                      try clear c13b0
                      try clear c14
                      try clear c14b0
                      try clear c15
                      try clear c15b0
                      try clear c15b1
                      try clear hx442_0
                      try clear hx443_0
                      try clear hx444_0
                      try clear p2
                      try clear p4
                      try clear p442
                      try clear p443
                      try clear p444
                      try clear p6
                      try clear q4
                      try clear q442
                      try clear q443
                      try clear q444
                      obtain ⟨kq, x53_11, rfl, HA, HJ11, ⟨mc11, rfl⟩⟩ := hcut
                      cases kq with
                      | zero => exact absurd HA.out (by simp [tollbarref05_Cut.j3])
                      | succ kj11 =>
                        have H := HA.out
                        clear HA
                        simp only [tollbarref05_Cut.j3] at H
                        by_cases c16 : x53_11 = true
                        · subst c16
                          have H1 : (some ((⟨#[]⟩ : ByteArray), 0, 0)) = some (r1, r2, r3) := by rw [if_pos rfl] at H; exact H
                          clear H
                          have H := H1
                          clear H1
                          simp only [Option.some.injEq, Prod.mk.injEq] at H
                          obtain ⟨rfl, rfl, rfl⟩ := H
                          go_wp2
                          go_ret3
                          exact ⟨by first | rfl | (simp; done) | (simp [*]; done), by repeat (first | exact Drawn0.refl _ | apply Drawn0.step)⟩
                        · replace c16 := Bool.eq_false_iff.mpr c16
                          subst c16
                          have H1 : (if 0 ≤ x7_2 then (if x7_2 < (l0.length : Int) then (if (rd l0 x7_2) = 13 then (if x7_2 ≤ (l0.length : Int) then (some (strOfNums (l0.take (x7_2 : Int).toNat), wrap64 (x7_2 + 2), 0)) else (none)) else (if x7_2 ≥ x1_2 then (some ((⟨#[]⟩ : ByteArray), 0, 2)) else (tollbarref05_Cut.l0 kj11 l0 x1_2 (wrap64 (x7_2 + 1))))) else (none)) else (none)) = some (r1, r2, r3) := by rw [if_neg (show ¬ (false = true) by decide)] at H; exact H
                          clear H
                          have H := H1
                          clear H1
                          by_cases c17 : 0 ≤ x7_2
                          · rw [if_pos c17] at H
                            have c17b0 : decide (0 ≤ x7_2) = true := decide_eq_true c17
                            clear c17
                            by_cases c18 : x7_2 < (l0.length : Int)
                            · rw [if_pos c18] at H
                              have c18b0 : decide (x7_2 < (l0.length : Int)) = true := decide_eq_true c18
                              clear c18
                              by_cases c19 : (rd l0 x7_2) = 13
                              · rw [if_pos c19] at H
                                have c19b0 : ((rd l0 x7_2) == 13) = true := beq_iff_eq.mpr c19
                                have c19b1 : ((rd l0 x7_2) != 13) = false := bne_eq_false_iff_eq.mpr c19
                                clear c19
                                have c20b0 := eq_true (of_decide_eq_true (by first | (with_reducible assumption) | assumption) : 0 ≤ x7_2)
                                by_cases c21 : x7_2 ≤ (l0.length : Int)
                                · rw [if_pos c21] at H
                                  have c21b0 := eq_true c21
                                  have c21b1 : decide (x7_2 ≤ (l0.length : Int)) = true := decide_eq_true c21
                                  clear c21
                                  simp only [Option.some.injEq, Prod.mk.injEq] at H
                                  obtain ⟨rfl, rfl, rfl⟩ := H
                                  have p445 : 0 ≤ (x7_2 : Int) := of_decide_eq_true (by first | (with_reducible assumption) | assumption)
                                  have q445 : x7_2 < (l0.length : Int) := of_decide_eq_true (by first | (with_reducible assumption) | assumption)
                                  obtain ⟨ad445, e445, hx445_0⟩ := Kd.at_int HR0.out x7_2 p445 q445
                                  cases e445
                                  replace p445 := eq_true p445
                                  replace q445 := eq_true q445
                                  obtain ⟨i022, hi022, _, hsz22, _⟩ := info_parts info5
                                  obtain ⟨hcut22, hA22, hC22⟩ := print_take_of (P := Tryd.prog) (Value.int .u8) 0 24 5 .i64 Tryd.underlying24 hi022 hsz22 (some ad445) c0 l0 x7_2 (of_decide_eq_true (by first | (with_reducible assumption) | assumption)) (of_decide_eq_true (by first | (with_reducible assumption) | assumption)) HC0.out
                                  have HR446 := Aside0.mk (Kd.C_of_reads (h1 := fun _ => rfl) (hA22 _ (Kd.reads_of_C HR0.out)))
                                  have HC446 := Aside0.mk hC22
                                  clear hA22 hC22 hi022 hsz22
                                  have hcv23 := Kd.C_string (P := Tryd.prog) (A := (some ad445)) (c := c0) Tryd.underlying24 Tryd.underlying5 Tryd.underlying9 HR446.out
                                  have hcvd23 := fun (m_ : Nat) => Kd.C_string (P := Tryd.prog) (A := (some ad445)) (c := c0) Tryd.underlying24 Tryd.underlying5 Tryd.underlying9 (Kd.C_drewN HR446.out m_)
                                  have hlen23 : (l0.take (x7_2 : Int).toNat).length = (x7_2 : Int).toNat := by have q1_ : (x7_2 : Int) ≤ (l0.length : Int) := of_decide_eq_true (by first | (with_reducible assumption) | assumption); have q2_ : 0 ≤ (x7_2 : Int) := of_decide_eq_true (by first | (with_reducible assumption) | assumption); rw [List.length_take]; omega
                                  rw [hlen23] at hcv23
                                  simp only [hlen23] at hcvd23
                                  clear hlen23
                                  go_wp2
                                  go_ret3
                                  exact ⟨by first | rfl | (simp; done) | (simp [*]; done), by repeat (first | exact Drawn0.refl _ | apply Drawn0.step)⟩
                                · rw [if_neg c21] at H
                                  exact absurd H (by simp)
                              · rw [if_neg c19] at H
                                have c19b0 : ((rd l0 x7_2) == 13) = false := beq_eq_false_iff_ne.mpr c19
                                have c19b1 : ((rd l0 x7_2) != 13) = true := bne_iff_ne.mpr c19
                                by_cases c24 : x7_2 ≥ x1_2
                                · rw [if_pos c24] at H
                                  have c24b0 : decide (x1_2 ≤ x7_2) = true := decide_eq_true c24
                                  clear c24
                                  simp only [Option.some.injEq, Prod.mk.injEq] at H
                                  obtain ⟨rfl, rfl, rfl⟩ := H
                                  have p445 : 0 ≤ (x7_2 : Int) := of_decide_eq_true (by first | (with_reducible assumption) | assumption)
                                  have q445 : x7_2 < (l0.length : Int) := of_decide_eq_true (by first | (with_reducible assumption) | assumption)
                                  obtain ⟨ad445, e445, hx445_0⟩ := Kd.at_int HR0.out x7_2 p445 q445
                                  cases e445
                                  replace p445 := eq_true p445
                                  replace q445 := eq_true q445
                                  go_wp2
                                  go_ret3
                                  exact ⟨by first | rfl | (simp; done) | (simp [*]; done), by repeat (first | exact Drawn0.refl _ | apply Drawn0.step)⟩
                                · rw [if_neg c24] at H
                                  have c24b0 : decide (x1_2 ≤ x7_2) = false := decide_eq_false c24
                                  clear c24
                                  have H' := Aside0.mk H
                                  clear H
                                  have p445 : 0 ≤ (x7_2 : Int) := of_decide_eq_true (by first | (with_reducible assumption) | assumption)
                                  have q445 : x7_2 < (l0.length : Int) := of_decide_eq_true (by first | (with_reducible assumption) | assumption)
                                  obtain ⟨ad445, e445, hx445_0⟩ := Kd.at_int HR0.out x7_2 p445 q445
                                  cases e445
                                  replace p445 := eq_true p445
                                  replace q445 := eq_true q445
                                  go_wp2
                                  go_roundg kj11
                                  case measure => have := HJ2.out; have := HK2.out; have := HJ6.out; have := HJ11.out; omega
                                  case rel => exact ⟨(wrap64 (x7_2 + 1)), (by first | rfl | (simp; done) | (simp [*]; done)), H', ⟨by have := HJ2.out; have := HK2.out; have := HJ6.out; have := HJ11.out; omega⟩, by repeat (first | exact Drawn0.refl _ | apply Drawn0.step)⟩
                            · rw [if_neg c18] at H
                              exact absurd H (by simp)
                          · rw [if_neg c17] at H
                            exact absurd H (by simp)
            · rw [if_neg c6] at H
              have c6b0 : (x7_2 == (wrap64 ((l0.length : Int) - 1))) = false := beq_eq_false_iff_ne.mpr c6
              have c6b1 : (x7_2 != (wrap64 ((l0.length : Int) - 1))) = true := bne_iff_ne.mpr c6
              have HC25 := Aside0.mk H
              clear H
              go_upto_region 7 with (fail)
              go_cut [45] (fun v45 wc => ∃ (kq : Nat) (x45_24 : Bool), v45 = .bool x45_24 ∧ Aside0 (tollbarref05_Cut.j4 kq l0 x1_2 x7_2 false x45_24 = some (r1, r2, r3)) ∧ Aside0 (kq ≤ k2) ∧ Drawn0 w wc)
              case first =>
                have H := HC25.out
                clear HC25
                by_cases c26 : 0 ≤ x7_2
                · rw [if_pos c26] at H
                  have c26b0 : decide (0 ≤ x7_2) = true := decide_eq_true c26
                  clear c26
                  (first | rw [c26b0] | (simp only [i64_w, i32_w]; rw [c26b0]) | skip)
                  by_cases c27 : (rd l0 x7_2) = 10
                  · rw [if_pos c27] at H
                    have c27b0 : ((rd l0 x7_2) == 10) = true := beq_iff_eq.mpr c27
                    have c27b1 : ((rd l0 x7_2) != 10) = false := bne_eq_false_iff_eq.mpr c27
                    clear c27
                    have H' := Aside0.mk H
                    clear H
                    have p447 : 0 ≤ (x7_2 : Int) := of_decide_eq_true (by first | (with_reducible assumption) | assumption)
                    have q447 : x7_2 < (l0.length : Int) := of_decide_eq_true (by first | (with_reducible assumption) | assumption)
                    obtain ⟨ad447, e447, hx447_0⟩ := Kd.at_int HR0.out x7_2 p447 q447
                    cases e447
                    replace p447 := eq_true p447
                    replace q447 := eq_true q447
                    go_wp2
                    go_meet
                    case rel => exact ⟨_, (true), (by first | rfl | (simp; done) | (simp [*]; done)), H', ⟨by have := HJ2.out; have := HK2.out; first | omega | exact Nat.le_refl _⟩, by repeat (first | exact Drawn0.refl _ | apply Drawn0.step)⟩
                  · rw [if_neg c27] at H
                    have c27b0 : ((rd l0 x7_2) == 10) = false := beq_eq_false_iff_ne.mpr c27
                    have c27b1 : ((rd l0 x7_2) != 10) = true := bne_iff_ne.mpr c27
                    by_cases c28 : (rd l0 x7_2) = 13
                    · rw [if_pos c28] at H
                      have c28b0 : ((rd l0 x7_2) == 13) = true := beq_iff_eq.mpr c28
                      have c28b1 : ((rd l0 x7_2) != 13) = false := bne_eq_false_iff_eq.mpr c28
                      clear c28
                      obtain ⟨ji29, hji29⟩ : ∃ j_ : Int, (wrap64 (x7_2 + 1)) = j_ := ⟨_, rfl⟩
                      replace H : (if 0 ≤ (ji29) then (if (ji29) < (l0.length : Int) then (tollbarref05_Cut.j4 k2 l0 x1_2 x7_2 false ((rd l0 (ji29)) != 10)) else (none)) else (none)) = some (r1, r2, r3) := by first | (rw [hji29] at H; exact H) | (simp only [hji29] at H ⊢; exact H)
                      have hji29w : (IntKind.i64.wrap (x7_2 + 1)) = ji29 := (i64_w _).trans hji29
                      by_cases c30 : 0 ≤ (ji29)
                      · rw [if_pos c30] at H
                        have c30b0 : decide (0 ≤ (ji29)) = true := decide_eq_true c30
                        clear c30
                        by_cases c31 : (ji29) < (l0.length : Int)
                        · rw [if_pos c31] at H
                          have c31b0 : decide ((ji29) < (l0.length : Int)) = true := decide_eq_true c31
                          clear c31
                          have H' := Aside0.mk H
                          clear H
                          have p447 : 0 ≤ (x7_2 : Int) := of_decide_eq_true (by first | (with_reducible assumption) | assumption)
                          have q447 : x7_2 < (l0.length : Int) := of_decide_eq_true (by first | (with_reducible assumption) | assumption)
                          obtain ⟨ad447, e447, hx447_0⟩ := Kd.at_int HR0.out x7_2 p447 q447
                          cases e447
                          replace p447 := eq_true p447
                          replace q447 := eq_true q447
                          have p448 : 0 ≤ (x7_2 : Int) := of_decide_eq_true (by first | (with_reducible assumption) | assumption)
                          have q448 : x7_2 < (l0.length : Int) := of_decide_eq_true (by first | (with_reducible assumption) | assumption)
                          obtain ⟨ad448, e448, hx448_0⟩ := Kd.at_int HR0.out x7_2 p448 q448
                          obtain rfl : ad447 = ad448 := (by injection e448)
                          replace p448 := eq_true p448
                          replace q448 := eq_true q448
                          have p449 : 0 ≤ ((ji29) : Int) := of_decide_eq_true (by first | (with_reducible assumption) | assumption)
                          have q449 : (ji29) < (l0.length : Int) := of_decide_eq_true (by first | (with_reducible assumption) | assumption)
                          obtain ⟨ad449, e449, hx449_0⟩ := Kd.at_int HR0.out (ji29) p449 q449
                          obtain rfl : ad447 = ad449 := (by injection e449)
                          replace p449 := eq_true p449
                          replace q449 := eq_true q449
                          go_wp2
                          go_meet
                          case rel => exact ⟨_, (((rd l0 (ji29)) != 10)), (by first | rfl | (simp; done) | (simp only [← hji29] <;> (first | rfl | simp)) | (simp [*]; done)), H', ⟨by have := HJ2.out; have := HK2.out; first | omega | exact Nat.le_refl _⟩, by repeat (first | exact Drawn0.refl _ | apply Drawn0.step)⟩
                        · rw [if_neg c31] at H
                          exact absurd H (by simp)
                      · rw [if_neg c30] at H
                        exact absurd H (by simp)
                    · rw [if_neg c28] at H
                      have c28b0 : ((rd l0 x7_2) == 13) = false := beq_eq_false_iff_ne.mpr c28
                      have c28b1 : ((rd l0 x7_2) != 13) = true := bne_iff_ne.mpr c28
                      have H' := Aside0.mk H
                      clear H
                      have p447 : 0 ≤ (x7_2 : Int) := of_decide_eq_true (by first | (with_reducible assumption) | assumption)
                      have q447 : x7_2 < (l0.length : Int) := of_decide_eq_true (by first | (with_reducible assumption) | assumption)
                      obtain ⟨ad447, e447, hx447_0⟩ := Kd.at_int HR0.out x7_2 p447 q447
                      cases e447
                      replace p447 := eq_true p447
                      replace q447 := eq_true q447
                      have p448 : 0 ≤ (x7_2 : Int) := of_decide_eq_true (by first | (with_reducible assumption) | assumption)
                      have q448 : x7_2 < (l0.length : Int) := of_decide_eq_true (by first | (with_reducible assumption) | assumption)
                      obtain ⟨ad448, e448, hx448_0⟩ := Kd.at_int HR0.out x7_2 p448 q448
                      obtain rfl : ad447 = ad448 := (by injection e448)
                      replace p448 := eq_true p448
                      replace q448 := eq_true q448
                      go_wp2
                      go_meet
                      case rel => exact ⟨_, (false), (by first | rfl | (simp; done) | (simp [*]; done)), H', ⟨by have := HJ2.out; have := HK2.out; first | omega | exact Nat.le_refl _⟩, by repeat (first | exact Drawn0.refl _ | apply Drawn0.step)⟩
                · rw [if_neg c26] at H
                  exact absurd H (by simp)
              case rest =>
                clear HC25
                try clear c1
                try clear q1
                try clear c2
                try clear p2
                try clear q2
                try clear hcv2
                try clear c3
                try clear c4
                try clear c4b0
                try clear p4
                try clear q4
                try clear hx4
                try clear c5
                try clear c5b0
                try clear c6
                try clear c6b0
                try clear c6b1
                try clear p6
                try clear c8
                try clear c8b0
                try clear c9
                try clear c9b0
                try clear c9b1
                try clear c10
                try clear c10b0
                try clear c10b1
                try clear c11
                try clear c13
                try clear c13b0
                try clear c14
                try clear c14b0
                try clear c15
                try clear c15b0
                try clear c15b1
                try clear c16
                try clear c17
                try clear c17b0
                try clear c18
                try clear c18b0
                try clear c19
                try clear c19b0
                try clear c19b1
                try clear c20
                try clear c20b0
                try clear c21
                try clear c21b0
                try clear c21b1
                try clear hcv23
                try clear c24
                try clear c24b0
                try clear c26
                try clear c26b0
                try clear c27
                try clear c27b0
                try clear c27b1
                try clear c28
                try clear c28b0
                try clear c28b1
                try clear c30
                try clear c30b0
                try clear c31
                try clear c31b0
                try clear hx442_0
                try clear hx443_0
                try clear hx444_0
                try clear hx445_0
                try clear hx447_0
                try clear hx448_0
                try clear hx449_0
                try clear p2
                try clear p4
                try clear p442
                try clear p443
                try clear p444
                try clear p445
                try clear p447
                try clear p448
                try clear p449
                try clear p6
                try clear q4
                try clear q442
                try clear q443
                try clear q444
                try clear q445
                try clear q447
                try clear q448
                try clear q449
                obtain ⟨kq, x45_24, rfl, HA, HJ24, ⟨mc24, rfl⟩⟩ := hcut
                cases kq with
                | zero => exact absurd HA.out (by simp [tollbarref05_Cut.j4])
                | succ kj24 =>
                  have H := HA.out
                  clear HA
                  simp only [tollbarref05_Cut.j4] at H
                  by_cases c32 : x45_24 = true
                  · subst c32
                    have H1 : (some ((⟨#[]⟩ : ByteArray), 0, 20)) = some (r1, r2, r3) := by rw [if_pos rfl] at H; exact H
                    clear H
                    have H := H1
                    clear H1
                    simp only [Option.some.injEq, Prod.mk.injEq] at H
                    obtain ⟨rfl, rfl, rfl⟩ := H
                    go_wp2
                    go_ret3
                    exact ⟨by first | rfl | (simp; done) | (simp [*]; done), by repeat (first | exact Drawn0.refl _ | apply Drawn0.step)⟩
                  · replace c32 := Bool.eq_false_iff.mpr c32
                    subst c32
                    have H1 : (if 0 ≤ x7_2 then (if x7_2 < (l0.length : Int) then (if (rd l0 x7_2) = 13 then (tollbarref05_Cut.j5 kj24 l0 x1_2 x7_2 false) else (tollbarref05_Cut.j5 kj24 l0 x1_2 x7_2 false)) else (none)) else (none)) = some (r1, r2, r3) := by rw [if_neg (show ¬ (false = true) by decide)] at H; exact H
                    clear H
                    have H := H1
                    clear H1
                    have HC33 := Aside0.mk H
                    clear H
                    go_upto_region 9 with (fail)
                    go_cut [53] (fun v53 wc => ∃ (kq : Nat) (x53_32 : Bool), v53 = .bool x53_32 ∧ Aside0 (tollbarref05_Cut.j5 kq l0 x1_2 x7_2 x53_32 = some (r1, r2, r3)) ∧ Aside0 (kq ≤ kj24) ∧ Drawn0 w wc)
                    case first =>
                      have H := HC33.out
                      clear HC33
                      by_cases c34 : 0 ≤ x7_2
                      · rw [if_pos c34] at H
                        have c34b0 : decide (0 ≤ x7_2) = true := decide_eq_true c34
                        clear c34
                        (first | rw [c34b0] | (simp only [i64_w, i32_w]; rw [c34b0]) | skip)
                        by_cases c35 : x7_2 < (l0.length : Int)
                        · rw [if_pos c35] at H
                          have c35b0 : decide (x7_2 < (l0.length : Int)) = true := decide_eq_true c35
                          clear c35
                          by_cases c36 : (rd l0 x7_2) = 13
                          · rw [if_pos c36] at H
                            have c36b0 : ((rd l0 x7_2) == 13) = true := beq_iff_eq.mpr c36
                            have c36b1 : ((rd l0 x7_2) != 13) = false := bne_eq_false_iff_eq.mpr c36
                            clear c36
                            have H' := Aside0.mk H
                            clear H
                            have p450 : 0 ≤ (x7_2 : Int) := of_decide_eq_true (by first | (with_reducible assumption) | assumption)
                            have q450 : x7_2 < (l0.length : Int) := of_decide_eq_true (by first | (with_reducible assumption) | assumption)
                            obtain ⟨ad450, e450, hx450_0⟩ := Kd.at_int HR0.out x7_2 p450 q450
                            cases e450
                            replace p450 := eq_true p450
                            replace q450 := eq_true q450
                            go_wp2
                            go_meet
                            case rel => exact ⟨_, (false), (by first | rfl | (simp; done) | (simp [*]; done)), H', ⟨by have := HJ2.out; have := HK2.out; have := HJ24.out; first | omega | exact Nat.le_refl _⟩, by repeat (first | exact Drawn0.refl _ | apply Drawn0.step)⟩
                          · rw [if_neg c36] at H
                            have c36b0 : ((rd l0 x7_2) == 13) = false := beq_eq_false_iff_ne.mpr c36
                            have c36b1 : ((rd l0 x7_2) != 13) = true := bne_iff_ne.mpr c36
                            have H' := Aside0.mk H
                            clear H
                            have p450 : 0 ≤ (x7_2 : Int) := of_decide_eq_true (by first | (with_reducible assumption) | assumption)
                            have q450 : x7_2 < (l0.length : Int) := of_decide_eq_true (by first | (with_reducible assumption) | assumption)
                            obtain ⟨ad450, e450, hx450_0⟩ := Kd.at_int HR0.out x7_2 p450 q450
                            cases e450
                            replace p450 := eq_true p450
                            replace q450 := eq_true q450
                            go_wp2
                            go_meet
                            case rel => exact ⟨_, (false), (by first | rfl | (simp; done) | (simp [*]; done)), H', ⟨by have := HJ2.out; have := HK2.out; have := HJ24.out; first | omega | exact Nat.le_refl _⟩, by repeat (first | exact Drawn0.refl _ | apply Drawn0.step)⟩
                        · rw [if_neg c35] at H
                          exact absurd H (by simp)
                      · rw [if_neg c34] at H
                        exact absurd H (by simp)
                    case rest =>
                      clear HC33
                      try clear c1
                      try clear q1
                      try clear c2
                      try clear p2
                      try clear q2
                      try clear hcv2
                      try clear c3
                      try clear c4
                      try clear c4b0
                      try clear p4
                      try clear q4
                      try clear hx4
                      try clear c5
                      try clear c5b0
                      try clear c6
                      try clear c6b0
                      try clear c6b1
                      try clear p6
                      try clear c8
                      try clear c8b0
                      try clear c9
                      try clear c9b0
                      try clear c9b1
                      try clear c10
                      try clear c10b0
                      try clear c10b1
                      try clear c11
                      try clear c13
                      try clear c13b0
                      try clear c14
                      try clear c14b0
                      try clear c15
                      try clear c15b0
                      try clear c15b1
                      try clear c16
                      try clear c17
                      try clear c17b0
                      try clear c18
                      try clear c18b0
                      try clear c19
                      try clear c19b0
                      try clear c19b1
                      try clear c20
                      try clear c20b0
                      try clear c21
                      try clear c21b0
                      try clear c21b1
                      try clear hcv23
                      try clear c24
                      try clear c24b0
                      try clear c26
                      try clear c26b0
                      try clear c27
                      try clear c27b0
                      try clear c27b1
                      try clear c28
                      try clear c28b0
                      try clear c28b1
                      try clear c30
                      try clear c30b0
                      try clear c31
                      try clear c31b0
                      try clear c32
                      try clear c34
                      try clear c34b0
                      try clear c35
                      try clear c35b0
                      try clear c36
                      try clear c36b0
                      try clear c36b1
                      try clear hx442_0
                      try clear hx443_0
                      try clear hx444_0
                      try clear hx445_0
                      try clear hx447_0
                      try clear hx448_0
                      try clear hx449_0
                      try clear hx450_0
                      try clear p2
                      try clear p4
                      try clear p442
                      try clear p443
                      try clear p444
                      try clear p445
                      try clear p447
                      try clear p448
                      try clear p449
                      try clear p450
                      try clear p6
                      try clear q1
                      try clear q2
                      try clear q4
                      try clear q442
                      try clear q443
                      try clear q444
                      try clear q445
                      try clear q447
                      try clear q448
                      try clear q449
                      try clear q450
                      obtain ⟨kq, x53_32, rfl, HA, HJ32, ⟨mc32, rfl⟩⟩ := hcut
                      cases kq with
                      | zero => exact absurd HA.out (by simp [tollbarref05_Cut.j5])
                      | succ kj32 =>
                        have H := HA.out
                        clear HA
                        simp only [tollbarref05_Cut.j5] at H
                        by_cases c37 : x53_32 = true
                        · subst c37
                          have H1 : (some ((⟨#[]⟩ : ByteArray), 0, 0)) = some (r1, r2, r3) := by rw [if_pos rfl] at H; exact H
                          clear H
                          have H := H1
                          clear H1
                          simp only [Option.some.injEq, Prod.mk.injEq] at H
                          obtain ⟨rfl, rfl, rfl⟩ := H
                          go_wp2
                          go_ret3
                          exact ⟨by first | rfl | (simp; done) | (simp [*]; done), by repeat (first | exact Drawn0.refl _ | apply Drawn0.step)⟩
                        · replace c37 := Bool.eq_false_iff.mpr c37
                          subst c37
                          have H1 : (if 0 ≤ x7_2 then (if x7_2 < (l0.length : Int) then (if (rd l0 x7_2) = 13 then (if x7_2 ≤ (l0.length : Int) then (some (strOfNums (l0.take (x7_2 : Int).toNat), wrap64 (x7_2 + 2), 0)) else (none)) else (if x7_2 ≥ x1_2 then (some ((⟨#[]⟩ : ByteArray), 0, 2)) else (tollbarref05_Cut.l0 kj32 l0 x1_2 (wrap64 (x7_2 + 1))))) else (none)) else (none)) = some (r1, r2, r3) := by rw [if_neg (show ¬ (false = true) by decide)] at H; exact H
                          clear H
                          have H := H1
                          clear H1
                          by_cases c38 : 0 ≤ x7_2
                          · rw [if_pos c38] at H
                            have c38b0 : decide (0 ≤ x7_2) = true := decide_eq_true c38
                            clear c38
                            by_cases c39 : x7_2 < (l0.length : Int)
                            · rw [if_pos c39] at H
                              have c39b0 : decide (x7_2 < (l0.length : Int)) = true := decide_eq_true c39
                              clear c39
                              by_cases c40 : (rd l0 x7_2) = 13
                              · rw [if_pos c40] at H
                                have c40b0 : ((rd l0 x7_2) == 13) = true := beq_iff_eq.mpr c40
                                have c40b1 : ((rd l0 x7_2) != 13) = false := bne_eq_false_iff_eq.mpr c40
                                clear c40
                                have c41b0 := eq_true (of_decide_eq_true (by first | (with_reducible assumption) | assumption) : 0 ≤ x7_2)
                                by_cases c42 : x7_2 ≤ (l0.length : Int)
                                · rw [if_pos c42] at H
                                  have c42b0 := eq_true c42
                                  have c42b1 : decide (x7_2 ≤ (l0.length : Int)) = true := decide_eq_true c42
                                  clear c42
                                  simp only [Option.some.injEq, Prod.mk.injEq] at H
                                  obtain ⟨rfl, rfl, rfl⟩ := H
                                  have p451 : 0 ≤ (x7_2 : Int) := of_decide_eq_true (by first | (with_reducible assumption) | assumption)
                                  have q451 : x7_2 < (l0.length : Int) := of_decide_eq_true (by first | (with_reducible assumption) | assumption)
                                  obtain ⟨ad451, e451, hx451_0⟩ := Kd.at_int HR0.out x7_2 p451 q451
                                  cases e451
                                  replace p451 := eq_true p451
                                  replace q451 := eq_true q451
                                  obtain ⟨i043, hi043, _, hsz43, _⟩ := info_parts info5
                                  obtain ⟨hcut43, hA43, hC43⟩ := print_take_of (P := Tryd.prog) (Value.int .u8) 0 24 5 .i64 Tryd.underlying24 hi043 hsz43 (some ad451) c0 l0 x7_2 (of_decide_eq_true (by first | (with_reducible assumption) | assumption)) (of_decide_eq_true (by first | (with_reducible assumption) | assumption)) HC0.out
                                  have HR452 := Aside0.mk (Kd.C_of_reads (h1 := fun _ => rfl) (hA43 _ (Kd.reads_of_C HR0.out)))
                                  have HC452 := Aside0.mk hC43
                                  clear hA43 hC43 hi043 hsz43
                                  have hcv44 := Kd.C_string (P := Tryd.prog) (A := (some ad451)) (c := c0) Tryd.underlying24 Tryd.underlying5 Tryd.underlying9 HR452.out
                                  have hcvd44 := fun (m_ : Nat) => Kd.C_string (P := Tryd.prog) (A := (some ad451)) (c := c0) Tryd.underlying24 Tryd.underlying5 Tryd.underlying9 (Kd.C_drewN HR452.out m_)
                                  have hlen44 : (l0.take (x7_2 : Int).toNat).length = (x7_2 : Int).toNat := by have q1_ : (x7_2 : Int) ≤ (l0.length : Int) := of_decide_eq_true (by first | (with_reducible assumption) | assumption); have q2_ : 0 ≤ (x7_2 : Int) := of_decide_eq_true (by first | (with_reducible assumption) | assumption); rw [List.length_take]; omega
                                  rw [hlen44] at hcv44
                                  simp only [hlen44] at hcvd44
                                  clear hlen44
                                  go_wp2
                                  go_ret3
                                  exact ⟨by first | rfl | (simp; done) | (simp [*]; done), by repeat (first | exact Drawn0.refl _ | apply Drawn0.step)⟩
                                · rw [if_neg c42] at H
                                  exact absurd H (by simp)
                              · rw [if_neg c40] at H
                                have c40b0 : ((rd l0 x7_2) == 13) = false := beq_eq_false_iff_ne.mpr c40
                                have c40b1 : ((rd l0 x7_2) != 13) = true := bne_iff_ne.mpr c40
                                by_cases c45 : x7_2 ≥ x1_2
                                · rw [if_pos c45] at H
                                  have c45b0 : decide (x1_2 ≤ x7_2) = true := decide_eq_true c45
                                  clear c45
                                  simp only [Option.some.injEq, Prod.mk.injEq] at H
                                  obtain ⟨rfl, rfl, rfl⟩ := H
                                  have p451 : 0 ≤ (x7_2 : Int) := of_decide_eq_true (by first | (with_reducible assumption) | assumption)
                                  have q451 : x7_2 < (l0.length : Int) := of_decide_eq_true (by first | (with_reducible assumption) | assumption)
                                  obtain ⟨ad451, e451, hx451_0⟩ := Kd.at_int HR0.out x7_2 p451 q451
                                  cases e451
                                  replace p451 := eq_true p451
                                  replace q451 := eq_true q451
                                  go_wp2
                                  go_ret3
                                  exact ⟨by first | rfl | (simp; done) | (simp [*]; done), by repeat (first | exact Drawn0.refl _ | apply Drawn0.step)⟩
                                · rw [if_neg c45] at H
                                  have c45b0 : decide (x1_2 ≤ x7_2) = false := decide_eq_false c45
                                  clear c45
                                  have H' := Aside0.mk H
                                  clear H
                                  have p451 : 0 ≤ (x7_2 : Int) := of_decide_eq_true (by first | (with_reducible assumption) | assumption)
                                  have q451 : x7_2 < (l0.length : Int) := of_decide_eq_true (by first | (with_reducible assumption) | assumption)
                                  obtain ⟨ad451, e451, hx451_0⟩ := Kd.at_int HR0.out x7_2 p451 q451
                                  cases e451
                                  replace p451 := eq_true p451
                                  replace q451 := eq_true q451
                                  go_wp2
                                  go_roundg kj32
                                  case measure => have := HJ2.out; have := HK2.out; have := HJ24.out; have := HJ32.out; omega
                                  case rel => exact ⟨(wrap64 (x7_2 + 1)), (by first | rfl | (simp; done) | (simp [*]; done)), H', ⟨by have := HJ2.out; have := HK2.out; have := HJ24.out; have := HJ32.out; omega⟩, by repeat (first | exact Drawn0.refl _ | apply Drawn0.step)⟩
                            · rw [if_neg c39] at H
                              exact absurd H (by simp)
                          · rw [if_neg c38] at H
                            exact absurd H (by simp)
          · rw [if_neg c5] at H
            have c5b0 : decide (x7_2 < (l0.length : Int)) = false := decide_eq_false c5
            clear c5
            simp only [Option.some.injEq, Prod.mk.injEq] at H
            obtain ⟨rfl, rfl, rfl⟩ := H
            go_wp2
            go_ret3
            exact ⟨by first | rfl | (simp; done) | (simp [*]; done), by repeat (first | exact Drawn0.refl _ | apply Drawn0.step)⟩

end Go.Proofs.YtjgpifjfaiaidaaDoor.P

