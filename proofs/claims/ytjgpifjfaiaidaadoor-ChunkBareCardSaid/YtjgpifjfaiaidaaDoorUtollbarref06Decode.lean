/- Each function below answers as its Lean twin says. No further condition. (Laid by this repo's packseat.py out of the seat's texts and of the print's words.) -/
import Derived.Test.YtjgpifjfaiaidaaDoorU0base0x0
import Derived.Test.YtjgpifjfaiaidaaDoorUtollbarref04Parse
import Derived.Test.YtjgpifjfaiaidaaDoorUtollbarref05Cut
import Derived.Test.YtjgpifjfaiaidaaDoorUtollbarref060x0
namespace Go.Proofs.YtjgpifjfaiaidaaDoor.P
open Go.RowKit Go.Proofs.YtjgpifjfaiaidaaDoorW.PrintWords Go.Proofs.YtjgpifjfaiaidaaDoorW.PrintLast Go.Proofs.YtjgpifjfaiaidaaDoorW.PrintMore
attribute [local go_sem] max2_int min2_int max_two min_two max_three min_three max_four min_four   -- for this text's walks alone
set_option linter.unusedVariables false
set_option linter.unusedSimpArgs false

mutual
def tollbarref06_Decode.j0 : Nat → List Int → Int → Option (List Int × Int × Int)
  | 0, _, _ => none
  | k + 1, x0, x1 => tollbarref06_Decode.l0 k x0 x1 (([] : List Int)) 0 0
def tollbarref06_Decode.l0 : Nat → List Int → Int → List Int → Int → Int → Option (List Int × Int × Int)
  | 0, _, _, _, _, _ => none
  | k + 1, x0, x1, x7, x8, x9 => if 0 ≤ x9 then (if x9 ≤ (x0.length : Int) then ((tollbarref05_Cut.f k (x0.drop (x9 : Int).toNat) 256).bind fun bt473 => (if bt473.2.2 = 0 then (tollbarref06_Decode.j2 k x0 x1 x7 x8 x9 bt473.1 bt473.2.1 bt473.2.2 (bt473.2.1 == 0)) else (tollbarref06_Decode.j2 k x0 x1 x7 x8 x9 bt473.1 bt473.2.1 bt473.2.2 true))) else (none)) else (none)
def tollbarref06_Decode.j2 : Nat → List Int → Int → List Int → Int → Int → ByteArray → Int → Int → Bool → Option (List Int × Int × Int)
  | 0, _, _, _, _, _, _, _, _, _ => none
  | k + 1, x0, x1, x7, x8, x9, x10, x11, x12, x40 => if x40 = true then (some (([] : List Int), 0, x12)) else ((tollbarref06_size.f k x10).bind fun bt476 => (if bt476.2 = true then (if bt476.1 = 0 then (tollbarref06_Decode.l3 k x0 x7 (wrap64 (x9 + x11)) 0) else (if bt476.1 > (wrap64 (x1 - x8)) then (some (([] : List Int), 0, 2)) else (tollbarref06_Decode.l1 k x0 x1 x7 (wrap64 (x8 + bt476.1)) (wrap64 (x9 + x11)) bt476.1 0))) else (some (([] : List Int), 0, 30))))
def tollbarref06_Decode.l3 : Nat → List Int → List Int → Int → Int → Option (List Int × Int × Int)
  | 0, _, _, _, _ => none
  | k + 1, x0, x7, x9, x18 => if 0 ≤ x9 then (if x9 ≤ (x0.length : Int) then ((tollbarref05_Cut.f k (x0.drop (x9 : Int).toNat) 256).bind fun bt488 => (if bt488.2.2 = 0 then (tollbarref06_Decode.j6 k x0 x7 x9 x18 bt488.1 bt488.2.1 bt488.2.2 (bt488.2.1 == 0)) else (tollbarref06_Decode.j6 k x0 x7 x9 x18 bt488.1 bt488.2.1 bt488.2.2 true))) else (none)) else (none)
def tollbarref06_Decode.j6 : Nat → List Int → List Int → Int → Int → ByteArray → Int → Int → Bool → Option (List Int × Int × Int)
  | 0, _, _, _, _, _, _, _, _ => none
  | k + 1, x0, x7, x9, x18, x19, x20, x21, x113 => if x113 = true then (some (([] : List Int), 0, x21)) else (if x19.toList = ([] : List UInt8) then (some (x7, wrap64 (x9 + x20), 0)) else ((tollbarref04_Parse.f k x19).bind fun bt491 => (if bt491.2.2 = true then (if (wrap64 (x18 + 1)) > 40 then (some (([] : List Int), 0, 3)) else (tollbarref06_Decode.l3 k x0 x7 (wrap64 (x9 + x20)) (wrap64 (x18 + 1)))) else (some (([] : List Int), 0, 20)))))
def tollbarref06_Decode.l1 : Nat → List Int → Int → List Int → Int → Int → Int → Int → Option (List Int × Int × Int)
  | 0, _, _, _, _, _, _, _ => none
  | k + 1, x0, x1, x7, x8, x9, x13, x15 => if x15 < x13 then (if x9 = (x0.length : Int) then (some (([] : List Int), 0, 0)) else (if 0 ≤ x9 then (if x9 < (x0.length : Int) then (if x7.length < 140737488355328 then (tollbarref06_Decode.l1 k x0 x1 (x7 ++ [rd x0 x9]) x8 (wrap64 (x9 + 1)) x13 (wrap64 (x15 + 1))) else (none)) else (none)) else (none))) else (tollbarref06_Decode.l2 k x0 x1 x7 x8 x9 (([13, 10] : List Int)) 0)
def tollbarref06_Decode.l2 : Nat → List Int → Int → List Int → Int → Int → List Int → Int → Option (List Int × Int × Int)
  | 0, _, _, _, _, _, _, _ => none
  | k + 1, x0, x1, x7, x8, x9, x16, x17 => if x17 < 2 then (if x9 = (x0.length : Int) then (some (([] : List Int), 0, 0)) else (if 0 ≤ x9 then (if x9 < (x0.length : Int) then (if 0 ≤ x17 then (if x17 < (x16.length : Int) then (if (rd x0 x9) = (rd x16 x17) then (tollbarref06_Decode.l2 k x0 x1 x7 x8 (wrap64 (x9 + 1)) x16 (wrap64 (x17 + 1))) else (some (([] : List Int), 0, 20))) else (none)) else (none)) else (none)) else (none))) else (tollbarref06_Decode.l0 k x0 x1 x7 x8 x9)
end
def tollbarref06_Decode.f (k : Nat) (l0 : List Int) (a1 : Int) : Option (List Int × Int × Int) := if a1 < 0 then (tollbarref06_Decode.j0 k l0 0) else (tollbarref06_Decode.j0 k l0 a1)
theorem tollbarref06_Decode.mono_l : ∀ k, (∀ y0 y1, LeO (tollbarref06_Decode.j0 k y0 y1) (tollbarref06_Decode.j0 (k + 1) y0 y1)) ∧ (∀ y0 y1 y2 y3 y4, LeO (tollbarref06_Decode.l0 k y0 y1 y2 y3 y4) (tollbarref06_Decode.l0 (k + 1) y0 y1 y2 y3 y4)) ∧ (∀ y0 y1 y2 y3 y4 y5 y6 y7 y8, LeO (tollbarref06_Decode.j2 k y0 y1 y2 y3 y4 y5 y6 y7 y8) (tollbarref06_Decode.j2 (k + 1) y0 y1 y2 y3 y4 y5 y6 y7 y8)) ∧ (∀ y0 y1 y2 y3, LeO (tollbarref06_Decode.l3 k y0 y1 y2 y3) (tollbarref06_Decode.l3 (k + 1) y0 y1 y2 y3)) ∧ (∀ y0 y1 y2 y3 y4 y5 y6 y7, LeO (tollbarref06_Decode.j6 k y0 y1 y2 y3 y4 y5 y6 y7) (tollbarref06_Decode.j6 (k + 1) y0 y1 y2 y3 y4 y5 y6 y7)) ∧ (∀ y0 y1 y2 y3 y4 y5 y6, LeO (tollbarref06_Decode.l1 k y0 y1 y2 y3 y4 y5 y6) (tollbarref06_Decode.l1 (k + 1) y0 y1 y2 y3 y4 y5 y6)) ∧ (∀ y0 y1 y2 y3 y4 y5 y6, LeO (tollbarref06_Decode.l2 k y0 y1 y2 y3 y4 y5 y6) (tollbarref06_Decode.l2 (k + 1) y0 y1 y2 y3 y4 y5 y6))
  | 0 => ⟨fun _ _ r h => by simp [tollbarref06_Decode.j0] at h, fun _ _ _ _ _ r h => by simp [tollbarref06_Decode.l0] at h, fun _ _ _ _ _ _ _ _ _ r h => by simp [tollbarref06_Decode.j2] at h, fun _ _ _ _ r h => by simp [tollbarref06_Decode.l3] at h, fun _ _ _ _ _ _ _ _ r h => by simp [tollbarref06_Decode.j6] at h, fun _ _ _ _ _ _ _ r h => by simp [tollbarref06_Decode.l1] at h, fun _ _ _ _ _ _ _ r h => by simp [tollbarref06_Decode.l2] at h⟩
  | k + 1 => by
    obtain ⟨ih0, ih1, ih2, ih3, ih4, ih5, ih6⟩ := tollbarref06_Decode.mono_l k
    refine ⟨?_, ?_, ?_, ?_, ?_, ?_, ?_⟩
    · intro y0 y1
      unfold tollbarref06_Decode.j0
      repeat' first
      | (with_reducible exact ih0 _ _)
      | (with_reducible exact ih1 _ _ _ _ _)
      | (with_reducible exact ih2 _ _ _ _ _ _ _ _ _)
      | (with_reducible exact ih3 _ _ _ _)
      | (with_reducible exact ih4 _ _ _ _ _ _ _ _)
      | (with_reducible exact ih5 _ _ _ _ _ _ _)
      | (with_reducible exact ih6 _ _ _ _ _ _ _)
      | (with_reducible exact tollbarref04_Parse.mono _ _)
      | (with_reducible exact tollbarref05_Cut.mono _ _ _)
      | (with_reducible exact tollbarref06_size.mono _ _)
      | (with_reducible exact LeO.refl _)
      | (with_reducible exact LeO.none _)
      | (with_reducible refine LeO.ite ?_ ?_)
      | (with_reducible refine LeO.bind ?_ (fun _ => ?_))
      | exact ih0 _ _
      | exact ih1 _ _ _ _ _
      | exact ih2 _ _ _ _ _ _ _ _ _
      | exact ih3 _ _ _ _
      | exact ih4 _ _ _ _ _ _ _ _
      | exact ih5 _ _ _ _ _ _ _
      | exact ih6 _ _ _ _ _ _ _
      | exact tollbarref04_Parse.mono _ _
      | exact tollbarref05_Cut.mono _ _ _
      | exact tollbarref06_size.mono _ _
      | exact LeO.none _
      | refine LeO.ite ?_ ?_
      | refine LeO.bind ?_ (fun _ => ?_)
    · intro y0 y1 y2 y3 y4
      unfold tollbarref06_Decode.l0
      repeat' first
      | (with_reducible exact ih0 _ _)
      | (with_reducible exact ih1 _ _ _ _ _)
      | (with_reducible exact ih2 _ _ _ _ _ _ _ _ _)
      | (with_reducible exact ih3 _ _ _ _)
      | (with_reducible exact ih4 _ _ _ _ _ _ _ _)
      | (with_reducible exact ih5 _ _ _ _ _ _ _)
      | (with_reducible exact ih6 _ _ _ _ _ _ _)
      | (with_reducible exact tollbarref04_Parse.mono _ _)
      | (with_reducible exact tollbarref05_Cut.mono _ _ _)
      | (with_reducible exact tollbarref06_size.mono _ _)
      | (with_reducible exact LeO.refl _)
      | (with_reducible exact LeO.none _)
      | (with_reducible refine LeO.ite ?_ ?_)
      | (with_reducible refine LeO.bind ?_ (fun _ => ?_))
      | exact ih0 _ _
      | exact ih1 _ _ _ _ _
      | exact ih2 _ _ _ _ _ _ _ _ _
      | exact ih3 _ _ _ _
      | exact ih4 _ _ _ _ _ _ _ _
      | exact ih5 _ _ _ _ _ _ _
      | exact ih6 _ _ _ _ _ _ _
      | exact tollbarref04_Parse.mono _ _
      | exact tollbarref05_Cut.mono _ _ _
      | exact tollbarref06_size.mono _ _
      | exact LeO.none _
      | refine LeO.ite ?_ ?_
      | refine LeO.bind ?_ (fun _ => ?_)
    · intro y0 y1 y2 y3 y4 y5 y6 y7 y8
      unfold tollbarref06_Decode.j2
      repeat' first
      | (with_reducible exact ih0 _ _)
      | (with_reducible exact ih1 _ _ _ _ _)
      | (with_reducible exact ih2 _ _ _ _ _ _ _ _ _)
      | (with_reducible exact ih3 _ _ _ _)
      | (with_reducible exact ih4 _ _ _ _ _ _ _ _)
      | (with_reducible exact ih5 _ _ _ _ _ _ _)
      | (with_reducible exact ih6 _ _ _ _ _ _ _)
      | (with_reducible exact tollbarref04_Parse.mono _ _)
      | (with_reducible exact tollbarref05_Cut.mono _ _ _)
      | (with_reducible exact tollbarref06_size.mono _ _)
      | (with_reducible exact LeO.refl _)
      | (with_reducible exact LeO.none _)
      | (with_reducible refine LeO.ite ?_ ?_)
      | (with_reducible refine LeO.bind ?_ (fun _ => ?_))
      | exact ih0 _ _
      | exact ih1 _ _ _ _ _
      | exact ih2 _ _ _ _ _ _ _ _ _
      | exact ih3 _ _ _ _
      | exact ih4 _ _ _ _ _ _ _ _
      | exact ih5 _ _ _ _ _ _ _
      | exact ih6 _ _ _ _ _ _ _
      | exact tollbarref04_Parse.mono _ _
      | exact tollbarref05_Cut.mono _ _ _
      | exact tollbarref06_size.mono _ _
      | exact LeO.none _
      | refine LeO.ite ?_ ?_
      | refine LeO.bind ?_ (fun _ => ?_)
    · intro y0 y1 y2 y3
      unfold tollbarref06_Decode.l3
      repeat' first
      | (with_reducible exact ih0 _ _)
      | (with_reducible exact ih1 _ _ _ _ _)
      | (with_reducible exact ih2 _ _ _ _ _ _ _ _ _)
      | (with_reducible exact ih3 _ _ _ _)
      | (with_reducible exact ih4 _ _ _ _ _ _ _ _)
      | (with_reducible exact ih5 _ _ _ _ _ _ _)
      | (with_reducible exact ih6 _ _ _ _ _ _ _)
      | (with_reducible exact tollbarref04_Parse.mono _ _)
      | (with_reducible exact tollbarref05_Cut.mono _ _ _)
      | (with_reducible exact tollbarref06_size.mono _ _)
      | (with_reducible exact LeO.refl _)
      | (with_reducible exact LeO.none _)
      | (with_reducible refine LeO.ite ?_ ?_)
      | (with_reducible refine LeO.bind ?_ (fun _ => ?_))
      | exact ih0 _ _
      | exact ih1 _ _ _ _ _
      | exact ih2 _ _ _ _ _ _ _ _ _
      | exact ih3 _ _ _ _
      | exact ih4 _ _ _ _ _ _ _ _
      | exact ih5 _ _ _ _ _ _ _
      | exact ih6 _ _ _ _ _ _ _
      | exact tollbarref04_Parse.mono _ _
      | exact tollbarref05_Cut.mono _ _ _
      | exact tollbarref06_size.mono _ _
      | exact LeO.none _
      | refine LeO.ite ?_ ?_
      | refine LeO.bind ?_ (fun _ => ?_)
    · intro y0 y1 y2 y3 y4 y5 y6 y7
      unfold tollbarref06_Decode.j6
      repeat' first
      | (with_reducible exact ih0 _ _)
      | (with_reducible exact ih1 _ _ _ _ _)
      | (with_reducible exact ih2 _ _ _ _ _ _ _ _ _)
      | (with_reducible exact ih3 _ _ _ _)
      | (with_reducible exact ih4 _ _ _ _ _ _ _ _)
      | (with_reducible exact ih5 _ _ _ _ _ _ _)
      | (with_reducible exact ih6 _ _ _ _ _ _ _)
      | (with_reducible exact tollbarref04_Parse.mono _ _)
      | (with_reducible exact tollbarref05_Cut.mono _ _ _)
      | (with_reducible exact tollbarref06_size.mono _ _)
      | (with_reducible exact LeO.refl _)
      | (with_reducible exact LeO.none _)
      | (with_reducible refine LeO.ite ?_ ?_)
      | (with_reducible refine LeO.bind ?_ (fun _ => ?_))
      | exact ih0 _ _
      | exact ih1 _ _ _ _ _
      | exact ih2 _ _ _ _ _ _ _ _ _
      | exact ih3 _ _ _ _
      | exact ih4 _ _ _ _ _ _ _ _
      | exact ih5 _ _ _ _ _ _ _
      | exact ih6 _ _ _ _ _ _ _
      | exact tollbarref04_Parse.mono _ _
      | exact tollbarref05_Cut.mono _ _ _
      | exact tollbarref06_size.mono _ _
      | exact LeO.none _
      | refine LeO.ite ?_ ?_
      | refine LeO.bind ?_ (fun _ => ?_)
    · intro y0 y1 y2 y3 y4 y5 y6
      unfold tollbarref06_Decode.l1
      repeat' first
      | (with_reducible exact ih0 _ _)
      | (with_reducible exact ih1 _ _ _ _ _)
      | (with_reducible exact ih2 _ _ _ _ _ _ _ _ _)
      | (with_reducible exact ih3 _ _ _ _)
      | (with_reducible exact ih4 _ _ _ _ _ _ _ _)
      | (with_reducible exact ih5 _ _ _ _ _ _ _)
      | (with_reducible exact ih6 _ _ _ _ _ _ _)
      | (with_reducible exact tollbarref04_Parse.mono _ _)
      | (with_reducible exact tollbarref05_Cut.mono _ _ _)
      | (with_reducible exact tollbarref06_size.mono _ _)
      | (with_reducible exact LeO.refl _)
      | (with_reducible exact LeO.none _)
      | (with_reducible refine LeO.ite ?_ ?_)
      | (with_reducible refine LeO.bind ?_ (fun _ => ?_))
      | exact ih0 _ _
      | exact ih1 _ _ _ _ _
      | exact ih2 _ _ _ _ _ _ _ _ _
      | exact ih3 _ _ _ _
      | exact ih4 _ _ _ _ _ _ _ _
      | exact ih5 _ _ _ _ _ _ _
      | exact ih6 _ _ _ _ _ _ _
      | exact tollbarref04_Parse.mono _ _
      | exact tollbarref05_Cut.mono _ _ _
      | exact tollbarref06_size.mono _ _
      | exact LeO.none _
      | refine LeO.ite ?_ ?_
      | refine LeO.bind ?_ (fun _ => ?_)
    · intro y0 y1 y2 y3 y4 y5 y6
      unfold tollbarref06_Decode.l2
      repeat' first
      | (with_reducible exact ih0 _ _)
      | (with_reducible exact ih1 _ _ _ _ _)
      | (with_reducible exact ih2 _ _ _ _ _ _ _ _ _)
      | (with_reducible exact ih3 _ _ _ _)
      | (with_reducible exact ih4 _ _ _ _ _ _ _ _)
      | (with_reducible exact ih5 _ _ _ _ _ _ _)
      | (with_reducible exact ih6 _ _ _ _ _ _ _)
      | (with_reducible exact tollbarref04_Parse.mono _ _)
      | (with_reducible exact tollbarref05_Cut.mono _ _ _)
      | (with_reducible exact tollbarref06_size.mono _ _)
      | (with_reducible exact LeO.refl _)
      | (with_reducible exact LeO.none _)
      | (with_reducible refine LeO.ite ?_ ?_)
      | (with_reducible refine LeO.bind ?_ (fun _ => ?_))
      | exact ih0 _ _
      | exact ih1 _ _ _ _ _
      | exact ih2 _ _ _ _ _ _ _ _ _
      | exact ih3 _ _ _ _
      | exact ih4 _ _ _ _ _ _ _ _
      | exact ih5 _ _ _ _ _ _ _
      | exact ih6 _ _ _ _ _ _ _
      | exact tollbarref04_Parse.mono _ _
      | exact tollbarref05_Cut.mono _ _ _
      | exact tollbarref06_size.mono _ _
      | exact LeO.none _
      | refine LeO.ite ?_ ?_
      | refine LeO.bind ?_ (fun _ => ?_)
theorem tollbarref06_Decode.mono : ∀ a0 a1 k, LeO (tollbarref06_Decode.f k a0 a1) (tollbarref06_Decode.f (k + 1) a0 a1) := by
  intro a0 a1 k
  obtain ⟨ih0, ih1, ih2, ih3, ih4, ih5, ih6⟩ := tollbarref06_Decode.mono_l k
  unfold tollbarref06_Decode.f
  repeat' first
      | (with_reducible exact ih0 _ _)
      | (with_reducible exact ih1 _ _ _ _ _)
      | (with_reducible exact ih2 _ _ _ _ _ _ _ _ _)
      | (with_reducible exact ih3 _ _ _ _)
      | (with_reducible exact ih4 _ _ _ _ _ _ _ _)
      | (with_reducible exact ih5 _ _ _ _ _ _ _)
      | (with_reducible exact ih6 _ _ _ _ _ _ _)
      | (with_reducible exact tollbarref04_Parse.mono _ _)
      | (with_reducible exact tollbarref05_Cut.mono _ _ _)
      | (with_reducible exact tollbarref06_size.mono _ _)
      | (with_reducible exact LeO.refl _)
      | (with_reducible exact LeO.none _)
      | (with_reducible refine LeO.ite ?_ ?_)
      | (with_reducible refine LeO.bind ?_ (fun _ => ?_))
      | exact ih0 _ _
      | exact ih1 _ _ _ _ _
      | exact ih2 _ _ _ _ _ _ _ _ _
      | exact ih3 _ _ _ _
      | exact ih4 _ _ _ _ _ _ _ _
      | exact ih5 _ _ _ _ _ _ _
      | exact ih6 _ _ _ _ _ _ _
      | exact tollbarref04_Parse.mono _ _
      | exact tollbarref05_Cut.mono _ _ _
      | exact tollbarref06_size.mono _ _
      | exact LeO.none _
      | refine LeO.ite ?_ ?_
      | refine LeO.bind ?_ (fun _ => ?_)
set_option maxHeartbeats 8000000 in
set_option maxRecDepth 100000 in
theorem tollbarref06_Decode.calls (k : Nat) (A0 : Option Addr) (c0 : Nat) (l0 : List Int) (a1 : Int) (r1 : List Int) (r2 : Int) (r3 : Int) (w : World) (hr0 : Kd.C (Kd.int .u8) w A0 l0.length l0) (hc0 : l0.length ≤ c0) (h : tollbarref06_Decode.f k l0 a1 = some (r1, r2, r3)) :
    Calls Tryd.prog 30 #[.slice A0 l0.length c0, .int .i64 a1] w fun e w' => ∃ v0_ : Value, e = .returned (.tuple #[v0_, .int .i64 r2, .int .i64 r3]) ∧ Kd.R (Kd.int .u8) 5 w' w.heap.size (fun _ => True) v0_ r1 ∧ Below w.heap.size w w' := by
  have hu84 := Tryd.underlying84
  have HR0 := Aside0.mk hr0
  have HC0 := Aside0.mk hc0
  clear hr0 hc0
  have HB := Aside0.mk (Below.refl w.heap.size w)
  have H : (if a1 < 0 then (tollbarref06_Decode.j0 k l0 0) else (tollbarref06_Decode.j0 k l0 a1)) = some (r1, r2, r3) := h
  clear h
  have HC3 := Aside0.mk H
  clear H
  go_enter Tryd.func30, Tryd.ntmps30
  go_upto_if 25 with (fail)
  repeat (go_quiet (fail); go_upto_if 25 with (fail))
  go_cut [1] (fun v1 wc => ∃ (kq : Nat) (x1_2 : Int), v1 = .int .i64 x1_2 ∧ Aside0 (tollbarref06_Decode.j0 kq l0 x1_2 = some (r1, r2, r3)) ∧ Aside0 (kq ≤ k) ∧ Aside0 (Below w.heap.size w wc))
  case first =>
    have H := HC3.out
    clear HC3
    by_cases c4 : a1 < 0
    · rw [if_pos c4] at H
      have c4b0 : decide (a1 < 0) = true := decide_eq_true c4
      clear c4
      (first | rw [c4b0] | (simp only [i64_w, i32_w]; rw [c4b0]) | skip)
      have H' := Aside0.mk H
      clear H
      go_wp2
      repeat (go_quiet (fail); try go_wp2)
      go_meet
      case rel => exact ⟨_, (0), (by first | rfl | (simp; done) | (simp [*]; done)), H', ⟨by first | omega | exact Nat.le_refl _⟩, ⟨by repeat (first | (with_reducible first | exact HB.out | apply below_alloc | apply pw_below_drewN | apply below_drew1) | exact HB.out)⟩⟩
    · rw [if_neg c4] at H
      have c4b0 : decide (a1 < 0) = false := decide_eq_false c4
      clear c4
      (first | rw [c4b0] | (simp only [i64_w, i32_w]; rw [c4b0]) | skip)
      have H' := Aside0.mk H
      clear H
      go_wp2
      repeat (go_quiet (fail); try go_wp2)
      go_meet
      case rel => exact ⟨_, (a1), (by first | rfl | (simp; done) | (simp [*]; done)), H', ⟨by first | omega | exact Nat.le_refl _⟩, ⟨by repeat (first | (with_reducible first | exact HB.out | apply below_alloc | apply pw_below_drewN | apply below_drew1) | exact HB.out)⟩⟩
  case rest =>
    clear HC3
    try clear p2
    try clear c3
    try clear c4
    try clear c4b0
    obtain ⟨kq, x1_2, rfl, HA, HJ2, HB⟩ := hcut
    cases kq with
    | zero => exact absurd HA.out (by simp [tollbarref06_Decode.j0])
    | succ kj2 =>
      have H := HA.out
      clear HA
      simp only [tollbarref06_Decode.j0] at H
      obtain ⟨y469, hy469⟩ : ∃ y_ : List Int, y_ = (([] : List Int)) := ⟨_, rfl⟩
      replace H : (tollbarref06_Decode.l0 kj2 l0 x1_2 y469 0 0) = some (r1, r2, r3) := by first | (rw [hy469]; with_reducible exact H) | (have H2_ := (Option.bind_some _ _).symm.trans H; rw [hy469]; with_reducible exact H2_) | (have H2_ := (Option.bind_some _ _).symm.trans H; with_reducible exact H2_) | with_reducible exact H | (rw [hy469]; exact H) | exact H
      have Ny469 := Aside0.mk hy469
      clear hy469
      have H' := Aside0.mk H
      clear H
      go_wp2_with (first | ((with_reducible refine gate_dst (N := 26) rfl ?_); refine Kd.R_lit (Kd.int .u8) _ 5 ?hg (N := 26) ?hd (xs := ([] : List Int)) (inner := []) (ok := fun _ => True) (okp := fun _ => True) ?hr ?hp (fun _ hk => hk) trivial (Below.refl _ _) (Nat.le_refl _) (by simp) ?_; (case hd => rfl); (case hg => rfl); (case hr => first | (go_simp; done) | (go_simp; rfl)); (case hp => exact (Reps.none _ _)); intro v470 w5 ho6 hb hg_ hnew_; clear hg_ hnew_; (first | rw [← Ny469.out] at ho6 | (simp only [Int.reduceToNat] at ho6; rw [← Ny469.out] at ho6)); have n0_ := Aside0.mk (Kd.R_lower ho6 (below_size (by repeat (first | (with_reducible first | exact HB.out | apply below_alloc | apply pw_below_drewN | apply below_drew1) | exact HB.out)))); have n1_ := Aside0.mk (below_step (by repeat (first | (with_reducible first | exact HB.out | apply below_alloc | apply pw_below_drewN | apply below_drew1) | exact HB.out)) hb); clear HB; have HO471 := n0_; have HB := n1_; clear n0_ n1_; clear hb ho6))
      repeat (go_quiet (first | ((with_reducible refine gate_dst (N := 26) rfl ?_); refine Kd.R_lit (Kd.int .u8) _ 5 ?hg (N := 26) ?hd (xs := ([] : List Int)) (inner := []) (ok := fun _ => True) (okp := fun _ => True) ?hr ?hp (fun _ hk => hk) trivial (Below.refl _ _) (Nat.le_refl _) (by simp) ?_; (case hd => rfl); (case hg => rfl); (case hr => first | (go_simp; done) | (go_simp; rfl)); (case hp => exact (Reps.none _ _)); intro v470 w5 ho6 hb hg_ hnew_; clear hg_ hnew_; (first | rw [← Ny469.out] at ho6 | (simp only [Int.reduceToNat] at ho6; rw [← Ny469.out] at ho6)); have n0_ := Aside0.mk (Kd.R_lower ho6 (below_size (by repeat (first | (with_reducible first | exact HB.out | apply below_alloc | apply pw_below_drewN | apply below_drew1) | exact HB.out)))); have n1_ := Aside0.mk (below_step (by repeat (first | (with_reducible first | exact HB.out | apply below_alloc | apply pw_below_drewN | apply below_drew1) | exact HB.out)) hb); clear HB; have HO471 := n0_; have HB := n1_; clear n0_ n1_; clear hb ho6)); try go_wp2_with (first | ((with_reducible refine gate_dst (N := 26) rfl ?_); refine Kd.R_lit (Kd.int .u8) _ 5 ?hg (N := 26) ?hd (xs := ([] : List Int)) (inner := []) (ok := fun _ => True) (okp := fun _ => True) ?hr ?hp (fun _ hk => hk) trivial (Below.refl _ _) (Nat.le_refl _) (by simp) ?_; (case hd => rfl); (case hg => rfl); (case hr => first | (go_simp; done) | (go_simp; rfl)); (case hp => exact (Reps.none _ _)); intro v470 w5 ho6 hb hg_ hnew_; clear hg_ hnew_; (first | rw [← Ny469.out] at ho6 | (simp only [Int.reduceToNat] at ho6; rw [← Ny469.out] at ho6)); have n0_ := Aside0.mk (Kd.R_lower ho6 (below_size (by repeat (first | (with_reducible first | exact HB.out | apply below_alloc | apply pw_below_drewN | apply below_drew1) | exact HB.out)))); have n1_ := Aside0.mk (below_step (by repeat (first | (with_reducible first | exact HB.out | apply below_alloc | apply pw_below_drewN | apply below_drew1) | exact HB.out)) hb); clear HB; have HO471 := n0_; have HB := n1_; clear n0_ n1_; clear hb ho6)))
      go_loopg [7, 8, 9] kj2 (fun kq v7 v8 v9 w' => ∃ (x7_2 : List Int) (x8_2 : Int) (x9_2 : Int), v8 = .int .i64 x8_2 ∧ v9 = .int .i64 x9_2 ∧ Aside0 (tollbarref06_Decode.l0 kq l0 x1_2 x7_2 x8_2 x9_2 = some (r1, r2, r3)) ∧ Aside0 (kq ≤ kj2) ∧ Aside0 (Kd.R (Kd.int .u8) 5 w' w.heap.size (fun _ => True) v7 x7_2) ∧ Aside0 (Below w.heap.size w w'))
      case atStart => exact ⟨(y469), (0), (0), (by first | rfl | (simp; done) | (simp [*]; done)), (by first | rfl | (simp; done) | (simp [*]; done)), H', ⟨Nat.le_refl _⟩, ⟨by (with_reducible repeat (first | apply Kd.R_alloc | apply Kd.R_drewN | apply Kd.R_drew)); exact HO471.out⟩, ⟨by repeat (first | (with_reducible first | exact HB.out | apply below_alloc | apply pw_below_drewN | apply below_drew1) | exact HB.out)⟩⟩
      case round =>
        clear H'
        try clear p2
        try clear c3
        try clear c4
        try clear c4b0
        try clear p2
        obtain ⟨x7_2, x8_2, x9_2, rfl, rfl, HA, HK2, HO_7, HB⟩ := hrel
        cases gk with
        | zero => exact absurd HA.out (by simp [tollbarref06_Decode.l0])
        | succ k2 =>
          have H := HA.out
          clear HA
          simp only [tollbarref06_Decode.l0] at H
          by_cases c7 : 0 ≤ x9_2
          · rw [if_pos c7] at H
            have c7b0 := eq_true c7
            have c7b1 : decide (0 ≤ x9_2) = true := decide_eq_true c7
            clear c7
            by_cases c8 : x9_2 ≤ (l0.length : Int)
            · rw [if_pos c8] at H
              have c8b0 := eq_true c8
              have c8b1 : decide (x9_2 ≤ (l0.length : Int)) = true := decide_eq_true c8
              clear c8
              replace H := Option.bind_eq_some_iff.mp H
              obtain ⟨⟨t473, t474, t475⟩, A90, H⟩ := H
              replace H : (if t475 = 0 then (tollbarref06_Decode.j2 k2 l0 x1_2 x7_2 x8_2 x9_2 t473 t474 t475 (t474 == 0)) else (tollbarref06_Decode.j2 k2 l0 x1_2 x7_2 x8_2 x9_2 t473 t474 t475 true)) = some (r1, r2, r3) := H
              have A9 := Aside0.mk A90
              clear A90
              have HC10 := Aside0.mk H
              clear H
              obtain ⟨i011, hi011, _, hsz11, _⟩ := info_parts info5
              obtain ⟨A11, hcut11, hA11, hC11⟩ := print_drop_of (P := Tryd.prog) (Value.int .u8) 0 24 5 .i64 Tryd.underlying24 hi011 hsz11 A0 c0 l0 x9_2 (of_decide_eq_true (by first | (with_reducible assumption) | assumption)) (of_decide_eq_true (by first | (with_reducible assumption) | assumption)) HC0.out
              have HR472 := Aside0.mk (Kd.C_of_reads (h1 := fun _ => rfl) (hA11 _ (Kd.reads_of_C HR0.out)))
              have HC472 := Aside0.mk hC11
              clear hA11 hC11 hi011 hsz11
              go_upto_region 7 with (first | (go_at_call 59; (try rw [← List.length_drop]); (with_reducible refine (tollbarref05_Cut.calls k2 _ _ (l0.drop (x9_2 : Int).toNat) 256 t473 t474 t475 _ ?side1 ?side2 A9.out).mono ?_); (case side1 => repeat (first | exact (Kd.C_below HR472.out HB.out) | (with_reducible refine Kd.C_alloc ?_ _) | (with_reducible refine Kd.C_drewN ?_ _) | (with_reducible refine Kd.C_drew ?_))); (case side2 => exact HC472.out); rintro e w' ⟨rfl, ⟨nd, rfl⟩⟩; (try first | exact ⟨rfl, _, World.drewN_drewN _ _ _⟩ | exact ⟨rfl, _, Eq.trans (World.drewN_drewN _ _ _) (congrArg (World.drewN _) (Nat.add_assoc _ _ _))⟩)))
              repeat (go_quiet (first | (go_at_call 59; (try rw [← List.length_drop]); (with_reducible refine (tollbarref05_Cut.calls k2 _ _ (l0.drop (x9_2 : Int).toNat) 256 t473 t474 t475 _ ?side1 ?side2 A9.out).mono ?_); (case side1 => repeat (first | exact (Kd.C_below HR472.out HB.out) | (with_reducible refine Kd.C_alloc ?_ _) | (with_reducible refine Kd.C_drewN ?_ _) | (with_reducible refine Kd.C_drew ?_))); (case side2 => exact HC472.out); rintro e w' ⟨rfl, ⟨nd, rfl⟩⟩; (try first | exact ⟨rfl, _, World.drewN_drewN _ _ _⟩ | exact ⟨rfl, _, Eq.trans (World.drewN_drewN _ _ _) (congrArg (World.drewN _) (Nat.add_assoc _ _ _))⟩))); go_upto_region 7 with (first | (go_at_call 59; (try rw [← List.length_drop]); (with_reducible refine (tollbarref05_Cut.calls k2 _ _ (l0.drop (x9_2 : Int).toNat) 256 t473 t474 t475 _ ?side1 ?side2 A9.out).mono ?_); (case side1 => repeat (first | exact (Kd.C_below HR472.out HB.out) | (with_reducible refine Kd.C_alloc ?_ _) | (with_reducible refine Kd.C_drewN ?_ _) | (with_reducible refine Kd.C_drew ?_))); (case side2 => exact HC472.out); rintro e w' ⟨rfl, ⟨nd, rfl⟩⟩; (try first | exact ⟨rfl, _, World.drewN_drewN _ _ _⟩ | exact ⟨rfl, _, Eq.trans (World.drewN_drewN _ _ _) (congrArg (World.drewN _) (Nat.add_assoc _ _ _))⟩))))
              (try simp only [Act.put, List.setIfInBounds_toArray, List.set_cons_zero, List.set_cons_succ])
              go_cut [40] (fun v40 wc => ∃ (kq : Nat) (x40_9 : Bool), v40 = .bool x40_9 ∧ Aside0 (tollbarref06_Decode.j2 kq l0 x1_2 x7_2 x8_2 x9_2 t473 t474 t475 x40_9 = some (r1, r2, r3)) ∧ Aside0 (kq ≤ k2) ∧ Aside0 (Kd.R (Kd.int .u8) 5 wc w.heap.size (fun _ => True) u7 x7_2) ∧ Aside0 (Below w.heap.size w wc))
              case first =>
                have H := HC10.out
                clear HC10
                by_cases c12 : t475 = 0
                · rw [if_pos c12] at H
                  have c12b0 : (t475 == 0) = true := beq_iff_eq.mpr c12
                  have c12b1 : (t475 != 0) = false := bne_eq_false_iff_eq.mpr c12
                  clear c12
                  (first | rw [c12b0] | (simp only [i64_w, i32_w]; rw [c12b0]) | skip)
                  have H' := Aside0.mk H
                  clear H
                  go_wp2
                  repeat (go_quiet (fail); try go_wp2)
                  go_meet
                  case rel => exact ⟨_, ((t474 == 0)), (by first | rfl | (simp; done) | (simp [*]; done)), H', ⟨by have := HJ2.out; have := HK2.out; first | omega | exact Nat.le_refl _⟩, ⟨by (with_reducible repeat (first | apply Kd.R_alloc | apply Kd.R_drewN | apply Kd.R_drew)); exact HO_7.out⟩, ⟨by repeat (first | (with_reducible first | exact HB.out | apply below_alloc | apply pw_below_drewN | apply below_drew1) | exact HB.out)⟩⟩
                · rw [if_neg c12] at H
                  have c12b0 : (t475 == 0) = false := beq_eq_false_iff_ne.mpr c12
                  have c12b1 : (t475 != 0) = true := bne_iff_ne.mpr c12
                  (first | rw [c12b0] | (simp only [i64_w, i32_w]; rw [c12b0]) | skip)
                  have H' := Aside0.mk H
                  clear H
                  go_wp2
                  repeat (go_quiet (fail); try go_wp2)
                  go_meet
                  case rel => exact ⟨_, (true), (by first | rfl | (simp; done) | (simp [*]; done)), H', ⟨by have := HJ2.out; have := HK2.out; first | omega | exact Nat.le_refl _⟩, ⟨by (with_reducible repeat (first | apply Kd.R_alloc | apply Kd.R_drewN | apply Kd.R_drew)); exact HO_7.out⟩, ⟨by repeat (first | (with_reducible first | exact HB.out | apply below_alloc | apply pw_below_drewN | apply below_drew1) | exact HB.out)⟩⟩
              case rest =>
                clear HC10
                try clear c1
                try clear p2
                try clear c3
                try clear c4
                try clear c4b0
                try clear c7
                try clear c7b0
                try clear c7b1
                try clear c8
                try clear c8b0
                try clear c8b1
                try clear c12
                try clear c12b0
                try clear c12b1
                try clear p2
                obtain ⟨kq, x40_9, rfl, HA, HJ9, HO_7, HB⟩ := hcut
                cases kq with
                | zero => exact absurd HA.out (by simp [tollbarref06_Decode.j2])
                | succ kj9 =>
                  have H := HA.out
                  clear HA
                  simp only [tollbarref06_Decode.j2] at H
                  by_cases c13 : x40_9 = true
                  · subst c13
                    have H1 : (some (([] : List Int), 0, t475)) = some (r1, r2, r3) := by rw [if_pos rfl] at H; exact H
                    clear H
                    have H := H1
                    clear H1
                    simp only [Option.some.injEq, Prod.mk.injEq] at H
                    obtain ⟨rfl, rfl, rfl⟩ := H
                    go_wp2
                    repeat (go_quiet (fail); try go_wp2)
                    go_ret3
                    exact ⟨_, by first | rfl | (simp [errW_none, errW_some] <;> rfl) | (simp [*, errW_none, errW_some] <;> rfl), by first | exact Kd.R_nil _ _ _ _ _ | exact Kd.N_nil _ _ _ _ _ | exact Kd.V_nil _ _ _ _ _ | exact Kd.Q_nil _ _ _ _ _ | exact Kd.S_nil _ _ _ _ _, by repeat (first | (with_reducible first | exact HB.out | apply below_alloc | apply pw_below_drewN | apply below_drew1) | exact HB.out)⟩
                  · replace c13 := Bool.eq_false_iff.mpr c13
                    subst c13
                    have H1 : ((tollbarref06_size.f kj9 t473).bind fun bt476 => (if bt476.2 = true then (if bt476.1 = 0 then (tollbarref06_Decode.l3 kj9 l0 x7_2 (wrap64 (x9_2 + t474)) 0) else (if bt476.1 > (wrap64 (x1_2 - x8_2)) then (some (([] : List Int), 0, 2)) else (tollbarref06_Decode.l1 kj9 l0 x1_2 x7_2 (wrap64 (x8_2 + bt476.1)) (wrap64 (x9_2 + t474)) bt476.1 0))) else (some (([] : List Int), 0, 30)))) = some (r1, r2, r3) := by rw [if_neg (show ¬ (false = true) by decide)] at H; exact H
                    clear H
                    have H := H1
                    clear H1
                    replace H := Option.bind_eq_some_iff.mp H
                    obtain ⟨⟨t476, t477⟩, A140, H⟩ := H
                    replace H : (if t477 = true then (if t476 = 0 then (tollbarref06_Decode.l3 kj9 l0 x7_2 (wrap64 (x9_2 + t474)) 0) else (if t476 > (wrap64 (x1_2 - x8_2)) then (some (([] : List Int), 0, 2)) else (tollbarref06_Decode.l1 kj9 l0 x1_2 x7_2 (wrap64 (x8_2 + t476)) (wrap64 (x9_2 + t474)) t476 0))) else (some (([] : List Int), 0, 30))) = some (r1, r2, r3) := H
                    have A14 := Aside0.mk A140
                    clear A140
                    by_cases c15 : t477 = true
                    · subst c15
                      have H1 : (if t476 = 0 then (tollbarref06_Decode.l3 kj9 l0 x7_2 (wrap64 (x9_2 + t474)) 0) else (if t476 > (wrap64 (x1_2 - x8_2)) then (some (([] : List Int), 0, 2)) else (tollbarref06_Decode.l1 kj9 l0 x1_2 x7_2 (wrap64 (x8_2 + t476)) (wrap64 (x9_2 + t474)) t476 0))) = some (r1, r2, r3) := by rw [if_pos rfl] at H; exact H
                      clear H
                      have H := H1
                      clear H1
                      by_cases c16 : t476 = 0
                      · rw [if_pos c16] at H
                        have c16b0 : (t476 == 0) = true := beq_iff_eq.mpr c16
                        have c16b1 : (t476 != 0) = false := bne_eq_false_iff_eq.mpr c16
                        clear c16
                        have H' := Aside0.mk H
                        clear H
                        go_wp2_with (first | (go_at_call 60; (with_reducible refine (tollbarref06_size.calls kj9 t473 t476 true _ A14.out).mono ?_); rintro e w' ⟨rfl, ⟨nd, rfl⟩⟩; (try clear A14); (try first | exact ⟨rfl, _, World.drewN_drewN _ _ _⟩ | exact ⟨rfl, _, Eq.trans (World.drewN_drewN _ _ _) (congrArg (World.drewN _) (Nat.add_assoc _ _ _))⟩)))
                        repeat (go_quiet (first | (go_at_call 60; (with_reducible refine (tollbarref06_size.calls kj9 t473 t476 true _ A14.out).mono ?_); rintro e w' ⟨rfl, ⟨nd, rfl⟩⟩; (try clear A14); (try first | exact ⟨rfl, _, World.drewN_drewN _ _ _⟩ | exact ⟨rfl, _, Eq.trans (World.drewN_drewN _ _ _) (congrArg (World.drewN _) (Nat.add_assoc _ _ _))⟩))); try go_wp2_with (first | (go_at_call 60; (with_reducible refine (tollbarref06_size.calls kj9 t473 t476 true _ A14.out).mono ?_); rintro e w' ⟨rfl, ⟨nd, rfl⟩⟩; (try clear A14); (try first | exact ⟨rfl, _, World.drewN_drewN _ _ _⟩ | exact ⟨rfl, _, Eq.trans (World.drewN_drewN _ _ _) (congrArg (World.drewN _) (Nat.add_assoc _ _ _))⟩))))
                        go_loopg [9, 18] kj9 (fun kq v9 v18 w' => ∃ (x9_4 : Int) (x18_4 : Int), v9 = .int .i64 x9_4 ∧ v18 = .int .i64 x18_4 ∧ Aside0 (tollbarref06_Decode.l3 kq l0 x7_2 x9_4 x18_4 = some (r1, r2, r3)) ∧ Aside0 (kq ≤ kj9) ∧ Aside0 (Kd.R (Kd.int .u8) 5 w' w.heap.size (fun _ => True) u7 x7_2) ∧ Aside0 (Below w.heap.size w w'))
                        case atStart => exact ⟨(wrap64 (x9_2 + t474)), (0), (by first | rfl | (simp; done) | (simp [*]; done)), (by first | rfl | (simp; done) | (simp [*]; done)), H', ⟨Nat.le_refl _⟩, ⟨by (with_reducible repeat (first | apply Kd.R_alloc | apply Kd.R_drewN | apply Kd.R_drew)); exact HO_7.out⟩, ⟨by repeat (first | (with_reducible first | exact HB.out | apply below_alloc | apply pw_below_drewN | apply below_drew1) | exact HB.out)⟩⟩
                        case round =>
                          clear H'
                          try clear c1
                          try clear p2
                          try clear c3
                          try clear c4
                          try clear c4b0
                          try clear p6
                          try clear c7
                          try clear c7b0
                          try clear c7b1
                          try clear c8
                          try clear c8b0
                          try clear c8b1
                          try clear c12
                          try clear c12b0
                          try clear c12b1
                          try clear c13
                          try clear c15
                          try clear c16
                          try clear c16b0
                          try clear c16b1
                          try clear p2
                          obtain ⟨x9_4, x18_4, rfl, rfl, HA, HK4, HO_7, HB⟩ := hrel
                          cases gk with
                          | zero => exact absurd HA.out (by simp [tollbarref06_Decode.l3])
                          | succ k4 =>
                            have H := HA.out
                            clear HA
                            simp only [tollbarref06_Decode.l3] at H
                            by_cases c17 : 0 ≤ x9_4
                            · rw [if_pos c17] at H
                              have c17b0 := eq_true c17
                              have c17b1 : decide (0 ≤ x9_4) = true := decide_eq_true c17
                              clear c17
                              by_cases c18 : x9_4 ≤ (l0.length : Int)
                              · rw [if_pos c18] at H
                                have c18b0 := eq_true c18
                                have c18b1 : decide (x9_4 ≤ (l0.length : Int)) = true := decide_eq_true c18
                                clear c18
                                replace H := Option.bind_eq_some_iff.mp H
                                obtain ⟨⟨t488, t489, t490⟩, A190, H⟩ := H
                                replace H : (if t490 = 0 then (tollbarref06_Decode.j6 k4 l0 x7_2 x9_4 x18_4 t488 t489 t490 (t489 == 0)) else (tollbarref06_Decode.j6 k4 l0 x7_2 x9_4 x18_4 t488 t489 t490 true)) = some (r1, r2, r3) := H
                                have A19 := Aside0.mk A190
                                clear A190
                                have HC20 := Aside0.mk H
                                clear H
                                obtain ⟨i021, hi021, _, hsz21, _⟩ := info_parts info5
                                obtain ⟨A21, hcut21, hA21, hC21⟩ := print_drop_of (P := Tryd.prog) (Value.int .u8) 0 24 5 .i64 Tryd.underlying24 hi021 hsz21 A0 c0 l0 x9_4 (of_decide_eq_true (by first | (with_reducible assumption) | assumption)) (of_decide_eq_true (by first | (with_reducible assumption) | assumption)) HC0.out
                                have HR487 := Aside0.mk (Kd.C_of_reads (h1 := fun _ => rfl) (hA21 _ (Kd.reads_of_C HR0.out)))
                                have HC487 := Aside0.mk hC21
                                clear hA21 hC21 hi021 hsz21
                                go_upto_region 35 with (first | (go_at_call 59; (try rw [← List.length_drop]); (with_reducible refine (tollbarref05_Cut.calls k4 _ _ (l0.drop (x9_4 : Int).toNat) 256 t488 t489 t490 _ ?side1 ?side2 A19.out).mono ?_); (case side1 => repeat (first | exact (Kd.C_below HR487.out HB.out) | (with_reducible refine Kd.C_alloc ?_ _) | (with_reducible refine Kd.C_drewN ?_ _) | (with_reducible refine Kd.C_drew ?_))); (case side2 => exact HC487.out); rintro e w' ⟨rfl, ⟨nd, rfl⟩⟩; (try first | exact ⟨rfl, _, World.drewN_drewN _ _ _⟩ | exact ⟨rfl, _, Eq.trans (World.drewN_drewN _ _ _) (congrArg (World.drewN _) (Nat.add_assoc _ _ _))⟩)))
                                repeat (go_quiet (first | (go_at_call 59; (try rw [← List.length_drop]); (with_reducible refine (tollbarref05_Cut.calls k4 _ _ (l0.drop (x9_4 : Int).toNat) 256 t488 t489 t490 _ ?side1 ?side2 A19.out).mono ?_); (case side1 => repeat (first | exact (Kd.C_below HR487.out HB.out) | (with_reducible refine Kd.C_alloc ?_ _) | (with_reducible refine Kd.C_drewN ?_ _) | (with_reducible refine Kd.C_drew ?_))); (case side2 => exact HC487.out); rintro e w' ⟨rfl, ⟨nd, rfl⟩⟩; (try first | exact ⟨rfl, _, World.drewN_drewN _ _ _⟩ | exact ⟨rfl, _, Eq.trans (World.drewN_drewN _ _ _) (congrArg (World.drewN _) (Nat.add_assoc _ _ _))⟩))); go_upto_region 35 with (first | (go_at_call 59; (try rw [← List.length_drop]); (with_reducible refine (tollbarref05_Cut.calls k4 _ _ (l0.drop (x9_4 : Int).toNat) 256 t488 t489 t490 _ ?side1 ?side2 A19.out).mono ?_); (case side1 => repeat (first | exact (Kd.C_below HR487.out HB.out) | (with_reducible refine Kd.C_alloc ?_ _) | (with_reducible refine Kd.C_drewN ?_ _) | (with_reducible refine Kd.C_drew ?_))); (case side2 => exact HC487.out); rintro e w' ⟨rfl, ⟨nd, rfl⟩⟩; (try first | exact ⟨rfl, _, World.drewN_drewN _ _ _⟩ | exact ⟨rfl, _, Eq.trans (World.drewN_drewN _ _ _) (congrArg (World.drewN _) (Nat.add_assoc _ _ _))⟩))))
                                (try simp only [Act.put, List.setIfInBounds_toArray, List.set_cons_zero, List.set_cons_succ])
                                go_cut [113] (fun v113 wc => ∃ (kq : Nat) (x113_19 : Bool), v113 = .bool x113_19 ∧ Aside0 (tollbarref06_Decode.j6 kq l0 x7_2 x9_4 x18_4 t488 t489 t490 x113_19 = some (r1, r2, r3)) ∧ Aside0 (kq ≤ k4) ∧ Aside0 (Kd.R (Kd.int .u8) 5 wc w.heap.size (fun _ => True) u7 x7_2) ∧ Aside0 (Below w.heap.size w wc))
                                case first =>
                                  have H := HC20.out
                                  clear HC20
                                  by_cases c22 : t490 = 0
                                  · rw [if_pos c22] at H
                                    have c22b0 : (t490 == 0) = true := beq_iff_eq.mpr c22
                                    have c22b1 : (t490 != 0) = false := bne_eq_false_iff_eq.mpr c22
                                    clear c22
                                    (first | rw [c22b0] | (simp only [i64_w, i32_w]; rw [c22b0]) | skip)
                                    have H' := Aside0.mk H
                                    clear H
                                    go_wp2
                                    repeat (go_quiet (fail); try go_wp2)
                                    go_meet
                                    case rel => exact ⟨_, ((t489 == 0)), (by first | rfl | (simp; done) | (simp [*]; done)), H', ⟨by have := HJ2.out; have := HK2.out; have := HJ9.out; have := HK4.out; first | omega | exact Nat.le_refl _⟩, ⟨by (with_reducible repeat (first | apply Kd.R_alloc | apply Kd.R_drewN | apply Kd.R_drew)); exact HO_7.out⟩, ⟨by repeat (first | (with_reducible first | exact HB.out | apply below_alloc | apply pw_below_drewN | apply below_drew1) | exact HB.out)⟩⟩
                                  · rw [if_neg c22] at H
                                    have c22b0 : (t490 == 0) = false := beq_eq_false_iff_ne.mpr c22
                                    have c22b1 : (t490 != 0) = true := bne_iff_ne.mpr c22
                                    (first | rw [c22b0] | (simp only [i64_w, i32_w]; rw [c22b0]) | skip)
                                    have H' := Aside0.mk H
                                    clear H
                                    go_wp2
                                    repeat (go_quiet (fail); try go_wp2)
                                    go_meet
                                    case rel => exact ⟨_, (true), (by first | rfl | (simp; done) | (simp [*]; done)), H', ⟨by have := HJ2.out; have := HK2.out; have := HJ9.out; have := HK4.out; first | omega | exact Nat.le_refl _⟩, ⟨by (with_reducible repeat (first | apply Kd.R_alloc | apply Kd.R_drewN | apply Kd.R_drew)); exact HO_7.out⟩, ⟨by repeat (first | (with_reducible first | exact HB.out | apply below_alloc | apply pw_below_drewN | apply below_drew1) | exact HB.out)⟩⟩
                                case rest =>
                                  clear HC20
                                  try clear c1
                                  try clear c2
                                  try clear p2
                                  try clear c3
                                  try clear c4
                                  try clear c4b0
                                  try clear p6
                                  try clear c7
                                  try clear c7b0
                                  try clear c7b1
                                  try clear c8
                                  try clear c8b0
                                  try clear c8b1
                                  try clear c12
                                  try clear c12b0
                                  try clear c12b1
                                  try clear c13
                                  try clear c15
                                  try clear c16
                                  try clear c16b0
                                  try clear c16b1
                                  try clear c17
                                  try clear c17b0
                                  try clear c17b1
                                  try clear c18
                                  try clear c18b0
                                  try clear c18b1
                                  try clear c22
                                  try clear c22b0
                                  try clear c22b1
                                  try clear p2
                                  try clear p6
                                  obtain ⟨kq, x113_19, rfl, HA, HJ19, HO_7, HB⟩ := hcut
                                  cases kq with
                                  | zero => exact absurd HA.out (by simp [tollbarref06_Decode.j6])
                                  | succ kj19 =>
                                    have H := HA.out
                                    clear HA
                                    simp only [tollbarref06_Decode.j6] at H
                                    by_cases c23 : x113_19 = true
                                    · subst c23
                                      have H1 : (some (([] : List Int), 0, t490)) = some (r1, r2, r3) := by rw [if_pos rfl] at H; exact H
                                      clear H
                                      have H := H1
                                      clear H1
                                      simp only [Option.some.injEq, Prod.mk.injEq] at H
                                      obtain ⟨rfl, rfl, rfl⟩ := H
                                      go_wp2
                                      repeat (go_quiet (fail); try go_wp2)
                                      go_ret3
                                      exact ⟨_, by first | rfl | (simp [errW_none, errW_some] <;> rfl) | (simp [*, errW_none, errW_some] <;> rfl), by first | exact Kd.R_nil _ _ _ _ _ | exact Kd.N_nil _ _ _ _ _ | exact Kd.V_nil _ _ _ _ _ | exact Kd.Q_nil _ _ _ _ _ | exact Kd.S_nil _ _ _ _ _, by repeat (first | (with_reducible first | exact HB.out | apply below_alloc | apply pw_below_drewN | apply below_drew1) | exact HB.out)⟩
                                    · replace c23 := Bool.eq_false_iff.mpr c23
                                      subst c23
                                      have H1 : (if t488.toList = ([] : List UInt8) then (some (x7_2, wrap64 (x9_4 + t489), 0)) else ((tollbarref04_Parse.f kj19 t488).bind fun bt491 => (if bt491.2.2 = true then (if (wrap64 (x18_4 + 1)) > 40 then (some (([] : List Int), 0, 3)) else (tollbarref06_Decode.l3 kj19 l0 x7_2 (wrap64 (x9_4 + t489)) (wrap64 (x18_4 + 1)))) else (some (([] : List Int), 0, 20))))) = some (r1, r2, r3) := by rw [if_neg (show ¬ (false = true) by decide)] at H; exact H
                                      clear H
                                      have H := H1
                                      clear H1
                                      by_cases c24 : t488.toList = ([] : List UInt8)
                                      · rw [if_pos c24] at H
                                        have c24b0 : (t488.toList == ([] : List UInt8)) = true := beq_iff_eq.mpr c24
                                        have c24b1 : (t488.toList != ([] : List UInt8)) = false := bne_eq_false_iff_eq.mpr c24
                                        clear c24
                                        simp only [Option.some.injEq, Prod.mk.injEq] at H
                                        obtain ⟨rfl, rfl, rfl⟩ := H
                                        go_wp2
                                        repeat (go_quiet (fail); try go_wp2)
                                        go_ret3
                                        exact ⟨_, by first | rfl | (simp [errW_none, errW_some] <;> rfl) | (simp [*, errW_none, errW_some] <;> rfl), by (with_reducible repeat (first | apply Kd.R_alloc | apply Kd.R_drewN | apply Kd.R_drew)); exact HO_7.out, by repeat (first | (with_reducible first | exact HB.out | apply below_alloc | apply pw_below_drewN | apply below_drew1) | exact HB.out)⟩
                                      · rw [if_neg c24] at H
                                        have c24b0 : (t488.toList == ([] : List UInt8)) = false := beq_eq_false_iff_ne.mpr c24
                                        have c24b1 : (t488.toList != ([] : List UInt8)) = true := bne_iff_ne.mpr c24
                                        replace H := Option.bind_eq_some_iff.mp H
                                        obtain ⟨⟨t491, t492, t493⟩, A250, H⟩ := H
                                        replace H : (if t493 = true then (if (wrap64 (x18_4 + 1)) > 40 then (some (([] : List Int), 0, 3)) else (tollbarref06_Decode.l3 kj19 l0 x7_2 (wrap64 (x9_4 + t489)) (wrap64 (x18_4 + 1)))) else (some (([] : List Int), 0, 20))) = some (r1, r2, r3) := H
                                        have A25 := Aside0.mk A250
                                        clear A250
                                        by_cases c26 : t493 = true
                                        · subst c26
                                          have H1 : (if (wrap64 (x18_4 + 1)) > 40 then (some (([] : List Int), 0, 3)) else (tollbarref06_Decode.l3 kj19 l0 x7_2 (wrap64 (x9_4 + t489)) (wrap64 (x18_4 + 1)))) = some (r1, r2, r3) := by rw [if_pos rfl] at H; exact H
                                          clear H
                                          have H := H1
                                          clear H1
                                          by_cases c27 : (wrap64 (x18_4 + 1)) > 40
                                          · rw [if_pos c27] at H
                                            have c27b0 : decide (40 < (wrap64 (x18_4 + 1))) = true := decide_eq_true c27
                                            clear c27
                                            simp only [Option.some.injEq, Prod.mk.injEq] at H
                                            obtain ⟨rfl, rfl, rfl⟩ := H
                                            go_wp2_with (first | (go_at_call 61; (with_reducible refine (tollbarref04_Parse.calls kj19 t488 t491 t492 true _ A25.out).mono ?_); rintro e w28 ⟨rfl, hb⟩; (try clear A25); have n0_ := Aside0.mk (Kd.R_below (by (with_reducible repeat (first | apply Kd.R_alloc | apply Kd.R_drewN | apply Kd.R_drew)); exact HO_7.out) hb); have n1_ := Aside0.mk (below_step (by repeat (first | (with_reducible first | exact HB.out | apply below_alloc | apply pw_below_drewN | apply below_drew1) | exact HB.out)) hb); clear HO_7; clear HB; have HO_7 := n0_; have HB := n1_; clear n0_ n1_; (try clear hb); (try clear hb2); (try clear hk); (try clear hi)) | ((with_reducible refine gate_dst (N := 22) rfl ?_); refine box_event ?hg (N := 22) ?hd (cs := #[.string (⟨#[]⟩ : ByteArray), .string (⟨#[]⟩ : ByteArray)]) (t := 84) ?hr ?_; (case hd => rfl); (case hg => rfl); (case hr => first | (go_simp; done) | (go_simp; rfl)); intro gb494 hg w29 hbox hb; have n0_ := Aside0.mk (Kd.R_below (by (with_reducible repeat (first | apply Kd.R_alloc | apply Kd.R_drewN | apply Kd.R_drew)); exact HO_7.out) hb); have n1_ := Aside0.mk (below_step (by repeat (first | (with_reducible first | exact HB.out | apply below_alloc | apply pw_below_drewN | apply below_drew1) | exact HB.out)) hb); have n2_ := Aside0.mk (hbox); have n3_ := Aside0.mk ((by rw [hg]; exact (below_size (by repeat (first | (with_reducible first | exact HB.out | apply below_alloc | apply pw_below_drewN | apply below_drew1) | exact HB.out))) : w.heap.size ≤ gb494)); have n4_ := Aside0.mk ((by rw [hg]; exact (below_size (by repeat (first | (with_reducible first | exact HB.out | apply below_alloc | apply pw_below_drewN | apply below_drew1) | exact HB.out))) : w.heap.size ≤ gb494)); clear HO_7; clear HB; have HO_7 := n0_; have HB := n1_; have BK494 := n2_; have GW494 := n3_; have GE494 := n4_; clear n0_ n1_ n2_ n3_ n4_; clear hb hbox hg; have hcz30_0 : w29.cell? ⟨gb494, 0, none⟩ = some (.string (⟨#[]⟩ : ByteArray)) := (blk_cell BK494.out 0).trans rfl; have hcz30_1 : w29.cell? ⟨gb494, 1, none⟩ = some (.string (⟨#[]⟩ : ByteArray)) := (blk_cell BK494.out 1).trans rfl; have hfz30_0 := blk_frozen BK494.out 0; have hfz30_1 := blk_frozen BK494.out 1))
                                            repeat (go_quiet (first | (go_at_call 61; (with_reducible refine (tollbarref04_Parse.calls kj19 t488 t491 t492 true _ A25.out).mono ?_); rintro e w28 ⟨rfl, hb⟩; (try clear A25); have n0_ := Aside0.mk (Kd.R_below (by (with_reducible repeat (first | apply Kd.R_alloc | apply Kd.R_drewN | apply Kd.R_drew)); exact HO_7.out) hb); have n1_ := Aside0.mk (below_step (by repeat (first | (with_reducible first | exact HB.out | apply below_alloc | apply pw_below_drewN | apply below_drew1) | exact HB.out)) hb); clear HO_7; clear HB; have HO_7 := n0_; have HB := n1_; clear n0_ n1_; (try clear hb); (try clear hb2); (try clear hk); (try clear hi)) | ((with_reducible refine gate_dst (N := 22) rfl ?_); refine box_event ?hg (N := 22) ?hd (cs := #[.string (⟨#[]⟩ : ByteArray), .string (⟨#[]⟩ : ByteArray)]) (t := 84) ?hr ?_; (case hd => rfl); (case hg => rfl); (case hr => first | (go_simp; done) | (go_simp; rfl)); intro gb494 hg w29 hbox hb; have n0_ := Aside0.mk (Kd.R_below (by (with_reducible repeat (first | apply Kd.R_alloc | apply Kd.R_drewN | apply Kd.R_drew)); exact HO_7.out) hb); have n1_ := Aside0.mk (below_step (by repeat (first | (with_reducible first | exact HB.out | apply below_alloc | apply pw_below_drewN | apply below_drew1) | exact HB.out)) hb); have n2_ := Aside0.mk (hbox); have n3_ := Aside0.mk ((by rw [hg]; exact (below_size (by repeat (first | (with_reducible first | exact HB.out | apply below_alloc | apply pw_below_drewN | apply below_drew1) | exact HB.out))) : w.heap.size ≤ gb494)); have n4_ := Aside0.mk ((by rw [hg]; exact (below_size (by repeat (first | (with_reducible first | exact HB.out | apply below_alloc | apply pw_below_drewN | apply below_drew1) | exact HB.out))) : w.heap.size ≤ gb494)); clear HO_7; clear HB; have HO_7 := n0_; have HB := n1_; have BK494 := n2_; have GW494 := n3_; have GE494 := n4_; clear n0_ n1_ n2_ n3_ n4_; clear hb hbox hg; have hcz30_0 : w29.cell? ⟨gb494, 0, none⟩ = some (.string (⟨#[]⟩ : ByteArray)) := (blk_cell BK494.out 0).trans rfl; have hcz30_1 : w29.cell? ⟨gb494, 1, none⟩ = some (.string (⟨#[]⟩ : ByteArray)) := (blk_cell BK494.out 1).trans rfl; have hfz30_0 := blk_frozen BK494.out 0; have hfz30_1 := blk_frozen BK494.out 1)); try go_wp2_with (first | (go_at_call 61; (with_reducible refine (tollbarref04_Parse.calls kj19 t488 t491 t492 true _ A25.out).mono ?_); rintro e w28 ⟨rfl, hb⟩; (try clear A25); have n0_ := Aside0.mk (Kd.R_below (by (with_reducible repeat (first | apply Kd.R_alloc | apply Kd.R_drewN | apply Kd.R_drew)); exact HO_7.out) hb); have n1_ := Aside0.mk (below_step (by repeat (first | (with_reducible first | exact HB.out | apply below_alloc | apply pw_below_drewN | apply below_drew1) | exact HB.out)) hb); clear HO_7; clear HB; have HO_7 := n0_; have HB := n1_; clear n0_ n1_; (try clear hb); (try clear hb2); (try clear hk); (try clear hi)) | ((with_reducible refine gate_dst (N := 22) rfl ?_); refine box_event ?hg (N := 22) ?hd (cs := #[.string (⟨#[]⟩ : ByteArray), .string (⟨#[]⟩ : ByteArray)]) (t := 84) ?hr ?_; (case hd => rfl); (case hg => rfl); (case hr => first | (go_simp; done) | (go_simp; rfl)); intro gb494 hg w29 hbox hb; have n0_ := Aside0.mk (Kd.R_below (by (with_reducible repeat (first | apply Kd.R_alloc | apply Kd.R_drewN | apply Kd.R_drew)); exact HO_7.out) hb); have n1_ := Aside0.mk (below_step (by repeat (first | (with_reducible first | exact HB.out | apply below_alloc | apply pw_below_drewN | apply below_drew1) | exact HB.out)) hb); have n2_ := Aside0.mk (hbox); have n3_ := Aside0.mk ((by rw [hg]; exact (below_size (by repeat (first | (with_reducible first | exact HB.out | apply below_alloc | apply pw_below_drewN | apply below_drew1) | exact HB.out))) : w.heap.size ≤ gb494)); have n4_ := Aside0.mk ((by rw [hg]; exact (below_size (by repeat (first | (with_reducible first | exact HB.out | apply below_alloc | apply pw_below_drewN | apply below_drew1) | exact HB.out))) : w.heap.size ≤ gb494)); clear HO_7; clear HB; have HO_7 := n0_; have HB := n1_; have BK494 := n2_; have GW494 := n3_; have GE494 := n4_; clear n0_ n1_ n2_ n3_ n4_; clear hb hbox hg; have hcz30_0 : w29.cell? ⟨gb494, 0, none⟩ = some (.string (⟨#[]⟩ : ByteArray)) := (blk_cell BK494.out 0).trans rfl; have hcz30_1 : w29.cell? ⟨gb494, 1, none⟩ = some (.string (⟨#[]⟩ : ByteArray)) := (blk_cell BK494.out 1).trans rfl; have hfz30_0 := blk_frozen BK494.out 0; have hfz30_1 := blk_frozen BK494.out 1)))
                                            go_ret3
                                            exact ⟨_, by first | rfl | (simp [errW_none, errW_some] <;> rfl) | (simp [*, errW_none, errW_some] <;> rfl), by first | exact Kd.R_nil _ _ _ _ _ | exact Kd.N_nil _ _ _ _ _ | exact Kd.V_nil _ _ _ _ _ | exact Kd.Q_nil _ _ _ _ _ | exact Kd.S_nil _ _ _ _ _, by repeat (first | (with_reducible first | exact HB.out | apply below_alloc | apply pw_below_drewN | apply below_drew1 | refine below_set ?_ GE494.out) | exact HB.out)⟩
                                          · rw [if_neg c27] at H
                                            have c27b0 : decide (40 < (wrap64 (x18_4 + 1))) = false := decide_eq_false c27
                                            clear c27
                                            have H' := Aside0.mk H
                                            clear H
                                            go_wp2_with (first | (go_at_call 61; (with_reducible refine (tollbarref04_Parse.calls kj19 t488 t491 t492 true _ A25.out).mono ?_); rintro e w31 ⟨rfl, hb⟩; (try clear A25); have n0_ := Aside0.mk (Kd.R_below (by (with_reducible repeat (first | apply Kd.R_alloc | apply Kd.R_drewN | apply Kd.R_drew)); exact HO_7.out) hb); have n1_ := Aside0.mk (below_step (by repeat (first | (with_reducible first | exact HB.out | apply below_alloc | apply pw_below_drewN | apply below_drew1) | exact HB.out)) hb); clear HO_7; clear HB; have HO_7 := n0_; have HB := n1_; clear n0_ n1_; (try clear hb); (try clear hb2); (try clear hk); (try clear hi)) | ((with_reducible refine gate_dst (N := 22) rfl ?_); refine box_event ?hg (N := 22) ?hd (cs := #[.string (⟨#[]⟩ : ByteArray), .string (⟨#[]⟩ : ByteArray)]) (t := 84) ?hr ?_; (case hd => rfl); (case hg => rfl); (case hr => first | (go_simp; done) | (go_simp; rfl)); intro gb494 hg w32 hbox hb; have n0_ := Aside0.mk (Kd.R_below (by (with_reducible repeat (first | apply Kd.R_alloc | apply Kd.R_drewN | apply Kd.R_drew)); exact HO_7.out) hb); have n1_ := Aside0.mk (below_step (by repeat (first | (with_reducible first | exact HB.out | apply below_alloc | apply pw_below_drewN | apply below_drew1) | exact HB.out)) hb); have n2_ := Aside0.mk (hbox); have n3_ := Aside0.mk ((by rw [hg]; exact (below_size (by repeat (first | (with_reducible first | exact HB.out | apply below_alloc | apply pw_below_drewN | apply below_drew1) | exact HB.out))) : w.heap.size ≤ gb494)); have n4_ := Aside0.mk ((by rw [hg]; exact (below_size (by repeat (first | (with_reducible first | exact HB.out | apply below_alloc | apply pw_below_drewN | apply below_drew1) | exact HB.out))) : w.heap.size ≤ gb494)); clear HO_7; clear HB; have HO_7 := n0_; have HB := n1_; have BK494 := n2_; have GW494 := n3_; have GE494 := n4_; clear n0_ n1_ n2_ n3_ n4_; clear hb hbox hg; have hcz33_0 : w32.cell? ⟨gb494, 0, none⟩ = some (.string (⟨#[]⟩ : ByteArray)) := (blk_cell BK494.out 0).trans rfl; have hcz33_1 : w32.cell? ⟨gb494, 1, none⟩ = some (.string (⟨#[]⟩ : ByteArray)) := (blk_cell BK494.out 1).trans rfl; have hfz33_0 := blk_frozen BK494.out 0; have hfz33_1 := blk_frozen BK494.out 1))
                                            repeat (go_quiet (first | (go_at_call 61; (with_reducible refine (tollbarref04_Parse.calls kj19 t488 t491 t492 true _ A25.out).mono ?_); rintro e w31 ⟨rfl, hb⟩; (try clear A25); have n0_ := Aside0.mk (Kd.R_below (by (with_reducible repeat (first | apply Kd.R_alloc | apply Kd.R_drewN | apply Kd.R_drew)); exact HO_7.out) hb); have n1_ := Aside0.mk (below_step (by repeat (first | (with_reducible first | exact HB.out | apply below_alloc | apply pw_below_drewN | apply below_drew1) | exact HB.out)) hb); clear HO_7; clear HB; have HO_7 := n0_; have HB := n1_; clear n0_ n1_; (try clear hb); (try clear hb2); (try clear hk); (try clear hi)) | ((with_reducible refine gate_dst (N := 22) rfl ?_); refine box_event ?hg (N := 22) ?hd (cs := #[.string (⟨#[]⟩ : ByteArray), .string (⟨#[]⟩ : ByteArray)]) (t := 84) ?hr ?_; (case hd => rfl); (case hg => rfl); (case hr => first | (go_simp; done) | (go_simp; rfl)); intro gb494 hg w32 hbox hb; have n0_ := Aside0.mk (Kd.R_below (by (with_reducible repeat (first | apply Kd.R_alloc | apply Kd.R_drewN | apply Kd.R_drew)); exact HO_7.out) hb); have n1_ := Aside0.mk (below_step (by repeat (first | (with_reducible first | exact HB.out | apply below_alloc | apply pw_below_drewN | apply below_drew1) | exact HB.out)) hb); have n2_ := Aside0.mk (hbox); have n3_ := Aside0.mk ((by rw [hg]; exact (below_size (by repeat (first | (with_reducible first | exact HB.out | apply below_alloc | apply pw_below_drewN | apply below_drew1) | exact HB.out))) : w.heap.size ≤ gb494)); have n4_ := Aside0.mk ((by rw [hg]; exact (below_size (by repeat (first | (with_reducible first | exact HB.out | apply below_alloc | apply pw_below_drewN | apply below_drew1) | exact HB.out))) : w.heap.size ≤ gb494)); clear HO_7; clear HB; have HO_7 := n0_; have HB := n1_; have BK494 := n2_; have GW494 := n3_; have GE494 := n4_; clear n0_ n1_ n2_ n3_ n4_; clear hb hbox hg; have hcz33_0 : w32.cell? ⟨gb494, 0, none⟩ = some (.string (⟨#[]⟩ : ByteArray)) := (blk_cell BK494.out 0).trans rfl; have hcz33_1 : w32.cell? ⟨gb494, 1, none⟩ = some (.string (⟨#[]⟩ : ByteArray)) := (blk_cell BK494.out 1).trans rfl; have hfz33_0 := blk_frozen BK494.out 0; have hfz33_1 := blk_frozen BK494.out 1)); try go_wp2_with (first | (go_at_call 61; (with_reducible refine (tollbarref04_Parse.calls kj19 t488 t491 t492 true _ A25.out).mono ?_); rintro e w31 ⟨rfl, hb⟩; (try clear A25); have n0_ := Aside0.mk (Kd.R_below (by (with_reducible repeat (first | apply Kd.R_alloc | apply Kd.R_drewN | apply Kd.R_drew)); exact HO_7.out) hb); have n1_ := Aside0.mk (below_step (by repeat (first | (with_reducible first | exact HB.out | apply below_alloc | apply pw_below_drewN | apply below_drew1) | exact HB.out)) hb); clear HO_7; clear HB; have HO_7 := n0_; have HB := n1_; clear n0_ n1_; (try clear hb); (try clear hb2); (try clear hk); (try clear hi)) | ((with_reducible refine gate_dst (N := 22) rfl ?_); refine box_event ?hg (N := 22) ?hd (cs := #[.string (⟨#[]⟩ : ByteArray), .string (⟨#[]⟩ : ByteArray)]) (t := 84) ?hr ?_; (case hd => rfl); (case hg => rfl); (case hr => first | (go_simp; done) | (go_simp; rfl)); intro gb494 hg w32 hbox hb; have n0_ := Aside0.mk (Kd.R_below (by (with_reducible repeat (first | apply Kd.R_alloc | apply Kd.R_drewN | apply Kd.R_drew)); exact HO_7.out) hb); have n1_ := Aside0.mk (below_step (by repeat (first | (with_reducible first | exact HB.out | apply below_alloc | apply pw_below_drewN | apply below_drew1) | exact HB.out)) hb); have n2_ := Aside0.mk (hbox); have n3_ := Aside0.mk ((by rw [hg]; exact (below_size (by repeat (first | (with_reducible first | exact HB.out | apply below_alloc | apply pw_below_drewN | apply below_drew1) | exact HB.out))) : w.heap.size ≤ gb494)); have n4_ := Aside0.mk ((by rw [hg]; exact (below_size (by repeat (first | (with_reducible first | exact HB.out | apply below_alloc | apply pw_below_drewN | apply below_drew1) | exact HB.out))) : w.heap.size ≤ gb494)); clear HO_7; clear HB; have HO_7 := n0_; have HB := n1_; have BK494 := n2_; have GW494 := n3_; have GE494 := n4_; clear n0_ n1_ n2_ n3_ n4_; clear hb hbox hg; have hcz33_0 : w32.cell? ⟨gb494, 0, none⟩ = some (.string (⟨#[]⟩ : ByteArray)) := (blk_cell BK494.out 0).trans rfl; have hcz33_1 : w32.cell? ⟨gb494, 1, none⟩ = some (.string (⟨#[]⟩ : ByteArray)) := (blk_cell BK494.out 1).trans rfl; have hfz33_0 := blk_frozen BK494.out 0; have hfz33_1 := blk_frozen BK494.out 1)))
                                            go_roundg kj19
                                            case measure => have := HJ2.out; have := HK2.out; have := HJ9.out; have := HK4.out; have := HJ19.out; omega
                                            case rel => exact ⟨(wrap64 (x9_4 + t489)), (wrap64 (x18_4 + 1)), (by first | rfl | (simp; done) | (simp [*]; done)), (by first | rfl | (simp; done) | (simp [*]; done)), H', ⟨by have := HJ2.out; have := HK2.out; have := HJ9.out; have := HK4.out; have := HJ19.out; omega⟩, ⟨by (with_reducible repeat (first | apply Kd.R_alloc | apply Kd.R_drewN | apply Kd.R_drew)); exact Kd.R_mono (Kd.R_far (p := ⟨gb494, 1, none⟩) (Kd.R_far (p := ⟨gb494, 0, none⟩) (Kd.R_types HO_7.out BK494.out (by decide)) (fun _ hk => hk.2) (.string t491)) (fun _ hk => hk.2) (.string t492)) (fun _ hk => trivial)⟩, ⟨by repeat (first | (with_reducible first | exact HB.out | apply below_alloc | apply pw_below_drewN | apply below_drew1 | refine below_set ?_ GE494.out) | exact HB.out)⟩⟩
                                        · replace c26 := Bool.eq_false_iff.mpr c26
                                          subst c26
                                          have H1 : (some (([] : List Int), 0, 20)) = some (r1, r2, r3) := by rw [if_neg (show ¬ (false = true) by decide)] at H; exact H
                                          clear H
                                          have H := H1
                                          clear H1
                                          simp only [Option.some.injEq, Prod.mk.injEq] at H
                                          obtain ⟨rfl, rfl, rfl⟩ := H
                                          go_wp2_with (first | (go_at_call 61; (with_reducible refine (tollbarref04_Parse.calls kj19 t488 t491 t492 false _ A25.out).mono ?_); rintro e w34 ⟨rfl, hb⟩; (try clear A25); have n0_ := Aside0.mk (Kd.R_below (by (with_reducible repeat (first | apply Kd.R_alloc | apply Kd.R_drewN | apply Kd.R_drew)); exact HO_7.out) hb); have n1_ := Aside0.mk (below_step (by repeat (first | (with_reducible first | exact HB.out | apply below_alloc | apply pw_below_drewN | apply below_drew1) | exact HB.out)) hb); clear HO_7; clear HB; have HO_7 := n0_; have HB := n1_; clear n0_ n1_; (try clear hb); (try clear hb2); (try clear hk); (try clear hi)) | ((with_reducible refine gate_dst (N := 22) rfl ?_); refine box_event ?hg (N := 22) ?hd (cs := #[.string (⟨#[]⟩ : ByteArray), .string (⟨#[]⟩ : ByteArray)]) (t := 84) ?hr ?_; (case hd => rfl); (case hg => rfl); (case hr => first | (go_simp; done) | (go_simp; rfl)); intro gb494 hg w35 hbox hb; have n0_ := Aside0.mk (Kd.R_below (by (with_reducible repeat (first | apply Kd.R_alloc | apply Kd.R_drewN | apply Kd.R_drew)); exact HO_7.out) hb); have n1_ := Aside0.mk (below_step (by repeat (first | (with_reducible first | exact HB.out | apply below_alloc | apply pw_below_drewN | apply below_drew1) | exact HB.out)) hb); have n2_ := Aside0.mk (hbox); have n3_ := Aside0.mk ((by rw [hg]; exact (below_size (by repeat (first | (with_reducible first | exact HB.out | apply below_alloc | apply pw_below_drewN | apply below_drew1) | exact HB.out))) : w.heap.size ≤ gb494)); have n4_ := Aside0.mk ((by rw [hg]; exact (below_size (by repeat (first | (with_reducible first | exact HB.out | apply below_alloc | apply pw_below_drewN | apply below_drew1) | exact HB.out))) : w.heap.size ≤ gb494)); clear HO_7; clear HB; have HO_7 := n0_; have HB := n1_; have BK494 := n2_; have GW494 := n3_; have GE494 := n4_; clear n0_ n1_ n2_ n3_ n4_; clear hb hbox hg; have hcz36_0 : w35.cell? ⟨gb494, 0, none⟩ = some (.string (⟨#[]⟩ : ByteArray)) := (blk_cell BK494.out 0).trans rfl; have hcz36_1 : w35.cell? ⟨gb494, 1, none⟩ = some (.string (⟨#[]⟩ : ByteArray)) := (blk_cell BK494.out 1).trans rfl; have hfz36_0 := blk_frozen BK494.out 0; have hfz36_1 := blk_frozen BK494.out 1))
                                          repeat (go_quiet (first | (go_at_call 61; (with_reducible refine (tollbarref04_Parse.calls kj19 t488 t491 t492 false _ A25.out).mono ?_); rintro e w34 ⟨rfl, hb⟩; (try clear A25); have n0_ := Aside0.mk (Kd.R_below (by (with_reducible repeat (first | apply Kd.R_alloc | apply Kd.R_drewN | apply Kd.R_drew)); exact HO_7.out) hb); have n1_ := Aside0.mk (below_step (by repeat (first | (with_reducible first | exact HB.out | apply below_alloc | apply pw_below_drewN | apply below_drew1) | exact HB.out)) hb); clear HO_7; clear HB; have HO_7 := n0_; have HB := n1_; clear n0_ n1_; (try clear hb); (try clear hb2); (try clear hk); (try clear hi)) | ((with_reducible refine gate_dst (N := 22) rfl ?_); refine box_event ?hg (N := 22) ?hd (cs := #[.string (⟨#[]⟩ : ByteArray), .string (⟨#[]⟩ : ByteArray)]) (t := 84) ?hr ?_; (case hd => rfl); (case hg => rfl); (case hr => first | (go_simp; done) | (go_simp; rfl)); intro gb494 hg w35 hbox hb; have n0_ := Aside0.mk (Kd.R_below (by (with_reducible repeat (first | apply Kd.R_alloc | apply Kd.R_drewN | apply Kd.R_drew)); exact HO_7.out) hb); have n1_ := Aside0.mk (below_step (by repeat (first | (with_reducible first | exact HB.out | apply below_alloc | apply pw_below_drewN | apply below_drew1) | exact HB.out)) hb); have n2_ := Aside0.mk (hbox); have n3_ := Aside0.mk ((by rw [hg]; exact (below_size (by repeat (first | (with_reducible first | exact HB.out | apply below_alloc | apply pw_below_drewN | apply below_drew1) | exact HB.out))) : w.heap.size ≤ gb494)); have n4_ := Aside0.mk ((by rw [hg]; exact (below_size (by repeat (first | (with_reducible first | exact HB.out | apply below_alloc | apply pw_below_drewN | apply below_drew1) | exact HB.out))) : w.heap.size ≤ gb494)); clear HO_7; clear HB; have HO_7 := n0_; have HB := n1_; have BK494 := n2_; have GW494 := n3_; have GE494 := n4_; clear n0_ n1_ n2_ n3_ n4_; clear hb hbox hg; have hcz36_0 : w35.cell? ⟨gb494, 0, none⟩ = some (.string (⟨#[]⟩ : ByteArray)) := (blk_cell BK494.out 0).trans rfl; have hcz36_1 : w35.cell? ⟨gb494, 1, none⟩ = some (.string (⟨#[]⟩ : ByteArray)) := (blk_cell BK494.out 1).trans rfl; have hfz36_0 := blk_frozen BK494.out 0; have hfz36_1 := blk_frozen BK494.out 1)); try go_wp2_with (first | (go_at_call 61; (with_reducible refine (tollbarref04_Parse.calls kj19 t488 t491 t492 false _ A25.out).mono ?_); rintro e w34 ⟨rfl, hb⟩; (try clear A25); have n0_ := Aside0.mk (Kd.R_below (by (with_reducible repeat (first | apply Kd.R_alloc | apply Kd.R_drewN | apply Kd.R_drew)); exact HO_7.out) hb); have n1_ := Aside0.mk (below_step (by repeat (first | (with_reducible first | exact HB.out | apply below_alloc | apply pw_below_drewN | apply below_drew1) | exact HB.out)) hb); clear HO_7; clear HB; have HO_7 := n0_; have HB := n1_; clear n0_ n1_; (try clear hb); (try clear hb2); (try clear hk); (try clear hi)) | ((with_reducible refine gate_dst (N := 22) rfl ?_); refine box_event ?hg (N := 22) ?hd (cs := #[.string (⟨#[]⟩ : ByteArray), .string (⟨#[]⟩ : ByteArray)]) (t := 84) ?hr ?_; (case hd => rfl); (case hg => rfl); (case hr => first | (go_simp; done) | (go_simp; rfl)); intro gb494 hg w35 hbox hb; have n0_ := Aside0.mk (Kd.R_below (by (with_reducible repeat (first | apply Kd.R_alloc | apply Kd.R_drewN | apply Kd.R_drew)); exact HO_7.out) hb); have n1_ := Aside0.mk (below_step (by repeat (first | (with_reducible first | exact HB.out | apply below_alloc | apply pw_below_drewN | apply below_drew1) | exact HB.out)) hb); have n2_ := Aside0.mk (hbox); have n3_ := Aside0.mk ((by rw [hg]; exact (below_size (by repeat (first | (with_reducible first | exact HB.out | apply below_alloc | apply pw_below_drewN | apply below_drew1) | exact HB.out))) : w.heap.size ≤ gb494)); have n4_ := Aside0.mk ((by rw [hg]; exact (below_size (by repeat (first | (with_reducible first | exact HB.out | apply below_alloc | apply pw_below_drewN | apply below_drew1) | exact HB.out))) : w.heap.size ≤ gb494)); clear HO_7; clear HB; have HO_7 := n0_; have HB := n1_; have BK494 := n2_; have GW494 := n3_; have GE494 := n4_; clear n0_ n1_ n2_ n3_ n4_; clear hb hbox hg; have hcz36_0 : w35.cell? ⟨gb494, 0, none⟩ = some (.string (⟨#[]⟩ : ByteArray)) := (blk_cell BK494.out 0).trans rfl; have hcz36_1 : w35.cell? ⟨gb494, 1, none⟩ = some (.string (⟨#[]⟩ : ByteArray)) := (blk_cell BK494.out 1).trans rfl; have hfz36_0 := blk_frozen BK494.out 0; have hfz36_1 := blk_frozen BK494.out 1)))
                                          go_ret3
                                          exact ⟨_, by first | rfl | (simp [errW_none, errW_some] <;> rfl) | (simp [*, errW_none, errW_some] <;> rfl), by first | exact Kd.R_nil _ _ _ _ _ | exact Kd.N_nil _ _ _ _ _ | exact Kd.V_nil _ _ _ _ _ | exact Kd.Q_nil _ _ _ _ _ | exact Kd.S_nil _ _ _ _ _, by repeat (first | (with_reducible first | exact HB.out | apply below_alloc | apply pw_below_drewN | apply below_drew1 | refine below_set ?_ GE494.out) | exact HB.out)⟩
                              · rw [if_neg c18] at H
                                exact absurd H (by simp)
                            · rw [if_neg c17] at H
                              exact absurd H (by simp)
                      · rw [if_neg c16] at H
                        have c16b0 : (t476 == 0) = false := beq_eq_false_iff_ne.mpr c16
                        have c16b1 : (t476 != 0) = true := bne_iff_ne.mpr c16
                        by_cases c37 : t476 > (wrap64 (x1_2 - x8_2))
                        · rw [if_pos c37] at H
                          have c37b0 : decide ((wrap64 (x1_2 - x8_2)) < t476) = true := decide_eq_true c37
                          clear c37
                          simp only [Option.some.injEq, Prod.mk.injEq] at H
                          obtain ⟨rfl, rfl, rfl⟩ := H
                          go_wp2_with (first | (go_at_call 60; (with_reducible refine (tollbarref06_size.calls kj9 t473 t476 true _ A14.out).mono ?_); rintro e w' ⟨rfl, ⟨nd, rfl⟩⟩; (try clear A14); (try first | exact ⟨rfl, _, World.drewN_drewN _ _ _⟩ | exact ⟨rfl, _, Eq.trans (World.drewN_drewN _ _ _) (congrArg (World.drewN _) (Nat.add_assoc _ _ _))⟩)))
                          repeat (go_quiet (first | (go_at_call 60; (with_reducible refine (tollbarref06_size.calls kj9 t473 t476 true _ A14.out).mono ?_); rintro e w' ⟨rfl, ⟨nd, rfl⟩⟩; (try clear A14); (try first | exact ⟨rfl, _, World.drewN_drewN _ _ _⟩ | exact ⟨rfl, _, Eq.trans (World.drewN_drewN _ _ _) (congrArg (World.drewN _) (Nat.add_assoc _ _ _))⟩))); try go_wp2_with (first | (go_at_call 60; (with_reducible refine (tollbarref06_size.calls kj9 t473 t476 true _ A14.out).mono ?_); rintro e w' ⟨rfl, ⟨nd, rfl⟩⟩; (try clear A14); (try first | exact ⟨rfl, _, World.drewN_drewN _ _ _⟩ | exact ⟨rfl, _, Eq.trans (World.drewN_drewN _ _ _) (congrArg (World.drewN _) (Nat.add_assoc _ _ _))⟩))))
                          go_ret3
                          exact ⟨_, by first | rfl | (simp [errW_none, errW_some] <;> rfl) | (simp [*, errW_none, errW_some] <;> rfl), by first | exact Kd.R_nil _ _ _ _ _ | exact Kd.N_nil _ _ _ _ _ | exact Kd.V_nil _ _ _ _ _ | exact Kd.Q_nil _ _ _ _ _ | exact Kd.S_nil _ _ _ _ _, by repeat (first | (with_reducible first | exact HB.out | apply below_alloc | apply pw_below_drewN | apply below_drew1) | exact HB.out)⟩
                        · rw [if_neg c37] at H
                          have c37b0 : decide ((wrap64 (x1_2 - x8_2)) < t476) = false := decide_eq_false c37
                          clear c37
                          have H' := Aside0.mk H
                          clear H
                          go_wp2_with (first | (go_at_call 60; (with_reducible refine (tollbarref06_size.calls kj9 t473 t476 true _ A14.out).mono ?_); rintro e w' ⟨rfl, ⟨nd, rfl⟩⟩; (try clear A14); (try first | exact ⟨rfl, _, World.drewN_drewN _ _ _⟩ | exact ⟨rfl, _, Eq.trans (World.drewN_drewN _ _ _) (congrArg (World.drewN _) (Nat.add_assoc _ _ _))⟩)))
                          repeat (go_quiet (first | (go_at_call 60; (with_reducible refine (tollbarref06_size.calls kj9 t473 t476 true _ A14.out).mono ?_); rintro e w' ⟨rfl, ⟨nd, rfl⟩⟩; (try clear A14); (try first | exact ⟨rfl, _, World.drewN_drewN _ _ _⟩ | exact ⟨rfl, _, Eq.trans (World.drewN_drewN _ _ _) (congrArg (World.drewN _) (Nat.add_assoc _ _ _))⟩))); try go_wp2_with (first | (go_at_call 60; (with_reducible refine (tollbarref06_size.calls kj9 t473 t476 true _ A14.out).mono ?_); rintro e w' ⟨rfl, ⟨nd, rfl⟩⟩; (try clear A14); (try first | exact ⟨rfl, _, World.drewN_drewN _ _ _⟩ | exact ⟨rfl, _, Eq.trans (World.drewN_drewN _ _ _) (congrArg (World.drewN _) (Nat.add_assoc _ _ _))⟩))))
                          go_loopg [7, 9, 15] kj9 (fun kq v7 v9 v15 w' => ∃ (x7_4 : List Int) (x9_4 : Int) (x15_4 : Int), v9 = .int .i64 x9_4 ∧ v15 = .int .i64 x15_4 ∧ Aside0 (tollbarref06_Decode.l1 kq l0 x1_2 x7_4 (wrap64 (x8_2 + t476)) x9_4 t476 x15_4 = some (r1, r2, r3)) ∧ Aside0 (kq ≤ kj9) ∧ Aside0 (Kd.R (Kd.int .u8) 5 w' w.heap.size (fun _ => True) v7 x7_4) ∧ Aside0 (Below w.heap.size w w'))
                          case atStart => exact ⟨(x7_2), (wrap64 (x9_2 + t474)), (0), (by first | rfl | (simp; done) | (simp [*]; done)), (by first | rfl | (simp; done) | (simp [*]; done)), H', ⟨Nat.le_refl _⟩, ⟨by (with_reducible repeat (first | apply Kd.R_alloc | apply Kd.R_drewN | apply Kd.R_drew)); exact HO_7.out⟩, ⟨by repeat (first | (with_reducible first | exact HB.out | apply below_alloc | apply pw_below_drewN | apply below_drew1) | exact HB.out)⟩⟩
                          case round =>
                            clear H'
                            try clear c1
                            try clear c2
                            try clear p2
                            try clear c3
                            try clear c4
                            try clear c4b0
                            try clear p6
                            try clear c7
                            try clear c7b0
                            try clear c7b1
                            try clear c8
                            try clear c8b0
                            try clear c8b1
                            try clear c12
                            try clear c12b0
                            try clear c12b1
                            try clear c13
                            try clear c15
                            try clear c16
                            try clear c16b0
                            try clear c16b1
                            try clear c17
                            try clear c17b0
                            try clear c17b1
                            try clear c18
                            try clear c18b0
                            try clear c18b1
                            try clear c22
                            try clear c22b0
                            try clear c22b1
                            try clear c23
                            try clear c24
                            try clear c24b0
                            try clear c24b1
                            try clear c26
                            try clear c27
                            try clear c27b0
                            try clear c30
                            try clear c37
                            try clear c37b0
                            try clear hcz30_0
                            try clear hcz30_1
                            try clear hcz33_0
                            try clear hcz33_1
                            try clear hcz36_0
                            try clear hcz36_1
                            try clear hfz30_0
                            try clear hfz30_1
                            try clear hfz33_0
                            try clear hfz33_1
                            try clear hfz36_0
                            try clear hfz36_1
                            try clear p2
                            try clear p6
                            obtain ⟨x7_4, x9_4, x15_4, rfl, rfl, HA, HK4, HO_7, HB⟩ := hrel
                            cases gk with
                            | zero => exact absurd HA.out (by simp [tollbarref06_Decode.l1])
                            | succ k4 =>
                              have H := HA.out
                              clear HA
                              simp only [tollbarref06_Decode.l1] at H
                              by_cases c38 : x15_4 < t476
                              · rw [if_pos c38] at H
                                have c38b0 : decide (x15_4 < t476) = true := decide_eq_true c38
                                clear c38
                                by_cases c39 : x9_4 = (l0.length : Int)
                                · rw [if_pos c39] at H
                                  have c39b0 : (x9_4 == (l0.length : Int)) = true := beq_iff_eq.mpr c39
                                  have c39b1 : (x9_4 != (l0.length : Int)) = false := bne_eq_false_iff_eq.mpr c39
                                  clear c39
                                  simp only [Option.some.injEq, Prod.mk.injEq] at H
                                  obtain ⟨rfl, rfl, rfl⟩ := H
                                  go_wp2
                                  repeat (go_quiet (fail); try go_wp2)
                                  go_ret3
                                  exact ⟨_, by first | rfl | (simp [errW_none, errW_some] <;> rfl) | (simp [*, errW_none, errW_some] <;> rfl), by first | exact Kd.R_nil _ _ _ _ _ | exact Kd.N_nil _ _ _ _ _ | exact Kd.V_nil _ _ _ _ _ | exact Kd.Q_nil _ _ _ _ _ | exact Kd.S_nil _ _ _ _ _, by repeat (first | (with_reducible first | exact HB.out | apply below_alloc | apply pw_below_drewN | apply below_drew1) | exact HB.out)⟩
                                · rw [if_neg c39] at H
                                  have c39b0 : (x9_4 == (l0.length : Int)) = false := beq_eq_false_iff_ne.mpr c39
                                  have c39b1 : (x9_4 != (l0.length : Int)) = true := bne_iff_ne.mpr c39
                                  by_cases c40 : 0 ≤ x9_4
                                  · rw [if_pos c40] at H
                                    have c40b0 : decide (0 ≤ x9_4) = true := decide_eq_true c40
                                    clear c40
                                    by_cases c41 : x9_4 < (l0.length : Int)
                                    · rw [if_pos c41] at H
                                      have c41b0 : decide (x9_4 < (l0.length : Int)) = true := decide_eq_true c41
                                      clear c41
                                      by_cases c42 : x7_4.length < 140737488355328
                                      · rw [if_pos c42] at H
                                        have LMc42 := Aside0.mk c42
                                        clear c42
                                        obtain ⟨y479, hy479⟩ : ∃ y_ : List Int, y_ = (x7_4 ++ [rd l0 x9_4]) := ⟨_, rfl⟩
                                        replace H : (tollbarref06_Decode.l1 k4 l0 x1_2 y479 (wrap64 (x8_2 + t476)) (wrap64 (x9_4 + 1)) t476 (wrap64 (x15_4 + 1))) = some (r1, r2, r3) := by first | (rw [hy479]; with_reducible exact H) | (have H2_ := (Option.bind_some _ _).symm.trans H; rw [hy479]; with_reducible exact H2_) | (have H2_ := (Option.bind_some _ _).symm.trans H; with_reducible exact H2_) | with_reducible exact H | (rw [hy479]; exact H) | exact H
                                        have Ny479 := Aside0.mk hy479
                                        clear hy479
                                        have H' := Aside0.mk H
                                        clear H
                                        have p478 : 0 ≤ (x9_4 : Int) := of_decide_eq_true (by first | (with_reducible assumption) | assumption)
                                        have q478 : x9_4 < (l0.length : Int) := of_decide_eq_true (by first | (with_reducible assumption) | assumption)
                                        obtain ⟨ad478, e478, hx478_0⟩ := Kd.at_int HR0.out x9_4 p478 q478
                                        cases e478
                                        replace hx478_0 := (HB.out.cell (World.block_lt_of_cell? w _ hx478_0)).trans hx478_0
                                        replace p478 := eq_true p478
                                        replace q478 := eq_true q478
                                        go_wp2_with (first | ((with_reducible refine gate_builtin (b := .append) (xs := #[.tmp 71, .tmp 76]) rfl ?_); at_builtin; refine Kd.R_append (Kd.int .u8) (w0 := w) w.heap.size rfl (.tmp 71) (.tmp 76) 24 5 (.int .u8 0) 1 rfl Tryd.underlying24 info5 rfl (by decide) (by omega) u7 x7_4 (rd l0 x9_4) [.int .u8 (rd l0 x9_4)] (fun _ => True) (fun _ => False) rfl rfl ?aP (fun _ hk => hk.elim) ?aF ?aO ?aB ?aS ?aL ?_; (case aP => exact rfl); (case aB => exact (by repeat (first | (with_reducible first | exact HB.out | apply below_alloc | apply pw_below_drewN | apply below_drew1) | exact HB.out))); (case aF => exact (fun _ _ => trivial)); (case aO => exact (by (with_reducible repeat (first | apply Kd.R_alloc | apply Kd.R_drewN | apply Kd.R_drew)); exact HO_7.out)); (case aS => exact (below_size (by repeat (first | (with_reducible first | exact HB.out | apply below_alloc | apply pw_below_drewN | apply below_drew1) | exact HB.out)))); (case aL => have := LMc42.out; omega); intro v480 w43 ho hb hg hat; rw [← Ny479.out] at ho; have n0_ := Aside0.mk (hb); have n1_ := Aside0.mk (ho); clear HB; clear HO_7; have HB := n0_; have HO481 := n1_; clear n0_ n1_; clear ho hb hg hat))
                                        repeat (go_quiet (first | ((with_reducible refine gate_builtin (b := .append) (xs := #[.tmp 71, .tmp 76]) rfl ?_); at_builtin; refine Kd.R_append (Kd.int .u8) (w0 := w) w.heap.size rfl (.tmp 71) (.tmp 76) 24 5 (.int .u8 0) 1 rfl Tryd.underlying24 info5 rfl (by decide) (by omega) u7 x7_4 (rd l0 x9_4) [.int .u8 (rd l0 x9_4)] (fun _ => True) (fun _ => False) rfl rfl ?aP (fun _ hk => hk.elim) ?aF ?aO ?aB ?aS ?aL ?_; (case aP => exact rfl); (case aB => exact (by repeat (first | (with_reducible first | exact HB.out | apply below_alloc | apply pw_below_drewN | apply below_drew1) | exact HB.out))); (case aF => exact (fun _ _ => trivial)); (case aO => exact (by (with_reducible repeat (first | apply Kd.R_alloc | apply Kd.R_drewN | apply Kd.R_drew)); exact HO_7.out)); (case aS => exact (below_size (by repeat (first | (with_reducible first | exact HB.out | apply below_alloc | apply pw_below_drewN | apply below_drew1) | exact HB.out)))); (case aL => have := LMc42.out; omega); intro v480 w43 ho hb hg hat; rw [← Ny479.out] at ho; have n0_ := Aside0.mk (hb); have n1_ := Aside0.mk (ho); clear HB; clear HO_7; have HB := n0_; have HO481 := n1_; clear n0_ n1_; clear ho hb hg hat)); try go_wp2_with (first | ((with_reducible refine gate_builtin (b := .append) (xs := #[.tmp 71, .tmp 76]) rfl ?_); at_builtin; refine Kd.R_append (Kd.int .u8) (w0 := w) w.heap.size rfl (.tmp 71) (.tmp 76) 24 5 (.int .u8 0) 1 rfl Tryd.underlying24 info5 rfl (by decide) (by omega) u7 x7_4 (rd l0 x9_4) [.int .u8 (rd l0 x9_4)] (fun _ => True) (fun _ => False) rfl rfl ?aP (fun _ hk => hk.elim) ?aF ?aO ?aB ?aS ?aL ?_; (case aP => exact rfl); (case aB => exact (by repeat (first | (with_reducible first | exact HB.out | apply below_alloc | apply pw_below_drewN | apply below_drew1) | exact HB.out))); (case aF => exact (fun _ _ => trivial)); (case aO => exact (by (with_reducible repeat (first | apply Kd.R_alloc | apply Kd.R_drewN | apply Kd.R_drew)); exact HO_7.out)); (case aS => exact (below_size (by repeat (first | (with_reducible first | exact HB.out | apply below_alloc | apply pw_below_drewN | apply below_drew1) | exact HB.out)))); (case aL => have := LMc42.out; omega); intro v480 w43 ho hb hg hat; rw [← Ny479.out] at ho; have n0_ := Aside0.mk (hb); have n1_ := Aside0.mk (ho); clear HB; clear HO_7; have HB := n0_; have HO481 := n1_; clear n0_ n1_; clear ho hb hg hat)))
                                        go_roundg k4
                                        case measure => have := HJ2.out; have := HK2.out; have := HJ9.out; have := HK4.out; omega
                                        case rel => exact ⟨(y479), (wrap64 (x9_4 + 1)), (wrap64 (x15_4 + 1)), (by first | rfl | (simp; done) | (simp [*]; done)), (by first | rfl | (simp; done) | (simp [*]; done)), H', ⟨by have := HJ2.out; have := HK2.out; have := HJ9.out; have := HK4.out; omega⟩, ⟨by (with_reducible repeat (first | apply Kd.R_alloc | apply Kd.R_drewN | apply Kd.R_drew)); exact HO481.out⟩, ⟨by repeat (first | (with_reducible first | exact HB.out | apply below_alloc | apply pw_below_drewN | apply below_drew1) | exact HB.out)⟩⟩
                                      · rw [if_neg c42] at H
                                        exact absurd H (by simp)
                                    · rw [if_neg c41] at H
                                      exact absurd H (by simp)
                                  · rw [if_neg c40] at H
                                    exact absurd H (by simp)
                              · rw [if_neg c38] at H
                                have c38b0 : decide (x15_4 < t476) = false := decide_eq_false c38
                                clear c38
                                obtain ⟨y482, hy482⟩ : ∃ y_ : List Int, y_ = (([13, 10] : List Int)) := ⟨_, rfl⟩
                                replace H : (tollbarref06_Decode.l2 k4 l0 x1_2 x7_4 (wrap64 (x8_2 + t476)) x9_4 y482 0) = some (r1, r2, r3) := by first | (rw [hy482]; with_reducible exact H) | (have H2_ := (Option.bind_some _ _).symm.trans H; rw [hy482]; with_reducible exact H2_) | (have H2_ := (Option.bind_some _ _).symm.trans H; with_reducible exact H2_) | with_reducible exact H | (rw [hy482]; exact H) | exact H
                                have Ny482 := Aside0.mk hy482
                                clear hy482
                                have H' := Aside0.mk H
                                clear H
                                go_wp2_with (first | ((with_reducible refine gate_dst (N := 80) rfl ?_); refine Kd.R_lit (Kd.int .u8) _ 5 ?hg (N := 80) ?hd (xs := ([13, 10] : List Int)) (inner := [.int .u8 13, .int .u8 10]) (ok := fun _ => True) (okp := fun _ => True) ?hr ?hp (fun _ hk => hk) trivial (Below.refl _ _) (Nat.le_refl _) (by simp) ?_; (case hd => rfl); (case hg => rfl); (case hr => first | (go_simp; done) | (go_simp; rfl)); (case hp => exact (Reps.one (show Kd.M (Kd.int .u8) _ _ _ 13 [.int .u8 13] from rfl) (Reps.one (show Kd.M (Kd.int .u8) _ _ _ 10 [.int .u8 10] from rfl) (Reps.none _ _)))); intro v483 w44 ho45 hb hg_ hnew_; clear hg_ hnew_; (first | rw [← Ny482.out] at ho45 | (simp only [Int.reduceToNat] at ho45; rw [← Ny482.out] at ho45)); have n0_ := Aside0.mk (Kd.R_elder' (by (with_reducible repeat (first | apply Kd.R_alloc | apply Kd.R_drewN | apply Kd.R_drew)); exact HO_7.out) (Kd.R_base ho45) hb); have n1_ := Aside0.mk (Kd.R_lower (Kd.R_new' ho45 (Kd.R_lt (by (with_reducible repeat (first | apply Kd.R_alloc | apply Kd.R_drewN | apply Kd.R_drew)); exact HO_7.out))) (below_size (by repeat (first | (with_reducible first | exact HB.out | apply below_alloc | apply pw_below_drewN | apply below_drew1) | exact HB.out)))); have n2_ := Aside0.mk (below_step (by repeat (first | (with_reducible first | exact HB.out | apply below_alloc | apply pw_below_drewN | apply below_drew1) | exact HB.out)) hb); clear HO_7; clear HB; have HO_7 := n0_; have HO484 := n1_; have HB := n2_; clear n0_ n1_ n2_; clear hb ho45))
                                repeat (go_quiet (first | ((with_reducible refine gate_dst (N := 80) rfl ?_); refine Kd.R_lit (Kd.int .u8) _ 5 ?hg (N := 80) ?hd (xs := ([13, 10] : List Int)) (inner := [.int .u8 13, .int .u8 10]) (ok := fun _ => True) (okp := fun _ => True) ?hr ?hp (fun _ hk => hk) trivial (Below.refl _ _) (Nat.le_refl _) (by simp) ?_; (case hd => rfl); (case hg => rfl); (case hr => first | (go_simp; done) | (go_simp; rfl)); (case hp => exact (Reps.one (show Kd.M (Kd.int .u8) _ _ _ 13 [.int .u8 13] from rfl) (Reps.one (show Kd.M (Kd.int .u8) _ _ _ 10 [.int .u8 10] from rfl) (Reps.none _ _)))); intro v483 w44 ho45 hb hg_ hnew_; clear hg_ hnew_; (first | rw [← Ny482.out] at ho45 | (simp only [Int.reduceToNat] at ho45; rw [← Ny482.out] at ho45)); have n0_ := Aside0.mk (Kd.R_elder' (by (with_reducible repeat (first | apply Kd.R_alloc | apply Kd.R_drewN | apply Kd.R_drew)); exact HO_7.out) (Kd.R_base ho45) hb); have n1_ := Aside0.mk (Kd.R_lower (Kd.R_new' ho45 (Kd.R_lt (by (with_reducible repeat (first | apply Kd.R_alloc | apply Kd.R_drewN | apply Kd.R_drew)); exact HO_7.out))) (below_size (by repeat (first | (with_reducible first | exact HB.out | apply below_alloc | apply pw_below_drewN | apply below_drew1) | exact HB.out)))); have n2_ := Aside0.mk (below_step (by repeat (first | (with_reducible first | exact HB.out | apply below_alloc | apply pw_below_drewN | apply below_drew1) | exact HB.out)) hb); clear HO_7; clear HB; have HO_7 := n0_; have HO484 := n1_; have HB := n2_; clear n0_ n1_ n2_; clear hb ho45)); try go_wp2_with (first | ((with_reducible refine gate_dst (N := 80) rfl ?_); refine Kd.R_lit (Kd.int .u8) _ 5 ?hg (N := 80) ?hd (xs := ([13, 10] : List Int)) (inner := [.int .u8 13, .int .u8 10]) (ok := fun _ => True) (okp := fun _ => True) ?hr ?hp (fun _ hk => hk) trivial (Below.refl _ _) (Nat.le_refl _) (by simp) ?_; (case hd => rfl); (case hg => rfl); (case hr => first | (go_simp; done) | (go_simp; rfl)); (case hp => exact (Reps.one (show Kd.M (Kd.int .u8) _ _ _ 13 [.int .u8 13] from rfl) (Reps.one (show Kd.M (Kd.int .u8) _ _ _ 10 [.int .u8 10] from rfl) (Reps.none _ _)))); intro v483 w44 ho45 hb hg_ hnew_; clear hg_ hnew_; (first | rw [← Ny482.out] at ho45 | (simp only [Int.reduceToNat] at ho45; rw [← Ny482.out] at ho45)); have n0_ := Aside0.mk (Kd.R_elder' (by (with_reducible repeat (first | apply Kd.R_alloc | apply Kd.R_drewN | apply Kd.R_drew)); exact HO_7.out) (Kd.R_base ho45) hb); have n1_ := Aside0.mk (Kd.R_lower (Kd.R_new' ho45 (Kd.R_lt (by (with_reducible repeat (first | apply Kd.R_alloc | apply Kd.R_drewN | apply Kd.R_drew)); exact HO_7.out))) (below_size (by repeat (first | (with_reducible first | exact HB.out | apply below_alloc | apply pw_below_drewN | apply below_drew1) | exact HB.out)))); have n2_ := Aside0.mk (below_step (by repeat (first | (with_reducible first | exact HB.out | apply below_alloc | apply pw_below_drewN | apply below_drew1) | exact HB.out)) hb); clear HO_7; clear HB; have HO_7 := n0_; have HO484 := n1_; have HB := n2_; clear n0_ n1_ n2_; clear hb ho45)))
                                go_loopg [9, 17] k4 (fun kq v9 v17 w' => ∃ (x9_5 : Int) (x17_5 : Int), v9 = .int .i64 x9_5 ∧ v17 = .int .i64 x17_5 ∧ Aside0 (tollbarref06_Decode.l2 kq l0 x1_2 x7_4 (wrap64 (x8_2 + t476)) x9_5 y482 x17_5 = some (r1, r2, r3)) ∧ Aside0 (kq ≤ k4) ∧ Aside0 (Kd.R (Kd.int .u8) 5 w' w.heap.size (fun k_ => some k_ ≠ (v483 : Value).ownBlock) u7 x7_4) ∧ Aside0 (Kd.R (Kd.int .u8) 5 w' w.heap.size (fun k_ => some k_ ≠ (u7 : Value).ownBlock) v483 y482) ∧ Aside0 (Below w.heap.size w w'))
                                case atStart => exact ⟨(x9_4), (0), (by first | rfl | (simp; done) | (simp [*]; done)), (by first | rfl | (simp; done) | (simp [*]; done)), H', ⟨Nat.le_refl _⟩, ⟨by (with_reducible repeat (first | apply Kd.R_alloc | apply Kd.R_drewN | apply Kd.R_drew)); exact Kd.R_mono HO_7.out (fun _ hk => hk.2)⟩, ⟨by (with_reducible repeat (first | apply Kd.R_alloc | apply Kd.R_drewN | apply Kd.R_drew)); exact Kd.R_mono HO484.out (fun _ hk => hk.2)⟩, ⟨by repeat (first | (with_reducible first | exact HB.out | apply below_alloc | apply pw_below_drewN | apply below_drew1) | exact HB.out)⟩⟩
                                case round =>
                                  clear H'
                                  try clear c1
                                  try clear c2
                                  try clear p2
                                  try clear c3
                                  try clear c4
                                  try clear c4b0
                                  try clear p4
                                  try clear q4
                                  try clear hx4
                                  try clear p6
                                  try clear c7
                                  try clear c7b0
                                  try clear c7b1
                                  try clear c8
                                  try clear c8b0
                                  try clear c8b1
                                  try clear c12
                                  try clear c12b0
                                  try clear c12b1
                                  try clear c13
                                  try clear c15
                                  try clear c16
                                  try clear c16b0
                                  try clear c16b1
                                  try clear c17
                                  try clear c17b0
                                  try clear c17b1
                                  try clear c18
                                  try clear c18b0
                                  try clear c18b1
                                  try clear c22
                                  try clear c22b0
                                  try clear c22b1
                                  try clear c23
                                  try clear c24
                                  try clear c24b0
                                  try clear c24b1
                                  try clear c26
                                  try clear c27
                                  try clear c27b0
                                  try clear c30
                                  try clear c37
                                  try clear c37b0
                                  try clear c38
                                  try clear c38b0
                                  try clear c39
                                  try clear c39b0
                                  try clear c39b1
                                  try clear c40
                                  try clear c40b0
                                  try clear c41
                                  try clear c41b0
                                  try clear c42
                                  try clear hcz30_0
                                  try clear hcz30_1
                                  try clear hcz33_0
                                  try clear hcz33_1
                                  try clear hcz36_0
                                  try clear hcz36_1
                                  try clear hfz30_0
                                  try clear hfz30_1
                                  try clear hfz33_0
                                  try clear hfz33_1
                                  try clear hfz36_0
                                  try clear hfz36_1
                                  try clear hx478_0
                                  try clear p2
                                  try clear p478
                                  try clear p6
                                  try clear q478
                                  obtain ⟨x9_5, x17_5, rfl, rfl, HA, HK5, HO_7, HO_16, HB⟩ := hrel
                                  cases gk with
                                  | zero => exact absurd HA.out (by simp [tollbarref06_Decode.l2])
                                  | succ k5 =>
                                    have H := HA.out
                                    clear HA
                                    simp only [tollbarref06_Decode.l2] at H
                                    by_cases c46 : x17_5 < 2
                                    · rw [if_pos c46] at H
                                      have c46b0 : decide (x17_5 < 2) = true := decide_eq_true c46
                                      clear c46
                                      by_cases c47 : x9_5 = (l0.length : Int)
                                      · rw [if_pos c47] at H
                                        have c47b0 : (x9_5 == (l0.length : Int)) = true := beq_iff_eq.mpr c47
                                        have c47b1 : (x9_5 != (l0.length : Int)) = false := bne_eq_false_iff_eq.mpr c47
                                        clear c47
                                        simp only [Option.some.injEq, Prod.mk.injEq] at H
                                        obtain ⟨rfl, rfl, rfl⟩ := H
                                        go_wp2
                                        repeat (go_quiet (fail); try go_wp2)
                                        go_ret3
                                        exact ⟨_, by first | rfl | (simp [errW_none, errW_some] <;> rfl) | (simp [*, errW_none, errW_some] <;> rfl), by first | exact Kd.R_nil _ _ _ _ _ | exact Kd.N_nil _ _ _ _ _ | exact Kd.V_nil _ _ _ _ _ | exact Kd.Q_nil _ _ _ _ _ | exact Kd.S_nil _ _ _ _ _, by repeat (first | (with_reducible first | exact HB.out | apply below_alloc | apply pw_below_drewN | apply below_drew1) | exact HB.out)⟩
                                      · rw [if_neg c47] at H
                                        have c47b0 : (x9_5 == (l0.length : Int)) = false := beq_eq_false_iff_ne.mpr c47
                                        have c47b1 : (x9_5 != (l0.length : Int)) = true := bne_iff_ne.mpr c47
                                        by_cases c48 : 0 ≤ x9_5
                                        · rw [if_pos c48] at H
                                          have c48b0 : decide (0 ≤ x9_5) = true := decide_eq_true c48
                                          clear c48
                                          by_cases c49 : x9_5 < (l0.length : Int)
                                          · rw [if_pos c49] at H
                                            have c49b0 : decide (x9_5 < (l0.length : Int)) = true := decide_eq_true c49
                                            clear c49
                                            by_cases c50 : 0 ≤ x17_5
                                            · rw [if_pos c50] at H
                                              have c50b0 : decide (0 ≤ x17_5) = true := decide_eq_true c50
                                              clear c50
                                              by_cases c51 : x17_5 < (y482.length : Int)
                                              · rw [if_pos c51] at H
                                                have c51b0 : decide (x17_5 < (y482.length : Int)) = true := decide_eq_true c51
                                                clear c51
                                                by_cases c52 : (rd l0 x9_5) = (rd y482 x17_5)
                                                · rw [if_pos c52] at H
                                                  have c52b0 : ((rd l0 x9_5) == (rd y482 x17_5)) = true := beq_iff_eq.mpr c52
                                                  have c52b1 : ((rd l0 x9_5) != (rd y482 x17_5)) = false := bne_eq_false_iff_eq.mpr c52
                                                  clear c52
                                                  have H' := Aside0.mk H
                                                  clear H
                                                  have p485 : 0 ≤ (x9_5 : Int) := of_decide_eq_true (by first | (with_reducible assumption) | assumption)
                                                  have q485 : x9_5 < (l0.length : Int) := of_decide_eq_true (by first | (with_reducible assumption) | assumption)
                                                  obtain ⟨ad485, e485, hx485_0⟩ := Kd.at_int HR0.out x9_5 p485 q485
                                                  cases e485
                                                  replace hx485_0 := (HB.out.cell (World.block_lt_of_cell? w _ hx485_0)).trans hx485_0
                                                  replace p485 := eq_true p485
                                                  replace q485 := eq_true q485
                                                  obtain ⟨Ao53, co53, eo53⟩ := Kd.R_slice HO_16.out
                                                  subst eo53
                                                  have p486 : 0 ≤ (x17_5 : Int) := of_decide_eq_true (by first | (with_reducible assumption) | assumption)
                                                  have q486 : x17_5 < (y482.length : Int) := of_decide_eq_true (by first | (with_reducible assumption) | assumption)
                                                  obtain ⟨ad486, e486, hx486_0⟩ := Kd.at_int (Kd.R_reads' HO_16.out).2.2 x17_5 p486 q486
                                                  cases e486
                                                  replace p486 := eq_true p486
                                                  replace q486 := eq_true q486
                                                  go_wp2
                                                  repeat (go_quiet (fail); try go_wp2)
                                                  go_roundg k5
                                                  case measure => have := HJ2.out; have := HK2.out; have := HJ9.out; have := HK4.out; have := HK5.out; omega
                                                  case rel => exact ⟨(wrap64 (x9_5 + 1)), (wrap64 (x17_5 + 1)), (by first | rfl | (simp; done) | (simp [*]; done)), (by first | rfl | (simp; done) | (simp [*]; done)), H', ⟨by have := HJ2.out; have := HK2.out; have := HJ9.out; have := HK4.out; have := HK5.out; omega⟩, ⟨by (with_reducible repeat (first | apply Kd.R_alloc | apply Kd.R_drewN | apply Kd.R_drew)); exact HO_7.out⟩, ⟨by (with_reducible repeat (first | apply Kd.R_alloc | apply Kd.R_drewN | apply Kd.R_drew)); exact HO_16.out⟩, ⟨by repeat (first | (with_reducible first | exact HB.out | apply below_alloc | apply pw_below_drewN | apply below_drew1) | exact HB.out)⟩⟩
                                                · rw [if_neg c52] at H
                                                  have c52b0 : ((rd l0 x9_5) == (rd y482 x17_5)) = false := beq_eq_false_iff_ne.mpr c52
                                                  have c52b1 : ((rd l0 x9_5) != (rd y482 x17_5)) = true := bne_iff_ne.mpr c52
                                                  simp only [Option.some.injEq, Prod.mk.injEq] at H
                                                  obtain ⟨rfl, rfl, rfl⟩ := H
                                                  have p485 : 0 ≤ (x9_5 : Int) := of_decide_eq_true (by first | (with_reducible assumption) | assumption)
                                                  have q485 : x9_5 < (l0.length : Int) := of_decide_eq_true (by first | (with_reducible assumption) | assumption)
                                                  obtain ⟨ad485, e485, hx485_0⟩ := Kd.at_int HR0.out x9_5 p485 q485
                                                  cases e485
                                                  replace hx485_0 := (HB.out.cell (World.block_lt_of_cell? w _ hx485_0)).trans hx485_0
                                                  replace p485 := eq_true p485
                                                  replace q485 := eq_true q485
                                                  obtain ⟨Ao54, co54, eo54⟩ := Kd.R_slice HO_16.out
                                                  subst eo54
                                                  have p486 : 0 ≤ (x17_5 : Int) := of_decide_eq_true (by first | (with_reducible assumption) | assumption)
                                                  have q486 : x17_5 < (y482.length : Int) := of_decide_eq_true (by first | (with_reducible assumption) | assumption)
                                                  obtain ⟨ad486, e486, hx486_0⟩ := Kd.at_int (Kd.R_reads' HO_16.out).2.2 x17_5 p486 q486
                                                  cases e486
                                                  replace p486 := eq_true p486
                                                  replace q486 := eq_true q486
                                                  go_wp2
                                                  repeat (go_quiet (fail); try go_wp2)
                                                  go_ret3
                                                  exact ⟨_, by first | rfl | (simp [errW_none, errW_some] <;> rfl) | (simp [*, errW_none, errW_some] <;> rfl), by first | exact Kd.R_nil _ _ _ _ _ | exact Kd.N_nil _ _ _ _ _ | exact Kd.V_nil _ _ _ _ _ | exact Kd.Q_nil _ _ _ _ _ | exact Kd.S_nil _ _ _ _ _, by repeat (first | (with_reducible first | exact HB.out | apply below_alloc | apply pw_below_drewN | apply below_drew1) | exact HB.out)⟩
                                              · rw [if_neg c51] at H
                                                exact absurd H (by simp)
                                            · rw [if_neg c50] at H
                                              exact absurd H (by simp)
                                          · rw [if_neg c49] at H
                                            exact absurd H (by simp)
                                        · rw [if_neg c48] at H
                                          exact absurd H (by simp)
                                    · rw [if_neg c46] at H
                                      have c46b0 : decide (x17_5 < 2) = false := decide_eq_false c46
                                      clear c46
                                      have H' := Aside0.mk H
                                      clear H
                                      go_wp2
                                      repeat (go_quiet (fail); try go_wp2)
                                      go_roundg k5
                                      case measure => have := HJ2.out; have := HK2.out; have := HJ9.out; have := HK4.out; have := HK5.out; omega
                                      case rel => exact ⟨(x7_4), ((wrap64 (x8_2 + t476))), (x9_5), (by first | rfl | (simp; done) | (simp [*]; done)), (by first | rfl | (simp; done) | (simp [*]; done)), H', ⟨by have := HJ2.out; have := HK2.out; have := HJ9.out; have := HK4.out; have := HK5.out; omega⟩, ⟨by (with_reducible repeat (first | apply Kd.R_alloc | apply Kd.R_drewN | apply Kd.R_drew)); exact Kd.R_mono HO_7.out (fun _ hk => trivial)⟩, ⟨by repeat (first | (with_reducible first | exact HB.out | apply below_alloc | apply pw_below_drewN | apply below_drew1) | exact HB.out)⟩⟩
                    · replace c15 := Bool.eq_false_iff.mpr c15
                      subst c15
                      have H1 : (some (([] : List Int), 0, 30)) = some (r1, r2, r3) := by rw [if_neg (show ¬ (false = true) by decide)] at H; exact H
                      clear H
                      have H := H1
                      clear H1
                      simp only [Option.some.injEq, Prod.mk.injEq] at H
                      obtain ⟨rfl, rfl, rfl⟩ := H
                      go_wp2_with (first | (go_at_call 60; (with_reducible refine (tollbarref06_size.calls kj9 t473 t476 false _ A14.out).mono ?_); rintro e w' ⟨rfl, ⟨nd, rfl⟩⟩; (try clear A14); (try first | exact ⟨rfl, _, World.drewN_drewN _ _ _⟩ | exact ⟨rfl, _, Eq.trans (World.drewN_drewN _ _ _) (congrArg (World.drewN _) (Nat.add_assoc _ _ _))⟩)))
                      repeat (go_quiet (first | (go_at_call 60; (with_reducible refine (tollbarref06_size.calls kj9 t473 t476 false _ A14.out).mono ?_); rintro e w' ⟨rfl, ⟨nd, rfl⟩⟩; (try clear A14); (try first | exact ⟨rfl, _, World.drewN_drewN _ _ _⟩ | exact ⟨rfl, _, Eq.trans (World.drewN_drewN _ _ _) (congrArg (World.drewN _) (Nat.add_assoc _ _ _))⟩))); try go_wp2_with (first | (go_at_call 60; (with_reducible refine (tollbarref06_size.calls kj9 t473 t476 false _ A14.out).mono ?_); rintro e w' ⟨rfl, ⟨nd, rfl⟩⟩; (try clear A14); (try first | exact ⟨rfl, _, World.drewN_drewN _ _ _⟩ | exact ⟨rfl, _, Eq.trans (World.drewN_drewN _ _ _) (congrArg (World.drewN _) (Nat.add_assoc _ _ _))⟩))))
                      go_ret3
                      exact ⟨_, by first | rfl | (simp [errW_none, errW_some] <;> rfl) | (simp [*, errW_none, errW_some] <;> rfl), by first | exact Kd.R_nil _ _ _ _ _ | exact Kd.N_nil _ _ _ _ _ | exact Kd.V_nil _ _ _ _ _ | exact Kd.Q_nil _ _ _ _ _ | exact Kd.S_nil _ _ _ _ _, by repeat (first | (with_reducible first | exact HB.out | apply below_alloc | apply pw_below_drewN | apply below_drew1) | exact HB.out)⟩
            · rw [if_neg c8] at H
              exact absurd H (by simp)
          · rw [if_neg c7] at H
            exact absurd H (by simp)

end Go.Proofs.YtjgpifjfaiaidaaDoor.P

