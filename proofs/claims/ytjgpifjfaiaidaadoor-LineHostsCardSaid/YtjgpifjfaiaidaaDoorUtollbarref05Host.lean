/- Each function below answers as its Lean twin says. No further condition. (Laid by this repo's packseat.py out of the seat's texts and of the print's words.) -/
import Derived.Test.YtjgpifjfaiaidaaDoorU0base0x0
import Derived.Test.YtjgpifjfaiaidaaDoorUtollbarref020x0
namespace Go.Proofs.YtjgpifjfaiaidaaDoor.P
open Go.RowKit Go.Proofs.YtjgpifjfaiaidaaDoorW.PrintWords Go.Proofs.YtjgpifjfaiaidaaDoorW.PrintLast Go.Proofs.YtjgpifjfaiaidaaDoorW.PrintMore
attribute [local go_sem] max2_int min2_int max_two min_two max_three min_three max_four min_four   -- for this text's walks alone
set_option linter.unusedVariables false
set_option linter.unusedSimpArgs false

mutual
def tollbarref05_Host.j1 : Nat → ByteArray → Int → Int → Option (ByteArray × Bool)
  | 0, _, _, _ => none
  | k + 1, x0, x4, x5 => if x5 ≥ 0 then (if 0 ≤ x5 then (if x5 < (x0.size : Int) then (tollbarref05_Host.j2 k x0 x4 x5 ((bt x0 x5) == 58)) else (none)) else (none)) else (tollbarref05_Host.j2 k x0 x4 x5 false)
def tollbarref05_Host.j2 : Nat → ByteArray → Int → Int → Bool → Option (ByteArray × Bool)
  | 0, _, _, _, _ => none
  | k + 1, x0, x4, x5, x31 => if x31 = true then (tollbarref05_Host.j3 k x0 x5) else (tollbarref05_Host.j3 k x0 x4)
def tollbarref05_Host.j3 : Nat → ByteArray → Int → Option (ByteArray × Bool)
  | 0, _, _ => none
  | k + 1, x0, x4 => if 0 ≤ x4 then (if x4 ≤ (x0.size : Int) then ((tollbarref02_Fold.f k (x0.extract 0 (x4 : Int).toNat)).bind fun t335 => (tollbarref05_Host.l1 k t335 0)) else (none)) else (none)
def tollbarref05_Host.l1 : Nat → ByteArray → Int → Option (ByteArray × Bool)
  | 0, _, _ => none
  | k + 1, x6, x7 => if x7 < (x6.size : Int) then (if 0 ≤ x7 then (if (bt x6 x7) ≥ 97 then (if ((bt x6 x7) ≤ 122) then (tollbarref05_Host.l1 k x6 (wrap64 (x7 + 1))) else ((tollbarref02_Digit.f (bt x6 x7)).bind fun t336 => (if t336 = true then (tollbarref05_Host.l1 k x6 (wrap64 (x7 + 1))) else (if (bt x6 x7) = 45 then (tollbarref05_Host.l1 k x6 (wrap64 (x7 + 1))) else (if (bt x6 x7) = 46 then (tollbarref05_Host.l1 k x6 (wrap64 (x7 + 1))) else (some ((⟨#[]⟩ : ByteArray), false))))))) else ((tollbarref02_Digit.f (bt x6 x7)).bind fun t337 => (if t337 = true then (tollbarref05_Host.l1 k x6 (wrap64 (x7 + 1))) else (if (bt x6 x7) = 45 then (tollbarref05_Host.l1 k x6 (wrap64 (x7 + 1))) else (if (bt x6 x7) = 46 then (tollbarref05_Host.l1 k x6 (wrap64 (x7 + 1))) else (some ((⟨#[]⟩ : ByteArray), false))))))) else (none)) else (if (x6.size : Int) = 0 then (some ((⟨#[]⟩ : ByteArray), false)) else (if (x6.size : Int) > 64 then (some ((⟨#[]⟩ : ByteArray), false)) else (some (x6, true))))
def tollbarref05_Host.l0 : Nat → ByteArray → Int → Int → Option (ByteArray × Bool)
  | 0, _, _, _ => none
  | k + 1, x0, x4, x5 => if x5 ≥ 0 then (if 0 ≤ x5 then (if x5 < (x0.size : Int) then ((tollbarref02_Digit.f (bt x0 x5)).bind fun t334 => (if t334 = true then (tollbarref05_Host.l0 k x0 x4 (wrap64 (x5 - 1))) else (tollbarref05_Host.j1 k x0 x4 x5))) else (none)) else (none)) else (tollbarref05_Host.j1 k x0 x4 x5)
end
def tollbarref05_Host.f (k : Nat) (a0 : ByteArray) : Option (ByteArray × Bool) := tollbarref05_Host.l0 k a0 (a0.size : Int) (wrap64 ((a0.size : Int) - 1))
theorem tollbarref05_Host.mono_l : ∀ k, (∀ y0 y1 y2, LeO (tollbarref05_Host.j1 k y0 y1 y2) (tollbarref05_Host.j1 (k + 1) y0 y1 y2)) ∧ (∀ y0 y1 y2 y3, LeO (tollbarref05_Host.j2 k y0 y1 y2 y3) (tollbarref05_Host.j2 (k + 1) y0 y1 y2 y3)) ∧ (∀ y0 y1, LeO (tollbarref05_Host.j3 k y0 y1) (tollbarref05_Host.j3 (k + 1) y0 y1)) ∧ (∀ y0 y1, LeO (tollbarref05_Host.l1 k y0 y1) (tollbarref05_Host.l1 (k + 1) y0 y1)) ∧ (∀ y0 y1 y2, LeO (tollbarref05_Host.l0 k y0 y1 y2) (tollbarref05_Host.l0 (k + 1) y0 y1 y2))
  | 0 => ⟨fun _ _ _ r h => by simp [tollbarref05_Host.j1] at h, fun _ _ _ _ r h => by simp [tollbarref05_Host.j2] at h, fun _ _ r h => by simp [tollbarref05_Host.j3] at h, fun _ _ r h => by simp [tollbarref05_Host.l1] at h, fun _ _ _ r h => by simp [tollbarref05_Host.l0] at h⟩
  | k + 1 => by
    obtain ⟨ih0, ih1, ih2, ih3, ih4⟩ := tollbarref05_Host.mono_l k
    refine ⟨?_, ?_, ?_, ?_, ?_⟩
    · intro y0 y1 y2
      unfold tollbarref05_Host.j1
      repeat' first
      | (with_reducible exact ih0 _ _ _)
      | (with_reducible exact ih1 _ _ _ _)
      | (with_reducible exact ih2 _ _)
      | (with_reducible exact ih3 _ _)
      | (with_reducible exact ih4 _ _ _)
      | (with_reducible exact tollbarref02_Fold.mono _ _)
      | (with_reducible exact LeO.refl _)
      | (with_reducible exact LeO.none _)
      | (with_reducible refine LeO.ite ?_ ?_)
      | (with_reducible refine LeO.bind ?_ (fun _ => ?_))
      | exact ih0 _ _ _
      | exact ih1 _ _ _ _
      | exact ih2 _ _
      | exact ih3 _ _
      | exact ih4 _ _ _
      | exact tollbarref02_Fold.mono _ _
      | exact LeO.none _
      | refine LeO.ite ?_ ?_
      | refine LeO.bind ?_ (fun _ => ?_)
    · intro y0 y1 y2 y3
      unfold tollbarref05_Host.j2
      repeat' first
      | (with_reducible exact ih0 _ _ _)
      | (with_reducible exact ih1 _ _ _ _)
      | (with_reducible exact ih2 _ _)
      | (with_reducible exact ih3 _ _)
      | (with_reducible exact ih4 _ _ _)
      | (with_reducible exact tollbarref02_Fold.mono _ _)
      | (with_reducible exact LeO.refl _)
      | (with_reducible exact LeO.none _)
      | (with_reducible refine LeO.ite ?_ ?_)
      | (with_reducible refine LeO.bind ?_ (fun _ => ?_))
      | exact ih0 _ _ _
      | exact ih1 _ _ _ _
      | exact ih2 _ _
      | exact ih3 _ _
      | exact ih4 _ _ _
      | exact tollbarref02_Fold.mono _ _
      | exact LeO.none _
      | refine LeO.ite ?_ ?_
      | refine LeO.bind ?_ (fun _ => ?_)
    · intro y0 y1
      unfold tollbarref05_Host.j3
      repeat' first
      | (with_reducible exact ih0 _ _ _)
      | (with_reducible exact ih1 _ _ _ _)
      | (with_reducible exact ih2 _ _)
      | (with_reducible exact ih3 _ _)
      | (with_reducible exact ih4 _ _ _)
      | (with_reducible exact tollbarref02_Fold.mono _ _)
      | (with_reducible exact LeO.refl _)
      | (with_reducible exact LeO.none _)
      | (with_reducible refine LeO.ite ?_ ?_)
      | (with_reducible refine LeO.bind ?_ (fun _ => ?_))
      | exact ih0 _ _ _
      | exact ih1 _ _ _ _
      | exact ih2 _ _
      | exact ih3 _ _
      | exact ih4 _ _ _
      | exact tollbarref02_Fold.mono _ _
      | exact LeO.none _
      | refine LeO.ite ?_ ?_
      | refine LeO.bind ?_ (fun _ => ?_)
    · intro y0 y1
      unfold tollbarref05_Host.l1
      repeat' first
      | (with_reducible exact ih0 _ _ _)
      | (with_reducible exact ih1 _ _ _ _)
      | (with_reducible exact ih2 _ _)
      | (with_reducible exact ih3 _ _)
      | (with_reducible exact ih4 _ _ _)
      | (with_reducible exact tollbarref02_Fold.mono _ _)
      | (with_reducible exact LeO.refl _)
      | (with_reducible exact LeO.none _)
      | (with_reducible refine LeO.ite ?_ ?_)
      | (with_reducible refine LeO.bind ?_ (fun _ => ?_))
      | exact ih0 _ _ _
      | exact ih1 _ _ _ _
      | exact ih2 _ _
      | exact ih3 _ _
      | exact ih4 _ _ _
      | exact tollbarref02_Fold.mono _ _
      | exact LeO.none _
      | refine LeO.ite ?_ ?_
      | refine LeO.bind ?_ (fun _ => ?_)
    · intro y0 y1 y2
      unfold tollbarref05_Host.l0
      repeat' first
      | (with_reducible exact ih0 _ _ _)
      | (with_reducible exact ih1 _ _ _ _)
      | (with_reducible exact ih2 _ _)
      | (with_reducible exact ih3 _ _)
      | (with_reducible exact ih4 _ _ _)
      | (with_reducible exact tollbarref02_Fold.mono _ _)
      | (with_reducible exact LeO.refl _)
      | (with_reducible exact LeO.none _)
      | (with_reducible refine LeO.ite ?_ ?_)
      | (with_reducible refine LeO.bind ?_ (fun _ => ?_))
      | exact ih0 _ _ _
      | exact ih1 _ _ _ _
      | exact ih2 _ _
      | exact ih3 _ _
      | exact ih4 _ _ _
      | exact tollbarref02_Fold.mono _ _
      | exact LeO.none _
      | refine LeO.ite ?_ ?_
      | refine LeO.bind ?_ (fun _ => ?_)
theorem tollbarref05_Host.mono : ∀ a0 k, LeO (tollbarref05_Host.f k a0) (tollbarref05_Host.f (k + 1) a0) := by
  intro a0 k
  obtain ⟨ih0, ih1, ih2, ih3, ih4⟩ := tollbarref05_Host.mono_l k
  unfold tollbarref05_Host.f
  repeat' first
      | (with_reducible exact ih0 _ _ _)
      | (with_reducible exact ih1 _ _ _ _)
      | (with_reducible exact ih2 _ _)
      | (with_reducible exact ih3 _ _)
      | (with_reducible exact ih4 _ _ _)
      | (with_reducible exact tollbarref02_Fold.mono _ _)
      | (with_reducible exact LeO.refl _)
      | (with_reducible exact LeO.none _)
      | (with_reducible refine LeO.ite ?_ ?_)
      | (with_reducible refine LeO.bind ?_ (fun _ => ?_))
      | exact ih0 _ _ _
      | exact ih1 _ _ _ _
      | exact ih2 _ _
      | exact ih3 _ _
      | exact ih4 _ _ _
      | exact tollbarref02_Fold.mono _ _
      | exact LeO.none _
      | refine LeO.ite ?_ ?_
      | refine LeO.bind ?_ (fun _ => ?_)
set_option maxHeartbeats 8000000 in
set_option maxRecDepth 100000 in
theorem tollbarref05_Host.calls (k : Nat) (a0 : ByteArray) (r1 : ByteArray) (r2 : Bool) (w : World) (h : tollbarref05_Host.f k a0 = some (r1, r2)) :
    Calls Tryd.prog 21 #[.string a0] w fun e w' => e = .returned (.tuple #[.string r1, .bool r2]) ∧ Below w.heap.size w w' := by
  have HB := Aside0.mk (Below.refl w.heap.size w)
  have H : (tollbarref05_Host.l0 k a0 (a0.size : Int) (wrap64 ((a0.size : Int) - 1))) = some (r1, r2) := h
  clear h
  have HC2 := Aside0.mk H
  clear H
  go_enter Tryd.func21, Tryd.ntmps21
  go_upto_block 0 with (fail)
  go_cut [5] (fun v5 wc => ∃ (kq : Nat) (x5_1 : Int), v5 = .int .i64 x5_1 ∧ Aside0 (tollbarref05_Host.j1 kq a0 (a0.size : Int) x5_1 = some (r1, r2)) ∧ Aside0 (kq ≤ k) ∧ Aside0 (Below w.heap.size w wc))
  case first =>
    have H := HC2.out
    clear HC2
    have H' := Aside0.mk H
    clear H
    go_wp2
    go_loopg [5] k (fun kq v5 w' => ∃ (x5_1 : Int), v5 = .int .i64 x5_1 ∧ Aside0 (tollbarref05_Host.l0 kq a0 (a0.size : Int) x5_1 = some (r1, r2)) ∧ Aside0 (kq ≤ k) ∧ Aside0 (Below w.heap.size w w'))
    case atStart => exact ⟨(wrap64 ((a0.size : Int) - 1)), (by first | rfl | (simp; done) | (simp [*]; done)), H', ⟨Nat.le_refl _⟩, ⟨by repeat (first | (with_reducible first | exact HB.out | apply below_alloc | apply pw_below_drewN | apply below_drew1) | exact HB.out)⟩⟩
    case round =>
      clear H'
      try clear c2
      try clear p2
      obtain ⟨x5_1, rfl, HA, HK1, HB⟩ := hrel
      cases gk with
      | zero => exact absurd HA.out (by simp [tollbarref05_Host.l0])
      | succ k1 =>
        have H := HA.out
        clear HA
        simp only [tollbarref05_Host.l0] at H
        by_cases c3 : x5_1 ≥ 0
        · rw [if_pos c3] at H
          have c3b0 : decide (0 ≤ x5_1) = true := decide_eq_true c3
          clear c3
          (first | rw [c3b0] | (simp only [i64_w, i32_w]; rw [c3b0]) | skip)
          by_cases c4 : 0 ≤ x5_1
          · rw [if_pos c4] at H
            have c4b0 : decide (0 ≤ x5_1) = true := decide_eq_true c4
            clear c4
            by_cases c5 : x5_1 < (a0.size : Int)
            · rw [if_pos c5] at H
              have c5b0 : decide (x5_1 < (a0.size : Int)) = true := decide_eq_true c5
              clear c5
              replace H := Option.bind_eq_some_iff.mp H
              obtain ⟨t334, A70, H⟩ := H
              replace H : (if t334 = true then (tollbarref05_Host.l0 k1 a0 (a0.size : Int) (wrap64 (x5_1 - 1))) else (tollbarref05_Host.j1 k1 a0 (a0.size : Int) x5_1)) = some (r1, r2) := H
              have A7 := Aside0.mk A70
              clear A70
              by_cases c8 : t334 = true
              · subst c8
                have H1 : (tollbarref05_Host.l0 k1 a0 (a0.size : Int) (wrap64 (x5_1 - 1))) = some (r1, r2) := by rw [if_pos rfl] at H; exact H
                clear H
                have H := H1
                clear H1
                have H' := Aside0.mk H
                clear H
                have p6 : 0 ≤ (x5_1 : Int) := of_decide_eq_true (by first | (with_reducible assumption) | assumption)
                have q6 : x5_1 < (a0.size : Int) := of_decide_eq_true (by first | (with_reducible assumption) | assumption)
                have hx6 := bt_at a0 x5_1
                replace p6 := eq_true p6
                replace q6 := eq_true q6
                go_wp2_with (first | (go_at_call 48; (with_reducible refine (tollbarref02_Digit.calls (bt a0 x5_1) true _ A7.out).mono ?_); rintro e w' ⟨rfl, ⟨nd, rfl⟩⟩; (try clear A7)))
                go_roundg k1
                case measure => have := HK1.out; omega
                case rel => exact ⟨(wrap64 (x5_1 - 1)), (by first | rfl | (simp; done) | (simp [*]; done)), H', ⟨by have := HK1.out; omega⟩, ⟨by repeat (first | (with_reducible first | exact HB.out | apply below_alloc | apply pw_below_drewN | apply below_drew1) | exact HB.out)⟩⟩
              · replace c8 := Bool.eq_false_iff.mpr c8
                subst c8
                have H1 : (tollbarref05_Host.j1 k1 a0 (a0.size : Int) x5_1) = some (r1, r2) := by rw [if_neg (show ¬ (false = true) by decide)] at H; exact H
                clear H
                have H := H1
                clear H1
                have H' := Aside0.mk H
                clear H
                have p6 : 0 ≤ (x5_1 : Int) := of_decide_eq_true (by first | (with_reducible assumption) | assumption)
                have q6 : x5_1 < (a0.size : Int) := of_decide_eq_true (by first | (with_reducible assumption) | assumption)
                have hx6 := bt_at a0 x5_1
                replace p6 := eq_true p6
                replace q6 := eq_true q6
                go_wp2_with (first | (go_at_call 48; (with_reducible refine (tollbarref02_Digit.calls (bt a0 x5_1) false _ A7.out).mono ?_); rintro e w' ⟨rfl, ⟨nd, rfl⟩⟩; (try clear A7)))
                go_meet
                case rel => exact ⟨_, (x5_1), (by first | rfl | (simp; done) | (simp [*]; done)), H', ⟨by have := HK1.out; first | omega | exact Nat.le_refl _⟩, ⟨by repeat (first | (with_reducible first | exact HB.out | apply below_alloc | apply pw_below_drewN | apply below_drew1) | exact HB.out)⟩⟩
            · rw [if_neg c5] at H
              exact absurd H (by simp)
          · rw [if_neg c4] at H
            exact absurd H (by simp)
        · rw [if_neg c3] at H
          have c3b0 : decide (0 ≤ x5_1) = false := decide_eq_false c3
          clear c3
          (first | rw [c3b0] | (simp only [i64_w, i32_w]; rw [c3b0]) | skip)
          have H' := Aside0.mk H
          clear H
          go_wp2
          go_meet
          case rel => exact ⟨_, (x5_1), (by first | rfl | (simp; done) | (simp [*]; done)), H', ⟨by have := HK1.out; first | omega | exact Nat.le_refl _⟩, ⟨by repeat (first | (with_reducible first | exact HB.out | apply below_alloc | apply pw_below_drewN | apply below_drew1) | exact HB.out)⟩⟩
  case rest =>
    clear HC2
    try clear c2
    try clear p2
    try clear c3
    try clear c3b0
    try clear c4
    try clear c4b0
    try clear c5
    try clear c5b0
    try clear p6
    try clear q6
    try clear hx6
    try clear c8
    try clear p2
    try clear p6
    try clear q6
    obtain ⟨kq, x5_1, rfl, HA, HJ1, HB⟩ := hcut
    cases kq with
    | zero => exact absurd HA.out (by simp [tollbarref05_Host.j1])
    | succ kj1 =>
      have H := HA.out
      clear HA
      simp only [tollbarref05_Host.j1] at H
      have HC9 := Aside0.mk H
      clear H
      go_upto_region 5 with (fail)
      go_cut [31] (fun v31 wc => ∃ (kq : Nat) (x31_8 : Bool), v31 = .bool x31_8 ∧ Aside0 (tollbarref05_Host.j2 kq a0 (a0.size : Int) x5_1 x31_8 = some (r1, r2)) ∧ Aside0 (kq ≤ kj1) ∧ Aside0 (Below w.heap.size w wc))
      case first =>
        have H := HC9.out
        clear HC9
        by_cases c10 : x5_1 ≥ 0
        · rw [if_pos c10] at H
          have c10b0 : decide (0 ≤ x5_1) = true := decide_eq_true c10
          clear c10
          (first | rw [c10b0] | (simp only [i64_w, i32_w]; rw [c10b0]) | skip)
          by_cases c11 : 0 ≤ x5_1
          · rw [if_pos c11] at H
            have c11b0 : decide (0 ≤ x5_1) = true := decide_eq_true c11
            clear c11
            by_cases c12 : x5_1 < (a0.size : Int)
            · rw [if_pos c12] at H
              have c12b0 : decide (x5_1 < (a0.size : Int)) = true := decide_eq_true c12
              clear c12
              have H' := Aside0.mk H
              clear H
              have p13 : 0 ≤ (x5_1 : Int) := of_decide_eq_true (by first | (with_reducible assumption) | assumption)
              have q13 : x5_1 < (a0.size : Int) := of_decide_eq_true (by first | (with_reducible assumption) | assumption)
              have hx13 := bt_at a0 x5_1
              replace p13 := eq_true p13
              replace q13 := eq_true q13
              go_wp2
              go_meet
              case rel => exact ⟨_, (((bt a0 x5_1) == 58)), (by first | rfl | (simp; done) | (simp [*]; done)), H', ⟨by have := HJ1.out; first | omega | exact Nat.le_refl _⟩, ⟨by repeat (first | (with_reducible first | exact HB.out | apply below_alloc | apply pw_below_drewN | apply below_drew1) | exact HB.out)⟩⟩
            · rw [if_neg c12] at H
              exact absurd H (by simp)
          · rw [if_neg c11] at H
            exact absurd H (by simp)
        · rw [if_neg c10] at H
          have c10b0 : decide (0 ≤ x5_1) = false := decide_eq_false c10
          clear c10
          (first | rw [c10b0] | (simp only [i64_w, i32_w]; rw [c10b0]) | skip)
          have H' := Aside0.mk H
          clear H
          go_wp2
          go_meet
          case rel => exact ⟨_, (false), (by first | rfl | (simp; done) | (simp [*]; done)), H', ⟨by have := HJ1.out; first | omega | exact Nat.le_refl _⟩, ⟨by repeat (first | (with_reducible first | exact HB.out | apply below_alloc | apply pw_below_drewN | apply below_drew1) | exact HB.out)⟩⟩
      case rest =>
        clear HC9
        try clear c1
        try clear p1
        try clear q1
        try clear hx1
        try clear c2
        try clear p2
        try clear c3
        try clear c3b0
        try clear c4
        try clear c4b0
        try clear c5
        try clear c5b0
        try clear p6
        try clear q6
        try clear hx6
        try clear c8
        try clear c10
        try clear c10b0
        try clear c11
        try clear c11b0
        try clear c12
        try clear c12b0
        try clear p13
        try clear q13
        try clear hx13
        try clear p13
        try clear p2
        try clear p6
        try clear q13
        try clear q6
        obtain ⟨kq, x31_8, rfl, HA, HJ8, HB⟩ := hcut
        cases kq with
        | zero => exact absurd HA.out (by simp [tollbarref05_Host.j2])
        | succ kj8 =>
          have H := HA.out
          clear HA
          simp only [tollbarref05_Host.j2] at H
          have HC14 := Aside0.mk H
          clear H
          go_upto_if 31 with (fail)
          go_cut [4] (fun v4 wc => ∃ (kq : Nat) (x4_13 : Int), v4 = .int .i64 x4_13 ∧ Aside0 (tollbarref05_Host.j3 kq a0 x4_13 = some (r1, r2)) ∧ Aside0 (kq ≤ kj8) ∧ Aside0 (Below w.heap.size w wc))
          case first =>
            have H := HC14.out
            clear HC14
            by_cases c15 : x31_8 = true
            · subst c15
              have H1 : (tollbarref05_Host.j3 kj8 a0 x5_1) = some (r1, r2) := by rw [if_pos rfl] at H; exact H
              clear H
              have H := H1
              clear H1
              have H' := Aside0.mk H
              clear H
              go_wp2
              go_meet
              case rel => exact ⟨_, (x5_1), (by first | rfl | (simp; done) | (simp [*]; done)), H', ⟨by have := HJ1.out; have := HJ8.out; first | omega | exact Nat.le_refl _⟩, ⟨by repeat (first | (with_reducible first | exact HB.out | apply below_alloc | apply pw_below_drewN | apply below_drew1) | exact HB.out)⟩⟩
            · replace c15 := Bool.eq_false_iff.mpr c15
              subst c15
              have H1 : (tollbarref05_Host.j3 kj8 a0 (a0.size : Int)) = some (r1, r2) := by rw [if_neg (show ¬ (false = true) by decide)] at H; exact H
              clear H
              have H := H1
              clear H1
              have H' := Aside0.mk H
              clear H
              go_wp2
              go_meet
              case rel => exact ⟨_, ((a0.size : Int)), (by first | rfl | (simp; done) | (simp [*]; done)), H', ⟨by have := HJ1.out; have := HJ8.out; first | omega | exact Nat.le_refl _⟩, ⟨by repeat (first | (with_reducible first | exact HB.out | apply below_alloc | apply pw_below_drewN | apply below_drew1) | exact HB.out)⟩⟩
          case rest =>
            clear HC14
            try clear c1
            try clear p1
            try clear q1
            try clear hx1
            try clear c2
            try clear p2
            try clear c3
            try clear c3b0
            try clear c4
            try clear c4b0
            try clear c5
            try clear c5b0
            try clear p6
            try clear q6
            try clear hx6
            try clear c8
            try clear c10
            try clear c10b0
            try clear c11
            try clear c11b0
            try clear c12
            try clear c12b0
            try clear p13
            try clear q13
            try clear hx13
            try clear c15
            try clear p1
            try clear p13
            try clear p2
            try clear p6
            try clear q1
            try clear q13
            try clear q6
            obtain ⟨kq, x4_13, rfl, HA, HJ13, HB⟩ := hcut
            cases kq with
            | zero => exact absurd HA.out (by simp [tollbarref05_Host.j3])
            | succ kj13 =>
              have H := HA.out
              clear HA
              simp only [tollbarref05_Host.j3] at H
              by_cases c16 : 0 ≤ x4_13
              · rw [if_pos c16] at H
                have c16b0 := eq_true c16
                have c16b1 : decide (0 ≤ x4_13) = true := decide_eq_true c16
                clear c16
                by_cases c17 : x4_13 ≤ (a0.size : Int)
                · rw [if_pos c17] at H
                  have c17b0 := eq_true c17
                  have c17b1 : decide (x4_13 ≤ (a0.size : Int)) = true := decide_eq_true c17
                  clear c17
                  replace H := Option.bind_eq_some_iff.mp H
                  obtain ⟨t335, A180, H⟩ := H
                  replace H : (tollbarref05_Host.l1 kj13 t335 0) = some (r1, r2) := H
                  have A18 := Aside0.mk A180
                  clear A180
                  have H' := Aside0.mk H
                  clear H
                  go_wp2_with (first | ((with_reducible refine gate_callee (f := 53) rfl ?_); refine goesL_ (some 36) rfl rfl Tryd.func53 (by kernel_rfl) rfl #[.string (a0.extract 0 (x4_13 : Int).toNat)] rfl (by (try simp only [List.map_toArray, List.map_cons, List.map_nil]); first | done | rfl | (simp only [List.length_drop, List.length_take]; rfl)) ?_; (with_reducible refine (tollbarref02_Fold.calls kj13 (a0.extract 0 (x4_13 : Int).toNat) t335 _ A18.out).mono ?_); rintro e w19 ⟨rfl, hb⟩; (try clear A18); refine ⟨_, rfl, ?_⟩; have n0_ := Aside0.mk (below_step (by repeat (first | (with_reducible first | exact HB.out | apply below_alloc | apply pw_below_drewN | apply below_drew1) | exact HB.out)) hb); clear HB; have HB := n0_; clear n0_; (try clear hb); (try clear hb2); (try clear hk); (try clear hi)))
                  go_loopg [7] kj13 (fun kq v7 w' => ∃ (x7_4 : Int), v7 = .int .i64 x7_4 ∧ Aside0 (tollbarref05_Host.l1 kq t335 x7_4 = some (r1, r2)) ∧ Aside0 (kq ≤ kj13) ∧ Aside0 (Below w.heap.size w w'))
                  case atStart => exact ⟨(0), (by first | rfl | (simp; done) | (simp [*]; done)), H', ⟨Nat.le_refl _⟩, ⟨by repeat (first | (with_reducible first | exact HB.out | apply below_alloc | apply pw_below_drewN | apply below_drew1) | exact HB.out)⟩⟩
                  case round =>
                    clear H'
                    try clear c1
                    try clear p1
                    try clear q1
                    try clear hx1
                    try clear c2
                    try clear p2
                    try clear c3
                    try clear c3b0
                    try clear c4
                    try clear c4b0
                    try clear c5
                    try clear c5b0
                    try clear p6
                    try clear q6
                    try clear hx6
                    try clear c8
                    try clear c10
                    try clear c10b0
                    try clear c11
                    try clear c11b0
                    try clear c12
                    try clear c12b0
                    try clear p13
                    try clear q13
                    try clear hx13
                    try clear c15
                    try clear c16
                    try clear c16b0
                    try clear c16b1
                    try clear c17
                    try clear c17b0
                    try clear c17b1
                    try clear p1
                    try clear p13
                    try clear p2
                    try clear p6
                    try clear q1
                    try clear q13
                    try clear q6
                    obtain ⟨x7_4, rfl, HA, HK4, HB⟩ := hrel
                    cases gk with
                    | zero => exact absurd HA.out (by simp [tollbarref05_Host.l1])
                    | succ k4 =>
                      have H := HA.out
                      clear HA
                      simp only [tollbarref05_Host.l1] at H
                      by_cases c20 : x7_4 < (t335.size : Int)
                      · rw [if_pos c20] at H
                        have c20b0 : decide (x7_4 < (t335.size : Int)) = true := decide_eq_true c20
                        clear c20
                        by_cases c21 : 0 ≤ x7_4
                        · rw [if_pos c21] at H
                          have c21b0 : decide (0 ≤ x7_4) = true := decide_eq_true c21
                          clear c21
                          by_cases c23 : (bt t335 x7_4) ≥ 97
                          · rw [if_pos c23] at H
                            have c23b0 : decide (97 ≤ (bt t335 x7_4)) = true := decide_eq_true c23
                            clear c23
                            by_cases c24 : ((bt t335 x7_4) ≤ 122)
                            · rw [if_pos c24] at H
                              have c24b0 : decide ((bt t335 x7_4) ≤ 122) = true := decide_eq_true c24
                              clear c24
                              have H' := Aside0.mk H
                              clear H
                              have p22 : 0 ≤ (x7_4 : Int) := of_decide_eq_true (by first | (with_reducible assumption) | assumption)
                              have q22 : x7_4 < (t335.size : Int) := of_decide_eq_true (by first | (with_reducible assumption) | assumption)
                              have hx22 := bt_at t335 x7_4
                              replace p22 := eq_true p22
                              replace q22 := eq_true q22
                              go_wp2
                              go_roundg k4
                              case measure => have := HJ1.out; have := HJ8.out; have := HJ13.out; have := HK4.out; omega
                              case rel => exact ⟨(wrap64 (x7_4 + 1)), (by first | rfl | (simp; done) | (simp [*]; done)), H', ⟨by have := HJ1.out; have := HJ8.out; have := HJ13.out; have := HK4.out; omega⟩, ⟨by repeat (first | (with_reducible first | exact HB.out | apply below_alloc | apply pw_below_drewN | apply below_drew1) | exact HB.out)⟩⟩
                            · rw [if_neg c24] at H
                              have c24b0 : decide ((bt t335 x7_4) ≤ 122) = false := decide_eq_false c24
                              clear c24
                              replace H := Option.bind_eq_some_iff.mp H
                              obtain ⟨t336, A250, H⟩ := H
                              replace H : (if t336 = true then (tollbarref05_Host.l1 k4 t335 (wrap64 (x7_4 + 1))) else (if (bt t335 x7_4) = 45 then (tollbarref05_Host.l1 k4 t335 (wrap64 (x7_4 + 1))) else (if (bt t335 x7_4) = 46 then (tollbarref05_Host.l1 k4 t335 (wrap64 (x7_4 + 1))) else (some ((⟨#[]⟩ : ByteArray), false))))) = some (r1, r2) := H
                              have A25 := Aside0.mk A250
                              clear A250
                              by_cases c26 : t336 = true
                              · subst c26
                                have H1 : (tollbarref05_Host.l1 k4 t335 (wrap64 (x7_4 + 1))) = some (r1, r2) := by rw [if_pos rfl] at H; exact H
                                clear H
                                have H := H1
                                clear H1
                                have H' := Aside0.mk H
                                clear H
                                have p22 : 0 ≤ (x7_4 : Int) := of_decide_eq_true (by first | (with_reducible assumption) | assumption)
                                have q22 : x7_4 < (t335.size : Int) := of_decide_eq_true (by first | (with_reducible assumption) | assumption)
                                have hx22 := bt_at t335 x7_4
                                replace p22 := eq_true p22
                                replace q22 := eq_true q22
                                go_wp2_with (first | (go_at_call 48; (with_reducible refine (tollbarref02_Digit.calls (bt t335 x7_4) true _ A25.out).mono ?_); rintro e w' ⟨rfl, ⟨nd, rfl⟩⟩; (try clear A25)))
                                go_roundg k4
                                case measure => have := HJ1.out; have := HJ8.out; have := HJ13.out; have := HK4.out; omega
                                case rel => exact ⟨(wrap64 (x7_4 + 1)), (by first | rfl | (simp; done) | (simp [*]; done)), H', ⟨by have := HJ1.out; have := HJ8.out; have := HJ13.out; have := HK4.out; omega⟩, ⟨by repeat (first | (with_reducible first | exact HB.out | apply below_alloc | apply pw_below_drewN | apply below_drew1) | exact HB.out)⟩⟩
                              · replace c26 := Bool.eq_false_iff.mpr c26
                                subst c26
                                have H1 : (if (bt t335 x7_4) = 45 then (tollbarref05_Host.l1 k4 t335 (wrap64 (x7_4 + 1))) else (if (bt t335 x7_4) = 46 then (tollbarref05_Host.l1 k4 t335 (wrap64 (x7_4 + 1))) else (some ((⟨#[]⟩ : ByteArray), false)))) = some (r1, r2) := by rw [if_neg (show ¬ (false = true) by decide)] at H; exact H
                                clear H
                                have H := H1
                                clear H1
                                by_cases c27 : (bt t335 x7_4) = 45
                                · rw [if_pos c27] at H
                                  have c27b0 : ((bt t335 x7_4) == 45) = true := beq_iff_eq.mpr c27
                                  have c27b1 : ((bt t335 x7_4) != 45) = false := bne_eq_false_iff_eq.mpr c27
                                  clear c27
                                  have H' := Aside0.mk H
                                  clear H
                                  have p22 : 0 ≤ (x7_4 : Int) := of_decide_eq_true (by first | (with_reducible assumption) | assumption)
                                  have q22 : x7_4 < (t335.size : Int) := of_decide_eq_true (by first | (with_reducible assumption) | assumption)
                                  have hx22 := bt_at t335 x7_4
                                  replace p22 := eq_true p22
                                  replace q22 := eq_true q22
                                  go_wp2_with (first | (go_at_call 48; (with_reducible refine (tollbarref02_Digit.calls (bt t335 x7_4) false _ A25.out).mono ?_); rintro e w' ⟨rfl, ⟨nd, rfl⟩⟩; (try clear A25)))
                                  go_roundg k4
                                  case measure => have := HJ1.out; have := HJ8.out; have := HJ13.out; have := HK4.out; omega
                                  case rel => exact ⟨(wrap64 (x7_4 + 1)), (by first | rfl | (simp; done) | (simp [*]; done)), H', ⟨by have := HJ1.out; have := HJ8.out; have := HJ13.out; have := HK4.out; omega⟩, ⟨by repeat (first | (with_reducible first | exact HB.out | apply below_alloc | apply pw_below_drewN | apply below_drew1) | exact HB.out)⟩⟩
                                · rw [if_neg c27] at H
                                  have c27b0 : ((bt t335 x7_4) == 45) = false := beq_eq_false_iff_ne.mpr c27
                                  have c27b1 : ((bt t335 x7_4) != 45) = true := bne_iff_ne.mpr c27
                                  by_cases c28 : (bt t335 x7_4) = 46
                                  · rw [if_pos c28] at H
                                    have c28b0 : ((bt t335 x7_4) == 46) = true := beq_iff_eq.mpr c28
                                    have c28b1 : ((bt t335 x7_4) != 46) = false := bne_eq_false_iff_eq.mpr c28
                                    clear c28
                                    have H' := Aside0.mk H
                                    clear H
                                    have p22 : 0 ≤ (x7_4 : Int) := of_decide_eq_true (by first | (with_reducible assumption) | assumption)
                                    have q22 : x7_4 < (t335.size : Int) := of_decide_eq_true (by first | (with_reducible assumption) | assumption)
                                    have hx22 := bt_at t335 x7_4
                                    replace p22 := eq_true p22
                                    replace q22 := eq_true q22
                                    go_wp2_with (first | (go_at_call 48; (with_reducible refine (tollbarref02_Digit.calls (bt t335 x7_4) false _ A25.out).mono ?_); rintro e w' ⟨rfl, ⟨nd, rfl⟩⟩; (try clear A25)))
                                    go_roundg k4
                                    case measure => have := HJ1.out; have := HJ8.out; have := HJ13.out; have := HK4.out; omega
                                    case rel => exact ⟨(wrap64 (x7_4 + 1)), (by first | rfl | (simp; done) | (simp [*]; done)), H', ⟨by have := HJ1.out; have := HJ8.out; have := HJ13.out; have := HK4.out; omega⟩, ⟨by repeat (first | (with_reducible first | exact HB.out | apply below_alloc | apply pw_below_drewN | apply below_drew1) | exact HB.out)⟩⟩
                                  · rw [if_neg c28] at H
                                    have c28b0 : ((bt t335 x7_4) == 46) = false := beq_eq_false_iff_ne.mpr c28
                                    have c28b1 : ((bt t335 x7_4) != 46) = true := bne_iff_ne.mpr c28
                                    simp only [Option.some.injEq, Prod.mk.injEq] at H
                                    obtain ⟨rfl, rfl⟩ := H
                                    have p22 : 0 ≤ (x7_4 : Int) := of_decide_eq_true (by first | (with_reducible assumption) | assumption)
                                    have q22 : x7_4 < (t335.size : Int) := of_decide_eq_true (by first | (with_reducible assumption) | assumption)
                                    have hx22 := bt_at t335 x7_4
                                    replace p22 := eq_true p22
                                    replace q22 := eq_true q22
                                    go_wp2_with (first | (go_at_call 48; (with_reducible refine (tollbarref02_Digit.calls (bt t335 x7_4) false _ A25.out).mono ?_); rintro e w' ⟨rfl, ⟨nd, rfl⟩⟩; (try clear A25)))
                                    go_ret2
                                    exact ⟨by first | rfl | (simp [errW_none, errW_some] <;> rfl) | (simp [*, errW_none, errW_some] <;> rfl), by repeat (first | (with_reducible first | exact HB.out | apply below_alloc | apply pw_below_drewN | apply below_drew1) | exact HB.out)⟩
                          · rw [if_neg c23] at H
                            have c23b0 : decide (97 ≤ (bt t335 x7_4)) = false := decide_eq_false c23
                            clear c23
                            replace H := Option.bind_eq_some_iff.mp H
                            obtain ⟨t337, A290, H⟩ := H
                            replace H : (if t337 = true then (tollbarref05_Host.l1 k4 t335 (wrap64 (x7_4 + 1))) else (if (bt t335 x7_4) = 45 then (tollbarref05_Host.l1 k4 t335 (wrap64 (x7_4 + 1))) else (if (bt t335 x7_4) = 46 then (tollbarref05_Host.l1 k4 t335 (wrap64 (x7_4 + 1))) else (some ((⟨#[]⟩ : ByteArray), false))))) = some (r1, r2) := H
                            have A29 := Aside0.mk A290
                            clear A290
                            by_cases c30 : t337 = true
                            · subst c30
                              have H1 : (tollbarref05_Host.l1 k4 t335 (wrap64 (x7_4 + 1))) = some (r1, r2) := by rw [if_pos rfl] at H; exact H
                              clear H
                              have H := H1
                              clear H1
                              have H' := Aside0.mk H
                              clear H
                              have p22 : 0 ≤ (x7_4 : Int) := of_decide_eq_true (by first | (with_reducible assumption) | assumption)
                              have q22 : x7_4 < (t335.size : Int) := of_decide_eq_true (by first | (with_reducible assumption) | assumption)
                              have hx22 := bt_at t335 x7_4
                              replace p22 := eq_true p22
                              replace q22 := eq_true q22
                              go_wp2_with (first | (go_at_call 48; (with_reducible refine (tollbarref02_Digit.calls (bt t335 x7_4) true _ A29.out).mono ?_); rintro e w' ⟨rfl, ⟨nd, rfl⟩⟩; (try clear A29)))
                              go_roundg k4
                              case measure => have := HJ1.out; have := HJ8.out; have := HJ13.out; have := HK4.out; omega
                              case rel => exact ⟨(wrap64 (x7_4 + 1)), (by first | rfl | (simp; done) | (simp [*]; done)), H', ⟨by have := HJ1.out; have := HJ8.out; have := HJ13.out; have := HK4.out; omega⟩, ⟨by repeat (first | (with_reducible first | exact HB.out | apply below_alloc | apply pw_below_drewN | apply below_drew1) | exact HB.out)⟩⟩
                            · replace c30 := Bool.eq_false_iff.mpr c30
                              subst c30
                              have H1 : (if (bt t335 x7_4) = 45 then (tollbarref05_Host.l1 k4 t335 (wrap64 (x7_4 + 1))) else (if (bt t335 x7_4) = 46 then (tollbarref05_Host.l1 k4 t335 (wrap64 (x7_4 + 1))) else (some ((⟨#[]⟩ : ByteArray), false)))) = some (r1, r2) := by rw [if_neg (show ¬ (false = true) by decide)] at H; exact H
                              clear H
                              have H := H1
                              clear H1
                              by_cases c31 : (bt t335 x7_4) = 45
                              · rw [if_pos c31] at H
                                have c31b0 : ((bt t335 x7_4) == 45) = true := beq_iff_eq.mpr c31
                                have c31b1 : ((bt t335 x7_4) != 45) = false := bne_eq_false_iff_eq.mpr c31
                                clear c31
                                have H' := Aside0.mk H
                                clear H
                                have p22 : 0 ≤ (x7_4 : Int) := of_decide_eq_true (by first | (with_reducible assumption) | assumption)
                                have q22 : x7_4 < (t335.size : Int) := of_decide_eq_true (by first | (with_reducible assumption) | assumption)
                                have hx22 := bt_at t335 x7_4
                                replace p22 := eq_true p22
                                replace q22 := eq_true q22
                                go_wp2_with (first | (go_at_call 48; (with_reducible refine (tollbarref02_Digit.calls (bt t335 x7_4) false _ A29.out).mono ?_); rintro e w' ⟨rfl, ⟨nd, rfl⟩⟩; (try clear A29)))
                                go_roundg k4
                                case measure => have := HJ1.out; have := HJ8.out; have := HJ13.out; have := HK4.out; omega
                                case rel => exact ⟨(wrap64 (x7_4 + 1)), (by first | rfl | (simp; done) | (simp [*]; done)), H', ⟨by have := HJ1.out; have := HJ8.out; have := HJ13.out; have := HK4.out; omega⟩, ⟨by repeat (first | (with_reducible first | exact HB.out | apply below_alloc | apply pw_below_drewN | apply below_drew1) | exact HB.out)⟩⟩
                              · rw [if_neg c31] at H
                                have c31b0 : ((bt t335 x7_4) == 45) = false := beq_eq_false_iff_ne.mpr c31
                                have c31b1 : ((bt t335 x7_4) != 45) = true := bne_iff_ne.mpr c31
                                by_cases c32 : (bt t335 x7_4) = 46
                                · rw [if_pos c32] at H
                                  have c32b0 : ((bt t335 x7_4) == 46) = true := beq_iff_eq.mpr c32
                                  have c32b1 : ((bt t335 x7_4) != 46) = false := bne_eq_false_iff_eq.mpr c32
                                  clear c32
                                  have H' := Aside0.mk H
                                  clear H
                                  have p22 : 0 ≤ (x7_4 : Int) := of_decide_eq_true (by first | (with_reducible assumption) | assumption)
                                  have q22 : x7_4 < (t335.size : Int) := of_decide_eq_true (by first | (with_reducible assumption) | assumption)
                                  have hx22 := bt_at t335 x7_4
                                  replace p22 := eq_true p22
                                  replace q22 := eq_true q22
                                  go_wp2_with (first | (go_at_call 48; (with_reducible refine (tollbarref02_Digit.calls (bt t335 x7_4) false _ A29.out).mono ?_); rintro e w' ⟨rfl, ⟨nd, rfl⟩⟩; (try clear A29)))
                                  go_roundg k4
                                  case measure => have := HJ1.out; have := HJ8.out; have := HJ13.out; have := HK4.out; omega
                                  case rel => exact ⟨(wrap64 (x7_4 + 1)), (by first | rfl | (simp; done) | (simp [*]; done)), H', ⟨by have := HJ1.out; have := HJ8.out; have := HJ13.out; have := HK4.out; omega⟩, ⟨by repeat (first | (with_reducible first | exact HB.out | apply below_alloc | apply pw_below_drewN | apply below_drew1) | exact HB.out)⟩⟩
                                · rw [if_neg c32] at H
                                  have c32b0 : ((bt t335 x7_4) == 46) = false := beq_eq_false_iff_ne.mpr c32
                                  have c32b1 : ((bt t335 x7_4) != 46) = true := bne_iff_ne.mpr c32
                                  simp only [Option.some.injEq, Prod.mk.injEq] at H
                                  obtain ⟨rfl, rfl⟩ := H
                                  have p22 : 0 ≤ (x7_4 : Int) := of_decide_eq_true (by first | (with_reducible assumption) | assumption)
                                  have q22 : x7_4 < (t335.size : Int) := of_decide_eq_true (by first | (with_reducible assumption) | assumption)
                                  have hx22 := bt_at t335 x7_4
                                  replace p22 := eq_true p22
                                  replace q22 := eq_true q22
                                  go_wp2_with (first | (go_at_call 48; (with_reducible refine (tollbarref02_Digit.calls (bt t335 x7_4) false _ A29.out).mono ?_); rintro e w' ⟨rfl, ⟨nd, rfl⟩⟩; (try clear A29)))
                                  go_ret2
                                  exact ⟨by first | rfl | (simp [errW_none, errW_some] <;> rfl) | (simp [*, errW_none, errW_some] <;> rfl), by repeat (first | (with_reducible first | exact HB.out | apply below_alloc | apply pw_below_drewN | apply below_drew1) | exact HB.out)⟩
                        · rw [if_neg c21] at H
                          exact absurd H (by simp)
                      · rw [if_neg c20] at H
                        have c20b0 : decide (x7_4 < (t335.size : Int)) = false := decide_eq_false c20
                        clear c20
                        by_cases c33 : (t335.size : Int) = 0
                        · rw [if_pos c33] at H
                          have c33b0 : ((t335.size : Int) == 0) = true := beq_iff_eq.mpr c33
                          have c33b1 : ((t335.size : Int) != 0) = false := bne_eq_false_iff_eq.mpr c33
                          clear c33
                          simp only [Option.some.injEq, Prod.mk.injEq] at H
                          obtain ⟨rfl, rfl⟩ := H
                          go_wp2
                          go_ret2
                          exact ⟨by first | rfl | (simp [errW_none, errW_some] <;> rfl) | (simp [*, errW_none, errW_some] <;> rfl), by repeat (first | (with_reducible first | exact HB.out | apply below_alloc | apply pw_below_drewN | apply below_drew1) | exact HB.out)⟩
                        · rw [if_neg c33] at H
                          have c33b0 : ((t335.size : Int) == 0) = false := beq_eq_false_iff_ne.mpr c33
                          have c33b1 : ((t335.size : Int) != 0) = true := bne_iff_ne.mpr c33
                          by_cases c34 : (t335.size : Int) > 64
                          · rw [if_pos c34] at H
                            have c34b0 : decide (64 < (t335.size : Int)) = true := decide_eq_true c34
                            have c34b1 : decide (64 < t335.size) = true := decide_eq_true (by omega)
                            clear c34
                            simp only [Option.some.injEq, Prod.mk.injEq] at H
                            obtain ⟨rfl, rfl⟩ := H
                            go_wp2
                            go_ret2
                            exact ⟨by first | rfl | (simp [errW_none, errW_some] <;> rfl) | (simp [*, errW_none, errW_some] <;> rfl), by repeat (first | (with_reducible first | exact HB.out | apply below_alloc | apply pw_below_drewN | apply below_drew1) | exact HB.out)⟩
                          · rw [if_neg c34] at H
                            have c34b0 : decide (64 < (t335.size : Int)) = false := decide_eq_false c34
                            have c34b1 : decide (64 < t335.size) = false := decide_eq_false (by omega)
                            clear c34
                            simp only [Option.some.injEq, Prod.mk.injEq] at H
                            obtain ⟨rfl, rfl⟩ := H
                            go_wp2
                            go_ret2
                            exact ⟨by first | rfl | (simp [errW_none, errW_some] <;> rfl) | (simp [*, errW_none, errW_some] <;> rfl), by repeat (first | (with_reducible first | exact HB.out | apply below_alloc | apply pw_below_drewN | apply below_drew1) | exact HB.out)⟩
                · rw [if_neg c17] at H
                  exact absurd H (by simp)
              · rw [if_neg c16] at H
                exact absurd H (by simp)

end Go.Proofs.YtjgpifjfaiaidaaDoor.P

