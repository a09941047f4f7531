/- Each function below answers as its Lean twin says. No further condition. (Laid by this repo's packseat.py out of the seat's texts and of the print's words.) -/
import Derived.Test.YtfjeinnemimjoaaDoorU0base0x0
namespace Go.Proofs.YtfjeinnemimjoaaDoor.P
open Go.RowKit Go.Proofs.YtfjeinnemimjoaaDoorW.PrintWords Go.Proofs.YtfjeinnemimjoaaDoorW.PrintLast Go.Proofs.YtfjeinnemimjoaaDoorW.PrintMore
attribute [local go_sem] max2_int min2_int max_two min_two max_three min_three max_four min_four   -- for this text's walks alone
set_option linter.unusedVariables false
set_option linter.unusedSimpArgs false

mutual
def line_Cut.l0 : Nat → List Int → Int → List Int → Int → Int → Option (ByteArray × Int × Int)
  | 0, _, _, _, _, _ => none
  | k + 1, x0, x1, x9, x10, x11 => if x11 < x10 then (if 0 ≤ x11 then (if x11 < (x9.length : Int) then (if (rd x9 x11) = 10 then (line_Cut.j1 k x0 x1 x11 (rd x9 x11) x9 x10 x11 true) else (if (rd x9 x11) = 13 then (if (wrap64 (x11 + 1)) < (x0.length : Int) then (if 0 ≤ (wrap64 (x11 + 1)) then (line_Cut.j1 k x0 x1 x11 (rd x9 x11) x9 x10 x11 ((rd x0 (wrap64 (x11 + 1))) != 10)) else (none)) else (line_Cut.j1 k x0 x1 x11 (rd x9 x11) x9 x10 x11 false)) else (line_Cut.j1 k x0 x1 x11 (rd x9 x11) x9 x10 x11 false))) else (none)) else (none)) else (some ((⟨#[]⟩ : ByteArray), 0, 0))
def line_Cut.j1 : Nat → List Int → Int → Int → Int → List Int → Int → Int → Bool → Option (ByteArray × Int × Int)
  | 0, _, _, _, _, _, _, _, _ => none
  | k + 1, x0, x1, x7, x8, x9, x10, x11, x16 => if x16 = true then (some ((⟨#[]⟩ : ByteArray), 0, 20)) else (if x8 = 13 then (line_Cut.j2 k x0 x1 x7 x8 x9 x10 x11 ((wrap64 (x7 + 1)) == (x0.length : Int))) else (line_Cut.j2 k x0 x1 x7 x8 x9 x10 x11 false))
def line_Cut.j2 : Nat → List Int → Int → Int → Int → List Int → Int → Int → Bool → Option (ByteArray × Int × Int)
  | 0, _, _, _, _, _, _, _, _ => none
  | k + 1, x0, x1, x7, x8, x9, x10, x11, x38 => if x38 = true then (some ((⟨#[]⟩ : ByteArray), 0, 0)) else (if x8 = 13 then (if 0 ≤ x7 then (if x7 ≤ (x0.length : Int) then (some (strOfNums (x0.take (x7 : Int).toNat), wrap64 (x7 + 2), 0)) else (none)) else (none)) else (if x7 ≥ (mx x1 0) then (some ((⟨#[]⟩ : ByteArray), 0, 2)) else (line_Cut.l0 k x0 x1 x9 x10 (wrap64 (x11 + 1)))))
end
def line_Cut.f (k : Nat) (l0 : List Int) (a1 : Int) : Option (ByteArray × Int × Int) := line_Cut.l0 k l0 a1 l0 (l0.length : Int) 0
theorem line_Cut.mono_l : ∀ k, (∀ y0 y1 y2 y3 y4, LeO (line_Cut.l0 k y0 y1 y2 y3 y4) (line_Cut.l0 (k + 1) y0 y1 y2 y3 y4)) ∧ (∀ y0 y1 y2 y3 y4 y5 y6 y7, LeO (line_Cut.j1 k y0 y1 y2 y3 y4 y5 y6 y7) (line_Cut.j1 (k + 1) y0 y1 y2 y3 y4 y5 y6 y7)) ∧ (∀ y0 y1 y2 y3 y4 y5 y6 y7, LeO (line_Cut.j2 k y0 y1 y2 y3 y4 y5 y6 y7) (line_Cut.j2 (k + 1) y0 y1 y2 y3 y4 y5 y6 y7))
  | 0 => ⟨fun _ _ _ _ _ r h => by simp [line_Cut.l0] at h, fun _ _ _ _ _ _ _ _ r h => by simp [line_Cut.j1] at h, fun _ _ _ _ _ _ _ _ r h => by simp [line_Cut.j2] at h⟩
  | k + 1 => by
    obtain ⟨ih0, ih1, ih2⟩ := line_Cut.mono_l k
    refine ⟨?_, ?_, ?_⟩
    · intro y0 y1 y2 y3 y4
      unfold line_Cut.l0
      repeat' first
      | (with_reducible exact ih0 _ _ _ _ _)
      | (with_reducible exact ih1 _ _ _ _ _ _ _ _)
      | (with_reducible exact ih2 _ _ _ _ _ _ _ _)
      | (with_reducible exact LeO.refl _)
      | (with_reducible exact LeO.none _)
      | (with_reducible refine LeO.ite ?_ ?_)
      | (with_reducible refine LeO.bind ?_ (fun _ => ?_))
      | exact ih0 _ _ _ _ _
      | exact ih1 _ _ _ _ _ _ _ _
      | exact ih2 _ _ _ _ _ _ _ _
      | exact LeO.none _
      | refine LeO.ite ?_ ?_
      | refine LeO.bind ?_ (fun _ => ?_)
    · intro y0 y1 y2 y3 y4 y5 y6 y7
      unfold line_Cut.j1
      repeat' first
      | (with_reducible exact ih0 _ _ _ _ _)
      | (with_reducible exact ih1 _ _ _ _ _ _ _ _)
      | (with_reducible exact ih2 _ _ _ _ _ _ _ _)
      | (with_reducible exact LeO.refl _)
      | (with_reducible exact LeO.none _)
      | (with_reducible refine LeO.ite ?_ ?_)
      | (with_reducible refine LeO.bind ?_ (fun _ => ?_))
      | exact ih0 _ _ _ _ _
      | exact ih1 _ _ _ _ _ _ _ _
      | exact ih2 _ _ _ _ _ _ _ _
      | exact LeO.none _
      | refine LeO.ite ?_ ?_
      | refine LeO.bind ?_ (fun _ => ?_)
    · intro y0 y1 y2 y3 y4 y5 y6 y7
      unfold line_Cut.j2
      repeat' first
      | (with_reducible exact ih0 _ _ _ _ _)
      | (with_reducible exact ih1 _ _ _ _ _ _ _ _)
      | (with_reducible exact ih2 _ _ _ _ _ _ _ _)
      | (with_reducible exact LeO.refl _)
      | (with_reducible exact LeO.none _)
      | (with_reducible refine LeO.ite ?_ ?_)
      | (with_reducible refine LeO.bind ?_ (fun _ => ?_))
      | exact ih0 _ _ _ _ _
      | exact ih1 _ _ _ _ _ _ _ _
      | exact ih2 _ _ _ _ _ _ _ _
      | exact LeO.none _
      | refine LeO.ite ?_ ?_
      | refine LeO.bind ?_ (fun _ => ?_)
theorem line_Cut.mono : ∀ a0 a1 k, LeO (line_Cut.f k a0 a1) (line_Cut.f (k + 1) a0 a1) := by
  intro a0 a1 k
  obtain ⟨ih0, ih1, ih2⟩ := line_Cut.mono_l k
  unfold line_Cut.f
  repeat' first
      | (with_reducible exact ih0 _ _ _ _ _)
      | (with_reducible exact ih1 _ _ _ _ _ _ _ _)
      | (with_reducible exact ih2 _ _ _ _ _ _ _ _)
      | (with_reducible exact LeO.refl _)
      | (with_reducible exact LeO.none _)
      | (with_reducible refine LeO.ite ?_ ?_)
      | (with_reducible refine LeO.bind ?_ (fun _ => ?_))
      | exact ih0 _ _ _ _ _
      | exact ih1 _ _ _ _ _ _ _ _
      | exact ih2 _ _ _ _ _ _ _ _
      | exact LeO.none _
      | refine LeO.ite ?_ ?_
      | refine LeO.bind ?_ (fun _ => ?_)
set_option maxHeartbeats 8000000 in
set_option maxRecDepth 100000 in
theorem line_Cut.calls (k : Nat) (A0 : Option Addr) (c0 : Nat) (l0 : List Int) (a1 : Int) (r1 : ByteArray) (r2 : Int) (r3 : Int) (w : World) (hr0 : Kd.C (Kd.int .u8) w A0 l0.length l0) (hc0 : l0.length ≤ c0) (h : line_Cut.f k l0 a1 = some (r1, r2, r3)) :
    Calls Tryd.prog 71 #[.slice A0 l0.length c0, .int .i64 a1] w fun e w' => e = .returned (.tuple #[.string r1, .int .i64 r2, .int .i64 r3]) ∧ Below w.heap.size w w' := by
  have HR0 := Aside0.mk hr0
  have HC0 := Aside0.mk hc0
  clear hr0 hc0
  have HB := Aside0.mk (Below.refl w.heap.size w)
  have H : (line_Cut.l0 k l0 a1 l0 (l0.length : Int) 0) = some (r1, r2, r3) := h
  clear h
  have H' := Aside0.mk H
  clear H
  go_enter Tryd.func71, Tryd.ntmps71
  go_wp2
  go_loopg [11] k (fun kq v11 w' => ∃ (x11_1 : Int), v11 = .int .i64 x11_1 ∧ Aside0 (line_Cut.l0 kq l0 a1 l0 (l0.length : Int) x11_1 = some (r1, r2, r3)) ∧ Aside0 (kq ≤ k) ∧ Aside0 (Below w.heap.size w w'))
  case atStart => exact ⟨(0), (by first | rfl | (simp; done) | (simp [*]; done)), H', ⟨Nat.le_refl _⟩, ⟨by repeat (first | (with_reducible first | exact HB.out | apply below_alloc | apply pw_below_drewN | apply below_drew1) | exact HB.out)⟩⟩
  case round =>
    clear H'
    try clear p2
    obtain ⟨x11_1, rfl, HA, HK1, HB⟩ := hrel
    cases gk with
    | zero => exact absurd HA.out (by simp [line_Cut.l0])
    | succ k1 =>
      have H := HA.out
      clear HA
      simp only [line_Cut.l0] at H
      by_cases c3 : x11_1 < (l0.length : Int)
      · rw [if_pos c3] at H
        have c3b0 : decide (x11_1 < (l0.length : Int)) = true := decide_eq_true c3
        clear c3
        by_cases c4 : 0 ≤ x11_1
        · rw [if_pos c4] at H
          have c4b0 : decide (0 ≤ x11_1) = true := decide_eq_true c4
          clear c4
          by_cases c5 : x11_1 < (l0.length : Int)
          · rw [if_pos c5] at H
            have c5b0 : decide (x11_1 < (l0.length : Int)) = true := decide_eq_true c5
            clear c5
            have HC6 := Aside0.mk H
            clear H
            have p141 : 0 ≤ (x11_1 : Int) := of_decide_eq_true (by first | (with_reducible assumption) | assumption)
            have q141 : x11_1 < (l0.length : Int) := of_decide_eq_true (by first | (with_reducible assumption) | assumption)
            obtain ⟨ad141, e141, hx141_0⟩ := Kd.at_int HR0.out x11_1 p141 q141
            cases e141
            replace hx141_0 := (HB.out.cell (World.block_lt_of_cell? w _ hx141_0)).trans hx141_0
            replace p141 := eq_true p141
            replace q141 := eq_true q141
            go_upto_region 4 with (fail)
            go_cut [16] (fun v16 wc => ∃ (kq : Nat) (x16_5 : Bool), v16 = .bool x16_5 ∧ Aside0 (line_Cut.j1 kq l0 a1 x11_1 (rd l0 x11_1) l0 (l0.length : Int) x11_1 x16_5 = some (r1, r2, r3)) ∧ Aside0 (kq ≤ k1) ∧ Aside0 (Below w.heap.size w wc))
            case first =>
              have H := HC6.out
              clear HC6
              by_cases c7 : (rd l0 x11_1) = 10
              · rw [if_pos c7] at H
                have c7b0 : ((rd l0 x11_1) == 10) = true := beq_iff_eq.mpr c7
                have c7b1 : ((rd l0 x11_1) != 10) = false := bne_eq_false_iff_eq.mpr c7
                clear c7
                (first | rw [c7b0] | (simp only [i64_w, i32_w]; rw [c7b0]) | skip)
                have H' := Aside0.mk H
                clear H
                go_wp2
                go_meet
                case rel => exact ⟨_, (true), (by first | rfl | (simp; done) | (simp [*]; done)), H', ⟨by have := HK1.out; first | omega | exact Nat.le_refl _⟩, ⟨by repeat (first | (with_reducible first | exact HB.out | apply below_alloc | apply pw_below_drewN | apply below_drew1) | exact HB.out)⟩⟩
              · rw [if_neg c7] at H
                have c7b0 : ((rd l0 x11_1) == 10) = false := beq_eq_false_iff_ne.mpr c7
                have c7b1 : ((rd l0 x11_1) != 10) = true := bne_iff_ne.mpr c7
                (first | rw [c7b0] | (simp only [i64_w, i32_w]; rw [c7b0]) | skip)
                by_cases c8 : (rd l0 x11_1) = 13
                · rw [if_pos c8] at H
                  have c8b0 : ((rd l0 x11_1) == 13) = true := beq_iff_eq.mpr c8
                  have c8b1 : ((rd l0 x11_1) != 13) = false := bne_eq_false_iff_eq.mpr c8
                  clear c8
                  by_cases c9 : (wrap64 (x11_1 + 1)) < (l0.length : Int)
                  · rw [if_pos c9] at H
                    have c9b0 : decide ((wrap64 (x11_1 + 1)) < (l0.length : Int)) = true := decide_eq_true c9
                    clear c9
                    obtain ⟨ji10, hji10⟩ : ∃ j_ : Int, (wrap64 (x11_1 + 1)) = j_ := ⟨_, rfl⟩
                    replace H : (if 0 ≤ (ji10) then (line_Cut.j1 k1 l0 a1 x11_1 (rd l0 x11_1) l0 (l0.length : Int) x11_1 ((rd l0 (ji10)) != 10)) else (none)) = some (r1, r2, r3) := by first | (rw [hji10] at H; exact H) | (simp only [hji10] at H ⊢; exact H)
                    (try rw [hji10] at c9b0)
                    have hji10w : (IntKind.i64.wrap (x11_1 + 1)) = ji10 := (i64_w _).trans hji10
                    by_cases c11 : 0 ≤ (ji10)
                    · rw [if_pos c11] at H
                      have c11b0 : decide (0 ≤ (ji10)) = true := decide_eq_true c11
                      clear c11
                      have H' := Aside0.mk H
                      clear H
                      have p142 : 0 ≤ ((ji10) : Int) := of_decide_eq_true (by first | (with_reducible assumption) | assumption)
                      have q142 : (ji10) < (l0.length : Int) := of_decide_eq_true (by first | (with_reducible assumption) | assumption)
                      obtain ⟨ad142, e142, hx142_0⟩ := Kd.at_int HR0.out (ji10) p142 q142
                      obtain rfl : ad141 = ad142 := (by injection e142)
                      replace hx142_0 := (HB.out.cell (World.block_lt_of_cell? w _ hx142_0)).trans hx142_0
                      replace p142 := eq_true p142
                      replace q142 := eq_true q142
                      go_wp2
                      go_meet
                      case rel => exact ⟨_, (((rd l0 (ji10)) != 10)), (by first | rfl | (simp; done) | (simp only [← hji10] <;> (first | rfl | simp)) | (simp [*]; done)), H', ⟨by have := HK1.out; first | omega | exact Nat.le_refl _⟩, ⟨by repeat (first | (with_reducible first | exact HB.out | apply below_alloc | apply pw_below_drewN | apply below_drew1) | exact HB.out)⟩⟩
                    · rw [if_neg c11] at H
                      exact absurd H (by simp)
                  · rw [if_neg c9] at H
                    have c9b0 : decide ((wrap64 (x11_1 + 1)) < (l0.length : Int)) = false := decide_eq_false c9
                    clear c9
                    have H' := Aside0.mk H
                    clear H
                    go_wp2
                    go_meet
                    case rel => exact ⟨_, (false), (by first | rfl | (simp; done) | (simp [*]; done)), H', ⟨by have := HK1.out; first | omega | exact Nat.le_refl _⟩, ⟨by repeat (first | (with_reducible first | exact HB.out | apply below_alloc | apply pw_below_drewN | apply below_drew1) | exact HB.out)⟩⟩
                · rw [if_neg c8] at H
                  have c8b0 : ((rd l0 x11_1) == 13) = false := beq_eq_false_iff_ne.mpr c8
                  have c8b1 : ((rd l0 x11_1) != 13) = true := bne_iff_ne.mpr c8
                  have H' := Aside0.mk H
                  clear H
                  go_wp2
                  go_meet
                  case rel => exact ⟨_, (false), (by first | rfl | (simp; done) | (simp [*]; done)), H', ⟨by have := HK1.out; first | omega | exact Nat.le_refl _⟩, ⟨by repeat (first | (with_reducible first | exact HB.out | apply below_alloc | apply pw_below_drewN | apply below_drew1) | exact HB.out)⟩⟩
            case rest =>
              clear HC6
              try clear c1
              try clear p1
              try clear q1
              try clear hx1
              try clear p2
              try clear c3
              try clear c3b0
              try clear c4
              try clear c4b0
              try clear c5
              try clear c5b0
              try clear p6
              try clear c7
              try clear c7b0
              try clear c7b1
              try clear c8
              try clear c8b0
              try clear c8b1
              try clear c9
              try clear c9b0
              try clear c11
              try clear c11b0
              try clear hx141_0
              try clear hx142_0
              try clear p141
              try clear p142
              try clear p2
              try clear q141
              try clear q142
              obtain ⟨kq, x16_5, rfl, HA, HJ5, HB⟩ := hcut
              cases kq with
              | zero => exact absurd HA.out (by simp [line_Cut.j1])
              | succ kj5 =>
                have H := HA.out
                clear HA
                simp only [line_Cut.j1] at H
                by_cases c12 : x16_5 = true
                · subst c12
                  have H1 : (some ((⟨#[]⟩ : ByteArray), 0, 20)) = some (r1, r2, r3) := by rw [if_pos rfl] at H; exact H
                  clear H
                  have H := H1
                  clear H1
                  simp only [Option.some.injEq, Prod.mk.injEq] at H
                  obtain ⟨rfl, rfl, rfl⟩ := H
                  go_wp2
                  go_ret3
                  exact ⟨by first | rfl | (simp [errW_none, errW_some] <;> rfl) | (simp [*, errW_none, errW_some] <;> rfl), by repeat (first | (with_reducible first | exact HB.out | apply below_alloc | apply pw_below_drewN | apply below_drew1) | exact HB.out)⟩
                · replace c12 := Bool.eq_false_iff.mpr c12
                  subst c12
                  have H1 : (if (rd l0 x11_1) = 13 then (line_Cut.j2 kj5 l0 a1 x11_1 (rd l0 x11_1) l0 (l0.length : Int) x11_1 ((wrap64 (x11_1 + 1)) == (l0.length : Int))) else (line_Cut.j2 kj5 l0 a1 x11_1 (rd l0 x11_1) l0 (l0.length : Int) x11_1 false)) = some (r1, r2, r3) := by rw [if_neg (show ¬ (false = true) by decide)] at H; exact H
                  clear H
                  have H := H1
                  clear H1
                  have HC13 := Aside0.mk H
                  clear H
                  go_upto_region 6 with (fail)
                  go_cut [38] (fun v38 wc => ∃ (kq : Nat) (x38_12 : Bool), v38 = .bool x38_12 ∧ Aside0 (line_Cut.j2 kq l0 a1 x11_1 (rd l0 x11_1) l0 (l0.length : Int) x11_1 x38_12 = some (r1, r2, r3)) ∧ Aside0 (kq ≤ kj5) ∧ Aside0 (Below w.heap.size w wc))
                  case first =>
                    have H := HC13.out
                    clear HC13
                    by_cases c14 : (rd l0 x11_1) = 13
                    · rw [if_pos c14] at H
                      have c14b0 : ((rd l0 x11_1) == 13) = true := beq_iff_eq.mpr c14
                      have c14b1 : ((rd l0 x11_1) != 13) = false := bne_eq_false_iff_eq.mpr c14
                      clear c14
                      (first | rw [c14b0] | (simp only [i64_w, i32_w]; rw [c14b0]) | skip)
                      have H' := Aside0.mk H
                      clear H
                      go_wp2
                      go_meet
                      case rel => exact ⟨_, (((wrap64 (x11_1 + 1)) == (l0.length : Int))), (by first | rfl | (simp; done) | (simp [*]; done)), H', ⟨by have := HK1.out; have := HJ5.out; first | omega | exact Nat.le_refl _⟩, ⟨by repeat (first | (with_reducible first | exact HB.out | apply below_alloc | apply pw_below_drewN | apply below_drew1) | exact HB.out)⟩⟩
                    · rw [if_neg c14] at H
                      have c14b0 : ((rd l0 x11_1) == 13) = false := beq_eq_false_iff_ne.mpr c14
                      have c14b1 : ((rd l0 x11_1) != 13) = true := bne_iff_ne.mpr c14
                      (first | rw [c14b0] | (simp only [i64_w, i32_w]; rw [c14b0]) | skip)
                      have H' := Aside0.mk H
                      clear H
                      go_wp2
                      go_meet
                      case rel => exact ⟨_, (false), (by first | rfl | (simp; done) | (simp [*]; done)), H', ⟨by have := HK1.out; have := HJ5.out; first | omega | exact Nat.le_refl _⟩, ⟨by repeat (first | (with_reducible first | exact HB.out | apply below_alloc | apply pw_below_drewN | apply below_drew1) | exact HB.out)⟩⟩
                  case rest =>
                    clear HC13
                    try clear c1
                    try clear p1
                    try clear q1
                    try clear hx1
                    try clear p2
                    try clear c3
                    try clear c3b0
                    try clear c4
                    try clear c4b0
                    try clear c5
                    try clear c5b0
                    try clear p6
                    try clear c7
                    try clear c7b0
                    try clear c7b1
                    try clear c8
                    try clear c8b0
                    try clear c8b1
                    try clear c9
                    try clear c9b0
                    try clear c11
                    try clear c11b0
                    try clear c12
                    try clear c14
                    try clear c14b0
                    try clear c14b1
                    try clear p14
                    try clear q14
                    try clear hx14
                    try clear hx141_0
                    try clear hx142_0
                    try clear p1
                    try clear p141
                    try clear p142
                    try clear p2
                    try clear p6
                    try clear q1
                    try clear q141
                    try clear q142
                    obtain ⟨kq, x38_12, rfl, HA, HJ12, HB⟩ := hcut
                    cases kq with
                    | zero => exact absurd HA.out (by simp [line_Cut.j2])
                    | succ kj12 =>
                      have H := HA.out
                      clear HA
                      simp only [line_Cut.j2] at H
                      by_cases c15 : x38_12 = true
                      · subst c15
                        have H1 : (some ((⟨#[]⟩ : ByteArray), 0, 0)) = some (r1, r2, r3) := by rw [if_pos rfl] at H; exact H
                        clear H
                        have H := H1
                        clear H1
                        simp only [Option.some.injEq, Prod.mk.injEq] at H
                        obtain ⟨rfl, rfl, rfl⟩ := H
                        go_wp2
                        go_ret3
                        exact ⟨by first | rfl | (simp [errW_none, errW_some] <;> rfl) | (simp [*, errW_none, errW_some] <;> rfl), by repeat (first | (with_reducible first | exact HB.out | apply below_alloc | apply pw_below_drewN | apply below_drew1) | exact HB.out)⟩
                      · replace c15 := Bool.eq_false_iff.mpr c15
                        subst c15
                        have H1 : (if (rd l0 x11_1) = 13 then (if 0 ≤ x11_1 then (if x11_1 ≤ (l0.length : Int) then (some (strOfNums (l0.take (x11_1 : Int).toNat), wrap64 (x11_1 + 2), 0)) else (none)) else (none)) else (if x11_1 ≥ (mx a1 0) then (some ((⟨#[]⟩ : ByteArray), 0, 2)) else (line_Cut.l0 kj12 l0 a1 l0 (l0.length : Int) (wrap64 (x11_1 + 1))))) = some (r1, r2, r3) := by rw [if_neg (show ¬ (false = true) by decide)] at H; exact H
                        clear H
                        have H := H1
                        clear H1
                        by_cases c16 : (rd l0 x11_1) = 13
                        · rw [if_pos c16] at H
                          have c16b0 : ((rd l0 x11_1) == 13) = true := beq_iff_eq.mpr c16
                          have c16b1 : ((rd l0 x11_1) != 13) = false := bne_eq_false_iff_eq.mpr c16
                          clear c16
                          by_cases c17 : 0 ≤ x11_1
                          · rw [if_pos c17] at H
                            have c17b0 := eq_true c17
                            have c17b1 : decide (0 ≤ x11_1) = true := decide_eq_true c17
                            clear c17
                            by_cases c18 : x11_1 ≤ (l0.length : Int)
                            · rw [if_pos c18] at H
                              have c18b0 := eq_true c18
                              have c18b1 : decide (x11_1 ≤ (l0.length : Int)) = true := decide_eq_true c18
                              clear c18
                              simp only [Option.some.injEq, Prod.mk.injEq] at H
                              obtain ⟨rfl, rfl, rfl⟩ := H
                              obtain ⟨i019, hi019, _, hsz19, _⟩ := info_parts info5
                              obtain ⟨hcut19, hA19, hC19⟩ := print_take_of (P := Tryd.prog) (Value.int .u8) 0 25 5 .i64 Tryd.underlying25 hi019 hsz19 (some ad141) c0 l0 x11_1 (of_decide_eq_true (by first | (with_reducible assumption) | assumption)) (of_decide_eq_true (by first | (with_reducible assumption) | assumption)) HC0.out
                              have HR143 := Aside0.mk (Kd.C_of_reads (h1 := fun _ => rfl) (hA19 _ (Kd.reads_of_C HR0.out)))
                              have HC143 := Aside0.mk hC19
                              clear hA19 hC19 hi019 hsz19
                              have hcv20 := Kd.C_string (P := Tryd.prog) (A := (some ad141)) (c := c0) Tryd.underlying25 Tryd.underlying5 Tryd.underlying9 (Kd.C_below HR143.out HB.out)
                              have hlen20 : (l0.take (x11_1 : Int).toNat).length = (x11_1 : Int).toNat := by have q1_ : (x11_1 : Int) ≤ (l0.length : Int) := of_decide_eq_true (by first | (with_reducible assumption) | assumption); have q2_ : 0 ≤ (x11_1 : Int) := of_decide_eq_true (by first | (with_reducible assumption) | assumption); rw [List.length_take]; omega
                              rw [hlen20] at hcv20
                              clear hlen20
                              go_wp2
                              go_ret3
                              exact ⟨by first | rfl | (simp [errW_none, errW_some] <;> rfl) | (simp [*, errW_none, errW_some] <;> rfl), by repeat (first | (with_reducible first | exact HB.out | apply below_alloc | apply pw_below_drewN | apply below_drew1) | exact HB.out)⟩
                            · rw [if_neg c18] at H
                              exact absurd H (by simp)
                          · rw [if_neg c17] at H
                            exact absurd H (by simp)
                        · rw [if_neg c16] at H
                          have c16b0 : ((rd l0 x11_1) == 13) = false := beq_eq_false_iff_ne.mpr c16
                          have c16b1 : ((rd l0 x11_1) != 13) = true := bne_iff_ne.mpr c16
                          obtain ⟨ji21, hji21⟩ : ∃ j_ : Int, (mx a1 0) = j_ := ⟨_, rfl⟩
                          replace H : (if x11_1 ≥ (ji21) then (some ((⟨#[]⟩ : ByteArray), 0, 2)) else (line_Cut.l0 kj12 l0 a1 l0 (l0.length : Int) (wrap64 (x11_1 + 1)))) = some (r1, r2, r3) := by first | (rw [hji21] at H; exact H) | (simp only [hji21] at H ⊢; exact H)
                          have hji21_ : (if a1 < 0 then 0 else a1) = ji21 := hji21
                          by_cases c22 : x11_1 ≥ (ji21)
                          · rw [if_pos c22] at H
                            have c22b0 : decide ((ji21) ≤ x11_1) = true := decide_eq_true c22
                            clear c22
                            simp only [Option.some.injEq, Prod.mk.injEq] at H
                            obtain ⟨rfl, rfl, rfl⟩ := H
                            go_wp2
                            go_ret3
                            exact ⟨by first | rfl | (simp [errW_none, errW_some] <;> rfl) | (simp only [← hji21]; first | rfl | (simp [errW_none, errW_some] <;> rfl)) | (simp [*, errW_none, errW_some] <;> rfl), by repeat (first | (with_reducible first | exact HB.out | apply below_alloc | apply pw_below_drewN | apply below_drew1) | exact HB.out)⟩
                          · rw [if_neg c22] at H
                            have c22b0 : decide ((ji21) ≤ x11_1) = false := decide_eq_false c22
                            clear c22
                            have H' := Aside0.mk H
                            clear H
                            go_wp2
                            go_roundg kj12
                            case measure => have := HK1.out; have := HJ5.out; have := HJ12.out; omega
                            case rel => exact ⟨(wrap64 (x11_1 + 1)), (by first | rfl | (simp; done) | (simp [*]; done)), H', ⟨by have := HK1.out; have := HJ5.out; have := HJ12.out; omega⟩, ⟨by repeat (first | (with_reducible first | exact HB.out | apply below_alloc | apply pw_below_drewN | apply below_drew1) | exact HB.out)⟩⟩
          · rw [if_neg c5] at H
            exact absurd H (by simp)
        · rw [if_neg c4] at H
          exact absurd H (by simp)
      · rw [if_neg c3] at H
        have c3b0 : decide (x11_1 < (l0.length : Int)) = false := decide_eq_false c3
        clear c3
        simp only [Option.some.injEq, Prod.mk.injEq] at H
        obtain ⟨rfl, rfl, rfl⟩ := H
        go_wp2
        go_ret3
        exact ⟨by first | rfl | (simp [errW_none, errW_some] <;> rfl) | (simp [*, errW_none, errW_some] <;> rfl), by repeat (first | (with_reducible first | exact HB.out | apply below_alloc | apply pw_below_drewN | apply below_drew1) | exact HB.out)⟩

end Go.Proofs.YtfjeinnemimjoaaDoor.P

namespace Go.Proofs.YtfjeinnemimjoaaDoor.P
open Go.RowKit Go.Proofs.YtfjeinnemimjoaaDoorW.PrintWords Go.Proofs.YtfjeinnemimjoaaDoorW.PrintLast Go.Proofs.YtfjeinnemimjoaaDoorW.PrintMore
attribute [local go_sem] max2_int min2_int max_two min_two max_three min_three max_four min_four   -- for this text's walks alone
set_option linter.unusedVariables false
set_option linter.unusedSimpArgs false

def line_Reason.f (a0 : Int) : Option (ByteArray) := if a0 = 200 then (some (⟨#[79, 75]⟩ : ByteArray)) else (if a0 = 204 then (some (⟨#[78, 111, 32, 67, 111, 110, 116, 101, 110, 116]⟩ : ByteArray)) else (if a0 = 400 then (some (⟨#[66, 97, 100, 32, 82, 101, 113, 117, 101, 115, 116]⟩ : ByteArray)) else (if a0 = 404 then (some (⟨#[78, 111, 116, 32, 70, 111, 117, 110, 100]⟩ : ByteArray)) else (if a0 = 413 then (some (⟨#[67, 111, 110, 116, 101, 110, 116, 32, 84, 111, 111, 32, 76, 97, 114, 103, 101]⟩ : ByteArray)) else (if a0 = 414 then (some (⟨#[85, 82, 73, 32, 84, 111, 111, 32, 76, 111, 110, 103]⟩ : ByteArray)) else (if a0 = 421 then (some (⟨#[77, 105, 115, 100, 105, 114, 101, 99, 116, 101, 100, 32, 82, 101, 113, 117, 101, 115, 116]⟩ : ByteArray)) else (if a0 = 429 then (some (⟨#[84, 111, 111, 32, 77, 97, 110, 121, 32, 82, 101, 113, 117, 101, 115, 116, 115]⟩ : ByteArray)) else (if a0 = 431 then (some (⟨#[82, 101, 113, 117, 101, 115, 116, 32, 72, 101, 97, 100, 101, 114, 32, 70, 105, 101, 108, 100, 115, 32, 84, 111, 111, 32, 76, 97, 114, 103, 101]⟩ : ByteArray)) else (if a0 = 501 then (some (⟨#[78, 111, 116, 32, 73, 109, 112, 108, 101, 109, 101, 110, 116, 101, 100]⟩ : ByteArray)) else (if a0 = 502 then (some (⟨#[66, 97, 100, 32, 71, 97, 116, 101, 119, 97, 121]⟩ : ByteArray)) else (if a0 = 503 then (some (⟨#[83, 101, 114, 118, 105, 99, 101, 32, 85, 110, 97, 118, 97, 105, 108, 97, 98, 108, 101]⟩ : ByteArray)) else (if a0 = 504 then (some (⟨#[71, 97, 116, 101, 119, 97, 121, 32, 84, 105, 109, 101, 111, 117, 116]⟩ : ByteArray)) else (if a0 = 505 then (some (⟨#[72, 84, 84, 80, 32, 86, 101, 114, 115, 105, 111, 110, 32, 78, 111, 116, 32, 83, 117, 112, 112, 111, 114, 116, 101, 100]⟩ : ByteArray)) else (some (⟨#[83, 116, 97, 116, 117, 115]⟩ : ByteArray)))))))))))))))
set_option maxHeartbeats 8000000 in
set_option maxRecDepth 100000 in
theorem line_Reason.calls (a0 : Int) (r : ByteArray) (w : World) (h : line_Reason.f a0 = some r) :
    Calls Tryd.prog 57 #[.int .i64 a0] w fun e w' => e = .returned (.string r) ∧ Drawn0 w w' := by
  have H : (if a0 = 200 then (some (⟨#[79, 75]⟩ : ByteArray)) else (if a0 = 204 then (some (⟨#[78, 111, 32, 67, 111, 110, 116, 101, 110, 116]⟩ : ByteArray)) else (if a0 = 400 then (some (⟨#[66, 97, 100, 32, 82, 101, 113, 117, 101, 115, 116]⟩ : ByteArray)) else (if a0 = 404 then (some (⟨#[78, 111, 116, 32, 70, 111, 117, 110, 100]⟩ : ByteArray)) else (if a0 = 413 then (some (⟨#[67, 111, 110, 116, 101, 110, 116, 32, 84, 111, 111, 32, 76, 97, 114, 103, 101]⟩ : ByteArray)) else (if a0 = 414 then (some (⟨#[85, 82, 73, 32, 84, 111, 111, 32, 76, 111, 110, 103]⟩ : ByteArray)) else (if a0 = 421 then (some (⟨#[77, 105, 115, 100, 105, 114, 101, 99, 116, 101, 100, 32, 82, 101, 113, 117, 101, 115, 116]⟩ : ByteArray)) else (if a0 = 429 then (some (⟨#[84, 111, 111, 32, 77, 97, 110, 121, 32, 82, 101, 113, 117, 101, 115, 116, 115]⟩ : ByteArray)) else (if a0 = 431 then (some (⟨#[82, 101, 113, 117, 101, 115, 116, 32, 72, 101, 97, 100, 101, 114, 32, 70, 105, 101, 108, 100, 115, 32, 84, 111, 111, 32, 76, 97, 114, 103, 101]⟩ : ByteArray)) else (if a0 = 501 then (some (⟨#[78, 111, 116, 32, 73, 109, 112, 108, 101, 109, 101, 110, 116, 101, 100]⟩ : ByteArray)) else (if a0 = 502 then (some (⟨#[66, 97, 100, 32, 71, 97, 116, 101, 119, 97, 121]⟩ : ByteArray)) else (if a0 = 503 then (some (⟨#[83, 101, 114, 118, 105, 99, 101, 32, 85, 110, 97, 118, 97, 105, 108, 97, 98, 108, 101]⟩ : ByteArray)) else (if a0 = 504 then (some (⟨#[71, 97, 116, 101, 119, 97, 121, 32, 84, 105, 109, 101, 111, 117, 116]⟩ : ByteArray)) else (if a0 = 505 then (some (⟨#[72, 84, 84, 80, 32, 86, 101, 114, 115, 105, 111, 110, 32, 78, 111, 116, 32, 83, 117, 112, 112, 111, 114, 116, 101, 100]⟩ : ByteArray)) else (some (⟨#[83, 116, 97, 116, 117, 115]⟩ : ByteArray)))))))))))))))) = some r := h
  clear h
  by_cases c2 : a0 = 200
  · rw [if_pos c2] at H
    have c2b0 : (a0 == 200) = true := beq_iff_eq.mpr c2
    have c2b1 : (a0 != 200) = false := bne_eq_false_iff_eq.mpr c2
    clear c2
    obtain rfl := Option.some.inj H
    go_enter Tryd.func57, Tryd.ntmps57
    go_wp2
    go_ret
    exact ⟨by first | rfl | (simp; done) | (simp [*]; done), by repeat (first | exact Drawn0.refl _ | apply Drawn0.step)⟩
  · rw [if_neg c2] at H
    have c2b0 : (a0 == 200) = false := beq_eq_false_iff_ne.mpr c2
    have c2b1 : (a0 != 200) = true := bne_iff_ne.mpr c2
    by_cases c3 : a0 = 204
    · rw [if_pos c3] at H
      have c3b0 : (a0 == 204) = true := beq_iff_eq.mpr c3
      have c3b1 : (a0 != 204) = false := bne_eq_false_iff_eq.mpr c3
      clear c3
      obtain rfl := Option.some.inj H
      go_enter Tryd.func57, Tryd.ntmps57
      go_wp2
      go_ret
      exact ⟨by first | rfl | (simp; done) | (simp [*]; done), by repeat (first | exact Drawn0.refl _ | apply Drawn0.step)⟩
    · rw [if_neg c3] at H
      have c3b0 : (a0 == 204) = false := beq_eq_false_iff_ne.mpr c3
      have c3b1 : (a0 != 204) = true := bne_iff_ne.mpr c3
      by_cases c4 : a0 = 400
      · rw [if_pos c4] at H
        have c4b0 : (a0 == 400) = true := beq_iff_eq.mpr c4
        have c4b1 : (a0 != 400) = false := bne_eq_false_iff_eq.mpr c4
        clear c4
        obtain rfl := Option.some.inj H
        go_enter Tryd.func57, Tryd.ntmps57
        go_wp2
        go_ret
        exact ⟨by first | rfl | (simp; done) | (simp [*]; done), by repeat (first | exact Drawn0.refl _ | apply Drawn0.step)⟩
      · rw [if_neg c4] at H
        have c4b0 : (a0 == 400) = false := beq_eq_false_iff_ne.mpr c4
        have c4b1 : (a0 != 400) = true := bne_iff_ne.mpr c4
        by_cases c5 : a0 = 404
        · rw [if_pos c5] at H
          have c5b0 : (a0 == 404) = true := beq_iff_eq.mpr c5
          have c5b1 : (a0 != 404) = false := bne_eq_false_iff_eq.mpr c5
          clear c5
          obtain rfl := Option.some.inj H
          go_enter Tryd.func57, Tryd.ntmps57
          go_wp2
          go_ret
          exact ⟨by first | rfl | (simp; done) | (simp [*]; done), by repeat (first | exact Drawn0.refl _ | apply Drawn0.step)⟩
        · rw [if_neg c5] at H
          have c5b0 : (a0 == 404) = false := beq_eq_false_iff_ne.mpr c5
          have c5b1 : (a0 != 404) = true := bne_iff_ne.mpr c5
          by_cases c6 : a0 = 413
          · rw [if_pos c6] at H
            have c6b0 : (a0 == 413) = true := beq_iff_eq.mpr c6
            have c6b1 : (a0 != 413) = false := bne_eq_false_iff_eq.mpr c6
            clear c6
            obtain rfl := Option.some.inj H
            go_enter Tryd.func57, Tryd.ntmps57
            go_wp2
            go_ret
            exact ⟨by first | rfl | (simp; done) | (simp [*]; done), by repeat (first | exact Drawn0.refl _ | apply Drawn0.step)⟩
          · rw [if_neg c6] at H
            have c6b0 : (a0 == 413) = false := beq_eq_false_iff_ne.mpr c6
            have c6b1 : (a0 != 413) = true := bne_iff_ne.mpr c6
            by_cases c7 : a0 = 414
            · rw [if_pos c7] at H
              have c7b0 : (a0 == 414) = true := beq_iff_eq.mpr c7
              have c7b1 : (a0 != 414) = false := bne_eq_false_iff_eq.mpr c7
              clear c7
              obtain rfl := Option.some.inj H
              go_enter Tryd.func57, Tryd.ntmps57
              go_wp2
              go_ret
              exact ⟨by first | rfl | (simp; done) | (simp [*]; done), by repeat (first | exact Drawn0.refl _ | apply Drawn0.step)⟩
            · rw [if_neg c7] at H
              have c7b0 : (a0 == 414) = false := beq_eq_false_iff_ne.mpr c7
              have c7b1 : (a0 != 414) = true := bne_iff_ne.mpr c7
              by_cases c8 : a0 = 421
              · rw [if_pos c8] at H
                have c8b0 : (a0 == 421) = true := beq_iff_eq.mpr c8
                have c8b1 : (a0 != 421) = false := bne_eq_false_iff_eq.mpr c8
                clear c8
                obtain rfl := Option.some.inj H
                go_enter Tryd.func57, Tryd.ntmps57
                go_wp2
                go_ret
                exact ⟨by first | rfl | (simp; done) | (simp [*]; done), by repeat (first | exact Drawn0.refl _ | apply Drawn0.step)⟩
              · rw [if_neg c8] at H
                have c8b0 : (a0 == 421) = false := beq_eq_false_iff_ne.mpr c8
                have c8b1 : (a0 != 421) = true := bne_iff_ne.mpr c8
                by_cases c9 : a0 = 429
                · rw [if_pos c9] at H
                  have c9b0 : (a0 == 429) = true := beq_iff_eq.mpr c9
                  have c9b1 : (a0 != 429) = false := bne_eq_false_iff_eq.mpr c9
                  clear c9
                  obtain rfl := Option.some.inj H
                  go_enter Tryd.func57, Tryd.ntmps57
                  go_wp2
                  go_ret
                  exact ⟨by first | rfl | (simp; done) | (simp [*]; done), by repeat (first | exact Drawn0.refl _ | apply Drawn0.step)⟩
                · rw [if_neg c9] at H
                  have c9b0 : (a0 == 429) = false := beq_eq_false_iff_ne.mpr c9
                  have c9b1 : (a0 != 429) = true := bne_iff_ne.mpr c9
                  by_cases c10 : a0 = 431
                  · rw [if_pos c10] at H
                    have c10b0 : (a0 == 431) = true := beq_iff_eq.mpr c10
                    have c10b1 : (a0 != 431) = false := bne_eq_false_iff_eq.mpr c10
                    clear c10
                    obtain rfl := Option.some.inj H
                    go_enter Tryd.func57, Tryd.ntmps57
                    go_wp2
                    go_ret
                    exact ⟨by first | rfl | (simp; done) | (simp [*]; done), by repeat (first | exact Drawn0.refl _ | apply Drawn0.step)⟩
                  · rw [if_neg c10] at H
                    have c10b0 : (a0 == 431) = false := beq_eq_false_iff_ne.mpr c10
                    have c10b1 : (a0 != 431) = true := bne_iff_ne.mpr c10
                    by_cases c11 : a0 = 501
                    · rw [if_pos c11] at H
                      have c11b0 : (a0 == 501) = true := beq_iff_eq.mpr c11
                      have c11b1 : (a0 != 501) = false := bne_eq_false_iff_eq.mpr c11
                      clear c11
                      obtain rfl := Option.some.inj H
                      go_enter Tryd.func57, Tryd.ntmps57
                      go_wp2
                      go_ret
                      exact ⟨by first | rfl | (simp; done) | (simp [*]; done), by repeat (first | exact Drawn0.refl _ | apply Drawn0.step)⟩
                    · rw [if_neg c11] at H
                      have c11b0 : (a0 == 501) = false := beq_eq_false_iff_ne.mpr c11
                      have c11b1 : (a0 != 501) = true := bne_iff_ne.mpr c11
                      by_cases c12 : a0 = 502
                      · rw [if_pos c12] at H
                        have c12b0 : (a0 == 502) = true := beq_iff_eq.mpr c12
                        have c12b1 : (a0 != 502) = false := bne_eq_false_iff_eq.mpr c12
                        clear c12
                        obtain rfl := Option.some.inj H
                        go_enter Tryd.func57, Tryd.ntmps57
                        go_wp2
                        go_ret
                        exact ⟨by first | rfl | (simp; done) | (simp [*]; done), by repeat (first | exact Drawn0.refl _ | apply Drawn0.step)⟩
                      · rw [if_neg c12] at H
                        have c12b0 : (a0 == 502) = false := beq_eq_false_iff_ne.mpr c12
                        have c12b1 : (a0 != 502) = true := bne_iff_ne.mpr c12
                        by_cases c13 : a0 = 503
                        · rw [if_pos c13] at H
                          have c13b0 : (a0 == 503) = true := beq_iff_eq.mpr c13
                          have c13b1 : (a0 != 503) = false := bne_eq_false_iff_eq.mpr c13
                          clear c13
                          obtain rfl := Option.some.inj H
                          go_enter Tryd.func57, Tryd.ntmps57
                          go_wp2
                          go_ret
                          exact ⟨by first | rfl | (simp; done) | (simp [*]; done), by repeat (first | exact Drawn0.refl _ | apply Drawn0.step)⟩
                        · rw [if_neg c13] at H
                          have c13b0 : (a0 == 503) = false := beq_eq_false_iff_ne.mpr c13
                          have c13b1 : (a0 != 503) = true := bne_iff_ne.mpr c13
                          by_cases c14 : a0 = 504
                          · rw [if_pos c14] at H
                            have c14b0 : (a0 == 504) = true := beq_iff_eq.mpr c14
                            have c14b1 : (a0 != 504) = false := bne_eq_false_iff_eq.mpr c14
                            clear c14
                            obtain rfl := Option.some.inj H
                            go_enter Tryd.func57, Tryd.ntmps57
                            go_wp2
                            go_ret
                            exact ⟨by first | rfl | (simp; done) | (simp [*]; done), by repeat (first | exact Drawn0.refl _ | apply Drawn0.step)⟩
                          · rw [if_neg c14] at H
                            have c14b0 : (a0 == 504) = false := beq_eq_false_iff_ne.mpr c14
                            have c14b1 : (a0 != 504) = true := bne_iff_ne.mpr c14
                            by_cases c15 : a0 = 505
                            · rw [if_pos c15] at H
                              have c15b0 : (a0 == 505) = true := beq_iff_eq.mpr c15
                              have c15b1 : (a0 != 505) = false := bne_eq_false_iff_eq.mpr c15
                              clear c15
                              obtain rfl := Option.some.inj H
                              go_enter Tryd.func57, Tryd.ntmps57
                              go_wp2
                              go_ret
                              exact ⟨by first | rfl | (simp; done) | (simp [*]; done), by repeat (first | exact Drawn0.refl _ | apply Drawn0.step)⟩
                            · rw [if_neg c15] at H
                              have c15b0 : (a0 == 505) = false := beq_eq_false_iff_ne.mpr c15
                              have c15b1 : (a0 != 505) = true := bne_iff_ne.mpr c15
                              obtain rfl := Option.some.inj H
                              go_enter Tryd.func57, Tryd.ntmps57
                              go_wp2
                              go_ret
                              exact ⟨by first | rfl | (simp; done) | (simp [*]; done), by repeat (first | exact Drawn0.refl _ | apply Drawn0.step)⟩

end Go.Proofs.YtfjeinnemimjoaaDoor.P

