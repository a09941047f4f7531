/- Each function below answers as its Lean twin says; a law answers true at every input that its row speaks of. No further condition. (Laid by this repo's seatprint.py.) -/
import Derived.Test.YthkkkfeiklfjoaaPx0
import Derived.Test.YthkkkfeiklfjoaaFlineCut
import Derived.Test.YthkkkfeiklfjoaaFtollbarlaw05cutting
namespace Go.Proofs.Ythkkkfeiklfjoaa.P
open Go.RowKit Go.Proofs.YthkkkfeiklfjoaaW.PrintWords Go.Proofs.YthkkkfeiklfjoaaW.PrintLast Go.Proofs.YthkkkfeiklfjoaaW.PrintMore
attribute [local go_sem] max2_int min2_int max_two min_two max_three min_three max_four min_four   -- for this text's walks alone
set_option linter.unusedVariables false
set_option linter.unusedSimpArgs false

/-! ### tollbarlaw05_LineGrows: function 4 -/
mutual
def tollbarlaw05_LineGrows.j0 : Nat → List Int → List Int → Int → Bool → Option (Bool)
  | 0, _, _, _, _ => none
  | k + 1, x0, x1, x2, x23 => if x23 = true then (some true) else ((some (([] : List Int) : List Int)).bind fun y123 => (if y123.length + x0.length < 140737488355328 then ((some (y123 ++ x0 : List Int)).bind fun y126 => (if y126.length + x1.length < 140737488355328 then ((some (y126 ++ x1 : List Int)).bind fun y129 => ((line_Cut.f k x0 x2).bind fun bt132 => (if bt132.2.1 > 0 then (tollbarlaw05_LineGrows.j1 k x0 x2 y129 bt132.1 bt132.2.1 bt132.2.2 true) else (tollbarlaw05_LineGrows.j1 k x0 x2 y129 bt132.1 bt132.2.1 bt132.2.2 (bt132.2.2 != 0))))) else (none))) else (none)))
def tollbarlaw05_LineGrows.j1 : Nat → List Int → Int → List Int → ByteArray → Int → Int → Bool → Option (Bool)
  | 0, _, _, _, _, _, _, _ => none
  | k + 1, x0, x2, x7, x8, x9, x10, x41 => if x41 = true then ((line_Cut.f k x7 x2).bind fun bt135 => (if x8.toList = bt135.1.toList then (if x9 = bt135.2.1 then (tollbarlaw05_LineGrows.j2 k x0 x8 x9 (x10 != bt135.2.2)) else (tollbarlaw05_LineGrows.j2 k x0 x8 x9 true)) else (tollbarlaw05_LineGrows.j2 k x0 x8 x9 true))) else (if x9 > 0 then (if 0 ≤ x9 then (if x9 ≤ (x0.length : Int) then (if x8.size + 2 ≤ 9223372036854775807 then (if (strOfNums (x0.take (x9 : Int).toNat)).toList = (x8 ++ (⟨#[13, 10]⟩ : ByteArray)).toList then (some ((x8.size : Int) == (wrap64 (x9 - 2)))) else (some false)) else (none)) else (none)) else (none)) else (some (x8.toList == ([] : List UInt8))))
def tollbarlaw05_LineGrows.j2 : Nat → List Int → ByteArray → Int → Bool → Option (Bool)
  | 0, _, _, _, _ => none
  | k + 1, x0, x8, x9, x61 => if x61 = true then (some false) else (if x9 > 0 then (if 0 ≤ x9 then (if x9 ≤ (x0.length : Int) then (if x8.size + 2 ≤ 9223372036854775807 then (if (strOfNums (x0.take (x9 : Int).toNat)).toList = (x8 ++ (⟨#[13, 10]⟩ : ByteArray)).toList then (some ((x8.size : Int) == (wrap64 (x9 - 2)))) else (some false)) else (none)) else (none)) else (none)) else (some (x8.toList == ([] : List UInt8))))
end
def tollbarlaw05_LineGrows.f (k : Nat) (l0 : List Int) (l1 : List Int) (a2 : Int) : Option (Bool) := (tollbarlaw05_cutting.f).bind fun t122 => (if t122 = true then (if (l0.length : Int) > 3000 then (tollbarlaw05_LineGrows.j0 k l0 l1 a2 true) else (tollbarlaw05_LineGrows.j0 k l0 l1 a2 (decide ((l1.length : Int) > 3000)))) else (some false))
theorem tollbarlaw05_LineGrows.mono_l : ∀ k, (∀ y0 y1 y2 y3, LeO (tollbarlaw05_LineGrows.j0 k y0 y1 y2 y3) (tollbarlaw05_LineGrows.j0 (k + 1) y0 y1 y2 y3)) ∧ (∀ y0 y1 y2 y3 y4 y5 y6, LeO (tollbarlaw05_LineGrows.j1 k y0 y1 y2 y3 y4 y5 y6) (tollbarlaw05_LineGrows.j1 (k + 1) y0 y1 y2 y3 y4 y5 y6)) ∧ (∀ y0 y1 y2 y3, LeO (tollbarlaw05_LineGrows.j2 k y0 y1 y2 y3) (tollbarlaw05_LineGrows.j2 (k + 1) y0 y1 y2 y3))
  | 0 => ⟨fun _ _ _ _ r h => by simp [tollbarlaw05_LineGrows.j0] at h, fun _ _ _ _ _ _ _ r h => by simp [tollbarlaw05_LineGrows.j1] at h, fun _ _ _ _ r h => by simp [tollbarlaw05_LineGrows.j2] at h⟩
  | k + 1 => by
    obtain ⟨ih0, ih1, ih2⟩ := tollbarlaw05_LineGrows.mono_l k
    refine ⟨?_, ?_, ?_⟩
    · intro y0 y1 y2 y3
      unfold tollbarlaw05_LineGrows.j0
      repeat' first
      | (with_reducible exact ih0 _ _ _ _)
      | (with_reducible exact ih1 _ _ _ _ _ _ _)
      | (with_reducible exact ih2 _ _ _ _)
      | (with_reducible exact line_Cut.mono _ _ _)
      | (with_reducible exact LeO.refl _)
      | (with_reducible exact LeO.none _)
      | (with_reducible refine LeO.ite ?_ ?_)
      | (with_reducible refine LeO.bind ?_ (fun _ => ?_))
      | exact ih0 _ _ _ _
      | exact ih1 _ _ _ _ _ _ _
      | exact ih2 _ _ _ _
      | exact line_Cut.mono _ _ _
      | exact LeO.none _
      | refine LeO.ite ?_ ?_
      | refine LeO.bind ?_ (fun _ => ?_)
    · intro y0 y1 y2 y3 y4 y5 y6
      unfold tollbarlaw05_LineGrows.j1
      repeat' first
      | (with_reducible exact ih0 _ _ _ _)
      | (with_reducible exact ih1 _ _ _ _ _ _ _)
      | (with_reducible exact ih2 _ _ _ _)
      | (with_reducible exact line_Cut.mono _ _ _)
      | (with_reducible exact LeO.refl _)
      | (with_reducible exact LeO.none _)
      | (with_reducible refine LeO.ite ?_ ?_)
      | (with_reducible refine LeO.bind ?_ (fun _ => ?_))
      | exact ih0 _ _ _ _
      | exact ih1 _ _ _ _ _ _ _
      | exact ih2 _ _ _ _
      | exact line_Cut.mono _ _ _
      | exact LeO.none _
      | refine LeO.ite ?_ ?_
      | refine LeO.bind ?_ (fun _ => ?_)
    · intro y0 y1 y2 y3
      unfold tollbarlaw05_LineGrows.j2
      repeat' first
      | (with_reducible exact ih0 _ _ _ _)
      | (with_reducible exact ih1 _ _ _ _ _ _ _)
      | (with_reducible exact ih2 _ _ _ _)
      | (with_reducible exact line_Cut.mono _ _ _)
      | (with_reducible exact LeO.refl _)
      | (with_reducible exact LeO.none _)
      | (with_reducible refine LeO.ite ?_ ?_)
      | (with_reducible refine LeO.bind ?_ (fun _ => ?_))
      | exact ih0 _ _ _ _
      | exact ih1 _ _ _ _ _ _ _
      | exact ih2 _ _ _ _
      | exact line_Cut.mono _ _ _
      | exact LeO.none _
      | refine LeO.ite ?_ ?_
      | refine LeO.bind ?_ (fun _ => ?_)
theorem tollbarlaw05_LineGrows.mono : ∀ a0 a1 a2 k, LeO (tollbarlaw05_LineGrows.f k a0 a1 a2) (tollbarlaw05_LineGrows.f (k + 1) a0 a1 a2) := by
  intro a0 a1 a2 k
  obtain ⟨ih0, ih1, ih2⟩ := tollbarlaw05_LineGrows.mono_l k
  unfold tollbarlaw05_LineGrows.f
  repeat' first
      | (with_reducible exact ih0 _ _ _ _)
      | (with_reducible exact ih1 _ _ _ _ _ _ _)
      | (with_reducible exact ih2 _ _ _ _)
      | (with_reducible exact line_Cut.mono _ _ _)
      | (with_reducible exact LeO.refl _)
      | (with_reducible exact LeO.none _)
      | (with_reducible refine LeO.ite ?_ ?_)
      | (with_reducible refine LeO.bind ?_ (fun _ => ?_))
      | exact ih0 _ _ _ _
      | exact ih1 _ _ _ _ _ _ _
      | exact ih2 _ _ _ _
      | exact line_Cut.mono _ _ _
      | exact LeO.none _
      | refine LeO.ite ?_ ?_
      | refine LeO.bind ?_ (fun _ => ?_)
set_option maxHeartbeats 8000000 in
set_option maxRecDepth 100000 in
theorem tollbarlaw05_LineGrows.calls (k : Nat) (A0 : Option Addr) (c0 : Nat) (l0 : List Int) (A1 : Option Addr) (c1 : Nat) (l1 : List Int) (a2 : Int) (r : Bool) (w : World) (hr0 : Kd.C (Kd.int .u8) w A0 l0.length l0) (hc0 : l0.length ≤ c0) (hr1 : Kd.C (Kd.int .u8) w A1 l1.length l1) (hc1 : l1.length ≤ c1) (h : tollbarlaw05_LineGrows.f k l0 l1 a2 = some r) :
    Calls Try.prog 4 #[.slice A0 l0.length c0, .slice A1 l1.length c1, .int .i64 a2] w fun e w' => e = .returned (.bool r) ∧ Below w.heap.size w w' := by
  have HR0 := Aside0.mk hr0
  have HC0 := Aside0.mk hc0
  clear hr0 hc0
  have HR1 := Aside0.mk hr1
  have HC1 := Aside0.mk hc1
  clear hr1 hc1
  have HB := Aside0.mk (Below.refl w.heap.size w)
  have H : ((tollbarlaw05_cutting.f).bind fun t122 => (if t122 = true then (if (l0.length : Int) > 3000 then (tollbarlaw05_LineGrows.j0 k l0 l1 a2 true) else (tollbarlaw05_LineGrows.j0 k l0 l1 a2 (decide ((l1.length : Int) > 3000)))) else (some false))) = some r := h
  clear h
  replace H := Option.bind_eq_some_iff.mp H
  obtain ⟨t122, A40, H⟩ := H
  replace H : (if t122 = true then (if (l0.length : Int) > 3000 then (tollbarlaw05_LineGrows.j0 k l0 l1 a2 true) else (tollbarlaw05_LineGrows.j0 k l0 l1 a2 (decide ((l1.length : Int) > 3000)))) else (some false)) = some r := H
  have A4 := Aside0.mk A40
  clear A40
  by_cases c5 : t122 = true
  · subst c5
    have H1 : (if (l0.length : Int) > 3000 then (tollbarlaw05_LineGrows.j0 k l0 l1 a2 true) else (tollbarlaw05_LineGrows.j0 k l0 l1 a2 (decide ((l1.length : Int) > 3000)))) = some r := by rw [if_pos rfl] at H; exact H
    clear H
    have H := H1
    clear H1
    have HC6 := Aside0.mk H
    clear H
    go_enter Try.func4, Try.ntmps4
    go_upto_region 3 with (first | ((with_reducible refine gate_callee (f := 7) rfl ?_); refine goesL_ (some 14) rfl rfl Try.func7 (by kernel_rfl) rfl #[] rfl (by (try simp only [List.map_toArray, List.map_cons, List.map_nil]); first | done | rfl | (simp only [List.length_drop, List.length_take]; rfl)) ?_; (with_reducible refine (tollbarlaw05_cutting.calls  true _ A4.out).mono ?_); rintro e w7 ⟨rfl, hb⟩; refine ⟨_, rfl, ?_⟩; have n0_ := Aside0.mk (below_step (by repeat (first | (with_reducible first | exact HB.out | apply below_alloc | apply pw_below_drewN | apply below_drew1) | exact HB.out)) hb); clear HB; have HB := n0_; clear n0_; (try clear hb); (try clear hb2); (try clear hk); (try clear hi)))
    (try simp only [Act.put, List.setIfInBounds_toArray, List.set_cons_zero, List.set_cons_succ])
    go_cut [23] (fun v23 wc => ∃ (kq : Nat) (x23_5 : Bool), v23 = .bool x23_5 ∧ Aside0 (tollbarlaw05_LineGrows.j0 kq l0 l1 a2 x23_5 = some r) ∧ Aside0 (kq ≤ k) ∧ Aside0 (Below w.heap.size w wc))
    case first =>
      have H := HC6.out
      clear HC6
      by_cases c8 : (l0.length : Int) > 3000
      · rw [if_pos c8] at H
        have c8b0 : decide (3000 < (l0.length : Int)) = true := decide_eq_true c8
        have c8b1 : decide (3000 < l0.length) = true := decide_eq_true (by omega)
        clear c8
        (first | rw [c8b0] | (simp only [i64_w, i32_w]; rw [c8b0]) | skip)
        have H' := Aside0.mk H
        clear H
        go_wp2
        go_meet
        case rel => exact ⟨_, (true), (by first | rfl | (simp; done) | (simp [*]; done)), H', ⟨by first | omega | exact Nat.le_refl _⟩, ⟨by repeat (first | (with_reducible first | exact HB.out | apply below_alloc | apply pw_below_drewN | apply below_drew1) | exact HB.out)⟩⟩
      · rw [if_neg c8] at H
        have c8b0 : decide (3000 < (l0.length : Int)) = false := decide_eq_false c8
        have c8b1 : decide (3000 < l0.length) = false := decide_eq_false (by omega)
        clear c8
        (first | rw [c8b0] | (simp only [i64_w, i32_w]; rw [c8b0]) | skip)
        have H' := Aside0.mk H
        clear H
        go_wp2
        go_meet
        case rel => exact ⟨_, (decide ((l1.length : Int) > 3000)), (by first | rfl | (simp; done) | (simp [*]; done)), H', ⟨by first | omega | exact Nat.le_refl _⟩, ⟨by repeat (first | (with_reducible first | exact HB.out | apply below_alloc | apply pw_below_drewN | apply below_drew1) | exact HB.out)⟩⟩
    case rest =>
      clear HC6
      try clear c1
      try clear p2
      try clear c4
      try clear c5
      try clear c7
      try clear c8
      try clear c8b0
      try clear c8b1
      obtain ⟨kq, x23_5, rfl, HA, HJ5, HB⟩ := hcut
      cases kq with
      | zero => exact absurd HA.out (by simp [tollbarlaw05_LineGrows.j0])
      | succ kj5 =>
        have H := HA.out
        clear HA
        simp only [tollbarlaw05_LineGrows.j0] at H
        by_cases c9 : x23_5 = true
        · subst c9
          have H1 : (some true) = some r := by rw [if_pos rfl] at H; exact H
          clear H
          have H := H1
          clear H1
          obtain rfl := Option.some.inj H
          go_wp2
          go_ret
          exact ⟨by first | rfl | (simp [errW_none, errW_some] <;> rfl) | (simp [*, errW_none, errW_some] <;> rfl), by repeat (first | (with_reducible first | exact HB.out | apply below_alloc | apply pw_below_drewN | apply below_drew1) | exact HB.out)⟩
        · replace c9 := Bool.eq_false_iff.mpr c9
          subst c9
          have H1 : ((some (([] : List Int) : List Int)).bind fun y123 => (if y123.length + l0.length < 140737488355328 then ((some (y123 ++ l0 : List Int)).bind fun y126 => (if y126.length + l1.length < 140737488355328 then ((some (y126 ++ l1 : List Int)).bind fun y129 => ((line_Cut.f kj5 l0 a2).bind fun bt132 => (if bt132.2.1 > 0 then (tollbarlaw05_LineGrows.j1 kj5 l0 a2 y129 bt132.1 bt132.2.1 bt132.2.2 true) else (tollbarlaw05_LineGrows.j1 kj5 l0 a2 y129 bt132.1 bt132.2.1 bt132.2.2 (bt132.2.2 != 0))))) else (none))) else (none))) = some r := by rw [if_neg (show ¬ (false = true) by decide)] at H; exact H
          clear H
          have H := H1
          clear H1
          obtain ⟨y123, hy123⟩ : ∃ y_ : List Int, y_ = (([] : List Int)) := ⟨_, rfl⟩
          replace H : (if y123.length + l0.length < 140737488355328 then ((some (y123 ++ l0 : List Int)).bind fun y126 => (if y126.length + l1.length < 140737488355328 then ((some (y126 ++ l1 : List Int)).bind fun y129 => ((line_Cut.f kj5 l0 a2).bind fun bt132 => (if bt132.2.1 > 0 then (tollbarlaw05_LineGrows.j1 kj5 l0 a2 y129 bt132.1 bt132.2.1 bt132.2.2 true) else (tollbarlaw05_LineGrows.j1 kj5 l0 a2 y129 bt132.1 bt132.2.1 bt132.2.2 (bt132.2.2 != 0))))) else (none))) else (none)) = some r := by first | (rw [hy123]; with_reducible exact H) | (have H2_ := (Option.bind_some _ _).symm.trans H; rw [hy123]; with_reducible exact H2_) | (have H2_ := (Option.bind_some _ _).symm.trans H; with_reducible exact H2_) | with_reducible exact H | (rw [hy123]; exact H) | exact H
          have Ny123 := Aside0.mk hy123
          clear hy123
          by_cases c10 : y123.length + l0.length < 140737488355328
          · rw [if_pos c10] at H
            have LMc10 := Aside0.mk c10
            clear c10
            obtain ⟨y126, hy126⟩ : ∃ y_ : List Int, y_ = (y123 ++ l0) := ⟨_, rfl⟩
            replace H : (if y126.length + l1.length < 140737488355328 then ((some (y126 ++ l1 : List Int)).bind fun y129 => ((line_Cut.f kj5 l0 a2).bind fun bt132 => (if bt132.2.1 > 0 then (tollbarlaw05_LineGrows.j1 kj5 l0 a2 y129 bt132.1 bt132.2.1 bt132.2.2 true) else (tollbarlaw05_LineGrows.j1 kj5 l0 a2 y129 bt132.1 bt132.2.1 bt132.2.2 (bt132.2.2 != 0))))) else (none)) = some r := by first | (rw [hy126]; with_reducible exact H) | (have H2_ := (Option.bind_some _ _).symm.trans H; rw [hy126]; with_reducible exact H2_) | (have H2_ := (Option.bind_some _ _).symm.trans H; with_reducible exact H2_) | with_reducible exact H | (rw [hy126]; exact H) | exact H
            have Ny126 := Aside0.mk hy126
            clear hy126
            by_cases c11 : y126.length + l1.length < 140737488355328
            · rw [if_pos c11] at H
              have LMc11 := Aside0.mk c11
              clear c11
              obtain ⟨y129, hy129⟩ : ∃ y_ : List Int, y_ = (y126 ++ l1) := ⟨_, rfl⟩
              replace H : ((line_Cut.f kj5 l0 a2).bind fun bt132 => (if bt132.2.1 > 0 then (tollbarlaw05_LineGrows.j1 kj5 l0 a2 y129 bt132.1 bt132.2.1 bt132.2.2 true) else (tollbarlaw05_LineGrows.j1 kj5 l0 a2 y129 bt132.1 bt132.2.1 bt132.2.2 (bt132.2.2 != 0)))) = some r := by first | (rw [hy129]; with_reducible exact H) | (have H2_ := (Option.bind_some _ _).symm.trans H; rw [hy129]; with_reducible exact H2_) | (have H2_ := (Option.bind_some _ _).symm.trans H; with_reducible exact H2_) | with_reducible exact H | (rw [hy129]; exact H) | exact H
              have Ny129 := Aside0.mk hy129
              clear hy129
              replace H := Option.bind_eq_some_iff.mp H
              obtain ⟨⟨t132, t133, t134⟩, A120, H⟩ := H
              replace H : (if t133 > 0 then (tollbarlaw05_LineGrows.j1 kj5 l0 a2 y129 t132 t133 t134 true) else (tollbarlaw05_LineGrows.j1 kj5 l0 a2 y129 t132 t133 t134 (t134 != 0))) = some r := H
              have A12 := Aside0.mk A120
              clear A120
              have HC13 := Aside0.mk H
              clear H
              go_upto_region 7 with (first | ((with_reducible refine gate_dst (N := 24) rfl ?_); (try (refine gate_guard (by rfl) ?_; dsimp only)); refine Kd.R_lit (Kd.int .u8) _ 5 ?hg (N := 24) ?hd (xs := ([] : List Int)) (inner := []) (ok := fun _ => True) (okp := fun _ => True) ?hr ?hp (fun _ hk => hk) trivial (Below.refl _ _) (Nat.le_refl _) (by simp) ?_; (case hd => rfl); (case hg => rfl); (case hr => first | (go_simp; done) | (go_simp; rfl)); (case hp => exact (Reps.none _ _)); intro v124 w14 ho15 hb hg_ hnew_; clear hg_ hnew_; (first | rw [← Ny123.out] at ho15 | (simp only [Int.reduceToNat] at ho15; rw [← Ny123.out] at ho15)); have n0_ := Aside0.mk (Kd.R_lower ho15 (below_size (by repeat (first | (with_reducible first | exact HB.out | apply below_alloc | apply pw_below_drewN | apply below_drew1) | exact HB.out)))); have n1_ := Aside0.mk (below_step (by repeat (first | (with_reducible first | exact HB.out | apply below_alloc | apply pw_below_drewN | apply below_drew1) | exact HB.out)) hb); clear HB; have HO125 := n0_; have HB := n1_; clear n0_ n1_; clear hb ho15) | ((with_reducible refine gate_builtin (b := .append) (xs := #[.tmp 24, .tmp 25]) rfl ?_); (try (refine gate_guard (by rfl) ?_; dsimp only)); at_builtin; refine Kd.R_append_rows (Kd.int .u8) (w0 := w) w.heap.size rfl (.tmp 24) (.tmp 25) 22 5 (.int .u8 0) 1 rfl Try.underlying22 info5 rfl (by decide) (by omega) v124 y123 l0 _ _ _ (fun _ => True) (fun _ => False) rfl rfl ?aO ?aR (fun _ _ h => h) (fun _ h => h.elim) ?aF ?aB ?aS ?aL ?_; (case aR => repeat (first | exact (Kd.C_below HR0.out HB.out) | (with_reducible refine Kd.C_alloc ?_ _) | (with_reducible refine Kd.C_drewN ?_ _) | (with_reducible refine Kd.C_drew ?_))); (case aB => exact (by repeat (first | (with_reducible first | exact HB.out | apply below_alloc | apply pw_below_drewN | apply below_drew1) | exact HB.out))); (case aF => exact (fun _ _ => trivial)); (case aO => exact (by (with_reducible repeat (first | apply Kd.R_alloc | apply Kd.R_drewN | apply Kd.R_drew)); exact HO125.out)); (case aS => exact (below_size (by repeat (first | (with_reducible first | exact HB.out | apply below_alloc | apply pw_below_drewN | apply below_drew1) | exact HB.out)))); (case aL => have := LMc10.out; omega); intro v127 w16 ho hb hg hat; rw [← Ny126.out] at ho; have n0_ := Aside0.mk (hb); have n1_ := Aside0.mk (ho); clear HB; clear HO125; have HB := n0_; have HO128 := n1_; clear n0_ n1_; clear ho hb hg hat) | ((with_reducible refine gate_builtin (b := .append) (xs := #[.tmp 26, .tmp 27]) rfl ?_); (try (refine gate_guard (by rfl) ?_; dsimp only)); at_builtin; refine Kd.R_append_rows (Kd.int .u8) (w0 := w) w.heap.size rfl (.tmp 26) (.tmp 27) 22 5 (.int .u8 0) 1 rfl Try.underlying22 info5 rfl (by decide) (by omega) v127 y126 l1 _ _ _ (fun _ => True) (fun _ => False) rfl rfl ?aO ?aR (fun _ _ h => h) (fun _ h => h.elim) ?aF ?aB ?aS ?aL ?_; (case aR => repeat (first | exact (Kd.C_below HR1.out HB.out) | (with_reducible refine Kd.C_alloc ?_ _) | (with_reducible refine Kd.C_drewN ?_ _) | (with_reducible refine Kd.C_drew ?_))); (case aB => exact (by repeat (first | (with_reducible first | exact HB.out | apply below_alloc | apply pw_below_drewN | apply below_drew1) | exact HB.out))); (case aF => exact (fun _ _ => trivial)); (case aO => exact (by (with_reducible repeat (first | apply Kd.R_alloc | apply Kd.R_drewN | apply Kd.R_drew)); exact HO128.out)); (case aS => exact (below_size (by repeat (first | (with_reducible first | exact HB.out | apply below_alloc | apply pw_below_drewN | apply below_drew1) | exact HB.out)))); (case aL => have := LMc11.out; omega); intro v130 w17 ho hb hg hat; rw [← Ny129.out] at ho; have n0_ := Aside0.mk (hb); have n1_ := Aside0.mk (ho); clear HB; clear HO128; have HB := n0_; have HO131 := n1_; clear n0_ n1_; clear ho hb hg hat) | ((with_reducible refine gate_callee (f := 8) rfl ?_); refine goesL_ (some 32) rfl rfl Try.func8 (by kernel_rfl) rfl #[.slice A0 l0.length c0, .int .i64 a2] rfl (by (try simp only [List.map_toArray, List.map_cons, List.map_nil]); first | done | rfl | (simp only [List.length_drop, List.length_take]; rfl)) ?_; (with_reducible refine (line_Cut.calls kj5 _ _ l0 a2 t132 t133 t134 _ ?side1 ?side2 A12.out).mono ?_); (case side1 => repeat (first | exact (Kd.C_below HR0.out HB.out) | (with_reducible refine Kd.C_alloc ?_ _) | (with_reducible refine Kd.C_drewN ?_ _) | (with_reducible refine Kd.C_drew ?_))); (case side2 => exact HC0.out); rintro e w18 ⟨rfl, hb⟩; refine ⟨_, rfl, ?_⟩; have n0_ := Aside0.mk (Kd.R_below (by (with_reducible repeat (first | apply Kd.R_alloc | apply Kd.R_drewN | apply Kd.R_drew)); exact HO131.out) hb); have n1_ := Aside0.mk (below_step (by repeat (first | (with_reducible first | exact HB.out | apply below_alloc | apply pw_below_drewN | apply below_drew1) | exact HB.out)) hb); clear HO131; clear HB; have HO131 := n0_; have HB := n1_; clear n0_ n1_; (try clear hb); (try clear hb2); (try clear hk); (try clear hi)))
              (try simp only [Act.put, List.setIfInBounds_toArray, List.set_cons_zero, List.set_cons_succ])
              go_cut [41] (fun v41 wc => ∃ (kq : Nat) (x41_12 : Bool), v41 = .bool x41_12 ∧ Aside0 (tollbarlaw05_LineGrows.j1 kq l0 a2 y129 t132 t133 t134 x41_12 = some r) ∧ Aside0 (kq ≤ kj5) ∧ Aside0 (Kd.R (Kd.int .u8) 5 wc w.heap.size (fun _ => True) v130 y129) ∧ Aside0 (Below w.heap.size w wc))
              case first =>
                have H := HC13.out
                clear HC13
                by_cases c19 : t133 > 0
                · rw [if_pos c19] at H
                  have c19b0 : decide (0 < t133) = true := decide_eq_true c19
                  clear c19
                  (first | rw [c19b0] | (simp only [i64_w, i32_w]; rw [c19b0]) | skip)
                  have H' := Aside0.mk H
                  clear H
                  go_wp2
                  go_meet
                  case rel => exact ⟨_, (true), (by first | rfl | (simp; done) | (simp [*]; done)), H', ⟨by have := HJ5.out; first | omega | exact Nat.le_refl _⟩, ⟨by (with_reducible repeat (first | apply Kd.R_alloc | apply Kd.R_drewN | apply Kd.R_drew)); exact HO131.out⟩, ⟨by repeat (first | (with_reducible first | exact HB.out | apply below_alloc | apply pw_below_drewN | apply below_drew1) | exact HB.out)⟩⟩
                · rw [if_neg c19] at H
                  have c19b0 : decide (0 < t133) = false := decide_eq_false c19
                  clear c19
                  (first | rw [c19b0] | (simp only [i64_w, i32_w]; rw [c19b0]) | skip)
                  have H' := Aside0.mk H
                  clear H
                  go_wp2
                  go_meet
                  case rel => exact ⟨_, ((t134 != 0)), (by first | rfl | (simp; done) | (simp [*]; done)), H', ⟨by have := HJ5.out; first | omega | exact Nat.le_refl _⟩, ⟨by (with_reducible repeat (first | apply Kd.R_alloc | apply Kd.R_drewN | apply Kd.R_drew)); exact HO131.out⟩, ⟨by repeat (first | (with_reducible first | exact HB.out | apply below_alloc | apply pw_below_drewN | apply below_drew1) | exact HB.out)⟩⟩
              case rest =>
                clear HC13
                try clear c1
                try clear p2
                try clear c4
                try clear c5
                try clear c7
                try clear c8
                try clear c8b0
                try clear c8b1
                try clear c9
                try clear c10
                try clear c11
                try clear c19
                try clear c19b0
                try clear p2
                obtain ⟨kq, x41_12, rfl, HA, HJ12, HO_7, HB⟩ := hcut
                cases kq with
                | zero => exact absurd HA.out (by simp [tollbarlaw05_LineGrows.j1])
                | succ kj12 =>
                  have H := HA.out
                  clear HA
                  simp only [tollbarlaw05_LineGrows.j1] at H
                  by_cases c20 : x41_12 = true
                  · subst c20
                    have H1 : ((line_Cut.f kj12 y129 a2).bind fun bt135 => (if t132.toList = bt135.1.toList then (if t133 = bt135.2.1 then (tollbarlaw05_LineGrows.j2 kj12 l0 t132 t133 (t134 != bt135.2.2)) else (tollbarlaw05_LineGrows.j2 kj12 l0 t132 t133 true)) else (tollbarlaw05_LineGrows.j2 kj12 l0 t132 t133 true))) = some r := by rw [if_pos rfl] at H; exact H
                    clear H
                    have H := H1
                    clear H1
                    replace H := Option.bind_eq_some_iff.mp H
                    obtain ⟨⟨t135, t136, t137⟩, A210, H⟩ := H
                    replace H : (if t132.toList = t135.toList then (if t133 = t136 then (tollbarlaw05_LineGrows.j2 kj12 l0 t132 t133 (t134 != t137)) else (tollbarlaw05_LineGrows.j2 kj12 l0 t132 t133 true)) else (tollbarlaw05_LineGrows.j2 kj12 l0 t132 t133 true)) = some r := H
                    have A21 := Aside0.mk A210
                    clear A210
                    have HC22 := Aside0.mk H
                    clear H
                    obtain ⟨Ao23, co23, eo23⟩ := Kd.R_slice HO_7.out
                    subst eo23
                    go_upto_region 9 with (first | ((with_reducible refine gate_callee (f := 8) rfl ?_); refine goesL_ (some 45) rfl rfl Try.func8 (by kernel_rfl) rfl #[.slice Ao23 y129.length co23, .int .i64 a2] rfl (by (try simp only [List.map_toArray, List.map_cons, List.map_nil]); first | done | rfl | (simp only [List.length_drop, List.length_take]; rfl)) ?_; (with_reducible refine (line_Cut.calls kj12 _ _ y129 a2 t135 t136 t137 _ ?side1 ?side2 A21.out).mono ?_); (case side1 => repeat (first | exact (Kd.R_reads' HO_7.out).2.2 | (with_reducible refine Kd.C_alloc ?_ _) | (with_reducible refine Kd.C_drewN ?_ _) | (with_reducible refine Kd.C_drew ?_))); (case side2 => exact (Kd.R_reads' HO_7.out).2.1); rintro e w24 ⟨rfl, hb⟩; refine ⟨_, rfl, ?_⟩; have n0_ := Aside0.mk (Kd.R_below (by (with_reducible repeat (first | apply Kd.R_alloc | apply Kd.R_drewN | apply Kd.R_drew)); exact HO_7.out) hb); have n1_ := Aside0.mk (below_step (by repeat (first | (with_reducible first | exact HB.out | apply below_alloc | apply pw_below_drewN | apply below_drew1) | exact HB.out)) hb); clear HO_7; clear HB; have HO_7 := n0_; have HB := n1_; clear n0_ n1_; (try clear hb); (try clear hb2); (try clear hk); (try clear hi)))
                    (try simp only [Act.put, List.setIfInBounds_toArray, List.set_cons_zero, List.set_cons_succ])
                    go_cut [61] (fun v61 wc => ∃ (kq : Nat) (x61_21 : Bool), v61 = .bool x61_21 ∧ Aside0 (tollbarlaw05_LineGrows.j2 kq l0 t132 t133 x61_21 = some r) ∧ Aside0 (kq ≤ kj12) ∧ Aside0 (Below w.heap.size w wc))
                    case first =>
                      have H := HC22.out
                      clear HC22
                      by_cases c25 : t132.toList = t135.toList
                      · rw [if_pos c25] at H
                        have c25b0 : (t132.toList == t135.toList) = true := beq_iff_eq.mpr c25
                        have c25b1 : (t132.toList != t135.toList) = false := bne_eq_false_iff_eq.mpr c25
                        clear c25
                        (first | rw [c25b0] | (simp only [i64_w, i32_w]; rw [c25b0]) | skip)
                        by_cases c26 : t133 = t136
                        · rw [if_pos c26] at H
                          have c26b0 : (t133 == t136) = true := beq_iff_eq.mpr c26
                          have c26b1 : (t133 != t136) = false := bne_eq_false_iff_eq.mpr c26
                          clear c26
                          have H' := Aside0.mk H
                          clear H
                          go_wp2
                          go_meet
                          case rel => exact ⟨_, ((t134 != t137)), (by first | rfl | (simp; done) | (simp [*]; done)), H', ⟨by have := HJ5.out; have := HJ12.out; first | omega | exact Nat.le_refl _⟩, ⟨by repeat (first | (with_reducible first | exact HB.out | apply below_alloc | apply pw_below_drewN | apply below_drew1) | exact HB.out)⟩⟩
                        · rw [if_neg c26] at H
                          have c26b0 : (t133 == t136) = false := beq_eq_false_iff_ne.mpr c26
                          have c26b1 : (t133 != t136) = true := bne_iff_ne.mpr c26
                          have H' := Aside0.mk H
                          clear H
                          go_wp2
                          go_meet
                          case rel => exact ⟨_, (true), (by first | rfl | (simp; done) | (simp [*]; done)), H', ⟨by have := HJ5.out; have := HJ12.out; first | omega | exact Nat.le_refl _⟩, ⟨by repeat (first | (with_reducible first | exact HB.out | apply below_alloc | apply pw_below_drewN | apply below_drew1) | exact HB.out)⟩⟩
                      · rw [if_neg c25] at H
                        have c25b0 : (t132.toList == t135.toList) = false := beq_eq_false_iff_ne.mpr c25
                        have c25b1 : (t132.toList != t135.toList) = true := bne_iff_ne.mpr c25
                        (first | rw [c25b0] | (simp only [i64_w, i32_w]; rw [c25b0]) | skip)
                        have H' := Aside0.mk H
                        clear H
                        go_wp2
                        go_meet
                        case rel => exact ⟨_, (true), (by first | rfl | (simp; done) | (simp [*]; done)), H', ⟨by have := HJ5.out; have := HJ12.out; first | omega | exact Nat.le_refl _⟩, ⟨by repeat (first | (with_reducible first | exact HB.out | apply below_alloc | apply pw_below_drewN | apply below_drew1) | exact HB.out)⟩⟩
                    case rest =>
                      clear HC22
                      try clear c1
                      try clear c2
                      try clear p2
                      try clear c4
                      try clear c5
                      try clear c7
                      try clear c8
                      try clear c8b0
                      try clear c8b1
                      try clear c9
                      try clear c10
                      try clear c11
                      try clear c19
                      try clear c19b0
                      try clear c20
                      try clear c25
                      try clear c25b0
                      try clear c25b1
                      try clear c26
                      try clear c26b0
                      try clear c26b1
                      try clear p2
                      obtain ⟨kq, x61_21, rfl, HA, HJ21, HB⟩ := hcut
                      cases kq with
                      | zero => exact absurd HA.out (by simp [tollbarlaw05_LineGrows.j2])
                      | succ kj21 =>
                        have H := HA.out
                        clear HA
                        simp only [tollbarlaw05_LineGrows.j2] at H
                        by_cases c27 : x61_21 = true
                        · subst c27
                          have H1 : (some false) = some r := by rw [if_pos rfl] at H; exact H
                          clear H
                          have H := H1
                          clear H1
                          obtain rfl := Option.some.inj H
                          go_wp2
                          go_ret
                          exact ⟨by first | rfl | (simp [errW_none, errW_some] <;> rfl) | (simp [*, errW_none, errW_some] <;> rfl), by repeat (first | (with_reducible first | exact HB.out | apply below_alloc | apply pw_below_drewN | apply below_drew1) | exact HB.out)⟩
                        · replace c27 := Bool.eq_false_iff.mpr c27
                          subst c27
                          have H1 : (if t133 > 0 then (if 0 ≤ t133 then (if t133 ≤ (l0.length : Int) then (if t132.size + 2 ≤ 9223372036854775807 then (if (strOfNums (l0.take (t133 : Int).toNat)).toList = (t132 ++ (⟨#[13, 10]⟩ : ByteArray)).toList then (some ((t132.size : Int) == (wrap64 (t133 - 2)))) else (some false)) else (none)) else (none)) else (none)) else (some (t132.toList == ([] : List UInt8)))) = some r := by rw [if_neg (show ¬ (false = true) by decide)] at H; exact H
                          clear H
                          have H := H1
                          clear H1
                          by_cases c28 : t133 > 0
                          · rw [if_pos c28] at H
                            have c28b0 : decide (0 < t133) = true := decide_eq_true c28
                            clear c28
                            by_cases c29 : 0 ≤ t133
                            · rw [if_pos c29] at H
                              have c29b0 := eq_true c29
                              have c29b1 : decide (0 ≤ t133) = true := decide_eq_true c29
                              clear c29
                              by_cases c30 : t133 ≤ (l0.length : Int)
                              · rw [if_pos c30] at H
                                have c30b0 := eq_true c30
                                have c30b1 : decide (t133 ≤ (l0.length : Int)) = true := decide_eq_true c30
                                clear c30
                                by_cases c31 : t132.size + 2 ≤ 9223372036854775807
                                · rw [if_pos c31] at H
                                  have c31b0 := eq_true c31
                                  have c31b1 : decide (t132.size + 2 ≤ 9223372036854775807) = true := decide_eq_true c31
                                  try have c31b2 : (9223372036854775807 < t132.size + 2) = False := eq_false (Nat.not_lt.2 c31)
                                  by_cases c32 : (strOfNums (l0.take (t133 : Int).toNat)).toList = (t132 ++ (⟨#[13, 10]⟩ : ByteArray)).toList
                                  · rw [if_pos c32] at H
                                    have c32b0 : ((strOfNums (l0.take (t133 : Int).toNat)).toList == (t132 ++ (⟨#[13, 10]⟩ : ByteArray)).toList) = true := beq_iff_eq.mpr c32
                                    have c32b1 : ((strOfNums (l0.take (t133 : Int).toNat)).toList != (t132 ++ (⟨#[13, 10]⟩ : ByteArray)).toList) = false := bne_eq_false_iff_eq.mpr c32
                                    clear c32
                                    obtain rfl := Option.some.inj H
                                    obtain ⟨i033, hi033, _, hsz33, _⟩ := info_parts info5
                                    obtain ⟨hcut33, hA33, hC33⟩ := print_take_of (P := Try.prog) (Value.int .u8) 0 22 5 .i64 Try.underlying22 hi033 hsz33 A0 c0 l0 t133 (of_decide_eq_true (by first | (with_reducible assumption) | assumption)) (of_decide_eq_true (by first | (with_reducible assumption) | assumption)) HC0.out
                                    have HR138 := Aside0.mk (Kd.C_of_reads (h1 := fun _ => rfl) (hA33 _ (Kd.reads_of_C HR0.out)))
                                    have HC138 := Aside0.mk hC33
                                    clear hA33 hC33 hi033 hsz33
                                    have hcv34 := Kd.C_string (P := Try.prog) (A := A0) (c := c0) Try.underlying22 Try.underlying5 Try.underlying9 (Kd.C_below HR138.out HB.out)
                                    have hlen34 : (l0.take (t133 : Int).toNat).length = (t133 : Int).toNat := by have q1_ : (t133 : Int) ≤ (l0.length : Int) := of_decide_eq_true (by first | (with_reducible assumption) | assumption); have q2_ : 0 ≤ (t133 : Int) := of_decide_eq_true (by first | (with_reducible assumption) | assumption); rw [List.length_take]; omega
                                    rw [hlen34] at hcv34
                                    clear hlen34
                                    go_wp2
                                    go_ret
                                    exact ⟨by first | rfl | (simp [errW_none, errW_some] <;> rfl) | (simp [*, errW_none, errW_some] <;> rfl), by repeat (first | (with_reducible first | exact HB.out | apply below_alloc | apply pw_below_drewN | apply below_drew1) | exact HB.out)⟩
                                  · rw [if_neg c32] at H
                                    have c32b0 : ((strOfNums (l0.take (t133 : Int).toNat)).toList == (t132 ++ (⟨#[13, 10]⟩ : ByteArray)).toList) = false := beq_eq_false_iff_ne.mpr c32
                                    have c32b1 : ((strOfNums (l0.take (t133 : Int).toNat)).toList != (t132 ++ (⟨#[13, 10]⟩ : ByteArray)).toList) = true := bne_iff_ne.mpr c32
                                    obtain rfl := Option.some.inj H
                                    obtain ⟨i035, hi035, _, hsz35, _⟩ := info_parts info5
                                    obtain ⟨hcut35, hA35, hC35⟩ := print_take_of (P := Try.prog) (Value.int .u8) 0 22 5 .i64 Try.underlying22 hi035 hsz35 A0 c0 l0 t133 (of_decide_eq_true (by first | (with_reducible assumption) | assumption)) (of_decide_eq_true (by first | (with_reducible assumption) | assumption)) HC0.out
                                    have HR138 := Aside0.mk (Kd.C_of_reads (h1 := fun _ => rfl) (hA35 _ (Kd.reads_of_C HR0.out)))
                                    have HC138 := Aside0.mk hC35
                                    clear hA35 hC35 hi035 hsz35
                                    have hcv36 := Kd.C_string (P := Try.prog) (A := A0) (c := c0) Try.underlying22 Try.underlying5 Try.underlying9 (Kd.C_below HR138.out HB.out)
                                    have hlen36 : (l0.take (t133 : Int).toNat).length = (t133 : Int).toNat := by have q1_ : (t133 : Int) ≤ (l0.length : Int) := of_decide_eq_true (by first | (with_reducible assumption) | assumption); have q2_ : 0 ≤ (t133 : Int) := of_decide_eq_true (by first | (with_reducible assumption) | assumption); rw [List.length_take]; omega
                                    rw [hlen36] at hcv36
                                    clear hlen36
                                    go_wp2
                                    go_ret
                                    exact ⟨by first | rfl | (simp [errW_none, errW_some] <;> rfl) | (simp [*, errW_none, errW_some] <;> rfl), by repeat (first | (with_reducible first | exact HB.out | apply below_alloc | apply pw_below_drewN | apply below_drew1) | exact HB.out)⟩
                                · rw [if_neg c31] at H
                                  exact absurd H (by simp)
                              · rw [if_neg c30] at H
                                exact absurd H (by simp)
                            · rw [if_neg c29] at H
                              exact absurd H (by simp)
                          · rw [if_neg c28] at H
                            have c28b0 : decide (0 < t133) = false := decide_eq_false c28
                            clear c28
                            obtain rfl := Option.some.inj H
                            go_wp2
                            go_ret
                            exact ⟨by first | rfl | (simp [errW_none, errW_some] <;> rfl) | (simp [*, errW_none, errW_some] <;> rfl), by repeat (first | (with_reducible first | exact HB.out | apply below_alloc | apply pw_below_drewN | apply below_drew1) | exact HB.out)⟩
                  · replace c20 := Bool.eq_false_iff.mpr c20
                    subst c20
                    have H1 : (if t133 > 0 then (if 0 ≤ t133 then (if t133 ≤ (l0.length : Int) then (if t132.size + 2 ≤ 9223372036854775807 then (if (strOfNums (l0.take (t133 : Int).toNat)).toList = (t132 ++ (⟨#[13, 10]⟩ : ByteArray)).toList then (some ((t132.size : Int) == (wrap64 (t133 - 2)))) else (some false)) else (none)) else (none)) else (none)) else (some (t132.toList == ([] : List UInt8)))) = some r := by rw [if_neg (show ¬ (false = true) by decide)] at H; exact H
                    clear H
                    have H := H1
                    clear H1
                    by_cases c37 : t133 > 0
                    · rw [if_pos c37] at H
                      have c37b0 : decide (0 < t133) = true := decide_eq_true c37
                      clear c37
                      by_cases c38 : 0 ≤ t133
                      · rw [if_pos c38] at H
                        have c38b0 := eq_true c38
                        have c38b1 : decide (0 ≤ t133) = true := decide_eq_true c38
                        clear c38
                        by_cases c39 : t133 ≤ (l0.length : Int)
                        · rw [if_pos c39] at H
                          have c39b0 := eq_true c39
                          have c39b1 : decide (t133 ≤ (l0.length : Int)) = true := decide_eq_true c39
                          clear c39
                          by_cases c40 : t132.size + 2 ≤ 9223372036854775807
                          · rw [if_pos c40] at H
                            have c40b0 := eq_true c40
                            have c40b1 : decide (t132.size + 2 ≤ 9223372036854775807) = true := decide_eq_true c40
                            try have c40b2 : (9223372036854775807 < t132.size + 2) = False := eq_false (Nat.not_lt.2 c40)
                            by_cases c41 : (strOfNums (l0.take (t133 : Int).toNat)).toList = (t132 ++ (⟨#[13, 10]⟩ : ByteArray)).toList
                            · rw [if_pos c41] at H
                              have c41b0 : ((strOfNums (l0.take (t133 : Int).toNat)).toList == (t132 ++ (⟨#[13, 10]⟩ : ByteArray)).toList) = true := beq_iff_eq.mpr c41
                              have c41b1 : ((strOfNums (l0.take (t133 : Int).toNat)).toList != (t132 ++ (⟨#[13, 10]⟩ : ByteArray)).toList) = false := bne_eq_false_iff_eq.mpr c41
                              clear c41
                              obtain rfl := Option.some.inj H
                              obtain ⟨i042, hi042, _, hsz42, _⟩ := info_parts info5
                              obtain ⟨hcut42, hA42, hC42⟩ := print_take_of (P := Try.prog) (Value.int .u8) 0 22 5 .i64 Try.underlying22 hi042 hsz42 A0 c0 l0 t133 (of_decide_eq_true (by first | (with_reducible assumption) | assumption)) (of_decide_eq_true (by first | (with_reducible assumption) | assumption)) HC0.out
                              have HR139 := Aside0.mk (Kd.C_of_reads (h1 := fun _ => rfl) (hA42 _ (Kd.reads_of_C HR0.out)))
                              have HC139 := Aside0.mk hC42
                              clear hA42 hC42 hi042 hsz42
                              have hcv43 := Kd.C_string (P := Try.prog) (A := A0) (c := c0) Try.underlying22 Try.underlying5 Try.underlying9 (Kd.C_below HR139.out HB.out)
                              have hlen43 : (l0.take (t133 : Int).toNat).length = (t133 : Int).toNat := by have q1_ : (t133 : Int) ≤ (l0.length : Int) := of_decide_eq_true (by first | (with_reducible assumption) | assumption); have q2_ : 0 ≤ (t133 : Int) := of_decide_eq_true (by first | (with_reducible assumption) | assumption); rw [List.length_take]; omega
                              rw [hlen43] at hcv43
                              clear hlen43
                              go_wp2
                              go_ret
                              exact ⟨by first | rfl | (simp [errW_none, errW_some] <;> rfl) | (simp [*, errW_none, errW_some] <;> rfl), by repeat (first | (with_reducible first | exact HB.out | apply below_alloc | apply pw_below_drewN | apply below_drew1) | exact HB.out)⟩
                            · rw [if_neg c41] at H
                              have c41b0 : ((strOfNums (l0.take (t133 : Int).toNat)).toList == (t132 ++ (⟨#[13, 10]⟩ : ByteArray)).toList) = false := beq_eq_false_iff_ne.mpr c41
                              have c41b1 : ((strOfNums (l0.take (t133 : Int).toNat)).toList != (t132 ++ (⟨#[13, 10]⟩ : ByteArray)).toList) = true := bne_iff_ne.mpr c41
                              obtain rfl := Option.some.inj H
                              obtain ⟨i044, hi044, _, hsz44, _⟩ := info_parts info5
                              obtain ⟨hcut44, hA44, hC44⟩ := print_take_of (P := Try.prog) (Value.int .u8) 0 22 5 .i64 Try.underlying22 hi044 hsz44 A0 c0 l0 t133 (of_decide_eq_true (by first | (with_reducible assumption) | assumption)) (of_decide_eq_true (by first | (with_reducible assumption) | assumption)) HC0.out
                              have HR139 := Aside0.mk (Kd.C_of_reads (h1 := fun _ => rfl) (hA44 _ (Kd.reads_of_C HR0.out)))
                              have HC139 := Aside0.mk hC44
                              clear hA44 hC44 hi044 hsz44
                              have hcv45 := Kd.C_string (P := Try.prog) (A := A0) (c := c0) Try.underlying22 Try.underlying5 Try.underlying9 (Kd.C_below HR139.out HB.out)
                              have hlen45 : (l0.take (t133 : Int).toNat).length = (t133 : Int).toNat := by have q1_ : (t133 : Int) ≤ (l0.length : Int) := of_decide_eq_true (by first | (with_reducible assumption) | assumption); have q2_ : 0 ≤ (t133 : Int) := of_decide_eq_true (by first | (with_reducible assumption) | assumption); rw [List.length_take]; omega
                              rw [hlen45] at hcv45
                              clear hlen45
                              go_wp2
                              go_ret
                              exact ⟨by first | rfl | (simp [errW_none, errW_some] <;> rfl) | (simp [*, errW_none, errW_some] <;> rfl), by repeat (first | (with_reducible first | exact HB.out | apply below_alloc | apply pw_below_drewN | apply below_drew1) | exact HB.out)⟩
                          · rw [if_neg c40] at H
                            exact absurd H (by simp)
                        · rw [if_neg c39] at H
                          exact absurd H (by simp)
                      · rw [if_neg c38] at H
                        exact absurd H (by simp)
                    · rw [if_neg c37] at H
                      have c37b0 : decide (0 < t133) = false := decide_eq_false c37
                      clear c37
                      obtain rfl := Option.some.inj H
                      go_wp2
                      go_ret
                      exact ⟨by first | rfl | (simp [errW_none, errW_some] <;> rfl) | (simp [*, errW_none, errW_some] <;> rfl), by repeat (first | (with_reducible first | exact HB.out | apply below_alloc | apply pw_below_drewN | apply below_drew1) | exact HB.out)⟩
            · rw [if_neg c11] at H
              exact absurd H (by simp)
          · rw [if_neg c10] at H
            exact absurd H (by simp)
  · replace c5 := Bool.eq_false_iff.mpr c5
    subst c5
    have H1 : (some false) = some r := by rw [if_neg (show ¬ (false = true) by decide)] at H; exact H
    clear H
    have H := H1
    clear H1
    obtain rfl := Option.some.inj H
    go_enter Try.func4, Try.ntmps4
    go_wp2_with (first | ((with_reducible refine gate_callee (f := 7) rfl ?_); refine goesL_ (some 14) rfl rfl Try.func7 (by kernel_rfl) rfl #[] rfl (by (try simp only [List.map_toArray, List.map_cons, List.map_nil]); first | done | rfl | (simp only [List.length_drop, List.length_take]; rfl)) ?_; (with_reducible refine (tollbarlaw05_cutting.calls  false _ A4.out).mono ?_); rintro e w46 ⟨rfl, hb⟩; refine ⟨_, rfl, ?_⟩; have n0_ := Aside0.mk (below_step (by repeat (first | (with_reducible first | exact HB.out | apply below_alloc | apply pw_below_drewN | apply below_drew1) | exact HB.out)) hb); clear HB; have HB := n0_; clear n0_; (try clear hb); (try clear hb2); (try clear hk); (try clear hi)))
    go_ret
    exact ⟨by first | rfl | (simp [errW_none, errW_some] <;> rfl) | (simp [*, errW_none, errW_some] <;> rfl), by repeat (first | (with_reducible first | exact HB.out | apply below_alloc | apply pw_below_drewN | apply below_drew1) | exact HB.out)⟩

/-- THE ONE PURE STATEMENT of tollbarlaw05_LineGrows: yours. -/
def tollbarlaw05_LineGrows.Pure : Prop := ∀ (l0 : List Int) (l1 : List Int) (a2 : Int), l0.length ≤ maxLen → l0.length * 1 ≤ 140737488351232 → (∀ x ∈ l0, (Lit.int .u8 x).wf = true) → l1.length ≤ maxLen → l1.length * 1 ≤ 140737488351232 → (∀ x ∈ l1, (Lit.int .u8 x).wf = true) → (Lit.int .i64 a2).wf = true → ∃ k, tollbarlaw05_LineGrows.f k l0 l1 a2 = some true
theorem tollbarlaw05_LineGrows.walk (P : tollbarlaw05_LineGrows.Pure) (a0 : Option Addr) (len0 cap0 : Nat) (z0 : List Int) (a1 : Option Addr) (len1 cap1 : Nat) (z1 : List Int) (a2 : Int) (w : World) (w0 : (a0 = none ∧ len0 = 0 ∧ cap0 = 0 ∧ z0 = []) ∨ ∃ x, a0 = some x ∧ len0 ≤ cap0 ∧ cap0 ≤ maxLen ∧ z0.length = cap0 ∧ (∀ i, i < z0.length → w.cell? (x.add i) = some (.int .u8 (z0.getD i 0))) ∧ ∀ n ∈ z0, (Lit.int .u8 n).wf = true) (y0 : len0 * 1 ≤ 140737488351232) (w1 : (a1 = none ∧ len1 = 0 ∧ cap1 = 0 ∧ z1 = []) ∨ ∃ x, a1 = some x ∧ len1 ≤ cap1 ∧ cap1 ≤ maxLen ∧ z1.length = cap1 ∧ (∀ i, i < z1.length → w.cell? (x.add i) = some (.int .u8 (z1.getD i 0))) ∧ ∀ n ∈ z1, (Lit.int .u8 n).wf = true) (y1 : len1 * 1 ≤ 140737488351232) (w2 : (Lit.int .i64 a2).wf = true) :
    Calls Try.prog 4 #[.slice a0 len0 cap0, .slice a1 len1 cap1, .int .i64 a2] w fun e w' => e = .returned (.bool true) ∧ Below w.heap.size w w' := by
  obtain ⟨l0, rfl, hr0, hm0, hw0, hc0⟩ := ReadsInt.ofRowC w0
  obtain ⟨l1, rfl, hr1, hm1, hw1, hc1⟩ := ReadsInt.ofRowC w1
  obtain ⟨k, h⟩ := P l0 l1 a2 hm0 y0 hw0 hm1 y1 hw1 w2
  refine (tollbarlaw05_LineGrows.calls k _ _ l0 _ _ l1 a2 true w (Kd.C_of_reads (d := (0 : Int)) (h1 := fun _ => rfl) hr0) hc0 (Kd.C_of_reads (d := (0 : Int)) (h1 := fun _ => rfl) hr1) hc1 h).mono ?_
  rintro e w' ⟨rfl, hd⟩
  exact ⟨rfl, hd⟩

end Go.Proofs.Ythkkkfeiklfjoaa.P
