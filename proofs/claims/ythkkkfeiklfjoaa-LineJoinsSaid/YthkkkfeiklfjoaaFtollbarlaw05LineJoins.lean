/- Each function below answers as its Lean twin says; a law answers true at every input that its row speaks of. No further condition. (Laid by this repo's seatprint.py.) -/
import Derived.Test.YthkkkfeiklfjoaaPx0
import Derived.Test.YthkkkfeiklfjoaaFlineCut
import Derived.Test.YthkkkfeiklfjoaaFtollbarlaw05cutting
import Derived.Test.YthkkkfeiklfjoaaFtollbarref01SameBytes
namespace Go.Proofs.Ythkkkfeiklfjoaa.P
open Go.RowKit Go.Proofs.YthkkkfeiklfjoaaW.PrintWords Go.Proofs.YthkkkfeiklfjoaaW.PrintLast Go.Proofs.YthkkkfeiklfjoaaW.PrintMore
attribute [local go_sem] max2_int min2_int max_two min_two max_three min_three max_four min_four   -- for this text's walks alone
set_option linter.unusedVariables false
set_option linter.unusedSimpArgs false

/-! ### tollbarlaw05_LineJoins: function 5 -/
mutual
def tollbarlaw05_LineJoins.j0 : Nat → List ByteArray → List Int → Int → Bool → Option (Bool)
  | 0, _, _, _, _ => none
  | k + 1, x0, x1, x2, x25 => if x25 = true then (some true) else (tollbarlaw05_LineJoins.l0 k x0 x1 x2 (([] : List Int)) x0 (x0.length : Int) 0)
def tollbarlaw05_LineJoins.l0 : Nat → List ByteArray → List Int → Int → List Int → List ByteArray → Int → Int → Option (Bool)
  | 0, _, _, _, _, _, _, _ => none
  | k + 1, x0, x1, x2, x7, x27, x28, x29 => if x29 < x28 then (if 0 ≤ x29 then (if x29 < (x27.length : Int) then (if ((rdOf ByteArray.empty x27 x29).size : Int) > 500 then (some true) else (tollbarlaw05_LineJoins.l1 k x0 x1 x2 x7 (rdOf ByteArray.empty x27 x29) 0 x27 x28 x29)) else (none)) else (none)) else (if x7.length + x1.length < 140737488355328 then (tollbarlaw05_LineJoins.l2 k x1 (Go.bits .and .i64 x2 511) (x7 ++ x1) x0 (x0.length : Int) 0) else (none))
def tollbarlaw05_LineJoins.l1 : Nat → List ByteArray → List Int → Int → List Int → ByteArray → Int → List ByteArray → Int → Int → Option (Bool)
  | 0, _, _, _, _, _, _, _, _, _ => none
  | k + 1, x0, x1, x2, x7, x9, x10, x27, x28, x29 => if x10 < (x9.size : Int) then (if 0 ≤ x10 then (if (bt x9 x10) = 13 then (some true) else (if (bt x9 x10) = 10 then (some true) else (tollbarlaw05_LineJoins.l1 k x0 x1 x2 x7 x9 (wrap64 (x10 + 1)) x27 x28 x29))) else (none)) else (if x7.length + x9.size < 140737488355328 then ((some (x7 ++ bytesOf x9 : List Int)).bind fun y149 => ((some (([13, 10] : List Int) : List Int)).bind fun y152 => (if y149.length + y152.length < 140737488355328 then (tollbarlaw05_LineJoins.l0 k x0 x1 x2 (y149 ++ y152) x27 x28 (wrap64 (x29 + 1))) else (none)))) else (none))
def tollbarlaw05_LineJoins.l2 : Nat → List Int → Int → List Int → List ByteArray → Int → Int → Option (Bool)
  | 0, _, _, _, _, _, _ => none
  | k + 1, x1, x2, x7, x63, x64, x65 => if x65 < x64 then (if 0 ≤ x65 then (if x65 < (x63.length : Int) then ((line_Cut.f k x7 x2).bind fun bt163 => (if ((rdOf ByteArray.empty x63 x65).size : Int) > x2 then (if bt163.1.toList = ([] : List UInt8) then (if bt163.2.1 = 0 then (some (bt163.2.2 == 2)) else (some false)) else (some false)) else (if bt163.1.toList = (rdOf ByteArray.empty x63 x65).toList then (if bt163.2.1 = (wrap64 (((rdOf ByteArray.empty x63 x65).size : Int) + 2)) then (if bt163.2.2 = 0 then (if 0 ≤ bt163.2.1 then (if bt163.2.1 ≤ (x7.length : Int) then (tollbarlaw05_LineJoins.l2 k x1 x2 (x7.drop (bt163.2.1 : Int).toNat) x63 x64 (wrap64 (x65 + 1))) else (none)) else (none)) else (some false)) else (some false)) else (some false)))) else (none)) else (none)) else ((tollbarref01_SameBytes.f k x7 x1).bind fun t161 => (some t161))
end
def tollbarlaw05_LineJoins.f (k : Nat) (l0 : List ByteArray) (l1 : List Int) (a2 : Int) : Option (Bool) := (tollbarlaw05_cutting.f).bind fun t144 => (if t144 = true then (if (l0.length : Int) > 20 then (tollbarlaw05_LineJoins.j0 k l0 l1 a2 true) else (tollbarlaw05_LineJoins.j0 k l0 l1 a2 (decide ((l1.length : Int) > 1000)))) else (some false))
theorem tollbarlaw05_LineJoins.mono_l : ∀ k, (∀ y0 y1 y2 y3, LeO (tollbarlaw05_LineJoins.j0 k y0 y1 y2 y3) (tollbarlaw05_LineJoins.j0 (k + 1) y0 y1 y2 y3)) ∧ (∀ y0 y1 y2 y3 y4 y5 y6, LeO (tollbarlaw05_LineJoins.l0 k y0 y1 y2 y3 y4 y5 y6) (tollbarlaw05_LineJoins.l0 (k + 1) y0 y1 y2 y3 y4 y5 y6)) ∧ (∀ y0 y1 y2 y3 y4 y5 y6 y7 y8, LeO (tollbarlaw05_LineJoins.l1 k y0 y1 y2 y3 y4 y5 y6 y7 y8) (tollbarlaw05_LineJoins.l1 (k + 1) y0 y1 y2 y3 y4 y5 y6 y7 y8)) ∧ (∀ y0 y1 y2 y3 y4 y5, LeO (tollbarlaw05_LineJoins.l2 k y0 y1 y2 y3 y4 y5) (tollbarlaw05_LineJoins.l2 (k + 1) y0 y1 y2 y3 y4 y5))
  | 0 => ⟨fun _ _ _ _ r h => by simp [tollbarlaw05_LineJoins.j0] at h, fun _ _ _ _ _ _ _ r h => by simp [tollbarlaw05_LineJoins.l0] at h, fun _ _ _ _ _ _ _ _ _ r h => by simp [tollbarlaw05_LineJoins.l1] at h, fun _ _ _ _ _ _ r h => by simp [tollbarlaw05_LineJoins.l2] at h⟩
  | k + 1 => by
    obtain ⟨ih0, ih1, ih2, ih3⟩ := tollbarlaw05_LineJoins.mono_l k
    refine ⟨?_, ?_, ?_, ?_⟩
    · intro y0 y1 y2 y3
      unfold tollbarlaw05_LineJoins.j0
      repeat' first
      | (with_reducible exact ih0 _ _ _ _)
      | (with_reducible exact ih1 _ _ _ _ _ _ _)
      | (with_reducible exact ih2 _ _ _ _ _ _ _ _ _)
      | (with_reducible exact ih3 _ _ _ _ _ _)
      | (with_reducible exact line_Cut.mono _ _ _)
      | (with_reducible exact tollbarref01_SameBytes.mono _ _ _)
      | (with_reducible exact LeO.refl _)
      | (with_reducible exact LeO.none _)
      | (with_reducible refine LeO.ite ?_ ?_)
      | (with_reducible refine LeO.bind ?_ (fun _ => ?_))
      | exact ih0 _ _ _ _
      | exact ih1 _ _ _ _ _ _ _
      | exact ih2 _ _ _ _ _ _ _ _ _
      | exact ih3 _ _ _ _ _ _
      | exact line_Cut.mono _ _ _
      | exact tollbarref01_SameBytes.mono _ _ _
      | exact LeO.none _
      | refine LeO.ite ?_ ?_
      | refine LeO.bind ?_ (fun _ => ?_)
    · intro y0 y1 y2 y3 y4 y5 y6
      unfold tollbarlaw05_LineJoins.l0
      repeat' first
      | (with_reducible exact ih0 _ _ _ _)
      | (with_reducible exact ih1 _ _ _ _ _ _ _)
      | (with_reducible exact ih2 _ _ _ _ _ _ _ _ _)
      | (with_reducible exact ih3 _ _ _ _ _ _)
      | (with_reducible exact line_Cut.mono _ _ _)
      | (with_reducible exact tollbarref01_SameBytes.mono _ _ _)
      | (with_reducible exact LeO.refl _)
      | (with_reducible exact LeO.none _)
      | (with_reducible refine LeO.ite ?_ ?_)
      | (with_reducible refine LeO.bind ?_ (fun _ => ?_))
      | exact ih0 _ _ _ _
      | exact ih1 _ _ _ _ _ _ _
      | exact ih2 _ _ _ _ _ _ _ _ _
      | exact ih3 _ _ _ _ _ _
      | exact line_Cut.mono _ _ _
      | exact tollbarref01_SameBytes.mono _ _ _
      | exact LeO.none _
      | refine LeO.ite ?_ ?_
      | refine LeO.bind ?_ (fun _ => ?_)
    · intro y0 y1 y2 y3 y4 y5 y6 y7 y8
      unfold tollbarlaw05_LineJoins.l1
      repeat' first
      | (with_reducible exact ih0 _ _ _ _)
      | (with_reducible exact ih1 _ _ _ _ _ _ _)
      | (with_reducible exact ih2 _ _ _ _ _ _ _ _ _)
      | (with_reducible exact ih3 _ _ _ _ _ _)
      | (with_reducible exact line_Cut.mono _ _ _)
      | (with_reducible exact tollbarref01_SameBytes.mono _ _ _)
      | (with_reducible exact LeO.refl _)
      | (with_reducible exact LeO.none _)
      | (with_reducible refine LeO.ite ?_ ?_)
      | (with_reducible refine LeO.bind ?_ (fun _ => ?_))
      | exact ih0 _ _ _ _
      | exact ih1 _ _ _ _ _ _ _
      | exact ih2 _ _ _ _ _ _ _ _ _
      | exact ih3 _ _ _ _ _ _
      | exact line_Cut.mono _ _ _
      | exact tollbarref01_SameBytes.mono _ _ _
      | exact LeO.none _
      | refine LeO.ite ?_ ?_
      | refine LeO.bind ?_ (fun _ => ?_)
    · intro y0 y1 y2 y3 y4 y5
      unfold tollbarlaw05_LineJoins.l2
      repeat' first
      | (with_reducible exact ih0 _ _ _ _)
      | (with_reducible exact ih1 _ _ _ _ _ _ _)
      | (with_reducible exact ih2 _ _ _ _ _ _ _ _ _)
      | (with_reducible exact ih3 _ _ _ _ _ _)
      | (with_reducible exact line_Cut.mono _ _ _)
      | (with_reducible exact tollbarref01_SameBytes.mono _ _ _)
      | (with_reducible exact LeO.refl _)
      | (with_reducible exact LeO.none _)
      | (with_reducible refine LeO.ite ?_ ?_)
      | (with_reducible refine LeO.bind ?_ (fun _ => ?_))
      | exact ih0 _ _ _ _
      | exact ih1 _ _ _ _ _ _ _
      | exact ih2 _ _ _ _ _ _ _ _ _
      | exact ih3 _ _ _ _ _ _
      | exact line_Cut.mono _ _ _
      | exact tollbarref01_SameBytes.mono _ _ _
      | exact LeO.none _
      | refine LeO.ite ?_ ?_
      | refine LeO.bind ?_ (fun _ => ?_)
theorem tollbarlaw05_LineJoins.mono : ∀ a0 a1 a2 k, LeO (tollbarlaw05_LineJoins.f k a0 a1 a2) (tollbarlaw05_LineJoins.f (k + 1) a0 a1 a2) := by
  intro a0 a1 a2 k
  obtain ⟨ih0, ih1, ih2, ih3⟩ := tollbarlaw05_LineJoins.mono_l k
  unfold tollbarlaw05_LineJoins.f
  repeat' first
      | (with_reducible exact ih0 _ _ _ _)
      | (with_reducible exact ih1 _ _ _ _ _ _ _)
      | (with_reducible exact ih2 _ _ _ _ _ _ _ _ _)
      | (with_reducible exact ih3 _ _ _ _ _ _)
      | (with_reducible exact line_Cut.mono _ _ _)
      | (with_reducible exact tollbarref01_SameBytes.mono _ _ _)
      | (with_reducible exact LeO.refl _)
      | (with_reducible exact LeO.none _)
      | (with_reducible refine LeO.ite ?_ ?_)
      | (with_reducible refine LeO.bind ?_ (fun _ => ?_))
      | exact ih0 _ _ _ _
      | exact ih1 _ _ _ _ _ _ _
      | exact ih2 _ _ _ _ _ _ _ _ _
      | exact ih3 _ _ _ _ _ _
      | exact line_Cut.mono _ _ _
      | exact tollbarref01_SameBytes.mono _ _ _
      | exact LeO.none _
      | refine LeO.ite ?_ ?_
      | refine LeO.bind ?_ (fun _ => ?_)
set_option maxHeartbeats 8000000 in
set_option maxRecDepth 100000 in
theorem tollbarlaw05_LineJoins.calls (k : Nat) (A0 : Option Addr) (c0 : Nat) (l0 : List ByteArray) (A1 : Option Addr) (c1 : Nat) (l1 : List Int) (a2 : Int) (r : Bool) (w : World) (hr0 : Kd.C Kd.string w A0 l0.length l0) (hc0 : l0.length ≤ c0) (hr1 : Kd.C (Kd.int .u8) w A1 l1.length l1) (hc1 : l1.length ≤ c1) (h : tollbarlaw05_LineJoins.f k l0 l1 a2 = some r) :
    Calls Try.prog 5 #[.slice A0 l0.length c0, .slice A1 l1.length c1, .int .i64 a2] w fun e w' => e = .returned (.bool r) ∧ Below w.heap.size w w' := by
  have HR0 := Aside0.mk hr0
  have HC0 := Aside0.mk hc0
  clear hr0 hc0
  have HR1 := Aside0.mk hr1
  have HC1 := Aside0.mk hc1
  clear hr1 hc1
  have HB := Aside0.mk (Below.refl w.heap.size w)
  have H : ((tollbarlaw05_cutting.f).bind fun t144 => (if t144 = true then (if (l0.length : Int) > 20 then (tollbarlaw05_LineJoins.j0 k l0 l1 a2 true) else (tollbarlaw05_LineJoins.j0 k l0 l1 a2 (decide ((l1.length : Int) > 1000)))) else (some false))) = some r := h
  clear h
  replace H := Option.bind_eq_some_iff.mp H
  obtain ⟨t144, A40, H⟩ := H
  replace H : (if t144 = true then (if (l0.length : Int) > 20 then (tollbarlaw05_LineJoins.j0 k l0 l1 a2 true) else (tollbarlaw05_LineJoins.j0 k l0 l1 a2 (decide ((l1.length : Int) > 1000)))) else (some false)) = some r := H
  have A4 := Aside0.mk A40
  clear A40
  by_cases c5 : t144 = true
  · subst c5
    have H1 : (if (l0.length : Int) > 20 then (tollbarlaw05_LineJoins.j0 k l0 l1 a2 true) else (tollbarlaw05_LineJoins.j0 k l0 l1 a2 (decide ((l1.length : Int) > 1000)))) = some r := by rw [if_pos rfl] at H; exact H
    clear H
    have H := H1
    clear H1
    have HC6 := Aside0.mk H
    clear H
    go_enter Try.func5, Try.ntmps5
    go_upto_region 3 with (first | ((with_reducible refine gate_callee (f := 7) rfl ?_); refine goesL_ (some 16) rfl rfl Try.func7 (by kernel_rfl) rfl #[] rfl (by (try simp only [List.map_toArray, List.map_cons, List.map_nil]); first | done | rfl | (simp only [List.length_drop, List.length_take]; rfl)) ?_; (with_reducible refine (tollbarlaw05_cutting.calls  true _ A4.out).mono ?_); rintro e w7 ⟨rfl, hb⟩; refine ⟨_, rfl, ?_⟩; have n0_ := Aside0.mk (below_step (by repeat (first | (with_reducible first | exact HB.out | apply below_alloc | apply pw_below_drewN | apply below_drew1) | exact HB.out)) hb); clear HB; have HB := n0_; clear n0_; (try clear hb); (try clear hb2); (try clear hk); (try clear hi)))
    (try simp only [Act.put, List.setIfInBounds_toArray, List.set_cons_zero, List.set_cons_succ])
    go_cut [25] (fun v25 wc => ∃ (kq : Nat) (x25_5 : Bool), v25 = .bool x25_5 ∧ Aside0 (tollbarlaw05_LineJoins.j0 kq l0 l1 a2 x25_5 = some r) ∧ Aside0 (kq ≤ k) ∧ Aside0 (Below w.heap.size w wc))
    case first =>
      have H := HC6.out
      clear HC6
      by_cases c8 : (l0.length : Int) > 20
      · rw [if_pos c8] at H
        have c8b0 : decide (20 < (l0.length : Int)) = true := decide_eq_true c8
        have c8b1 : decide (20 < l0.length) = true := decide_eq_true (by omega)
        clear c8
        (first | rw [c8b0] | (simp only [i64_w, i32_w]; rw [c8b0]) | skip)
        have H' := Aside0.mk H
        clear H
        go_wp2
        go_meet
        case rel => exact ⟨_, (true), (by first | rfl | (simp; done) | (simp [*]; done)), H', ⟨by first | omega | exact Nat.le_refl _⟩, ⟨by repeat (first | (with_reducible first | exact HB.out | apply below_alloc | apply pw_below_drewN | apply below_drew1) | exact HB.out)⟩⟩
      · rw [if_neg c8] at H
        have c8b0 : decide (20 < (l0.length : Int)) = false := decide_eq_false c8
        have c8b1 : decide (20 < l0.length) = false := decide_eq_false (by omega)
        clear c8
        (first | rw [c8b0] | (simp only [i64_w, i32_w]; rw [c8b0]) | skip)
        have H' := Aside0.mk H
        clear H
        go_wp2
        go_meet
        case rel => exact ⟨_, (decide ((l1.length : Int) > 1000)), (by first | rfl | (simp; done) | (simp [*]; done)), H', ⟨by first | omega | exact Nat.le_refl _⟩, ⟨by repeat (first | (with_reducible first | exact HB.out | apply below_alloc | apply pw_below_drewN | apply below_drew1) | exact HB.out)⟩⟩
    case rest =>
      clear HC6
      try clear c1
      try clear p2
      try clear c5
      try clear c7
      try clear c8
      try clear c8b0
      try clear c8b1
      obtain ⟨kq, x25_5, rfl, HA, HJ5, HB⟩ := hcut
      cases kq with
      | zero => exact absurd HA.out (by simp [tollbarlaw05_LineJoins.j0])
      | succ kj5 =>
        have H := HA.out
        clear HA
        simp only [tollbarlaw05_LineJoins.j0] at H
        by_cases c9 : x25_5 = true
        · subst c9
          have H1 : (some true) = some r := by rw [if_pos rfl] at H; exact H
          clear H
          have H := H1
          clear H1
          obtain rfl := Option.some.inj H
          go_wp2
          go_ret
          exact ⟨by first | rfl | (simp [errW_none, errW_some] <;> rfl) | (simp [*, errW_none, errW_some] <;> rfl), by repeat (first | (with_reducible first | exact HB.out | apply below_alloc | apply pw_below_drewN | apply below_drew1) | exact HB.out)⟩
        · replace c9 := Bool.eq_false_iff.mpr c9
          subst c9
          have H1 : (tollbarlaw05_LineJoins.l0 kj5 l0 l1 a2 (([] : List Int)) l0 (l0.length : Int) 0) = some r := by rw [if_neg (show ¬ (false = true) by decide)] at H; exact H
          clear H
          have H := H1
          clear H1
          obtain ⟨y145, hy145⟩ : ∃ y_ : List Int, y_ = (([] : List Int)) := ⟨_, rfl⟩
          replace H : (tollbarlaw05_LineJoins.l0 kj5 l0 l1 a2 y145 l0 (l0.length : Int) 0) = some r := by first | (rw [hy145]; with_reducible exact H) | (have H2_ := (Option.bind_some _ _).symm.trans H; rw [hy145]; with_reducible exact H2_) | (have H2_ := (Option.bind_some _ _).symm.trans H; with_reducible exact H2_) | with_reducible exact H | (rw [hy145]; exact H) | exact H
          have Ny145 := Aside0.mk hy145
          clear hy145
          have H' := Aside0.mk H
          clear H
          go_wp2_with (first | ((with_reducible refine gate_dst (N := 26) rfl ?_); (try (refine gate_guard (by rfl) ?_; dsimp only)); refine Kd.R_lit (Kd.int .u8) _ 5 ?hg (N := 26) ?hd (xs := ([] : List Int)) (inner := []) (ok := fun _ => True) (okp := fun _ => True) ?hr ?hp (fun _ hk => hk) trivial (Below.refl _ _) (Nat.le_refl _) (by simp) ?_; (case hd => rfl); (case hg => rfl); (case hr => first | (go_simp; done) | (go_simp; rfl)); (case hp => exact (Reps.none _ _)); intro v146 w10 ho11 hb hg_ hnew_; clear hg_ hnew_; (first | rw [← Ny145.out] at ho11 | (simp only [Int.reduceToNat] at ho11; rw [← Ny145.out] at ho11)); have n0_ := Aside0.mk (Kd.R_lower ho11 (below_size (by repeat (first | (with_reducible first | exact HB.out | apply below_alloc | apply pw_below_drewN | apply below_drew1) | exact HB.out)))); have n1_ := Aside0.mk (below_step (by repeat (first | (with_reducible first | exact HB.out | apply below_alloc | apply pw_below_drewN | apply below_drew1) | exact HB.out)) hb); clear HB; have HO147 := n0_; have HB := n1_; clear n0_ n1_; clear hb ho11))
          go_loopg [7, 29] kj5 (fun kq v7 v29 w' => ∃ (x7_2 : List Int) (x29_2 : Int), v29 = .int .i64 x29_2 ∧ Aside0 (tollbarlaw05_LineJoins.l0 kq l0 l1 a2 x7_2 l0 (l0.length : Int) x29_2 = some r) ∧ Aside0 (kq ≤ kj5) ∧ Aside0 (Kd.R (Kd.int .u8) 5 w' w.heap.size (fun _ => True) v7 x7_2) ∧ Aside0 (Below w.heap.size w w'))
          case atStart => exact ⟨(y145), (0), (by first | rfl | (simp; done) | (simp [*]; done)), H', ⟨Nat.le_refl _⟩, ⟨by (with_reducible repeat (first | apply Kd.R_alloc | apply Kd.R_drewN | apply Kd.R_drew)); exact HO147.out⟩, ⟨by repeat (first | (with_reducible first | exact HB.out | apply below_alloc | apply pw_below_drewN | apply below_drew1) | exact HB.out)⟩⟩
          case round =>
            clear H'
            try clear c1
            try clear p2
            try clear c5
            try clear c7
            try clear c8
            try clear c8b0
            try clear c8b1
            try clear c9
            try clear p2
            obtain ⟨x7_2, x29_2, rfl, HA, HK2, HO_7, HB⟩ := hrel
            cases gk with
            | zero => exact absurd HA.out (by simp [tollbarlaw05_LineJoins.l0])
            | succ k2 =>
              have H := HA.out
              clear HA
              simp only [tollbarlaw05_LineJoins.l0] at H
              by_cases c12 : x29_2 < (l0.length : Int)
              · rw [if_pos c12] at H
                have c12b0 : decide (x29_2 < (l0.length : Int)) = true := decide_eq_true c12
                clear c12
                by_cases c13 : 0 ≤ x29_2
                · rw [if_pos c13] at H
                  have c13b0 : decide (0 ≤ x29_2) = true := decide_eq_true c13
                  clear c13
                  by_cases c14 : x29_2 < (l0.length : Int)
                  · rw [if_pos c14] at H
                    have c14b0 : decide (x29_2 < (l0.length : Int)) = true := decide_eq_true c14
                    clear c14
                    by_cases c15 : ((rdOf ByteArray.empty l0 x29_2).size : Int) > 500
                    · rw [if_pos c15] at H
                      have c15b0 : decide (500 < ((rdOf ByteArray.empty l0 x29_2).size : Int)) = true := decide_eq_true c15
                      have c15b1 : decide (500 < (rdOf ByteArray.empty l0 x29_2).size) = true := decide_eq_true (by omega)
                      clear c15
                      obtain rfl := Option.some.inj H
                      have p148 : 0 ≤ (x29_2 : Int) := of_decide_eq_true (by first | (with_reducible assumption) | assumption)
                      have q148 : x29_2 < (l0.length : Int) := of_decide_eq_true (by first | (with_reducible assumption) | assumption)
                      obtain ⟨ad148, e148, hx148_0⟩ := Kd.at_string HR0.out x29_2 p148 q148
                      cases e148
                      replace hx148_0 := (HB.out.cell (World.block_lt_of_cell? w _ hx148_0)).trans hx148_0
                      replace p148 := eq_true p148
                      replace q148 := eq_true q148
                      go_wp2
                      go_ret
                      exact ⟨by first | rfl | (simp [errW_none, errW_some] <;> rfl) | (simp [*, errW_none, errW_some] <;> rfl), by repeat (first | (with_reducible first | exact HB.out | apply below_alloc | apply pw_below_drewN | apply below_drew1) | exact HB.out)⟩
                    · rw [if_neg c15] at H
                      have c15b0 : decide (500 < ((rdOf ByteArray.empty l0 x29_2).size : Int)) = false := decide_eq_false c15
                      have c15b1 : decide (500 < (rdOf ByteArray.empty l0 x29_2).size) = false := decide_eq_false (by omega)
                      clear c15
                      have H' := Aside0.mk H
                      clear H
                      have p148 : 0 ≤ (x29_2 : Int) := of_decide_eq_true (by first | (with_reducible assumption) | assumption)
                      have q148 : x29_2 < (l0.length : Int) := of_decide_eq_true (by first | (with_reducible assumption) | assumption)
                      obtain ⟨ad148, e148, hx148_0⟩ := Kd.at_string HR0.out x29_2 p148 q148
                      cases e148
                      replace hx148_0 := (HB.out.cell (World.block_lt_of_cell? w _ hx148_0)).trans hx148_0
                      replace p148 := eq_true p148
                      replace q148 := eq_true q148
                      go_wp2
                      go_loopg [10] k2 (fun kq v10 w' => ∃ (x10_3 : Int), v10 = .int .i64 x10_3 ∧ Aside0 (tollbarlaw05_LineJoins.l1 kq l0 l1 a2 x7_2 (rdOf ByteArray.empty l0 x29_2) x10_3 l0 (l0.length : Int) x29_2 = some r) ∧ Aside0 (kq ≤ k2) ∧ Aside0 (Kd.R (Kd.int .u8) 5 w' w.heap.size (fun _ => True) u7 x7_2) ∧ Aside0 (Below w.heap.size w w'))
                      case atStart => exact ⟨(0), (by first | rfl | (simp; done) | (simp [*]; done)), H', ⟨Nat.le_refl _⟩, ⟨by (with_reducible repeat (first | apply Kd.R_alloc | apply Kd.R_drewN | apply Kd.R_drew)); exact HO_7.out⟩, ⟨by repeat (first | (with_reducible first | exact HB.out | apply below_alloc | apply pw_below_drewN | apply below_drew1) | exact HB.out)⟩⟩
                      case round =>
                        clear H'
                        try clear c1
                        try clear p1
                        try clear q1
                        try clear hx1
                        try clear p2
                        try clear c5
                        try clear c7
                        try clear c8
                        try clear c8b0
                        try clear c8b1
                        try clear c9
                        try clear c12
                        try clear c12b0
                        try clear c13
                        try clear c13b0
                        try clear c14
                        try clear c14b0
                        try clear p14
                        try clear q14
                        try clear hx14
                        try clear c15
                        try clear c15b0
                        try clear c15b1
                        try clear hx148_0
                        try clear p148
                        try clear p2
                        try clear q148
                        obtain ⟨x10_3, rfl, HA, HK3, HO_7, HB⟩ := hrel
                        cases gk with
                        | zero => exact absurd HA.out (by simp [tollbarlaw05_LineJoins.l1])
                        | succ k3 =>
                          have H := HA.out
                          clear HA
                          simp only [tollbarlaw05_LineJoins.l1] at H
                          by_cases c16 : x10_3 < ((rdOf ByteArray.empty l0 x29_2).size : Int)
                          · rw [if_pos c16] at H
                            have c16b0 : decide (x10_3 < ((rdOf ByteArray.empty l0 x29_2).size : Int)) = true := decide_eq_true c16
                            clear c16
                            by_cases c17 : 0 ≤ x10_3
                            · rw [if_pos c17] at H
                              have c17b0 : decide (0 ≤ x10_3) = true := decide_eq_true c17
                              clear c17
                              by_cases c19 : (bt (rdOf ByteArray.empty l0 x29_2) x10_3) = 13
                              · rw [if_pos c19] at H
                                have c19b0 : ((bt (rdOf ByteArray.empty l0 x29_2) x10_3) == 13) = true := beq_iff_eq.mpr c19
                                have c19b1 : ((bt (rdOf ByteArray.empty l0 x29_2) x10_3) != 13) = false := bne_eq_false_iff_eq.mpr c19
                                clear c19
                                obtain rfl := Option.some.inj H
                                have p18 : 0 ≤ (x10_3 : Int) := of_decide_eq_true (by first | (with_reducible assumption) | assumption)
                                have q18 : x10_3 < ((rdOf ByteArray.empty l0 x29_2).size : Int) := of_decide_eq_true (by first | (with_reducible assumption) | assumption)
                                have hx18 := bt_at (rdOf ByteArray.empty l0 x29_2) x10_3
                                replace p18 := eq_true p18
                                replace q18 := eq_true q18
                                go_wp2
                                go_ret
                                exact ⟨by first | rfl | (simp [errW_none, errW_some] <;> rfl) | (simp [*, errW_none, errW_some] <;> rfl), by repeat (first | (with_reducible first | exact HB.out | apply below_alloc | apply pw_below_drewN | apply below_drew1) | exact HB.out)⟩
                              · rw [if_neg c19] at H
                                have c19b0 : ((bt (rdOf ByteArray.empty l0 x29_2) x10_3) == 13) = false := beq_eq_false_iff_ne.mpr c19
                                have c19b1 : ((bt (rdOf ByteArray.empty l0 x29_2) x10_3) != 13) = true := bne_iff_ne.mpr c19
                                by_cases c21 : (bt (rdOf ByteArray.empty l0 x29_2) x10_3) = 10
                                · rw [if_pos c21] at H
                                  have c21b0 : ((bt (rdOf ByteArray.empty l0 x29_2) x10_3) == 10) = true := beq_iff_eq.mpr c21
                                  have c21b1 : ((bt (rdOf ByteArray.empty l0 x29_2) x10_3) != 10) = false := bne_eq_false_iff_eq.mpr c21
                                  clear c21
                                  obtain rfl := Option.some.inj H
                                  have p18 : 0 ≤ (x10_3 : Int) := of_decide_eq_true (by first | (with_reducible assumption) | assumption)
                                  have q18 : x10_3 < ((rdOf ByteArray.empty l0 x29_2).size : Int) := of_decide_eq_true (by first | (with_reducible assumption) | assumption)
                                  have hx18 := bt_at (rdOf ByteArray.empty l0 x29_2) x10_3
                                  replace p18 := eq_true p18
                                  replace q18 := eq_true q18
                                  have p20 : 0 ≤ (x10_3 : Int) := of_decide_eq_true (by first | (with_reducible assumption) | assumption)
                                  have q20 : x10_3 < ((rdOf ByteArray.empty l0 x29_2).size : Int) := of_decide_eq_true (by first | (with_reducible assumption) | assumption)
                                  have hx20 := bt_at (rdOf ByteArray.empty l0 x29_2) x10_3
                                  replace p20 := eq_true p20
                                  replace q20 := eq_true q20
                                  go_wp2
                                  go_ret
                                  exact ⟨by first | rfl | (simp [errW_none, errW_some] <;> rfl) | (simp [*, errW_none, errW_some] <;> rfl), by repeat (first | (with_reducible first | exact HB.out | apply below_alloc | apply pw_below_drewN | apply below_drew1) | exact HB.out)⟩
                                · rw [if_neg c21] at H
                                  have c21b0 : ((bt (rdOf ByteArray.empty l0 x29_2) x10_3) == 10) = false := beq_eq_false_iff_ne.mpr c21
                                  have c21b1 : ((bt (rdOf ByteArray.empty l0 x29_2) x10_3) != 10) = true := bne_iff_ne.mpr c21
                                  have H' := Aside0.mk H
                                  clear H
                                  have p18 : 0 ≤ (x10_3 : Int) := of_decide_eq_true (by first | (with_reducible assumption) | assumption)
                                  have q18 : x10_3 < ((rdOf ByteArray.empty l0 x29_2).size : Int) := of_decide_eq_true (by first | (with_reducible assumption) | assumption)
                                  have hx18 := bt_at (rdOf ByteArray.empty l0 x29_2) x10_3
                                  replace p18 := eq_true p18
                                  replace q18 := eq_true q18
                                  have p20 : 0 ≤ (x10_3 : Int) := of_decide_eq_true (by first | (with_reducible assumption) | assumption)
                                  have q20 : x10_3 < ((rdOf ByteArray.empty l0 x29_2).size : Int) := of_decide_eq_true (by first | (with_reducible assumption) | assumption)
                                  have hx20 := bt_at (rdOf ByteArray.empty l0 x29_2) x10_3
                                  replace p20 := eq_true p20
                                  replace q20 := eq_true q20
                                  go_wp2
                                  go_roundg k3
                                  case measure => have := HJ5.out; have := HK2.out; have := HK3.out; omega
                                  case rel => exact ⟨(wrap64 (x10_3 + 1)), (by first | rfl | (simp; done) | (simp [*]; done)), H', ⟨by have := HJ5.out; have := HK2.out; have := HK3.out; omega⟩, ⟨by (with_reducible repeat (first | apply Kd.R_alloc | apply Kd.R_drewN | apply Kd.R_drew)); exact HO_7.out⟩, ⟨by repeat (first | (with_reducible first | exact HB.out | apply below_alloc | apply pw_below_drewN | apply below_drew1) | exact HB.out)⟩⟩
                            · rw [if_neg c17] at H
                              exact absurd H (by simp)
                          · rw [if_neg c16] at H
                            have c16b0 : decide (x10_3 < ((rdOf ByteArray.empty l0 x29_2).size : Int)) = false := decide_eq_false c16
                            clear c16
                            by_cases c22 : x7_2.length + (rdOf ByteArray.empty l0 x29_2).size < 140737488355328
                            · rw [if_pos c22] at H
                              have LMc22 := Aside0.mk c22
                              clear c22
                              obtain ⟨y149, hy149⟩ : ∃ y_ : List Int, y_ = (x7_2 ++ bytesOf (rdOf ByteArray.empty l0 x29_2)) := ⟨_, rfl⟩
                              replace H : ((some (([13, 10] : List Int) : List Int)).bind fun y152 => (if y149.length + y152.length < 140737488355328 then (tollbarlaw05_LineJoins.l0 k3 l0 l1 a2 (y149 ++ y152) l0 (l0.length : Int) (wrap64 (x29_2 + 1))) else (none))) = some r := by first | (rw [hy149]; with_reducible exact H) | (have H2_ := (Option.bind_some _ _).symm.trans H; rw [hy149]; with_reducible exact H2_) | (have H2_ := (Option.bind_some _ _).symm.trans H; with_reducible exact H2_) | with_reducible exact H | (rw [hy149]; exact H) | exact H
                              have Ny149 := Aside0.mk hy149
                              clear hy149
                              obtain ⟨y152, hy152⟩ : ∃ y_ : List Int, y_ = (([13, 10] : List Int)) := ⟨_, rfl⟩
                              replace H : (if y149.length + y152.length < 140737488355328 then (tollbarlaw05_LineJoins.l0 k3 l0 l1 a2 (y149 ++ y152) l0 (l0.length : Int) (wrap64 (x29_2 + 1))) else (none)) = some r := by first | (rw [hy152]; with_reducible exact H) | (have H2_ := (Option.bind_some _ _).symm.trans H; rw [hy152]; with_reducible exact H2_) | (have H2_ := (Option.bind_some _ _).symm.trans H; with_reducible exact H2_) | with_reducible exact H | (rw [hy152]; exact H) | exact H
                              have Ny152 := Aside0.mk hy152
                              clear hy152
                              by_cases c23 : y149.length + y152.length < 140737488355328
                              · rw [if_pos c23] at H
                                have LMc23 := Aside0.mk c23
                                clear c23
                                obtain ⟨y155, hy155⟩ : ∃ y_ : List Int, y_ = (y149 ++ y152) := ⟨_, rfl⟩
                                replace H : (tollbarlaw05_LineJoins.l0 k3 l0 l1 a2 y155 l0 (l0.length : Int) (wrap64 (x29_2 + 1))) = some r := by first | (rw [hy155]; with_reducible exact H) | (have H2_ := (Option.bind_some _ _).symm.trans H; rw [hy155]; with_reducible exact H2_) | (have H2_ := (Option.bind_some _ _).symm.trans H; with_reducible exact H2_) | with_reducible exact H | (rw [hy155]; exact H) | exact H
                                have Ny155 := Aside0.mk hy155
                                clear hy155
                                have H' := Aside0.mk H
                                clear H
                                go_wp2_with (first | (at_builtin; refine print_append_str (w0 := w) w.heap.size rfl (.tmp 52) _ 22 9 5 rfl Try.underlying22 Try.underlying9 info5 u7 x7_2 (rdOf ByteArray.empty l0 x29_2) rfl rfl ?aO ?aB ?aS ?aL ?_; (case aB => exact (by repeat (first | (with_reducible first | exact HB.out | apply below_alloc | apply pw_below_drewN | apply below_drew1) | exact HB.out))); (case aO => exact (Kd.own_of_R (by (with_reducible repeat (first | apply Kd.R_alloc | apply Kd.R_drewN | apply Kd.R_drew)); exact HO_7.out))); (case aS => exact (below_size (by repeat (first | (with_reducible first | exact HB.out | apply below_alloc | apply pw_below_drewN | apply below_drew1) | exact HB.out)))); (case aL => have := LMc22.out; omega); intro v150 w24 ho0 hb hg; have ho := Kd.R_of_own (h1 := fun _ => rfl) (ok := fun _ => True) ho0 (fun _ _ => trivial); clear ho0; have hat := True.intro; rw [← Ny149.out] at ho; change Kd.R (Kd.int .u8) 5 w24 w.heap.size (fun _ => True) v150 y149 at ho; have n0_ := Aside0.mk (hb); have n1_ := Aside0.mk (ho); clear HB; clear HO_7; have HB := n0_; have HO151 := n1_; clear n0_ n1_; clear ho hb hg hat) | ((with_reducible refine gate_dst (N := 55) rfl ?_); (try (refine gate_guard (by rfl) ?_; dsimp only)); refine Kd.R_lit (Kd.int .u8) _ 5 ?hg (N := 55) ?hd (xs := ([13, 10] : List Int)) (inner := [.int .u8 13, .int .u8 10]) (ok := fun _ => True) (okp := fun _ => True) ?hr ?hp (fun _ hk => hk) trivial (Below.refl _ _) (Nat.le_refl _) (by simp) ?_; (case hd => rfl); (case hg => rfl); (case hr => first | (go_simp; done) | (go_simp; rfl)); (case hp => exact (Reps.one (show Kd.M (Kd.int .u8) _ _ _ 13 [.int .u8 13] from rfl) (Reps.one (show Kd.M (Kd.int .u8) _ _ _ 10 [.int .u8 10] from rfl) (Reps.none _ _)))); intro v153 w25 ho26 hb hg_ hnew_; clear hg_ hnew_; (first | rw [← Ny152.out] at ho26 | (simp only [Int.reduceToNat] at ho26; rw [← Ny152.out] at ho26)); have n0_ := Aside0.mk (Kd.R_elder' (by (with_reducible repeat (first | apply Kd.R_alloc | apply Kd.R_drewN | apply Kd.R_drew)); exact HO151.out) (Kd.R_base ho26) hb); have n1_ := Aside0.mk (Kd.R_lower (Kd.R_new' ho26 (Kd.R_lt (by (with_reducible repeat (first | apply Kd.R_alloc | apply Kd.R_drewN | apply Kd.R_drew)); exact HO151.out))) (below_size (by repeat (first | (with_reducible first | exact HB.out | apply below_alloc | apply pw_below_drewN | apply below_drew1) | exact HB.out)))); have n2_ := Aside0.mk (below_step (by repeat (first | (with_reducible first | exact HB.out | apply below_alloc | apply pw_below_drewN | apply below_drew1) | exact HB.out)) hb); clear HO151; clear HB; have HO151 := n0_; have HO154 := n1_; have HB := n2_; clear n0_ n1_ n2_; clear hb ho26; obtain ⟨Ao28, co28, eo28⟩ := Kd.R_slice HO154.out; subst eo28) | ((with_reducible refine gate_builtin (b := .append) (xs := #[.tmp 54, .tmp 55]) rfl ?_); (try (refine gate_guard (by rfl) ?_; dsimp only)); at_builtin; refine Kd.R_append_rows (Kd.int .u8) (w0 := w) w.heap.size rfl (.tmp 54) (.tmp 55) 22 5 (.int .u8 0) 1 rfl Try.underlying22 info5 rfl (by decide) (by omega) v150 y149 y152 _ _ _ (fun k_ => some k_ ≠ (.slice Ao28 y152.length co28 : Value).ownBlock) (fun _ => False) rfl rfl ?aO ?aR (fun _ _ h => h) (fun _ h => h.elim) ?aF ?aB ?aS ?aL ?_; (case aR => repeat (first | exact (Kd.R_reads' HO154.out).2.2 | (with_reducible refine Kd.C_alloc ?_ _) | (with_reducible refine Kd.C_drewN ?_ _) | (with_reducible refine Kd.C_drew ?_))); (case aB => exact (by repeat (first | (with_reducible first | exact HB.out | apply below_alloc | apply pw_below_drewN | apply below_drew1) | exact HB.out))); (case aF => exact (fun k_ hk => Kd.fresh' (Kd.R_lt (by (with_reducible repeat (first | apply Kd.R_alloc | apply Kd.R_drewN | apply Kd.R_drew)); exact HO154.out)) k_ hk)); (case aO => exact (by (with_reducible repeat (first | apply Kd.R_alloc | apply Kd.R_drewN | apply Kd.R_drew)); exact Kd.R_mono HO151.out (fun _ hk => hk.2))); (case aS => exact (below_size (by repeat (first | (with_reducible first | exact HB.out | apply below_alloc | apply pw_below_drewN | apply below_drew1) | exact HB.out)))); (case aL => have := LMc23.out; omega); intro v156 w27 ho hb hg hat; rw [← Ny155.out] at ho; have n0_ := Aside0.mk (Kd.R_after (ok := (fun _ => True)) (by (with_reducible repeat (first | apply Kd.R_alloc | apply Kd.R_drewN | apply Kd.R_drew)); exact HO154.out) hg hat); have n1_ := Aside0.mk (hb); have n2_ := Aside0.mk (ho); clear HO154; clear HB; clear HO151; have HO154 := n0_; have HB := n1_; have HO157 := n2_; clear n0_ n1_ n2_; clear ho hb hg hat))
                                go_roundg k3
                                case measure => have := HJ5.out; have := HK2.out; have := HK3.out; omega
                                case rel => exact ⟨(y155), (wrap64 (x29_2 + 1)), (by first | rfl | (simp; done) | (simp [*]; done)), H', ⟨by have := HJ5.out; have := HK2.out; have := HK3.out; omega⟩, ⟨by (with_reducible repeat (first | apply Kd.R_alloc | apply Kd.R_drewN | apply Kd.R_drew)); exact Kd.R_mono HO157.out (fun _ hk => trivial)⟩, ⟨by repeat (first | (with_reducible first | exact HB.out | apply below_alloc | apply pw_below_drewN | apply below_drew1) | exact HB.out)⟩⟩
                              · rw [if_neg c23] at H
                                exact absurd H (by simp)
                            · rw [if_neg c22] at H
                              exact absurd H (by simp)
                  · rw [if_neg c14] at H
                    exact absurd H (by simp)
                · rw [if_neg c13] at H
                  exact absurd H (by simp)
              · rw [if_neg c12] at H
                have c12b0 : decide (x29_2 < (l0.length : Int)) = false := decide_eq_false c12
                clear c12
                by_cases c29 : x7_2.length + l1.length < 140737488355328
                · rw [if_pos c29] at H
                  have LMc29 := Aside0.mk c29
                  clear c29
                  obtain ⟨y158, hy158⟩ : ∃ y_ : List Int, y_ = (x7_2 ++ l1) := ⟨_, rfl⟩
                  replace H : (tollbarlaw05_LineJoins.l2 k2 l1 (Go.bits .and .i64 a2 511) y158 l0 (l0.length : Int) 0) = some r := by first | (rw [hy158]; with_reducible exact H) | (have H2_ := (Option.bind_some _ _).symm.trans H; rw [hy158]; with_reducible exact H2_) | (have H2_ := (Option.bind_some _ _).symm.trans H; with_reducible exact H2_) | with_reducible exact H | (rw [hy158]; exact H) | exact H
                  have Ny158 := Aside0.mk hy158
                  clear hy158
                  have H' := Aside0.mk H
                  clear H
                  go_wp2_with (first | ((with_reducible refine gate_builtin (b := .append) (xs := #[.tmp 58, .tmp 59]) rfl ?_); (try (refine gate_guard (by rfl) ?_; dsimp only)); at_builtin; refine Kd.R_append_rows (Kd.int .u8) (w0 := w) w.heap.size rfl (.tmp 58) (.tmp 59) 22 5 (.int .u8 0) 1 rfl Try.underlying22 info5 rfl (by decide) (by omega) u7 x7_2 l1 _ _ _ (fun _ => True) (fun _ => False) rfl rfl ?aO ?aR (fun _ _ h => h) (fun _ h => h.elim) ?aF ?aB ?aS ?aL ?_; (case aR => repeat (first | exact (Kd.C_below HR1.out HB.out) | (with_reducible refine Kd.C_alloc ?_ _) | (with_reducible refine Kd.C_drewN ?_ _) | (with_reducible refine Kd.C_drew ?_))); (case aB => exact (by repeat (first | (with_reducible first | exact HB.out | apply below_alloc | apply pw_below_drewN | apply below_drew1) | exact HB.out))); (case aF => exact (fun _ _ => trivial)); (case aO => exact (by (with_reducible repeat (first | apply Kd.R_alloc | apply Kd.R_drewN | apply Kd.R_drew)); exact HO_7.out)); (case aS => exact (below_size (by repeat (first | (with_reducible first | exact HB.out | apply below_alloc | apply pw_below_drewN | apply below_drew1) | exact HB.out)))); (case aL => have := LMc29.out; omega); intro v159 w30 ho hb hg hat; rw [← Ny158.out] at ho; have n0_ := Aside0.mk (hb); have n1_ := Aside0.mk (ho); clear HB; clear HO_7; have HB := n0_; have HO160 := n1_; clear n0_ n1_; clear ho hb hg hat))
                  go_loopg [7, 65] k2 (fun kq v7 v65 w' => ∃ (x7_3 : List Int) (x65_3 : Int), v65 = .int .i64 x65_3 ∧ Aside0 (tollbarlaw05_LineJoins.l2 kq l1 (Go.bits .and .i64 a2 511) x7_3 l0 (l0.length : Int) x65_3 = some r) ∧ Aside0 (kq ≤ k2) ∧ Aside0 (Kd.Q (Kd.int .u8) 5 w' w.heap.size (fun _ => True) v7 x7_3) ∧ Aside0 (Below w.heap.size w w'))
                  case atStart => exact ⟨(y158), (0), (by first | rfl | (simp; done) | (simp [*]; done)), H', ⟨Nat.le_refl _⟩, ⟨Kd.Q_of_R (by (with_reducible repeat (first | apply Kd.R_alloc | apply Kd.R_drewN | apply Kd.R_drew)); exact HO160.out)⟩, ⟨by repeat (first | (with_reducible first | exact HB.out | apply below_alloc | apply pw_below_drewN | apply below_drew1) | exact HB.out)⟩⟩
                  case round =>
                    clear H'
                    try clear c1
                    try clear p1
                    try clear q1
                    try clear hx1
                    try clear c2
                    try clear p2
                    try clear q2
                    try clear hx2
                    try clear c5
                    try clear p6
                    try clear c7
                    try clear c8
                    try clear c8b0
                    try clear c8b1
                    try clear c9
                    try clear c12
                    try clear c12b0
                    try clear c13
                    try clear c13b0
                    try clear c14
                    try clear c14b0
                    try clear p14
                    try clear q14
                    try clear hx14
                    try clear c15
                    try clear c15b0
                    try clear c15b1
                    try clear c16
                    try clear c16b0
                    try clear c17
                    try clear c17b0
                    try clear p18
                    try clear q18
                    try clear hx18
                    try clear c19
                    try clear c19b0
                    try clear c19b1
                    try clear p20
                    try clear q20
                    try clear hx20
                    try clear c21
                    try clear c21b0
                    try clear c21b1
                    try clear c22
                    try clear c23
                    try clear c29
                    try clear hx148_0
                    try clear p1
                    try clear p14
                    try clear p148
                    try clear p18
                    try clear p2
                    try clear p20
                    try clear q1
                    try clear q14
                    try clear q148
                    try clear q18
                    try clear q20
                    obtain ⟨x7_3, x65_3, rfl, HA, HK3, HO_7, HB⟩ := hrel
                    cases gk with
                    | zero => exact absurd HA.out (by simp [tollbarlaw05_LineJoins.l2])
                    | succ k3 =>
                      have H := HA.out
                      clear HA
                      simp only [tollbarlaw05_LineJoins.l2] at H
                      by_cases c31 : x65_3 < (l0.length : Int)
                      · rw [if_pos c31] at H
                        have c31b0 : decide (x65_3 < (l0.length : Int)) = true := decide_eq_true c31
                        clear c31
                        by_cases c32 : 0 ≤ x65_3
                        · rw [if_pos c32] at H
                          have c32b0 : decide (0 ≤ x65_3) = true := decide_eq_true c32
                          clear c32
                          by_cases c33 : x65_3 < (l0.length : Int)
                          · rw [if_pos c33] at H
                            have c33b0 : decide (x65_3 < (l0.length : Int)) = true := decide_eq_true c33
                            clear c33
                            replace H := Option.bind_eq_some_iff.mp H
                            obtain ⟨⟨t163, t164, t165⟩, A340, H⟩ := H
                            replace H : (if ((rdOf ByteArray.empty l0 x65_3).size : Int) > (Go.bits .and .i64 a2 511) then (if t163.toList = ([] : List UInt8) then (if t164 = 0 then (some (t165 == 2)) else (some false)) else (some false)) else (if t163.toList = (rdOf ByteArray.empty l0 x65_3).toList then (if t164 = (wrap64 (((rdOf ByteArray.empty l0 x65_3).size : Int) + 2)) then (if t165 = 0 then (if 0 ≤ t164 then (if t164 ≤ (x7_3.length : Int) then (tollbarlaw05_LineJoins.l2 k3 l1 (Go.bits .and .i64 a2 511) (x7_3.drop (t164 : Int).toNat) l0 (l0.length : Int) (wrap64 (x65_3 + 1))) else (none)) else (none)) else (some false)) else (some false)) else (some false))) = some r := H
                            have A34 := Aside0.mk A340
                            clear A340
                            by_cases c35 : ((rdOf ByteArray.empty l0 x65_3).size : Int) > (Go.bits .and .i64 a2 511)
                            · rw [if_pos c35] at H
                              have c35b0 : decide ((Go.bits .and .i64 a2 511) < ((rdOf ByteArray.empty l0 x65_3).size : Int)) = true := decide_eq_true c35
                              clear c35
                              by_cases c36 : t163.toList = ([] : List UInt8)
                              · rw [if_pos c36] at H
                                have c36b0 : (t163.toList == ([] : List UInt8)) = true := beq_iff_eq.mpr c36
                                have c36b1 : (t163.toList != ([] : List UInt8)) = false := bne_eq_false_iff_eq.mpr c36
                                clear c36
                                by_cases c37 : t164 = 0
                                · rw [if_pos c37] at H
                                  have c37b0 : (t164 == 0) = true := beq_iff_eq.mpr c37
                                  have c37b1 : (t164 != 0) = false := bne_eq_false_iff_eq.mpr c37
                                  clear c37
                                  obtain rfl := Option.some.inj H
                                  have p162 : 0 ≤ (x65_3 : Int) := of_decide_eq_true (by first | (with_reducible assumption) | assumption)
                                  have q162 : x65_3 < (l0.length : Int) := of_decide_eq_true (by first | (with_reducible assumption) | assumption)
                                  obtain ⟨ad162, e162, hx162_0⟩ := Kd.at_string HR0.out x65_3 p162 q162
                                  cases e162
                                  replace hx162_0 := (HB.out.cell (World.block_lt_of_cell? w _ hx162_0)).trans hx162_0
                                  replace p162 := eq_true p162
                                  replace q162 := eq_true q162
                                  obtain ⟨Ao38, co38, eo38, _⟩ := Kd.Q_slice HO_7.out
                                  subst eo38
                                  go_wp2_with (first | ((with_reducible refine gate_callee (f := 8) rfl ?_); refine goesL_ (some 72) rfl rfl Try.func8 (by kernel_rfl) rfl #[.slice Ao38 x7_3.length co38, .int .i64 (Go.bits .and .i64 a2 511)] rfl (by (try simp only [List.map_toArray, List.map_cons, List.map_nil]); first | done | rfl | (simp only [List.length_drop, List.length_take]; rfl)) ?_; (with_reducible refine (line_Cut.calls k3 _ _ x7_3 (Go.bits .and .i64 a2 511) t163 t164 t165 _ ?side1 ?side2 A34.out).mono ?_); (case side1 => repeat (first | exact (Kd.Q_reads' HO_7.out).2.2 | (with_reducible refine Kd.C_alloc ?_ _) | (with_reducible refine Kd.C_drewN ?_ _) | (with_reducible refine Kd.C_drew ?_))); (case side2 => exact (Kd.Q_reads' HO_7.out).2.1); rintro e w39 ⟨rfl, hb⟩; (try clear A34); refine ⟨_, rfl, ?_⟩; have n0_ := Aside0.mk (Kd.Q_below (by (with_reducible repeat (first | apply Kd.Q_alloc | apply Kd.Q_drewN | apply Kd.Q_drew)); exact HO_7.out) hb); have n1_ := Aside0.mk (below_step (by repeat (first | (with_reducible first | exact HB.out | apply below_alloc | apply pw_below_drewN | apply below_drew1) | exact HB.out)) hb); clear HO_7; clear HB; have HO_7 := n0_; have HB := n1_; clear n0_ n1_; (try clear hb); (try clear hb2); (try clear hk); (try clear hi)))
                                  go_ret
                                  exact ⟨by first | rfl | (simp [errW_none, errW_some] <;> rfl) | (simp [*, errW_none, errW_some] <;> rfl), by repeat (first | (with_reducible first | exact HB.out | apply below_alloc | apply pw_below_drewN | apply below_drew1) | exact HB.out)⟩
                                · rw [if_neg c37] at H
                                  have c37b0 : (t164 == 0) = false := beq_eq_false_iff_ne.mpr c37
                                  have c37b1 : (t164 != 0) = true := bne_iff_ne.mpr c37
                                  obtain rfl := Option.some.inj H
                                  have p162 : 0 ≤ (x65_3 : Int) := of_decide_eq_true (by first | (with_reducible assumption) | assumption)
                                  have q162 : x65_3 < (l0.length : Int) := of_decide_eq_true (by first | (with_reducible assumption) | assumption)
                                  obtain ⟨ad162, e162, hx162_0⟩ := Kd.at_string HR0.out x65_3 p162 q162
                                  cases e162
                                  replace hx162_0 := (HB.out.cell (World.block_lt_of_cell? w _ hx162_0)).trans hx162_0
                                  replace p162 := eq_true p162
                                  replace q162 := eq_true q162
                                  obtain ⟨Ao40, co40, eo40, _⟩ := Kd.Q_slice HO_7.out
                                  subst eo40
                                  go_wp2_with (first | ((with_reducible refine gate_callee (f := 8) rfl ?_); refine goesL_ (some 72) rfl rfl Try.func8 (by kernel_rfl) rfl #[.slice Ao40 x7_3.length co40, .int .i64 (Go.bits .and .i64 a2 511)] rfl (by (try simp only [List.map_toArray, List.map_cons, List.map_nil]); first | done | rfl | (simp only [List.length_drop, List.length_take]; rfl)) ?_; (with_reducible refine (line_Cut.calls k3 _ _ x7_3 (Go.bits .and .i64 a2 511) t163 t164 t165 _ ?side1 ?side2 A34.out).mono ?_); (case side1 => repeat (first | exact (Kd.Q_reads' HO_7.out).2.2 | (with_reducible refine Kd.C_alloc ?_ _) | (with_reducible refine Kd.C_drewN ?_ _) | (with_reducible refine Kd.C_drew ?_))); (case side2 => exact (Kd.Q_reads' HO_7.out).2.1); rintro e w41 ⟨rfl, hb⟩; (try clear A34); refine ⟨_, rfl, ?_⟩; have n0_ := Aside0.mk (Kd.Q_below (by (with_reducible repeat (first | apply Kd.Q_alloc | apply Kd.Q_drewN | apply Kd.Q_drew)); exact HO_7.out) hb); have n1_ := Aside0.mk (below_step (by repeat (first | (with_reducible first | exact HB.out | apply below_alloc | apply pw_below_drewN | apply below_drew1) | exact HB.out)) hb); clear HO_7; clear HB; have HO_7 := n0_; have HB := n1_; clear n0_ n1_; (try clear hb); (try clear hb2); (try clear hk); (try clear hi)))
                                  go_ret
                                  exact ⟨by first | rfl | (simp [errW_none, errW_some] <;> rfl) | (simp [*, errW_none, errW_some] <;> rfl), by repeat (first | (with_reducible first | exact HB.out | apply below_alloc | apply pw_below_drewN | apply below_drew1) | exact HB.out)⟩
                              · rw [if_neg c36] at H
                                have c36b0 : (t163.toList == ([] : List UInt8)) = false := beq_eq_false_iff_ne.mpr c36
                                have c36b1 : (t163.toList != ([] : List UInt8)) = true := bne_iff_ne.mpr c36
                                obtain rfl := Option.some.inj H
                                have p162 : 0 ≤ (x65_3 : Int) := of_decide_eq_true (by first | (with_reducible assumption) | assumption)
                                have q162 : x65_3 < (l0.length : Int) := of_decide_eq_true (by first | (with_reducible assumption) | assumption)
                                obtain ⟨ad162, e162, hx162_0⟩ := Kd.at_string HR0.out x65_3 p162 q162
                                cases e162
                                replace hx162_0 := (HB.out.cell (World.block_lt_of_cell? w _ hx162_0)).trans hx162_0
                                replace p162 := eq_true p162
                                replace q162 := eq_true q162
                                obtain ⟨Ao42, co42, eo42, _⟩ := Kd.Q_slice HO_7.out
                                subst eo42
                                go_wp2_with (first | ((with_reducible refine gate_callee (f := 8) rfl ?_); refine goesL_ (some 72) rfl rfl Try.func8 (by kernel_rfl) rfl #[.slice Ao42 x7_3.length co42, .int .i64 (Go.bits .and .i64 a2 511)] rfl (by (try simp only [List.map_toArray, List.map_cons, List.map_nil]); first | done | rfl | (simp only [List.length_drop, List.length_take]; rfl)) ?_; (with_reducible refine (line_Cut.calls k3 _ _ x7_3 (Go.bits .and .i64 a2 511) t163 t164 t165 _ ?side1 ?side2 A34.out).mono ?_); (case side1 => repeat (first | exact (Kd.Q_reads' HO_7.out).2.2 | (with_reducible refine Kd.C_alloc ?_ _) | (with_reducible refine Kd.C_drewN ?_ _) | (with_reducible refine Kd.C_drew ?_))); (case side2 => exact (Kd.Q_reads' HO_7.out).2.1); rintro e w43 ⟨rfl, hb⟩; (try clear A34); refine ⟨_, rfl, ?_⟩; have n0_ := Aside0.mk (Kd.Q_below (by (with_reducible repeat (first | apply Kd.Q_alloc | apply Kd.Q_drewN | apply Kd.Q_drew)); exact HO_7.out) hb); have n1_ := Aside0.mk (below_step (by repeat (first | (with_reducible first | exact HB.out | apply below_alloc | apply pw_below_drewN | apply below_drew1) | exact HB.out)) hb); clear HO_7; clear HB; have HO_7 := n0_; have HB := n1_; clear n0_ n1_; (try clear hb); (try clear hb2); (try clear hk); (try clear hi)))
                                go_ret
                                exact ⟨by first | rfl | (simp [errW_none, errW_some] <;> rfl) | (simp [*, errW_none, errW_some] <;> rfl), by repeat (first | (with_reducible first | exact HB.out | apply below_alloc | apply pw_below_drewN | apply below_drew1) | exact HB.out)⟩
                            · rw [if_neg c35] at H
                              have c35b0 : decide ((Go.bits .and .i64 a2 511) < ((rdOf ByteArray.empty l0 x65_3).size : Int)) = false := decide_eq_false c35
                              clear c35
                              by_cases c44 : t163.toList = (rdOf ByteArray.empty l0 x65_3).toList
                              · rw [if_pos c44] at H
                                have c44b0 : (t163.toList == (rdOf ByteArray.empty l0 x65_3).toList) = true := beq_iff_eq.mpr c44
                                have c44b1 : (t163.toList != (rdOf ByteArray.empty l0 x65_3).toList) = false := bne_eq_false_iff_eq.mpr c44
                                clear c44
                                by_cases c45 : t164 = (wrap64 (((rdOf ByteArray.empty l0 x65_3).size : Int) + 2))
                                · rw [if_pos c45] at H
                                  have c45b0 : (t164 == (wrap64 (((rdOf ByteArray.empty l0 x65_3).size : Int) + 2))) = true := beq_iff_eq.mpr c45
                                  have c45b1 : (t164 != (wrap64 (((rdOf ByteArray.empty l0 x65_3).size : Int) + 2))) = false := bne_eq_false_iff_eq.mpr c45
                                  clear c45
                                  by_cases c46 : t165 = 0
                                  · rw [if_pos c46] at H
                                    have c46b0 : (t165 == 0) = true := beq_iff_eq.mpr c46
                                    have c46b1 : (t165 != 0) = false := bne_eq_false_iff_eq.mpr c46
                                    clear c46
                                    by_cases c47 : 0 ≤ t164
                                    · rw [if_pos c47] at H
                                      have c47b0 := eq_true c47
                                      have c47b1 : decide (0 ≤ t164) = true := decide_eq_true c47
                                      clear c47
                                      by_cases c48 : t164 ≤ (x7_3.length : Int)
                                      · rw [if_pos c48] at H
                                        have c48b0 := eq_true c48
                                        have c48b1 : decide (t164 ≤ (x7_3.length : Int)) = true := decide_eq_true c48
                                        clear c48
                                        obtain ⟨y166, hy166⟩ : ∃ y_ : List Int, y_ = (x7_3.drop (t164 : Int).toNat) := ⟨_, rfl⟩
                                        replace H : (tollbarlaw05_LineJoins.l2 k3 l1 (Go.bits .and .i64 a2 511) y166 l0 (l0.length : Int) (wrap64 (x65_3 + 1))) = some r := by first | (rw [hy166]; with_reducible exact H) | (have H2_ := (Option.bind_some _ _).symm.trans H; rw [hy166]; with_reducible exact H2_) | (have H2_ := (Option.bind_some _ _).symm.trans H; with_reducible exact H2_) | with_reducible exact H | (rw [hy166]; exact H) | exact H
                                        have Ny166 := Aside0.mk hy166
                                        clear hy166
                                        have H' := Aside0.mk H
                                        clear H
                                        have p162 : 0 ≤ (x65_3 : Int) := of_decide_eq_true (by first | (with_reducible assumption) | assumption)
                                        have q162 : x65_3 < (l0.length : Int) := of_decide_eq_true (by first | (with_reducible assumption) | assumption)
                                        obtain ⟨ad162, e162, hx162_0⟩ := Kd.at_string HR0.out x65_3 p162 q162
                                        cases e162
                                        replace hx162_0 := (HB.out.cell (World.block_lt_of_cell? w _ hx162_0)).trans hx162_0
                                        replace p162 := eq_true p162
                                        replace q162 := eq_true q162
                                        obtain ⟨Ao49, co49, eo49, _⟩ := Kd.Q_slice HO_7.out
                                        subst eo49
                                        go_wp2_with (first | ((with_reducible refine gate_callee (f := 8) rfl ?_); refine goesL_ (some 72) rfl rfl Try.func8 (by kernel_rfl) rfl #[.slice Ao49 x7_3.length co49, .int .i64 (Go.bits .and .i64 a2 511)] rfl (by (try simp only [List.map_toArray, List.map_cons, List.map_nil]); first | done | rfl | (simp only [List.length_drop, List.length_take]; rfl)) ?_; (with_reducible refine (line_Cut.calls k3 _ _ x7_3 (Go.bits .and .i64 a2 511) t163 t164 t165 _ ?side1 ?side2 A34.out).mono ?_); (case side1 => repeat (first | exact (Kd.Q_reads' HO_7.out).2.2 | (with_reducible refine Kd.C_alloc ?_ _) | (with_reducible refine Kd.C_drewN ?_ _) | (with_reducible refine Kd.C_drew ?_))); (case side2 => exact (Kd.Q_reads' HO_7.out).2.1); rintro e w50 ⟨rfl, hb⟩; (try clear A34); refine ⟨_, rfl, ?_⟩; have n0_ := Aside0.mk (Kd.Q_below (by (with_reducible repeat (first | apply Kd.Q_alloc | apply Kd.Q_drewN | apply Kd.Q_drew)); exact HO_7.out) hb); have n1_ := Aside0.mk (below_step (by repeat (first | (with_reducible first | exact HB.out | apply below_alloc | apply pw_below_drewN | apply below_drew1) | exact HB.out)) hb); clear HO_7; clear HB; have HO_7 := n0_; have HB := n1_; clear n0_ n1_; (try clear hb); (try clear hb2); (try clear hk); (try clear hi); have q51 : (t164 : Int) ≤ ((x7_3.length : Int) : Int) := of_decide_eq_true (by first | (with_reducible assumption) | assumption); obtain ⟨i051, hi051, _, hsz51, _⟩ := info_parts info5; have hcut51 := cut_from (P := Try.prog) 22 5 .i64 Try.underlying22 hi051 1 hsz51 Ao49 x7_3.length co49 t164 (of_decide_eq_true (by first | (with_reducible assumption) | assumption)) q51; have hr51 := Kd.Q_drop (k := (t164 : Int).toNat) HO_7.out (by omega); obtain ⟨A51, hA51⟩ : ∃ A1, A1 = (if co49 = (t164 : Int).toNat then Ao49 else (Ao49 : Option Addr).map (·.add ((t164 : Int).toNat * 1))) := ⟨_, rfl⟩; obtain ⟨c51, hc51⟩ : ∃ c1, c1 = co49 - (t164 : Int).toNat := ⟨_, rfl⟩; have hy51 : y166.length = x7_3.length - (t164 : Int).toNat := (by rw [Ny166.out, List.length_drop]); rw [← Ny166.out] at hr51; rw [← hy51, ← hA51, ← hc51] at hcut51; replace hr51 : Kd.Q (Kd.int .u8) 5 w50 w.heap.size (fun _ => True) (.slice A51 y166.length c51) y166 := (by rw [hA51, hc51, hy51]; exact hr51); have HE51 : Aside0 ((Value.slice A51 y166.length c51).ownBlock = (.slice Ao49 x7_3.length co49 : Value).ownBlock) := ⟨by rw [hA51]; split <;> (cases (Ao49 : Option Addr) <;> first | rfl | (simp [Value.ownBlock, add_block]))⟩; clear hy51 hi051 hsz51 HO_7 hA51 hc51; have HO168 := Aside0.mk hr51; clear hr51; replace q51 := eq_true q51))
                                        go_roundg k3
                                        case measure => have := HJ5.out; have := HK2.out; have := HK3.out; omega
                                        case rel => exact ⟨(y166), (wrap64 (x65_3 + 1)), (by first | rfl | (simp; done) | (simp [*]; done)), H', ⟨by have := HJ5.out; have := HK2.out; have := HK3.out; omega⟩, ⟨by (with_reducible repeat (first | apply Kd.Q_alloc | apply Kd.Q_drewN | apply Kd.Q_drew)); exact HO168.out⟩, ⟨by repeat (first | (with_reducible first | exact HB.out | apply below_alloc | apply pw_below_drewN | apply below_drew1) | exact HB.out)⟩⟩
                                      · rw [if_neg c48] at H
                                        exact absurd H (by simp)
                                    · rw [if_neg c47] at H
                                      exact absurd H (by simp)
                                  · rw [if_neg c46] at H
                                    have c46b0 : (t165 == 0) = false := beq_eq_false_iff_ne.mpr c46
                                    have c46b1 : (t165 != 0) = true := bne_iff_ne.mpr c46
                                    obtain rfl := Option.some.inj H
                                    have p162 : 0 ≤ (x65_3 : Int) := of_decide_eq_true (by first | (with_reducible assumption) | assumption)
                                    have q162 : x65_3 < (l0.length : Int) := of_decide_eq_true (by first | (with_reducible assumption) | assumption)
                                    obtain ⟨ad162, e162, hx162_0⟩ := Kd.at_string HR0.out x65_3 p162 q162
                                    cases e162
                                    replace hx162_0 := (HB.out.cell (World.block_lt_of_cell? w _ hx162_0)).trans hx162_0
                                    replace p162 := eq_true p162
                                    replace q162 := eq_true q162
                                    obtain ⟨Ao52, co52, eo52, _⟩ := Kd.Q_slice HO_7.out
                                    subst eo52
                                    go_wp2_with (first | ((with_reducible refine gate_callee (f := 8) rfl ?_); refine goesL_ (some 72) rfl rfl Try.func8 (by kernel_rfl) rfl #[.slice Ao52 x7_3.length co52, .int .i64 (Go.bits .and .i64 a2 511)] rfl (by (try simp only [List.map_toArray, List.map_cons, List.map_nil]); first | done | rfl | (simp only [List.length_drop, List.length_take]; rfl)) ?_; (with_reducible refine (line_Cut.calls k3 _ _ x7_3 (Go.bits .and .i64 a2 511) t163 t164 t165 _ ?side1 ?side2 A34.out).mono ?_); (case side1 => repeat (first | exact (Kd.Q_reads' HO_7.out).2.2 | (with_reducible refine Kd.C_alloc ?_ _) | (with_reducible refine Kd.C_drewN ?_ _) | (with_reducible refine Kd.C_drew ?_))); (case side2 => exact (Kd.Q_reads' HO_7.out).2.1); rintro e w53 ⟨rfl, hb⟩; (try clear A34); refine ⟨_, rfl, ?_⟩; have n0_ := Aside0.mk (Kd.Q_below (by (with_reducible repeat (first | apply Kd.Q_alloc | apply Kd.Q_drewN | apply Kd.Q_drew)); exact HO_7.out) hb); have n1_ := Aside0.mk (below_step (by repeat (first | (with_reducible first | exact HB.out | apply below_alloc | apply pw_below_drewN | apply below_drew1) | exact HB.out)) hb); clear HO_7; clear HB; have HO_7 := n0_; have HB := n1_; clear n0_ n1_; (try clear hb); (try clear hb2); (try clear hk); (try clear hi)))
                                    go_ret
                                    exact ⟨by first | rfl | (simp [errW_none, errW_some] <;> rfl) | (simp [*, errW_none, errW_some] <;> rfl), by repeat (first | (with_reducible first | exact HB.out | apply below_alloc | apply pw_below_drewN | apply below_drew1) | exact HB.out)⟩
                                · rw [if_neg c45] at H
                                  have c45b0 : (t164 == (wrap64 (((rdOf ByteArray.empty l0 x65_3).size : Int) + 2))) = false := beq_eq_false_iff_ne.mpr c45
                                  have c45b1 : (t164 != (wrap64 (((rdOf ByteArray.empty l0 x65_3).size : Int) + 2))) = true := bne_iff_ne.mpr c45
                                  obtain rfl := Option.some.inj H
                                  have p162 : 0 ≤ (x65_3 : Int) := of_decide_eq_true (by first | (with_reducible assumption) | assumption)
                                  have q162 : x65_3 < (l0.length : Int) := of_decide_eq_true (by first | (with_reducible assumption) | assumption)
                                  obtain ⟨ad162, e162, hx162_0⟩ := Kd.at_string HR0.out x65_3 p162 q162
                                  cases e162
                                  replace hx162_0 := (HB.out.cell (World.block_lt_of_cell? w _ hx162_0)).trans hx162_0
                                  replace p162 := eq_true p162
                                  replace q162 := eq_true q162
                                  obtain ⟨Ao54, co54, eo54, _⟩ := Kd.Q_slice HO_7.out
                                  subst eo54
                                  go_wp2_with (first | ((with_reducible refine gate_callee (f := 8) rfl ?_); refine goesL_ (some 72) rfl rfl Try.func8 (by kernel_rfl) rfl #[.slice Ao54 x7_3.length co54, .int .i64 (Go.bits .and .i64 a2 511)] rfl (by (try simp only [List.map_toArray, List.map_cons, List.map_nil]); first | done | rfl | (simp only [List.length_drop, List.length_take]; rfl)) ?_; (with_reducible refine (line_Cut.calls k3 _ _ x7_3 (Go.bits .and .i64 a2 511) t163 t164 t165 _ ?side1 ?side2 A34.out).mono ?_); (case side1 => repeat (first | exact (Kd.Q_reads' HO_7.out).2.2 | (with_reducible refine Kd.C_alloc ?_ _) | (with_reducible refine Kd.C_drewN ?_ _) | (with_reducible refine Kd.C_drew ?_))); (case side2 => exact (Kd.Q_reads' HO_7.out).2.1); rintro e w55 ⟨rfl, hb⟩; (try clear A34); refine ⟨_, rfl, ?_⟩; have n0_ := Aside0.mk (Kd.Q_below (by (with_reducible repeat (first | apply Kd.Q_alloc | apply Kd.Q_drewN | apply Kd.Q_drew)); exact HO_7.out) hb); have n1_ := Aside0.mk (below_step (by repeat (first | (with_reducible first | exact HB.out | apply below_alloc | apply pw_below_drewN | apply below_drew1) | exact HB.out)) hb); clear HO_7; clear HB; have HO_7 := n0_; have HB := n1_; clear n0_ n1_; (try clear hb); (try clear hb2); (try clear hk); (try clear hi)))
                                  go_ret
                                  exact ⟨by first | rfl | (simp [errW_none, errW_some] <;> rfl) | (simp [*, errW_none, errW_some] <;> rfl), by repeat (first | (with_reducible first | exact HB.out | apply below_alloc | apply pw_below_drewN | apply below_drew1) | exact HB.out)⟩
                              · rw [if_neg c44] at H
                                have c44b0 : (t163.toList == (rdOf ByteArray.empty l0 x65_3).toList) = false := beq_eq_false_iff_ne.mpr c44
                                have c44b1 : (t163.toList != (rdOf ByteArray.empty l0 x65_3).toList) = true := bne_iff_ne.mpr c44
                                obtain rfl := Option.some.inj H
                                have p162 : 0 ≤ (x65_3 : Int) := of_decide_eq_true (by first | (with_reducible assumption) | assumption)
                                have q162 : x65_3 < (l0.length : Int) := of_decide_eq_true (by first | (with_reducible assumption) | assumption)
                                obtain ⟨ad162, e162, hx162_0⟩ := Kd.at_string HR0.out x65_3 p162 q162
                                cases e162
                                replace hx162_0 := (HB.out.cell (World.block_lt_of_cell? w _ hx162_0)).trans hx162_0
                                replace p162 := eq_true p162
                                replace q162 := eq_true q162
                                obtain ⟨Ao56, co56, eo56, _⟩ := Kd.Q_slice HO_7.out
                                subst eo56
                                go_wp2_with (first | ((with_reducible refine gate_callee (f := 8) rfl ?_); refine goesL_ (some 72) rfl rfl Try.func8 (by kernel_rfl) rfl #[.slice Ao56 x7_3.length co56, .int .i64 (Go.bits .and .i64 a2 511)] rfl (by (try simp only [List.map_toArray, List.map_cons, List.map_nil]); first | done | rfl | (simp only [List.length_drop, List.length_take]; rfl)) ?_; (with_reducible refine (line_Cut.calls k3 _ _ x7_3 (Go.bits .and .i64 a2 511) t163 t164 t165 _ ?side1 ?side2 A34.out).mono ?_); (case side1 => repeat (first | exact (Kd.Q_reads' HO_7.out).2.2 | (with_reducible refine Kd.C_alloc ?_ _) | (with_reducible refine Kd.C_drewN ?_ _) | (with_reducible refine Kd.C_drew ?_))); (case side2 => exact (Kd.Q_reads' HO_7.out).2.1); rintro e w57 ⟨rfl, hb⟩; (try clear A34); refine ⟨_, rfl, ?_⟩; have n0_ := Aside0.mk (Kd.Q_below (by (with_reducible repeat (first | apply Kd.Q_alloc | apply Kd.Q_drewN | apply Kd.Q_drew)); exact HO_7.out) hb); have n1_ := Aside0.mk (below_step (by repeat (first | (with_reducible first | exact HB.out | apply below_alloc | apply pw_below_drewN | apply below_drew1) | exact HB.out)) hb); clear HO_7; clear HB; have HO_7 := n0_; have HB := n1_; clear n0_ n1_; (try clear hb); (try clear hb2); (try clear hk); (try clear hi)))
                                go_ret
                                exact ⟨by first | rfl | (simp [errW_none, errW_some] <;> rfl) | (simp [*, errW_none, errW_some] <;> rfl), by repeat (first | (with_reducible first | exact HB.out | apply below_alloc | apply pw_below_drewN | apply below_drew1) | exact HB.out)⟩
                          · rw [if_neg c33] at H
                            exact absurd H (by simp)
                        · rw [if_neg c32] at H
                          exact absurd H (by simp)
                      · rw [if_neg c31] at H
                        have c31b0 : decide (x65_3 < (l0.length : Int)) = false := decide_eq_false c31
                        clear c31
                        replace H := Option.bind_eq_some_iff.mp H
                        obtain ⟨t161, A580, H⟩ := H
                        replace H : (some t161) = some r := H
                        have A58 := Aside0.mk A580
                        clear A580
                        obtain rfl := Option.some.inj H
                        obtain ⟨Ao59, co59, eo59, _⟩ := Kd.Q_slice HO_7.out
                        subst eo59
                        go_wp2_with (first | ((with_reducible refine gate_callee (f := 10) rfl ?_); refine goesL_ (some 110) rfl rfl Try.func10 (by kernel_rfl) rfl #[.slice Ao59 x7_3.length co59, .slice A1 l1.length c1] rfl (by (try simp only [List.map_toArray, List.map_cons, List.map_nil]); first | done | rfl | (simp only [List.length_drop, List.length_take]; rfl)) ?_; (with_reducible refine (tollbarref01_SameBytes.calls k3 _ _ x7_3 _ _ l1 t161 _ ?side1 ?side2 ?side3 ?side4 A58.out).mono ?_); (case side1 => repeat (first | exact (Kd.Q_reads' HO_7.out).2.2 | (with_reducible refine Kd.C_alloc ?_ _) | (with_reducible refine Kd.C_drewN ?_ _) | (with_reducible refine Kd.C_drew ?_))); (case side2 => exact (Kd.Q_reads' HO_7.out).2.1); (case side3 => repeat (first | exact (Kd.C_below HR1.out HB.out) | (with_reducible refine Kd.C_alloc ?_ _) | (with_reducible refine Kd.C_drewN ?_ _) | (with_reducible refine Kd.C_drew ?_))); (case side4 => exact HC1.out); rintro e w' ⟨rfl, ⟨nd, rfl⟩⟩; (try clear A58); refine ⟨_, rfl, ?_⟩))
                        go_ret
                        exact ⟨by first | rfl | (simp [errW_none, errW_some] <;> rfl) | (simp [*, errW_none, errW_some] <;> rfl), by repeat (first | (with_reducible first | exact HB.out | apply below_alloc | apply pw_below_drewN | apply below_drew1) | exact HB.out)⟩
                · rw [if_neg c29] at H
                  exact absurd H (by simp)
  · replace c5 := Bool.eq_false_iff.mpr c5
    subst c5
    have H1 : (some false) = some r := by rw [if_neg (show ¬ (false = true) by decide)] at H; exact H
    clear H
    have H := H1
    clear H1
    obtain rfl := Option.some.inj H
    go_enter Try.func5, Try.ntmps5
    go_wp2_with (first | ((with_reducible refine gate_callee (f := 7) rfl ?_); refine goesL_ (some 16) rfl rfl Try.func7 (by kernel_rfl) rfl #[] rfl (by (try simp only [List.map_toArray, List.map_cons, List.map_nil]); first | done | rfl | (simp only [List.length_drop, List.length_take]; rfl)) ?_; (with_reducible refine (tollbarlaw05_cutting.calls  false _ A4.out).mono ?_); rintro e w60 ⟨rfl, hb⟩; (try clear A4); refine ⟨_, rfl, ?_⟩; have n0_ := Aside0.mk (below_step (by repeat (first | (with_reducible first | exact HB.out | apply below_alloc | apply pw_below_drewN | apply below_drew1) | exact HB.out)) hb); clear HB; have HB := n0_; clear n0_; (try clear hb); (try clear hb2); (try clear hk); (try clear hi)))
    go_ret
    exact ⟨by first | rfl | (simp [errW_none, errW_some] <;> rfl) | (simp [*, errW_none, errW_some] <;> rfl), by repeat (first | (with_reducible first | exact HB.out | apply below_alloc | apply pw_below_drewN | apply below_drew1) | exact HB.out)⟩

end Go.Proofs.Ythkkkfeiklfjoaa.P
