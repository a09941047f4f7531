/- Each function below answers as its Lean twin says; a law answers true at every input that its row speaks of. No further condition. (Laid by this repo's seatprint.py.) -/
import Derived.Test.YthkkkfeiklfjoaaDoorPx0
import Derived.Test.YthkkkfeiklfjoaaDoorFsignTrim
import Derived.Test.YthkkkfeiklfjoaaDoorFtollbarlaw02texts
namespace Go.Proofs.YthkkkfeiklfjoaaDoor.P
open Go.RowKit Go.Proofs.YthkkkfeiklfjoaaDoorW.PrintWords Go.Proofs.YthkkkfeiklfjoaaDoorW.PrintLast Go.Proofs.YthkkkfeiklfjoaaDoorW.PrintMore
attribute [local go_sem] max2_int min2_int max_two min_two max_three min_three max_four min_four   -- for this text's walks alone
set_option linter.unusedVariables false
set_option linter.unusedSimpArgs false

/-! ### tollbarlaw02_SignTrims: function 8 -/
mutual
def tollbarlaw02_SignTrims.j0 : Nat → Int → Int → ByteArray → Bool → Option (Bool)
  | 0, _, _, _, _ => none
  | k + 1, x1, x2, x7, x25 => if x25 = true then (some false) else (tollbarlaw02_SignTrims.l0 k x1 x2 x7 x7 0)
def tollbarlaw02_SignTrims.l0 : Nat → Int → Int → ByteArray → ByteArray → Int → Option (Bool)
  | 0, _, _, _, _, _ => none
  | k + 1, x1, x2, x7, x8, x9 => if x9 < (Go.bits .and .i64 x1 7) then (if 0 ≤ (Go.bits .and .i64 x9 1) then (if (Go.bits .and .i64 x9 1) < 2 then ((some (([bt (⟨#[32, 9]⟩ : ByteArray) (Go.bits .and .i64 x9 1)] : List Int) : List Int)).bind fun y249 => (if (strOfNums y249).size + x8.size ≤ 9223372036854775807 then (tollbarlaw02_SignTrims.l0 k x1 x2 x7 ((strOfNums y249) ++ x8) (wrap64 (x9 + 1))) else (none))) else (none)) else (none)) else (tollbarlaw02_SignTrims.l1 k x2 x7 x8 0)
def tollbarlaw02_SignTrims.l1 : Nat → Int → ByteArray → ByteArray → Int → Option (Bool)
  | 0, _, _, _, _ => none
  | k + 1, x2, x7, x8, x10 => if x10 < (Go.bits .and .i64 x2 7) then (if 0 ≤ (Go.bits .and .i64 x10 1) then (if (Go.bits .and .i64 x10 1) < 2 then ((some (([bt (⟨#[9, 32]⟩ : ByteArray) (Go.bits .and .i64 x10 1)] : List Int) : List Int)).bind fun y252 => (if x8.size + (strOfNums y252).size ≤ 9223372036854775807 then (tollbarlaw02_SignTrims.l1 k x2 x7 (x8 ++ (strOfNums y252)) (wrap64 (x10 + 1))) else (none))) else (none)) else (none)) else ((sign_Trim.f x8).bind fun t255 => (if t255.toList = x7.toList then (if 2 + x7.size ≤ 9223372036854775807 then (if ((⟨#[120, 32]⟩ : ByteArray) ++ x7).size + 2 ≤ 9223372036854775807 then ((sign_Trim.f (((⟨#[120, 32]⟩ : ByteArray) ++ x7) ++ (⟨#[9, 121]⟩ : ByteArray))).bind fun t256 => (some (t256.toList == (((⟨#[120, 32]⟩ : ByteArray) ++ x7) ++ (⟨#[9, 121]⟩ : ByteArray)).toList))) else (none)) else (none)) else (some false)))
end
def tollbarlaw02_SignTrims.f (k : Nat) (a0 : ByteArray) (a1 : Int) (a2 : Int) : Option (Bool) := (tollbarlaw02_texts.f k).bind fun t246 => (if t246 = true then ((sign_Trim.f a0).bind fun t247 => ((sign_Trim.f t247).bind fun t248 => (if t248.toList = t247.toList then (tollbarlaw02_SignTrims.j0 k a1 a2 t247 (decide ((t247.size : Int) > (a0.size : Int)))) else (tollbarlaw02_SignTrims.j0 k a1 a2 t247 true)))) else (some false))
theorem tollbarlaw02_SignTrims.mono_l : ∀ k, (∀ y0 y1 y2 y3, LeO (tollbarlaw02_SignTrims.j0 k y0 y1 y2 y3) (tollbarlaw02_SignTrims.j0 (k + 1) y0 y1 y2 y3)) ∧ (∀ y0 y1 y2 y3 y4, LeO (tollbarlaw02_SignTrims.l0 k y0 y1 y2 y3 y4) (tollbarlaw02_SignTrims.l0 (k + 1) y0 y1 y2 y3 y4)) ∧ (∀ y0 y1 y2 y3, LeO (tollbarlaw02_SignTrims.l1 k y0 y1 y2 y3) (tollbarlaw02_SignTrims.l1 (k + 1) y0 y1 y2 y3))
  | 0 => ⟨fun _ _ _ _ r h => by simp [tollbarlaw02_SignTrims.j0] at h, fun _ _ _ _ _ r h => by simp [tollbarlaw02_SignTrims.l0] at h, fun _ _ _ _ r h => by simp [tollbarlaw02_SignTrims.l1] at h⟩
  | k + 1 => by
    obtain ⟨ih0, ih1, ih2⟩ := tollbarlaw02_SignTrims.mono_l k
    refine ⟨?_, ?_, ?_⟩
    · intro y0 y1 y2 y3
      unfold tollbarlaw02_SignTrims.j0
      repeat' first
      | (with_reducible exact ih0 _ _ _ _)
      | (with_reducible exact ih1 _ _ _ _ _)
      | (with_reducible exact ih2 _ _ _ _)
      | (with_reducible exact tollbarlaw02_texts.mono _)
      | (with_reducible exact LeO.refl _)
      | (with_reducible exact LeO.none _)
      | (with_reducible refine LeO.ite ?_ ?_)
      | (with_reducible refine LeO.bind ?_ (fun _ => ?_))
      | exact ih0 _ _ _ _
      | exact ih1 _ _ _ _ _
      | exact ih2 _ _ _ _
      | exact tollbarlaw02_texts.mono _
      | exact LeO.none _
      | refine LeO.ite ?_ ?_
      | refine LeO.bind ?_ (fun _ => ?_)
    · intro y0 y1 y2 y3 y4
      unfold tollbarlaw02_SignTrims.l0
      repeat' first
      | (with_reducible exact ih0 _ _ _ _)
      | (with_reducible exact ih1 _ _ _ _ _)
      | (with_reducible exact ih2 _ _ _ _)
      | (with_reducible exact tollbarlaw02_texts.mono _)
      | (with_reducible exact LeO.refl _)
      | (with_reducible exact LeO.none _)
      | (with_reducible refine LeO.ite ?_ ?_)
      | (with_reducible refine LeO.bind ?_ (fun _ => ?_))
      | exact ih0 _ _ _ _
      | exact ih1 _ _ _ _ _
      | exact ih2 _ _ _ _
      | exact tollbarlaw02_texts.mono _
      | exact LeO.none _
      | refine LeO.ite ?_ ?_
      | refine LeO.bind ?_ (fun _ => ?_)
    · intro y0 y1 y2 y3
      unfold tollbarlaw02_SignTrims.l1
      repeat' first
      | (with_reducible exact ih0 _ _ _ _)
      | (with_reducible exact ih1 _ _ _ _ _)
      | (with_reducible exact ih2 _ _ _ _)
      | (with_reducible exact tollbarlaw02_texts.mono _)
      | (with_reducible exact LeO.refl _)
      | (with_reducible exact LeO.none _)
      | (with_reducible refine LeO.ite ?_ ?_)
      | (with_reducible refine LeO.bind ?_ (fun _ => ?_))
      | exact ih0 _ _ _ _
      | exact ih1 _ _ _ _ _
      | exact ih2 _ _ _ _
      | exact tollbarlaw02_texts.mono _
      | exact LeO.none _
      | refine LeO.ite ?_ ?_
      | refine LeO.bind ?_ (fun _ => ?_)
theorem tollbarlaw02_SignTrims.mono : ∀ a0 a1 a2 k, LeO (tollbarlaw02_SignTrims.f k a0 a1 a2) (tollbarlaw02_SignTrims.f (k + 1) a0 a1 a2) := by
  intro a0 a1 a2 k
  obtain ⟨ih0, ih1, ih2⟩ := tollbarlaw02_SignTrims.mono_l k
  unfold tollbarlaw02_SignTrims.f
  repeat' first
      | (with_reducible exact ih0 _ _ _ _)
      | (with_reducible exact ih1 _ _ _ _ _)
      | (with_reducible exact ih2 _ _ _ _)
      | (with_reducible exact tollbarlaw02_texts.mono _)
      | (with_reducible exact LeO.refl _)
      | (with_reducible exact LeO.none _)
      | (with_reducible refine LeO.ite ?_ ?_)
      | (with_reducible refine LeO.bind ?_ (fun _ => ?_))
      | exact ih0 _ _ _ _
      | exact ih1 _ _ _ _ _
      | exact ih2 _ _ _ _
      | exact tollbarlaw02_texts.mono _
      | exact LeO.none _
      | refine LeO.ite ?_ ?_
      | refine LeO.bind ?_ (fun _ => ?_)
set_option maxHeartbeats 8000000 in
set_option maxRecDepth 100000 in
theorem tollbarlaw02_SignTrims.calls (k : Nat) (a0 : ByteArray) (a1 : Int) (a2 : Int) (r : Bool) (w : World) (h : tollbarlaw02_SignTrims.f k a0 a1 a2 = some r) :
    Calls Tryd.prog 8 #[.string a0, .int .i64 a1, .int .i64 a2] w fun e w' => e = .returned (.bool r) ∧ Below w.heap.size w w' := by
  have HB := Aside0.mk (Below.refl w.heap.size w)
  have H : ((tollbarlaw02_texts.f k).bind fun t246 => (if t246 = true then ((sign_Trim.f a0).bind fun t247 => ((sign_Trim.f t247).bind fun t248 => (if t248.toList = t247.toList then (tollbarlaw02_SignTrims.j0 k a1 a2 t247 (decide ((t247.size : Int) > (a0.size : Int)))) else (tollbarlaw02_SignTrims.j0 k a1 a2 t247 true)))) else (some false))) = some r := h
  clear h
  replace H := Option.bind_eq_some_iff.mp H
  obtain ⟨t246, A40, H⟩ := H
  replace H : (if t246 = true then ((sign_Trim.f a0).bind fun t247 => ((sign_Trim.f t247).bind fun t248 => (if t248.toList = t247.toList then (tollbarlaw02_SignTrims.j0 k a1 a2 t247 (decide ((t247.size : Int) > (a0.size : Int)))) else (tollbarlaw02_SignTrims.j0 k a1 a2 t247 true)))) else (some false)) = some r := H
  have A4 := Aside0.mk A40
  clear A40
  by_cases c5 : t246 = true
  · subst c5
    have H1 : ((sign_Trim.f a0).bind fun t247 => ((sign_Trim.f t247).bind fun t248 => (if t248.toList = t247.toList then (tollbarlaw02_SignTrims.j0 k a1 a2 t247 (decide ((t247.size : Int) > (a0.size : Int)))) else (tollbarlaw02_SignTrims.j0 k a1 a2 t247 true)))) = some r := by rw [if_pos rfl] at H; exact H
    clear H
    have H := H1
    clear H1
    replace H := Option.bind_eq_some_iff.mp H
    obtain ⟨t247, A60, H⟩ := H
    replace H : ((sign_Trim.f t247).bind fun t248 => (if t248.toList = t247.toList then (tollbarlaw02_SignTrims.j0 k a1 a2 t247 (decide ((t247.size : Int) > (a0.size : Int)))) else (tollbarlaw02_SignTrims.j0 k a1 a2 t247 true))) = some r := H
    have A6 := Aside0.mk A60
    clear A60
    have HC7 := Aside0.mk H
    clear H
    go_enter Tryd.func8, Tryd.ntmps8
    go_upto_region 4 with (first | ((with_reducible refine gate_callee (f := 18) rfl ?_); refine goesL_ (some 11) rfl rfl Tryd.func18 (by kernel_rfl) rfl #[] rfl (by (try simp only [List.map_toArray, List.map_cons, List.map_nil]); first | done | rfl | (simp only [List.length_drop, List.length_take]; rfl)) ?_; (with_reducible refine (tollbarlaw02_texts.calls k  true _ A4.out).mono ?_); rintro e w8 ⟨rfl, hb⟩; refine ⟨_, rfl, ?_⟩; have n0_ := Aside0.mk (below_step (by repeat (first | (with_reducible first | exact HB.out | apply below_alloc | apply pw_below_drewN | apply below_drew1) | exact HB.out)) hb); clear HB; have HB := n0_; clear n0_; (try clear hb); (try clear hb2); (try clear hk); (try clear hi)) | ((with_reducible refine gate_callee (f := 19) rfl ?_); refine goesL_ (some 14) rfl rfl Tryd.func19 (by kernel_rfl) rfl #[.string a0] rfl (by (try simp only [List.map_toArray, List.map_cons, List.map_nil]); first | done | rfl | (simp only [List.length_drop, List.length_take]; rfl)) ?_; (with_reducible refine (sign_Trim.calls a0 t247 _ A6.out).mono ?_); rintro e w9 ⟨rfl, hb⟩; refine ⟨_, rfl, ?_⟩; have n0_ := Aside0.mk (below_step (by repeat (first | (with_reducible first | exact HB.out | apply below_alloc | apply pw_below_drewN | apply below_drew1) | exact HB.out)) hb); clear HB; have HB := n0_; clear n0_; (try clear hb); (try clear hb2); (try clear hk); (try clear hi)))
    (try simp only [Act.put, List.setIfInBounds_toArray, List.set_cons_zero, List.set_cons_succ])
    go_cut [25] (fun v25 wc => ∃ (kq : Nat) (x25_6 : Bool), v25 = .bool x25_6 ∧ Aside0 (tollbarlaw02_SignTrims.j0 kq a1 a2 t247 x25_6 = some r) ∧ Aside0 (kq ≤ k) ∧ Aside0 (Below w.heap.size w wc))
    case first =>
      have H := HC7.out
      clear HC7
      replace H := Option.bind_eq_some_iff.mp H
      obtain ⟨t248, A100, H⟩ := H
      replace H : (if t248.toList = t247.toList then (tollbarlaw02_SignTrims.j0 k a1 a2 t247 (decide ((t247.size : Int) > (a0.size : Int)))) else (tollbarlaw02_SignTrims.j0 k a1 a2 t247 true)) = some r := H
      have A10 := Aside0.mk A100
      clear A100
      by_cases c11 : t248.toList = t247.toList
      · rw [if_pos c11] at H
        have c11b0 : (t248.toList == t247.toList) = true := beq_iff_eq.mpr c11
        have c11b1 : (t248.toList != t247.toList) = false := bne_eq_false_iff_eq.mpr c11
        clear c11
        (first | rw [c11b0] | (simp only [i64_w, i32_w]; rw [c11b0]) | skip)
        have H' := Aside0.mk H
        clear H
        go_wp2_with (first | ((with_reducible refine gate_callee (f := 19) rfl ?_); refine goesL_ (some 16) rfl rfl Tryd.func19 (by kernel_rfl) rfl #[.string t247] rfl (by (try simp only [List.map_toArray, List.map_cons, List.map_nil]); first | done | rfl | (simp only [List.length_drop, List.length_take]; rfl)) ?_; (with_reducible refine (sign_Trim.calls t247 t248 _ A10.out).mono ?_); rintro e w12 ⟨rfl, hb⟩; (try clear A10); refine ⟨_, rfl, ?_⟩; have n0_ := Aside0.mk (below_step (by repeat (first | (with_reducible first | exact HB.out | apply below_alloc | apply pw_below_drewN | apply below_drew1) | exact HB.out)) hb); clear HB; have HB := n0_; clear n0_; (try clear hb); (try clear hb2); (try clear hk); (try clear hi)))
        go_meet
        case rel => exact ⟨_, (decide ((t247.size : Int) > (a0.size : Int))), (by first | rfl | (simp; done) | (simp [*]; done)), H', ⟨by first | omega | exact Nat.le_refl _⟩, ⟨by repeat (first | (with_reducible first | exact HB.out | apply below_alloc | apply pw_below_drewN | apply below_drew1) | exact HB.out)⟩⟩
      · rw [if_neg c11] at H
        have c11b0 : (t248.toList == t247.toList) = false := beq_eq_false_iff_ne.mpr c11
        have c11b1 : (t248.toList != t247.toList) = true := bne_iff_ne.mpr c11
        (first | rw [c11b0] | (simp only [i64_w, i32_w]; rw [c11b0]) | skip)
        have H' := Aside0.mk H
        clear H
        go_wp2_with (first | ((with_reducible refine gate_callee (f := 19) rfl ?_); refine goesL_ (some 16) rfl rfl Tryd.func19 (by kernel_rfl) rfl #[.string t247] rfl (by (try simp only [List.map_toArray, List.map_cons, List.map_nil]); first | done | rfl | (simp only [List.length_drop, List.length_take]; rfl)) ?_; (with_reducible refine (sign_Trim.calls t247 t248 _ A10.out).mono ?_); rintro e w13 ⟨rfl, hb⟩; (try clear A10); refine ⟨_, rfl, ?_⟩; have n0_ := Aside0.mk (below_step (by repeat (first | (with_reducible first | exact HB.out | apply below_alloc | apply pw_below_drewN | apply below_drew1) | exact HB.out)) hb); clear HB; have HB := n0_; clear n0_; (try clear hb); (try clear hb2); (try clear hk); (try clear hi)))
        go_meet
        case rel => exact ⟨_, (true), (by first | rfl | (simp; done) | (simp [*]; done)), H', ⟨by first | omega | exact Nat.le_refl _⟩, ⟨by repeat (first | (with_reducible first | exact HB.out | apply below_alloc | apply pw_below_drewN | apply below_drew1) | exact HB.out)⟩⟩
    case rest =>
      clear HC7
      try clear c1
      try clear p2
      try clear c5
      try clear c8
      try clear c11
      try clear c11b0
      try clear c11b1
      obtain ⟨kq, x25_6, rfl, HA, HJ6, HB⟩ := hcut
      cases kq with
      | zero => exact absurd HA.out (by simp [tollbarlaw02_SignTrims.j0])
      | succ kj6 =>
        have H := HA.out
        clear HA
        simp only [tollbarlaw02_SignTrims.j0] at H
        by_cases c14 : x25_6 = true
        · subst c14
          have H1 : (some false) = some r := by rw [if_pos rfl] at H; exact H
          clear H
          have H := H1
          clear H1
          obtain rfl := Option.some.inj H
          go_wp2
          go_ret
          exact ⟨by first | rfl | (simp [errW_none, errW_some] <;> rfl) | (simp [*, errW_none, errW_some] <;> rfl), by repeat (first | (with_reducible first | exact HB.out | apply below_alloc | apply pw_below_drewN | apply below_drew1) | exact HB.out)⟩
        · replace c14 := Bool.eq_false_iff.mpr c14
          subst c14
          have H1 : (tollbarlaw02_SignTrims.l0 kj6 a1 a2 t247 t247 0) = some r := by rw [if_neg (show ¬ (false = true) by decide)] at H; exact H
          clear H
          have H := H1
          clear H1
          have H' := Aside0.mk H
          clear H
          go_wp2
          go_loopg [8, 9] kj6 (fun kq v8 v9 w' => ∃ (x8_2 : ByteArray) (x9_2 : Int), v8 = .string x8_2 ∧ v9 = .int .i64 x9_2 ∧ Aside0 (tollbarlaw02_SignTrims.l0 kq a1 a2 t247 x8_2 x9_2 = some r) ∧ Aside0 (kq ≤ kj6) ∧ Aside0 (Below w.heap.size w w'))
          case atStart => exact ⟨(t247), (0), (by first | rfl | (simp; done) | (simp [*]; done)), (by first | rfl | (simp; done) | (simp [*]; done)), H', ⟨Nat.le_refl _⟩, ⟨by repeat (first | (with_reducible first | exact HB.out | apply below_alloc | apply pw_below_drewN | apply below_drew1) | exact HB.out)⟩⟩
          case round =>
            clear H'
            try clear c1
            try clear p2
            try clear c5
            try clear c8
            try clear c11
            try clear c11b0
            try clear c11b1
            try clear c14
            try clear p2
            obtain ⟨x8_2, x9_2, rfl, rfl, HA, HK2, HB⟩ := hrel
            cases gk with
            | zero => exact absurd HA.out (by simp [tollbarlaw02_SignTrims.l0])
            | succ k2 =>
              have H := HA.out
              clear HA
              simp only [tollbarlaw02_SignTrims.l0] at H
              by_cases c15 : x9_2 < (Go.bits .and .i64 a1 7)
              · rw [if_pos c15] at H
                have c15b0 : decide (x9_2 < (Go.bits .and .i64 a1 7)) = true := decide_eq_true c15
                clear c15
                by_cases c16 : 0 ≤ (Go.bits .and .i64 x9_2 1)
                · rw [if_pos c16] at H
                  have c16b0 : decide (0 ≤ (Go.bits .and .i64 x9_2 1)) = true := decide_eq_true c16
                  clear c16
                  by_cases c17 : (Go.bits .and .i64 x9_2 1) < 2
                  · rw [if_pos c17] at H
                    have c17b0 : decide ((Go.bits .and .i64 x9_2 1) < 2) = true := decide_eq_true c17
                    clear c17
                    obtain ⟨y249, hy249⟩ : ∃ y_ : List Int, y_ = (([bt (⟨#[32, 9]⟩ : ByteArray) (Go.bits .and .i64 x9_2 1)] : List Int)) := ⟨_, rfl⟩
                    replace H : (if (strOfNums y249).size + x8_2.size ≤ 9223372036854775807 then (tollbarlaw02_SignTrims.l0 k2 a1 a2 t247 ((strOfNums y249) ++ x8_2) (wrap64 (x9_2 + 1))) else (none)) = some r := by first | (rw [hy249]; with_reducible exact H) | (have H2_ := (Option.bind_some _ _).symm.trans H; rw [hy249]; with_reducible exact H2_) | (have H2_ := (Option.bind_some _ _).symm.trans H; with_reducible exact H2_) | with_reducible exact H | (rw [hy249]; exact H) | exact H
                    have Ny249 := Aside0.mk hy249
                    clear hy249
                    by_cases c19 : (strOfNums y249).size + x8_2.size ≤ 9223372036854775807
                    · rw [if_pos c19] at H
                      have c19b0 := eq_true c19
                      have c19b1 : decide ((strOfNums y249).size + x8_2.size ≤ 9223372036854775807) = true := decide_eq_true c19
                      try have c19b2 : (9223372036854775807 < (strOfNums y249).size + x8_2.size) = False := eq_false (Nat.not_lt.2 c19)
                      have H' := Aside0.mk H
                      clear H
                      have p18 : 0 ≤ ((Go.bits .and .i64 x9_2 1) : Int) := of_decide_eq_true (by first | (with_reducible assumption) | assumption)
                      have q18 : (Go.bits .and .i64 x9_2 1) < (2 : Int) := of_decide_eq_true (by first | (with_reducible assumption) | assumption)
                      have hx18 := bt_at (⟨#[32, 9]⟩ : ByteArray) (Go.bits .and .i64 x9_2 1)
                      replace p18 := eq_true p18
                      replace q18 := eq_true q18
                      go_wp2_with (first | ((with_reducible refine gate_dst (N := 36) rfl ?_); (try (refine gate_guard (by rfl) ?_; dsimp only)); refine Kd.R_lit (Kd.int .u8) _ 5 ?hg (N := 36) ?hd (xs := ([bt (⟨#[32, 9]⟩ : ByteArray) (Go.bits .and .i64 x9_2 1)] : List Int)) (inner := [.int .u8 (bt (⟨#[32, 9]⟩ : ByteArray) (Go.bits .and .i64 x9_2 1))]) (ok := fun _ => True) (okp := fun _ => True) ?hr ?hp (fun _ hk => hk) trivial (Below.refl _ _) (Nat.le_refl _) (by simp) ?_; (case hd => rfl); (case hg => rfl); (case hr => first | (go_simp; done) | (go_simp; rfl)); (case hp => exact (Reps.one (show Kd.M (Kd.int .u8) _ _ _ (bt (⟨#[32, 9]⟩ : ByteArray) (Go.bits .and .i64 x9_2 1)) [.int .u8 (bt (⟨#[32, 9]⟩ : ByteArray) (Go.bits .and .i64 x9_2 1))] from rfl) (Reps.none _ _))); intro v250 w20 ho21 hb hg_ hnew_; clear hg_ hnew_; (first | rw [← Ny249.out] at ho21 | (simp only [Int.reduceToNat] at ho21; rw [← Ny249.out] at ho21)); have n0_ := Aside0.mk (Kd.R_lower ho21 (below_size (by repeat (first | (with_reducible first | exact HB.out | apply below_alloc | apply pw_below_drewN | apply below_drew1) | exact HB.out)))); have n1_ := Aside0.mk (below_step (by repeat (first | (with_reducible first | exact HB.out | apply below_alloc | apply pw_below_drewN | apply below_drew1) | exact HB.out)) hb); clear HB; have HO251 := n0_; have HB := n1_; clear n0_ n1_; clear hb ho21; have hcv22 := own_string (P := Tryd.prog) Tryd.underlying33 Tryd.underlying5 Tryd.underlying9 (Kd.own_of_R HO251.out)))
                      go_roundg k2
                      case measure => have := HJ6.out; have := HK2.out; omega
                      case rel => exact ⟨((strOfNums y249) ++ x8_2), (wrap64 (x9_2 + 1)), (by first | rfl | (simp; done) | (simp [*]; done)), (by first | rfl | (simp; done) | (simp [*]; done)), H', ⟨by have := HJ6.out; have := HK2.out; omega⟩, ⟨by repeat (first | (with_reducible first | exact HB.out | apply below_alloc | apply pw_below_drewN | apply below_drew1) | exact HB.out)⟩⟩
                    · rw [if_neg c19] at H
                      exact absurd H (by simp)
                  · rw [if_neg c17] at H
                    exact absurd H (by simp)
                · rw [if_neg c16] at H
                  exact absurd H (by simp)
              · rw [if_neg c15] at H
                have c15b0 : decide (x9_2 < (Go.bits .and .i64 a1 7)) = false := decide_eq_false c15
                clear c15
                have H' := Aside0.mk H
                clear H
                go_wp2
                go_loopg [8, 10] k2 (fun kq v8 v10 w' => ∃ (x8_3 : ByteArray) (x10_3 : Int), v8 = .string x8_3 ∧ v10 = .int .i64 x10_3 ∧ Aside0 (tollbarlaw02_SignTrims.l1 kq a2 t247 x8_3 x10_3 = some r) ∧ Aside0 (kq ≤ k2) ∧ Aside0 (Below w.heap.size w w'))
                case atStart => exact ⟨(x8_2), (0), (by first | rfl | (simp; done) | (simp [*]; done)), (by first | rfl | (simp; done) | (simp [*]; done)), H', ⟨Nat.le_refl _⟩, ⟨by repeat (first | (with_reducible first | exact HB.out | apply below_alloc | apply pw_below_drewN | apply below_drew1) | exact HB.out)⟩⟩
                case round =>
                  clear H'
                  try clear c1
                  try clear p1
                  try clear q1
                  try clear hx1
                  try clear p2
                  try clear hcv2
                  try clear c5
                  try clear p6
                  try clear c8
                  try clear c11
                  try clear c11b0
                  try clear c11b1
                  try clear c14
                  try clear c15
                  try clear c15b0
                  try clear c16
                  try clear c16b0
                  try clear c17
                  try clear c17b0
                  try clear c18
                  try clear p18
                  try clear q18
                  try clear hx18
                  try clear c19
                  try clear c19b0
                  try clear c19b1
                  try clear c19b2
                  try clear hcv22
                  try clear p18
                  try clear p2
                  try clear q18
                  obtain ⟨x8_3, x10_3, rfl, rfl, HA, HK3, HB⟩ := hrel
                  cases gk with
                  | zero => exact absurd HA.out (by simp [tollbarlaw02_SignTrims.l1])
                  | succ k3 =>
                    have H := HA.out
                    clear HA
                    simp only [tollbarlaw02_SignTrims.l1] at H
                    by_cases c23 : x10_3 < (Go.bits .and .i64 a2 7)
                    · rw [if_pos c23] at H
                      have c23b0 : decide (x10_3 < (Go.bits .and .i64 a2 7)) = true := decide_eq_true c23
                      clear c23
                      by_cases c24 : 0 ≤ (Go.bits .and .i64 x10_3 1)
                      · rw [if_pos c24] at H
                        have c24b0 : decide (0 ≤ (Go.bits .and .i64 x10_3 1)) = true := decide_eq_true c24
                        clear c24
                        by_cases c25 : (Go.bits .and .i64 x10_3 1) < 2
                        · rw [if_pos c25] at H
                          have c25b0 : decide ((Go.bits .and .i64 x10_3 1) < 2) = true := decide_eq_true c25
                          clear c25
                          obtain ⟨y252, hy252⟩ : ∃ y_ : List Int, y_ = (([bt (⟨#[9, 32]⟩ : ByteArray) (Go.bits .and .i64 x10_3 1)] : List Int)) := ⟨_, rfl⟩
                          replace H : (if x8_3.size + (strOfNums y252).size ≤ 9223372036854775807 then (tollbarlaw02_SignTrims.l1 k3 a2 t247 (x8_3 ++ (strOfNums y252)) (wrap64 (x10_3 + 1))) else (none)) = some r := by first | (rw [hy252]; with_reducible exact H) | (have H2_ := (Option.bind_some _ _).symm.trans H; rw [hy252]; with_reducible exact H2_) | (have H2_ := (Option.bind_some _ _).symm.trans H; with_reducible exact H2_) | with_reducible exact H | (rw [hy252]; exact H) | exact H
                          have Ny252 := Aside0.mk hy252
                          clear hy252
                          by_cases c27 : x8_3.size + (strOfNums y252).size ≤ 9223372036854775807
                          · rw [if_pos c27] at H
                            have c27b0 := eq_true c27
                            have c27b1 : decide (x8_3.size + (strOfNums y252).size ≤ 9223372036854775807) = true := decide_eq_true c27
                            try have c27b2 : (9223372036854775807 < x8_3.size + (strOfNums y252).size) = False := eq_false (Nat.not_lt.2 c27)
                            have H' := Aside0.mk H
                            clear H
                            have p26 : 0 ≤ ((Go.bits .and .i64 x10_3 1) : Int) := of_decide_eq_true (by first | (with_reducible assumption) | assumption)
                            have q26 : (Go.bits .and .i64 x10_3 1) < (2 : Int) := of_decide_eq_true (by first | (with_reducible assumption) | assumption)
                            have hx26 := bt_at (⟨#[9, 32]⟩ : ByteArray) (Go.bits .and .i64 x10_3 1)
                            replace p26 := eq_true p26
                            replace q26 := eq_true q26
                            go_wp2_with (first | ((with_reducible refine gate_dst (N := 50) rfl ?_); (try (refine gate_guard (by rfl) ?_; dsimp only)); refine Kd.R_lit (Kd.int .u8) _ 5 ?hg (N := 50) ?hd (xs := ([bt (⟨#[9, 32]⟩ : ByteArray) (Go.bits .and .i64 x10_3 1)] : List Int)) (inner := [.int .u8 (bt (⟨#[9, 32]⟩ : ByteArray) (Go.bits .and .i64 x10_3 1))]) (ok := fun _ => True) (okp := fun _ => True) ?hr ?hp (fun _ hk => hk) trivial (Below.refl _ _) (Nat.le_refl _) (by simp) ?_; (case hd => rfl); (case hg => rfl); (case hr => first | (go_simp; done) | (go_simp; rfl)); (case hp => exact (Reps.one (show Kd.M (Kd.int .u8) _ _ _ (bt (⟨#[9, 32]⟩ : ByteArray) (Go.bits .and .i64 x10_3 1)) [.int .u8 (bt (⟨#[9, 32]⟩ : ByteArray) (Go.bits .and .i64 x10_3 1))] from rfl) (Reps.none _ _))); intro v253 w28 ho29 hb hg_ hnew_; clear hg_ hnew_; (first | rw [← Ny252.out] at ho29 | (simp only [Int.reduceToNat] at ho29; rw [← Ny252.out] at ho29)); have n0_ := Aside0.mk (Kd.R_lower ho29 (below_size (by repeat (first | (with_reducible first | exact HB.out | apply below_alloc | apply pw_below_drewN | apply below_drew1) | exact HB.out)))); have n1_ := Aside0.mk (below_step (by repeat (first | (with_reducible first | exact HB.out | apply below_alloc | apply pw_below_drewN | apply below_drew1) | exact HB.out)) hb); clear HB; have HO254 := n0_; have HB := n1_; clear n0_ n1_; clear hb ho29; have hcv30 := own_string (P := Tryd.prog) Tryd.underlying33 Tryd.underlying5 Tryd.underlying9 (Kd.own_of_R HO254.out)))
                            go_roundg k3
                            case measure => have := HJ6.out; have := HK2.out; have := HK3.out; omega
                            case rel => exact ⟨(x8_3 ++ (strOfNums y252)), (wrap64 (x10_3 + 1)), (by first | rfl | (simp; done) | (simp [*]; done)), (by first | rfl | (simp; done) | (simp [*]; done)), H', ⟨by have := HJ6.out; have := HK2.out; have := HK3.out; omega⟩, ⟨by repeat (first | (with_reducible first | exact HB.out | apply below_alloc | apply pw_below_drewN | apply below_drew1) | exact HB.out)⟩⟩
                          · rw [if_neg c27] at H
                            exact absurd H (by simp)
                        · rw [if_neg c25] at H
                          exact absurd H (by simp)
                      · rw [if_neg c24] at H
                        exact absurd H (by simp)
                    · rw [if_neg c23] at H
                      have c23b0 : decide (x10_3 < (Go.bits .and .i64 a2 7)) = false := decide_eq_false c23
                      clear c23
                      replace H := Option.bind_eq_some_iff.mp H
                      obtain ⟨t255, A310, H⟩ := H
                      replace H : (if t255.toList = t247.toList then (if 2 + t247.size ≤ 9223372036854775807 then (if ((⟨#[120, 32]⟩ : ByteArray) ++ t247).size + 2 ≤ 9223372036854775807 then ((sign_Trim.f (((⟨#[120, 32]⟩ : ByteArray) ++ t247) ++ (⟨#[9, 121]⟩ : ByteArray))).bind fun t256 => (some (t256.toList == (((⟨#[120, 32]⟩ : ByteArray) ++ t247) ++ (⟨#[9, 121]⟩ : ByteArray)).toList))) else (none)) else (none)) else (some false)) = some r := H
                      have A31 := Aside0.mk A310
                      clear A310
                      by_cases c32 : t255.toList = t247.toList
                      · rw [if_pos c32] at H
                        have c32b0 : (t255.toList == t247.toList) = true := beq_iff_eq.mpr c32
                        have c32b1 : (t255.toList != t247.toList) = false := bne_eq_false_iff_eq.mpr c32
                        clear c32
                        by_cases c33 : 2 + t247.size ≤ 9223372036854775807
                        · rw [if_pos c33] at H
                          have c33b0 := eq_true c33
                          have c33b1 : decide (2 + t247.size ≤ 9223372036854775807) = true := decide_eq_true c33
                          try have c33b2 : (9223372036854775807 < 2 + t247.size) = False := eq_false (Nat.not_lt.2 c33)
                          by_cases c34 : ((⟨#[120, 32]⟩ : ByteArray) ++ t247).size + 2 ≤ 9223372036854775807
                          · rw [if_pos c34] at H
                            have c34b0 := eq_true c34
                            have c34b1 : decide (((⟨#[120, 32]⟩ : ByteArray) ++ t247).size + 2 ≤ 9223372036854775807) = true := decide_eq_true c34
                            try have c34b2 : (9223372036854775807 < ((⟨#[120, 32]⟩ : ByteArray) ++ t247).size + 2) = False := eq_false (Nat.not_lt.2 c34)
                            try (have c34b3 := c34b0; simp only [ByteArray.size_append] at c34b3; have c34b4 := c34b2; simp only [ByteArray.size_append] at c34b4)
                            try have c34b5 : (9223372036854775807 < 2 + t247.size + 2) = False := eq_false (by have q_ := c34; simp only [ByteArray.size_append] at q_; have e0_ : (⟨#[120, 32]⟩ : ByteArray).size = 2 := rfl; omega)
                            try have c34b6 : (2 + t247.size + 2 ≤ 9223372036854775807) = True := eq_true (by have q_ := c34; simp only [ByteArray.size_append] at q_; have e0_ : (⟨#[120, 32]⟩ : ByteArray).size = 2 := rfl; omega)
                            replace H := Option.bind_eq_some_iff.mp H
                            obtain ⟨t256, A350, H⟩ := H
                            replace H : (some (t256.toList == (((⟨#[120, 32]⟩ : ByteArray) ++ t247) ++ (⟨#[9, 121]⟩ : ByteArray)).toList)) = some r := H
                            have A35 := Aside0.mk A350
                            clear A350
                            obtain rfl := Option.some.inj H
                            go_wp2_with (first | ((with_reducible refine gate_callee (f := 19) rfl ?_); refine goesL_ (some 54) rfl rfl Tryd.func19 (by kernel_rfl) rfl #[.string x8_3] rfl (by (try simp only [List.map_toArray, List.map_cons, List.map_nil]); first | done | rfl | (simp only [List.length_drop, List.length_take]; rfl)) ?_; (with_reducible refine (sign_Trim.calls x8_3 t255 _ A31.out).mono ?_); rintro e w36 ⟨rfl, hb⟩; (try clear A31); refine ⟨_, rfl, ?_⟩; have n0_ := Aside0.mk (below_step (by repeat (first | (with_reducible first | exact HB.out | apply below_alloc | apply pw_below_drewN | apply below_drew1) | exact HB.out)) hb); clear HB; have HB := n0_; clear n0_; (try clear hb); (try clear hb2); (try clear hk); (try clear hi)) | (go_at_call 19; (with_reducible refine (sign_Trim.calls (((⟨#[120, 32]⟩ : ByteArray) ++ t247) ++ (⟨#[9, 121]⟩ : ByteArray)) t256 _ A35.out).mono ?_); rintro e w37 ⟨rfl, hb⟩; (try clear A35); have n0_ := Aside0.mk (below_step (by repeat (first | (with_reducible first | exact HB.out | apply below_alloc | apply pw_below_drewN | apply below_drew1) | exact HB.out)) hb); clear HB; have HB := n0_; clear n0_; (try clear hb); (try clear hb2); (try clear hk); (try clear hi)))
                            go_ret
                            exact ⟨by first | rfl | (simp [errW_none, errW_some] <;> rfl) | (simp [*, errW_none, errW_some] <;> rfl), by repeat (first | (with_reducible first | exact HB.out | apply below_alloc | apply pw_below_drewN | apply below_drew1) | exact HB.out)⟩
                          · rw [if_neg c34] at H
                            exact absurd H (by simp)
                        · rw [if_neg c33] at H
                          exact absurd H (by simp)
                      · rw [if_neg c32] at H
                        have c32b0 : (t255.toList == t247.toList) = false := beq_eq_false_iff_ne.mpr c32
                        have c32b1 : (t255.toList != t247.toList) = true := bne_iff_ne.mpr c32
                        obtain rfl := Option.some.inj H
                        go_wp2_with (first | ((with_reducible refine gate_callee (f := 19) rfl ?_); refine goesL_ (some 54) rfl rfl Tryd.func19 (by kernel_rfl) rfl #[.string x8_3] rfl (by (try simp only [List.map_toArray, List.map_cons, List.map_nil]); first | done | rfl | (simp only [List.length_drop, List.length_take]; rfl)) ?_; (with_reducible refine (sign_Trim.calls x8_3 t255 _ A31.out).mono ?_); rintro e w38 ⟨rfl, hb⟩; (try clear A31); refine ⟨_, rfl, ?_⟩; have n0_ := Aside0.mk (below_step (by repeat (first | (with_reducible first | exact HB.out | apply below_alloc | apply pw_below_drewN | apply below_drew1) | exact HB.out)) hb); clear HB; have HB := n0_; clear n0_; (try clear hb); (try clear hb2); (try clear hk); (try clear hi)))
                        go_ret
                        exact ⟨by first | rfl | (simp [errW_none, errW_some] <;> rfl) | (simp [*, errW_none, errW_some] <;> rfl), by repeat (first | (with_reducible first | exact HB.out | apply below_alloc | apply pw_below_drewN | apply below_drew1) | exact HB.out)⟩
  · replace c5 := Bool.eq_false_iff.mpr c5
    subst c5
    have H1 : (some false) = some r := by rw [if_neg (show ¬ (false = true) by decide)] at H; exact H
    clear H
    have H := H1
    clear H1
    obtain rfl := Option.some.inj H
    go_enter Tryd.func8, Tryd.ntmps8
    go_wp2_with (first | ((with_reducible refine gate_callee (f := 18) rfl ?_); refine goesL_ (some 11) rfl rfl Tryd.func18 (by kernel_rfl) rfl #[] rfl (by (try simp only [List.map_toArray, List.map_cons, List.map_nil]); first | done | rfl | (simp only [List.length_drop, List.length_take]; rfl)) ?_; (with_reducible refine (tollbarlaw02_texts.calls k  false _ A4.out).mono ?_); rintro e w39 ⟨rfl, hb⟩; (try clear A4); refine ⟨_, rfl, ?_⟩; have n0_ := Aside0.mk (below_step (by repeat (first | (with_reducible first | exact HB.out | apply below_alloc | apply pw_below_drewN | apply below_drew1) | exact HB.out)) hb); clear HB; have HB := n0_; clear n0_; (try clear hb); (try clear hb2); (try clear hk); (try clear hi)))
    go_ret
    exact ⟨by first | rfl | (simp [errW_none, errW_some] <;> rfl) | (simp [*, errW_none, errW_some] <;> rfl), by repeat (first | (with_reducible first | exact HB.out | apply below_alloc | apply pw_below_drewN | apply below_drew1) | exact HB.out)⟩

/-- THE ONE PURE STATEMENT of tollbarlaw02_SignTrims: yours. -/
def tollbarlaw02_SignTrims.Pure : Prop := ∀ (a0 : ByteArray) (a1 : Int) (a2 : Int), a0.size ≤ 140737488351232 → (Lit.int .i64 a1).wf = true → (Lit.int .i64 a2).wf = true → ∃ k, tollbarlaw02_SignTrims.f k a0 a1 a2 = some true
theorem tollbarlaw02_SignTrims.walk (P : tollbarlaw02_SignTrims.Pure) (a0 : ByteArray) (a1 : Int) (a2 : Int) (w : World) (w0 : a0.size ≤ 140737488351232) (w1 : (Lit.int .i64 a1).wf = true) (w2 : (Lit.int .i64 a2).wf = true) :
    Calls Tryd.prog 8 #[.string a0, .int .i64 a1, .int .i64 a2] w fun e w' => e = .returned (.bool true) ∧ Below w.heap.size w w' := by
  obtain ⟨k, h⟩ := P a0 a1 a2 w0 w1 w2
  refine (tollbarlaw02_SignTrims.calls k a0 a1 a2 true w h).mono ?_
  rintro e w' ⟨rfl, hd⟩
  exact ⟨rfl, hd⟩

end Go.Proofs.YthkkkfeiklfjoaaDoor.P
