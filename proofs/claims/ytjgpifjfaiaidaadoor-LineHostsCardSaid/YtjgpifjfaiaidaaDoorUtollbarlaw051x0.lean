/- Each function below answers as its Lean twin says. No further condition. (Laid by this repo's packseat.py out of the seat's texts and of the print's words.) -/
import Derived.Test.YtjgpifjfaiaidaaDoorU0base0x0
import Derived.Test.YtjgpifjfaiaidaaDoorUline0x1
import Derived.Test.YtjgpifjfaiaidaaDoorUtollbarlaw05reading
import Derived.Test.YtjgpifjfaiaidaaDoorUtollbarref05Host
import Derived.Test.YtjgpifjfaiaidaaDoorUlineRequest
import Derived.Test.YtjgpifjfaiaidaaDoorUtollbarref05Request
namespace Go.Proofs.YtjgpifjfaiaidaaDoor.P
open Go.RowKit Go.Proofs.YtjgpifjfaiaidaaDoorW.PrintWords Go.Proofs.YtjgpifjfaiaidaaDoorW.PrintLast Go.Proofs.YtjgpifjfaiaidaaDoorW.PrintMore
attribute [local go_sem] max2_int min2_int max_two min_two max_three min_three max_four min_four   -- for this text's walks alone
set_option linter.unusedVariables false
set_option linter.unusedSimpArgs false

def tollbarlaw05_LineHosts.j0 : Nat → ByteArray → Bool → Bool → Option (Bool)
  | 0, _, _, _ => none
  | k + 1, x3, x4, x28 => if x28 = true then (some false) else (if x4 = true then (if x3.size + 3 ≤ 9223372036854775807 then ((line_Host.f (x3 ++ (⟨#[58, 56, 48]⟩ : ByteArray))).bind fun bt343 => (if bt343.2 = true then (some (bt343.1.toList == x3.toList)) else (some false))) else (none)) else (some (x3.toList == ([] : List UInt8))))
def tollbarlaw05_LineHosts.f (k : Nat) (a0 : ByteArray) : Option (Bool) := (tollbarlaw05_reading.f k).bind fun t338 => (if t338 = true then ((line_Host.f a0).bind fun bt339 => ((tollbarref05_Host.f k a0).bind fun bt341 => (if bt339.1.toList = bt341.1.toList then (tollbarlaw05_LineHosts.j0 k bt339.1 bt339.2 (bt339.2 != bt341.2)) else (tollbarlaw05_LineHosts.j0 k bt339.1 bt339.2 true)))) else (some false))
theorem tollbarlaw05_LineHosts.mono_l : ∀ k, (∀ y0 y1 y2, LeO (tollbarlaw05_LineHosts.j0 k y0 y1 y2) (tollbarlaw05_LineHosts.j0 (k + 1) y0 y1 y2))
  | 0 => fun _ _ _ r h => by simp [tollbarlaw05_LineHosts.j0] at h
  | k + 1 => by
    have ih0 := tollbarlaw05_LineHosts.mono_l k
    · intro y0 y1 y2
      unfold tollbarlaw05_LineHosts.j0
      repeat' first
      | (with_reducible exact ih0 _ _ _)
      | (with_reducible exact tollbarlaw05_reading.mono _)
      | (with_reducible exact tollbarref05_Host.mono _ _)
      | (with_reducible exact LeO.refl _)
      | (with_reducible exact LeO.none _)
      | (with_reducible refine LeO.ite ?_ ?_)
      | (with_reducible refine LeO.bind ?_ (fun _ => ?_))
      | exact ih0 _ _ _
      | exact tollbarlaw05_reading.mono _
      | exact tollbarref05_Host.mono _ _
      | exact LeO.none _
      | refine LeO.ite ?_ ?_
      | refine LeO.bind ?_ (fun _ => ?_)
theorem tollbarlaw05_LineHosts.mono : ∀ a0 k, LeO (tollbarlaw05_LineHosts.f k a0) (tollbarlaw05_LineHosts.f (k + 1) a0) := by
  intro a0 k
  have ih0 := tollbarlaw05_LineHosts.mono_l k
  unfold tollbarlaw05_LineHosts.f
  repeat' first
      | (with_reducible exact ih0 _ _ _)
      | (with_reducible exact tollbarlaw05_reading.mono _)
      | (with_reducible exact tollbarref05_Host.mono _ _)
      | (with_reducible exact LeO.refl _)
      | (with_reducible exact LeO.none _)
      | (with_reducible refine LeO.ite ?_ ?_)
      | (with_reducible refine LeO.bind ?_ (fun _ => ?_))
      | exact ih0 _ _ _
      | exact tollbarlaw05_reading.mono _
      | exact tollbarref05_Host.mono _ _
      | exact LeO.none _
      | refine LeO.ite ?_ ?_
      | refine LeO.bind ?_ (fun _ => ?_)
set_option maxHeartbeats 8000000 in
set_option maxRecDepth 100000 in
theorem tollbarlaw05_LineHosts.calls (k : Nat) (a0 : ByteArray) (r : Bool) (w : World) (h : tollbarlaw05_LineHosts.f k a0 = some r) (hr : r = true) (ht : Tabs w) :
    Calls Tryd.prog 5 #[.string a0] w fun e w' => e = .returned (.bool r) ∧ Below w.heap.size w w' := by
  have HTB := Aside0.mk ht
  clear ht
  have HRT := Aside0.mk hr
  clear hr
  have HB := Aside0.mk (Below.refl w.heap.size w)
  have H : ((tollbarlaw05_reading.f k).bind fun t338 => (if t338 = true then ((line_Host.f a0).bind fun bt339 => ((tollbarref05_Host.f k a0).bind fun bt341 => (if bt339.1.toList = bt341.1.toList then (tollbarlaw05_LineHosts.j0 k bt339.1 bt339.2 (bt339.2 != bt341.2)) else (tollbarlaw05_LineHosts.j0 k bt339.1 bt339.2 true)))) else (some false))) = some r := h
  clear h
  replace H := Option.bind_eq_some_iff.mp H
  obtain ⟨t338, A20, H⟩ := H
  replace H : (if t338 = true then ((line_Host.f a0).bind fun bt339 => ((tollbarref05_Host.f k a0).bind fun bt341 => (if bt339.1.toList = bt341.1.toList then (tollbarlaw05_LineHosts.j0 k bt339.1 bt339.2 (bt339.2 != bt341.2)) else (tollbarlaw05_LineHosts.j0 k bt339.1 bt339.2 true)))) else (some false)) = some r := H
  have A2 := Aside0.mk A20
  clear A20
  by_cases c3 : t338 = true
  · subst c3
    have H1 : ((line_Host.f a0).bind fun bt339 => ((tollbarref05_Host.f k a0).bind fun bt341 => (if bt339.1.toList = bt341.1.toList then (tollbarlaw05_LineHosts.j0 k bt339.1 bt339.2 (bt339.2 != bt341.2)) else (tollbarlaw05_LineHosts.j0 k bt339.1 bt339.2 true)))) = some r := by rw [if_pos rfl] at H; exact H
    clear H
    have H := H1
    clear H1
    replace H := Option.bind_eq_some_iff.mp H
    obtain ⟨⟨t339, t340⟩, A40, H⟩ := H
    replace H : ((tollbarref05_Host.f k a0).bind fun bt341 => (if t339.toList = bt341.1.toList then (tollbarlaw05_LineHosts.j0 k t339 t340 (t340 != bt341.2)) else (tollbarlaw05_LineHosts.j0 k t339 t340 true))) = some r := H
    have A4 := Aside0.mk A40
    clear A40
    replace H := Option.bind_eq_some_iff.mp H
    obtain ⟨⟨t341, t342⟩, A50, H⟩ := H
    replace H : (if t339.toList = t341.toList then (tollbarlaw05_LineHosts.j0 k t339 t340 (t340 != t342)) else (tollbarlaw05_LineHosts.j0 k t339 t340 true)) = some r := H
    have A5 := Aside0.mk A50
    clear A50
    have HC6 := Aside0.mk H
    clear H
    go_enter Tryd.func5, Tryd.ntmps5
    go_upto_region 5 with (first | ((with_reducible refine gate_callee (f := 15) rfl ?_); refine goesL_ (some 9) rfl rfl Tryd.func15 (by kernel_rfl) rfl #[] rfl (by (try simp only [List.map_toArray, List.map_cons, List.map_nil]); first | done | rfl | (simp only [List.length_drop, List.length_take]; rfl)) ?_; (with_reducible refine (tollbarlaw05_reading.calls k  true _ A2.out rfl ?hT).mono ?_); (case hT => exact HTB.out.below (by repeat (first | (with_reducible first | exact HB.out | apply below_alloc | apply pw_below_drewN | apply below_drew1) | exact HB.out))); rintro e w7 ⟨rfl, hb⟩; refine ⟨_, rfl, ?_⟩; have n0_ := Aside0.mk (below_step (by repeat (first | (with_reducible first | exact HB.out | apply below_alloc | apply pw_below_drewN | apply below_drew1) | exact HB.out)) hb); clear HB; have HB := n0_; clear n0_; (try clear hb); (try clear hb2); (try clear hk); (try clear hi)) | ((with_reducible refine gate_callee (f := 20) rfl ?_); refine goesL_ (some 13) rfl rfl Tryd.func20 (by kernel_rfl) rfl #[.string a0] rfl (by (try simp only [List.map_toArray, List.map_cons, List.map_nil]); first | done | rfl | (simp only [List.length_drop, List.length_take]; rfl)) ?_; (with_reducible refine (line_Host.calls a0 t339 t340 _ A4.out).mono ?_); rintro e w8 ⟨rfl, hb⟩; refine ⟨_, rfl, ?_⟩; have n0_ := Aside0.mk (below_step (by repeat (first | (with_reducible first | exact HB.out | apply below_alloc | apply pw_below_drewN | apply below_drew1) | exact HB.out)) hb); clear HB; have HB := n0_; clear n0_; (try clear hb); (try clear hb2); (try clear hk); (try clear hi)) | ((with_reducible refine gate_callee (f := 21) rfl ?_); refine goesL_ (some 18) rfl rfl Tryd.func21 (by kernel_rfl) rfl #[.string a0] rfl (by (try simp only [List.map_toArray, List.map_cons, List.map_nil]); first | done | rfl | (simp only [List.length_drop, List.length_take]; rfl)) ?_; (with_reducible refine (tollbarref05_Host.calls k a0 t341 t342 _ A5.out).mono ?_); rintro e w9 ⟨rfl, hb⟩; refine ⟨_, rfl, ?_⟩; have n0_ := Aside0.mk (below_step (by repeat (first | (with_reducible first | exact HB.out | apply below_alloc | apply pw_below_drewN | apply below_drew1) | exact HB.out)) hb); clear HB; have HB := n0_; clear n0_; (try clear hb); (try clear hb2); (try clear hk); (try clear hi)))
    (try simp only [Act.put, List.setIfInBounds_toArray, List.set_cons_zero, List.set_cons_succ])
    go_cut [28] (fun v28 wc => ∃ (kq : Nat) (x28_5 : Bool), v28 = .bool x28_5 ∧ Aside0 (tollbarlaw05_LineHosts.j0 kq t339 t340 x28_5 = some r) ∧ Aside0 (kq ≤ k) ∧ Aside0 (Below w.heap.size w wc))
    case first =>
      have H := HC6.out
      clear HC6
      by_cases c10 : t339.toList = t341.toList
      · rw [if_pos c10] at H
        have c10b0 : (t339.toList == t341.toList) = true := beq_iff_eq.mpr c10
        have c10b1 : (t339.toList != t341.toList) = false := bne_eq_false_iff_eq.mpr c10
        clear c10
        (first | rw [c10b0] | (simp only [i64_w, i32_w]; rw [c10b0]) | skip)
        have H' := Aside0.mk H
        clear H
        go_wp2
        go_meet
        case rel => exact ⟨_, ((t340 != t342)), (by first | rfl | (simp; done) | (simp [*]; done)), H', ⟨by first | omega | exact Nat.le_refl _⟩, ⟨by repeat (first | (with_reducible first | exact HB.out | apply below_alloc | apply pw_below_drewN | apply below_drew1) | exact HB.out)⟩⟩
      · rw [if_neg c10] at H
        have c10b0 : (t339.toList == t341.toList) = false := beq_eq_false_iff_ne.mpr c10
        have c10b1 : (t339.toList != t341.toList) = true := bne_iff_ne.mpr c10
        (first | rw [c10b0] | (simp only [i64_w, i32_w]; rw [c10b0]) | skip)
        have H' := Aside0.mk H
        clear H
        go_wp2
        go_meet
        case rel => exact ⟨_, (true), (by first | rfl | (simp; done) | (simp [*]; done)), H', ⟨by first | omega | exact Nat.le_refl _⟩, ⟨by repeat (first | (with_reducible first | exact HB.out | apply below_alloc | apply pw_below_drewN | apply below_drew1) | exact HB.out)⟩⟩
    case rest =>
      clear HC6
      try clear c1
      try clear c2
      try clear p2
      try clear c3
      try clear c5
      try clear c10
      try clear c10b0
      try clear c10b1
      obtain ⟨kq, x28_5, rfl, HA, HJ5, HB⟩ := hcut
      cases kq with
      | zero => exact absurd HA.out (by simp [tollbarlaw05_LineHosts.j0])
      | succ kj5 =>
        have H := HA.out
        clear HA
        simp only [tollbarlaw05_LineHosts.j0] at H
        by_cases c11 : x28_5 = true
        · subst c11
          have H1 : (some false) = some r := by rw [if_pos rfl] at H; exact H
          clear H
          have H := H1
          clear H1
          exact absurd ((Option.some.inj H).trans HRT.out) (by decide)
        · replace c11 := Bool.eq_false_iff.mpr c11
          subst c11
          have H1 : (if t340 = true then (if t339.size + 3 ≤ 9223372036854775807 then ((line_Host.f (t339 ++ (⟨#[58, 56, 48]⟩ : ByteArray))).bind fun bt343 => (if bt343.2 = true then (some (bt343.1.toList == t339.toList)) else (some false))) else (none)) else (some (t339.toList == ([] : List UInt8)))) = some r := by rw [if_neg (show ¬ (false = true) by decide)] at H; exact H
          clear H
          have H := H1
          clear H1
          by_cases c12 : t340 = true
          · subst c12
            have H1 : (if t339.size + 3 ≤ 9223372036854775807 then ((line_Host.f (t339 ++ (⟨#[58, 56, 48]⟩ : ByteArray))).bind fun bt343 => (if bt343.2 = true then (some (bt343.1.toList == t339.toList)) else (some false))) else (none)) = some r := by rw [if_pos rfl] at H; exact H
            clear H
            have H := H1
            clear H1
            by_cases c13 : t339.size + 3 ≤ 9223372036854775807
            · rw [if_pos c13] at H
              have c13b0 := eq_true c13
              have c13b1 : decide (t339.size + 3 ≤ 9223372036854775807) = true := decide_eq_true c13
              try have c13b2 : (9223372036854775807 < t339.size + 3) = False := eq_false (Nat.not_lt.2 c13)
              replace H := Option.bind_eq_some_iff.mp H
              obtain ⟨⟨t343, t344⟩, A140, H⟩ := H
              replace H : (if t344 = true then (some (t343.toList == t339.toList)) else (some false)) = some r := H
              have A14 := Aside0.mk A140
              clear A140
              by_cases c15 : t344 = true
              · subst c15
                have H1 : (some (t343.toList == t339.toList)) = some r := by rw [if_pos rfl] at H; exact H
                clear H
                have H := H1
                clear H1
                obtain rfl := Option.some.inj H
                go_wp2_with (first | ((with_reducible refine gate_callee (f := 20) rfl ?_); refine goesL_ (some 36) rfl rfl Tryd.func20 (by kernel_rfl) rfl #[.string (t339 ++ (⟨#[58, 56, 48]⟩ : ByteArray))] rfl (by (try simp only [List.map_toArray, List.map_cons, List.map_nil]); first | done | rfl | (simp only [List.length_drop, List.length_take]; rfl)) ?_; (with_reducible refine (line_Host.calls (t339 ++ (⟨#[58, 56, 48]⟩ : ByteArray)) t343 true _ A14.out).mono ?_); rintro e w16 ⟨rfl, hb⟩; (try clear A14); refine ⟨_, rfl, ?_⟩; have n0_ := Aside0.mk (below_step (by repeat (first | (with_reducible first | exact HB.out | apply below_alloc | apply pw_below_drewN | apply below_drew1) | exact HB.out)) hb); clear HB; have HB := n0_; clear n0_; (try clear hb); (try clear hb2); (try clear hk); (try clear hi)))
                go_ret
                exact ⟨by first | rfl | (simp [errW_none, errW_some] <;> rfl) | (simp [*, errW_none, errW_some] <;> rfl), by repeat (first | (with_reducible first | exact HB.out | apply below_alloc | apply pw_below_drewN | apply below_drew1) | exact HB.out)⟩
              · replace c15 := Bool.eq_false_iff.mpr c15
                subst c15
                have H1 : (some false) = some r := by rw [if_neg (show ¬ (false = true) by decide)] at H; exact H
                clear H
                have H := H1
                clear H1
                exact absurd ((Option.some.inj H).trans HRT.out) (by decide)
            · rw [if_neg c13] at H
              exact absurd H (by simp)
          · replace c12 := Bool.eq_false_iff.mpr c12
            subst c12
            have H1 : (some (t339.toList == ([] : List UInt8))) = some r := by rw [if_neg (show ¬ (false = true) by decide)] at H; exact H
            clear H
            have H := H1
            clear H1
            obtain rfl := Option.some.inj H
            go_wp2
            go_ret
            exact ⟨by first | rfl | (simp [errW_none, errW_some] <;> rfl) | (simp [*, errW_none, errW_some] <;> rfl), by repeat (first | (with_reducible first | exact HB.out | apply below_alloc | apply pw_below_drewN | apply below_drew1) | exact HB.out)⟩
  · replace c3 := Bool.eq_false_iff.mpr c3
    subst c3
    have H1 : (some false) = some r := by rw [if_neg (show ¬ (false = true) by decide)] at H; exact H
    clear H
    have H := H1
    clear H1
    exact absurd ((Option.some.inj H).trans HRT.out) (by decide)

/-- THE ONE PURE STATEMENT of tollbarlaw05_LineHosts: yours. -/
def tollbarlaw05_LineHosts.Pure : Prop := ∀ (a0 : ByteArray), a0.size ≤ 140737488351232 → ∃ k, tollbarlaw05_LineHosts.f k a0 = some true

end Go.Proofs.YtjgpifjfaiaidaaDoor.P

namespace Go.Proofs.YtjgpifjfaiaidaaDoor.P
open Go.RowKit Go.Proofs.YtjgpifjfaiaidaaDoorW.PrintWords Go.Proofs.YtjgpifjfaiaidaaDoorW.PrintLast Go.Proofs.YtjgpifjfaiaidaaDoorW.PrintMore
attribute [local go_sem] max2_int min2_int max_two min_two max_three min_three max_four min_four   -- for this text's walks alone
set_option linter.unusedVariables false
set_option linter.unusedSimpArgs false

def tollbarlaw05_LineRequests.f (k : Nat) (a0 : ByteArray) : Option (Bool) := (tollbarlaw05_reading.f k).bind fun t269 => (if t269 = true then ((line_Request.f k a0).bind fun bt270 => ((tollbarref05_Request.f k a0).bind fun bt281 => (if bt270.2.2.2.2.2 = bt281.2.2.2.2.2 then (if bt270.1.toList = bt281.1.toList then (if bt270.2.1.toList = bt281.2.1.toList then (if bt270.2.2.1 = bt281.2.2.1 then (if (bt270.2.2.2.1.length : Int) = 0 then (some ((bt270.2.2.2.2.1.length : Int) == 0)) else (some false)) else (some false)) else (some false)) else (some false)) else (some false)))) else (some false))
theorem tollbarlaw05_LineRequests.mono : ∀ a0 k, LeO (tollbarlaw05_LineRequests.f k a0) (tollbarlaw05_LineRequests.f (k + 1) a0) := by
  intro a0 k
  unfold tollbarlaw05_LineRequests.f
  repeat' first
      | (with_reducible exact line_Request.mono _ _)
      | (with_reducible exact tollbarlaw05_reading.mono _)
      | (with_reducible exact tollbarref05_Request.mono _ _)
      | (with_reducible exact LeO.refl _)
      | (with_reducible exact LeO.none _)
      | (with_reducible refine LeO.ite ?_ ?_)
      | (with_reducible refine LeO.bind ?_ (fun _ => ?_))
      | exact line_Request.mono _ _
      | exact tollbarlaw05_reading.mono _
      | exact tollbarref05_Request.mono _ _
      | exact LeO.none _
      | refine LeO.ite ?_ ?_
      | refine LeO.bind ?_ (fun _ => ?_)
set_option maxHeartbeats 8000000 in
set_option maxRecDepth 100000 in
theorem tollbarlaw05_LineRequests.calls (k : Nat) (a0 : ByteArray) (r : Bool) (w : World) (h : tollbarlaw05_LineRequests.f k a0 = some r) (hr : r = true) (ht : Tabs w) :
    Calls Tryd.prog 3 #[.string a0] w fun e w' => e = .returned (.bool r) ∧ Below w.heap.size w w' := by
  have HTB := Aside0.mk ht
  clear ht
  have HRT := Aside0.mk hr
  clear hr
  have hu26 := Tryd.underlying26
  have HB := Aside0.mk (Below.refl w.heap.size w)
  have H : ((tollbarlaw05_reading.f k).bind fun t269 => (if t269 = true then ((line_Request.f k a0).bind fun bt270 => ((tollbarref05_Request.f k a0).bind fun bt281 => (if bt270.2.2.2.2.2 = bt281.2.2.2.2.2 then (if bt270.1.toList = bt281.1.toList then (if bt270.2.1.toList = bt281.2.1.toList then (if bt270.2.2.1 = bt281.2.2.1 then (if (bt270.2.2.2.1.length : Int) = 0 then (some ((bt270.2.2.2.2.1.length : Int) == 0)) else (some false)) else (some false)) else (some false)) else (some false)) else (some false)))) else (some false))) = some r := h
  clear h
  replace H := Option.bind_eq_some_iff.mp H
  obtain ⟨t269, A20, H⟩ := H
  replace H : (if t269 = true then ((line_Request.f k a0).bind fun bt270 => ((tollbarref05_Request.f k a0).bind fun bt281 => (if bt270.2.2.2.2.2 = bt281.2.2.2.2.2 then (if bt270.1.toList = bt281.1.toList then (if bt270.2.1.toList = bt281.2.1.toList then (if bt270.2.2.1 = bt281.2.2.1 then (if (bt270.2.2.2.1.length : Int) = 0 then (some ((bt270.2.2.2.2.1.length : Int) == 0)) else (some false)) else (some false)) else (some false)) else (some false)) else (some false)))) else (some false)) = some r := H
  have A2 := Aside0.mk A20
  clear A20
  by_cases c3 : t269 = true
  · subst c3
    have H1 : ((line_Request.f k a0).bind fun bt270 => ((tollbarref05_Request.f k a0).bind fun bt281 => (if bt270.2.2.2.2.2 = bt281.2.2.2.2.2 then (if bt270.1.toList = bt281.1.toList then (if bt270.2.1.toList = bt281.2.1.toList then (if bt270.2.2.1 = bt281.2.2.1 then (if (bt270.2.2.2.1.length : Int) = 0 then (some ((bt270.2.2.2.2.1.length : Int) == 0)) else (some false)) else (some false)) else (some false)) else (some false)) else (some false)))) = some r := by rw [if_pos rfl] at H; exact H
    clear H
    have H := H1
    clear H1
    replace H := Option.bind_eq_some_iff.mp H
    obtain ⟨⟨t270, t271, t272, t273, t276, t279⟩, A40, H⟩ := H
    replace H : ((tollbarref05_Request.f k a0).bind fun bt281 => (if t279 = bt281.2.2.2.2.2 then (if t270.toList = bt281.1.toList then (if t271.toList = bt281.2.1.toList then (if t272 = bt281.2.2.1 then (if (t273.length : Int) = 0 then (some ((t276.length : Int) == 0)) else (some false)) else (some false)) else (some false)) else (some false)) else (some false))) = some r := H
    have A4 := Aside0.mk A40
    clear A40
    replace H := Option.bind_eq_some_iff.mp H
    obtain ⟨⟨t281, t282, t283, t284, t287, t290⟩, A50, H⟩ := H
    replace H : (if t279 = t290 then (if t270.toList = t281.toList then (if t271.toList = t282.toList then (if t272 = t283 then (if (t273.length : Int) = 0 then (some ((t276.length : Int) == 0)) else (some false)) else (some false)) else (some false)) else (some false)) else (some false)) = some r := H
    have A5 := Aside0.mk A50
    clear A50
    by_cases c6 : t279 = t290
    · rw [if_pos c6] at H
      have c6b0 : (t279 == t290) = true := beq_iff_eq.mpr c6
      have c6b1 : (t279 != t290) = false := bne_eq_false_iff_eq.mpr c6
      clear c6
      by_cases c7 : t270.toList = t281.toList
      · rw [if_pos c7] at H
        have c7b0 : (t270.toList == t281.toList) = true := beq_iff_eq.mpr c7
        have c7b1 : (t270.toList != t281.toList) = false := bne_eq_false_iff_eq.mpr c7
        clear c7
        by_cases c8 : t271.toList = t282.toList
        · rw [if_pos c8] at H
          have c8b0 : (t271.toList == t282.toList) = true := beq_iff_eq.mpr c8
          have c8b1 : (t271.toList != t282.toList) = false := bne_eq_false_iff_eq.mpr c8
          clear c8
          by_cases c9 : t272 = t283
          · rw [if_pos c9] at H
            have c9b0 : (t272 == t283) = true := beq_iff_eq.mpr c9
            have c9b1 : (t272 != t283) = false := bne_eq_false_iff_eq.mpr c9
            clear c9
            by_cases c10 : (t273.length : Int) = 0
            · rw [if_pos c10] at H
              have c10b0 : ((t273.length : Int) == 0) = true := beq_iff_eq.mpr c10
              have c10b1 : ((t273.length : Int) != 0) = false := bne_eq_false_iff_eq.mpr c10
              clear c10
              obtain rfl := Option.some.inj H
              go_enter Tryd.func3, Tryd.ntmps3
              go_wp2_with (first | ((with_reducible refine gate_callee (f := 15) rfl ?_); refine goesL_ (some 7) rfl rfl Tryd.func15 (by kernel_rfl) rfl #[] rfl (by (try simp only [List.map_toArray, List.map_cons, List.map_nil]); first | done | rfl | (simp only [List.length_drop, List.length_take]; rfl)) ?_; (with_reducible refine (tollbarlaw05_reading.calls k  true _ A2.out rfl ?hT).mono ?_); (case hT => exact HTB.out.below (by repeat (first | (with_reducible first | exact HB.out | apply below_alloc | apply pw_below_drewN | apply below_drew1 | refine below_set ?_ GE280.out | refine below_set ?_ GE291.out) | exact HB.out))); rintro e w11 ⟨rfl, hb⟩; (try clear A2); refine ⟨_, rfl, ?_⟩; have n0_ := Aside0.mk (below_step (by repeat (first | (with_reducible first | exact HB.out | apply below_alloc | apply pw_below_drewN | apply below_drew1) | exact HB.out)) hb); clear HB; have HB := n0_; clear n0_; (try clear hb); (try clear hb2); (try clear hk); (try clear hi)) | ((with_reducible refine gate_callee (f := 16) rfl ?_); refine goesL_ (some 11) rfl rfl Tryd.func16 (by kernel_rfl) rfl #[.string a0] rfl (by (try simp only [List.map_toArray, List.map_cons, List.map_nil]); first | done | rfl | (simp only [List.length_drop, List.length_take]; rfl)) ?_; (with_reducible refine (line_Request.calls k a0 t270 t271 t272 t273 t276 t279 _ A4.out).mono ?_); rintro e w12 ⟨v274, v277, rfl, ho0, ho1, hb⟩; (try clear A4); refine ⟨_, rfl, ?_⟩; have n0_ := Aside0.mk (Kd.R_lower ho0 (below_size (by repeat (first | (with_reducible first | exact HB.out | apply below_alloc | apply pw_below_drewN | apply below_drew1) | exact HB.out)))); have n1_ := Aside0.mk (Kd.R_lower ho1 (below_size (by repeat (first | (with_reducible first | exact HB.out | apply below_alloc | apply pw_below_drewN | apply below_drew1) | exact HB.out)))); have n2_ := Aside0.mk (below_step (by repeat (first | (with_reducible first | exact HB.out | apply below_alloc | apply pw_below_drewN | apply below_drew1) | exact HB.out)) hb); clear HB; have HO275 := n0_; have HO278 := n1_; have HB := n2_; clear n0_ n1_ n2_; (try clear hb); (try clear hb2); (try clear hk); (try clear hi); (try clear ho0); (try clear ho1)) | ((with_reducible refine gate_dst (N := 3) rfl ?_); (try (refine gate_guard (by rfl) ?_; dsimp only)); refine box_event ?hg (N := 3) ?hd (cs := #[.string (⟨#[]⟩ : ByteArray), .string (⟨#[]⟩ : ByteArray), .int .i64 0, .slice none 0 0, .slice none 0 0]) (t := 26) ?hr ?_; (case hd => rfl); (case hg => rfl); (case hr => first | (go_simp; done) | (go_simp; rfl)); intro gb280 hg w13 hbox hb; have n0_ := Aside0.mk (Kd.R_below (by (with_reducible repeat (first | apply Kd.R_alloc | apply Kd.R_drewN | apply Kd.R_drew)); exact HO275.out) hb); have n1_ := Aside0.mk (Kd.R_below (by (with_reducible repeat (first | apply Kd.R_alloc | apply Kd.R_drewN | apply Kd.R_drew)); exact HO278.out) hb); have n2_ := Aside0.mk (below_step (by repeat (first | (with_reducible first | exact HB.out | apply below_alloc | apply pw_below_drewN | apply below_drew1) | exact HB.out)) hb); have n3_ := Aside0.mk (hbox); have n4_ := Aside0.mk ((by rw [hg]; exact (below_size (by repeat (first | (with_reducible first | exact HB.out | apply below_alloc | apply pw_below_drewN | apply below_drew1) | exact HB.out))) : w.heap.size ≤ gb280)); have n5_ := Aside0.mk ((by rw [hg]; exact (below_size (by repeat (first | (with_reducible first | exact HB.out | apply below_alloc | apply pw_below_drewN | apply below_drew1) | exact HB.out))) : w.heap.size ≤ gb280)); clear HO275; clear HO278; clear HB; have HO275 := n0_; have HO278 := n1_; have HB := n2_; have BK280 := n3_; have GW280 := n4_; have GE280 := n5_; clear n0_ n1_ n2_ n3_ n4_ n5_; clear hb hbox hg; have hcz14_0 : w13.cell? ⟨gb280, 0, none⟩ = some (.string (⟨#[]⟩ : ByteArray)) := (blk_cell BK280.out 0).trans rfl; have hcz14_1 : w13.cell? ⟨gb280, 1, none⟩ = some (.string (⟨#[]⟩ : ByteArray)) := (blk_cell BK280.out 1).trans rfl; have hcz14_2 : w13.cell? ⟨gb280, 2, none⟩ = some (.int .i64 0) := (blk_cell BK280.out 2).trans rfl; have hcz14_3 : w13.cell? ⟨gb280, 3, none⟩ = some (.slice none 0 0) := (blk_cell BK280.out 3).trans rfl; have hcz14_4 : w13.cell? ⟨gb280, 4, none⟩ = some (.slice none 0 0) := (blk_cell BK280.out 4).trans rfl; have hfz14_0 := blk_frozen BK280.out 0; have hfz14_1 := blk_frozen BK280.out 1; have hfz14_2 := blk_frozen BK280.out 2; have hfz14_3 := blk_frozen BK280.out 3; have hfz14_4 := blk_frozen BK280.out 4; obtain ⟨Ao15, co15, eo15⟩ := Kd.R_slice HO275.out; subst eo15; obtain ⟨Ao16, co16, eo16⟩ := Kd.R_slice HO278.out; subst eo16) | ((with_reducible refine gate_callee (f := 17) rfl ?_); refine goesL_ (some 16) rfl rfl Tryd.func17 (by kernel_rfl) rfl #[.string a0] rfl (by (try simp only [List.map_toArray, List.map_cons, List.map_nil]); first | done | rfl | (simp only [List.length_drop, List.length_take]; rfl)) ?_; (with_reducible refine (tollbarref05_Request.calls k a0 t281 t282 t283 t284 t287 t290 _ A5.out).mono ?_); rintro e w17 ⟨v285, v288, rfl, ho0, ho1, hb⟩; (try clear A5); refine ⟨_, rfl, ?_⟩; have n0_ := Aside0.mk (Kd.R_elder' (by (with_reducible repeat (first | apply Kd.R_alloc | apply Kd.R_drewN | apply Kd.R_drew)); exact (Kd.R_mono (Kd.R_far (p := ⟨gb280, 4, none⟩) (Kd.R_far (p := ⟨gb280, 3, none⟩) (Kd.R_far (p := ⟨gb280, 2, none⟩) (Kd.R_far (p := ⟨gb280, 1, none⟩) (Kd.R_far (p := ⟨gb280, 0, none⟩) (Kd.R_types HO275.out BK280.out (by decide)) (fun _ hk => hk.2) (.string t270)) (fun _ hk => hk.2) (.string t271)) (fun _ hk => hk.2) (.int .i64 t272)) (fun _ hk => hk.2) (.slice Ao15 t273.length co15)) (fun _ hk => hk.2) (.slice Ao16 t276.length co16)) (fun _ h_ => h_.1))) (Kd.R_base ho0) hb); have n1_ := Aside0.mk (Kd.R_elder' (by (with_reducible repeat (first | apply Kd.R_alloc | apply Kd.R_drewN | apply Kd.R_drew)); exact (Kd.R_mono (Kd.R_far (p := ⟨gb280, 4, none⟩) (Kd.R_far (p := ⟨gb280, 3, none⟩) (Kd.R_far (p := ⟨gb280, 2, none⟩) (Kd.R_far (p := ⟨gb280, 1, none⟩) (Kd.R_far (p := ⟨gb280, 0, none⟩) (Kd.R_types HO278.out BK280.out (by decide)) (fun _ hk => hk.2) (.string t270)) (fun _ hk => hk.2) (.string t271)) (fun _ hk => hk.2) (.int .i64 t272)) (fun _ hk => hk.2) (.slice Ao15 t273.length co15)) (fun _ hk => hk.2) (.slice Ao16 t276.length co16)) (fun _ h_ => h_.1))) (Kd.R_base ho1) hb); have n2_ := Aside0.mk (Kd.R_lower (Kd.R_new' ho0 (Kd.R_lt (by (with_reducible repeat (first | apply Kd.R_alloc | apply Kd.R_drewN | apply Kd.R_drew)); exact (Kd.R_mono (Kd.R_far (p := ⟨gb280, 4, none⟩) (Kd.R_far (p := ⟨gb280, 3, none⟩) (Kd.R_far (p := ⟨gb280, 2, none⟩) (Kd.R_far (p := ⟨gb280, 1, none⟩) (Kd.R_far (p := ⟨gb280, 0, none⟩) (Kd.R_types HO275.out BK280.out (by decide)) (fun _ hk => hk.2) (.string t270)) (fun _ hk => hk.2) (.string t271)) (fun _ hk => hk.2) (.int .i64 t272)) (fun _ hk => hk.2) (.slice Ao15 t273.length co15)) (fun _ hk => hk.2) (.slice Ao16 t276.length co16)) (fun _ h_ => h_.1))))) (below_size (by repeat (first | (with_reducible first | exact HB.out | apply below_alloc | apply pw_below_drewN | apply below_drew1 | refine below_set ?_ GE280.out) | exact HB.out)))); have n3_ := Aside0.mk (Kd.R_lower (Kd.R_new' ho1 (Kd.R_lt (by (with_reducible repeat (first | apply Kd.R_alloc | apply Kd.R_drewN | apply Kd.R_drew)); exact (Kd.R_mono (Kd.R_far (p := ⟨gb280, 4, none⟩) (Kd.R_far (p := ⟨gb280, 3, none⟩) (Kd.R_far (p := ⟨gb280, 2, none⟩) (Kd.R_far (p := ⟨gb280, 1, none⟩) (Kd.R_far (p := ⟨gb280, 0, none⟩) (Kd.R_types HO278.out BK280.out (by decide)) (fun _ hk => hk.2) (.string t270)) (fun _ hk => hk.2) (.string t271)) (fun _ hk => hk.2) (.int .i64 t272)) (fun _ hk => hk.2) (.slice Ao15 t273.length co15)) (fun _ hk => hk.2) (.slice Ao16 t276.length co16)) (fun _ h_ => h_.1))))) (below_size (by repeat (first | (with_reducible first | exact HB.out | apply below_alloc | apply pw_below_drewN | apply below_drew1 | refine below_set ?_ GE280.out) | exact HB.out)))); have n4_ := Aside0.mk (blk_below (g := gb280) (o := .cells #[.string t270, .string t271, .int .i64 t272, .slice Ao15 t273.length co15, .slice Ao16 t276.length co16] 26 (0, 0)) (by (with_reducible repeat (first | refine blk_drewN ?_ _ | refine blk_drew ?_ | refine blk_alloc ?_ _)); refine blk_put (cs := #[.string t270, .string t271, .int .i64 t272, .slice Ao15 t273.length co15, .slice none 0 0]) ?_ 4 _ rfl; (with_reducible repeat (first | refine blk_drewN ?_ _ | refine blk_drew ?_ | refine blk_alloc ?_ _)); refine blk_put (cs := #[.string t270, .string t271, .int .i64 t272, .slice none 0 0, .slice none 0 0]) ?_ 3 _ rfl; (with_reducible repeat (first | refine blk_drewN ?_ _ | refine blk_drew ?_ | refine blk_alloc ?_ _)); refine blk_put (cs := #[.string t270, .string t271, .int .i64 0, .slice none 0 0, .slice none 0 0]) ?_ 2 _ rfl; (with_reducible repeat (first | refine blk_drewN ?_ _ | refine blk_drew ?_ | refine blk_alloc ?_ _)); refine blk_put (cs := #[.string t270, .string (⟨#[]⟩ : ByteArray), .int .i64 0, .slice none 0 0, .slice none 0 0]) ?_ 1 _ rfl; (with_reducible repeat (first | refine blk_drewN ?_ _ | refine blk_drew ?_ | refine blk_alloc ?_ _)); refine blk_put (cs := #[.string (⟨#[]⟩ : ByteArray), .string (⟨#[]⟩ : ByteArray), .int .i64 0, .slice none 0 0, .slice none 0 0]) ?_ 0 _ rfl; (with_reducible repeat (first | refine blk_drewN ?_ _ | refine blk_drew ?_ | refine blk_alloc ?_ _)); exact BK280.out) hb); have n5_ := Aside0.mk (below_step (by repeat (first | (with_reducible first | exact HB.out | apply below_alloc | apply pw_below_drewN | apply below_drew1 | refine below_set ?_ GE280.out) | exact HB.out)) hb); clear HO275; clear HO278; clear BK280; clear HB; have HO275 := n0_; have HO278 := n1_; have HO286 := n2_; have HO289 := n3_; have BK280 := n4_; have HB := n5_; clear n0_ n1_ n2_ n3_ n4_ n5_; (try clear hb); (try clear hb2); (try clear hk); (try clear hi); (try clear ho0); (try clear ho1)) | ((with_reducible refine gate_dst (N := 5) rfl ?_); (try (refine gate_guard (by rfl) ?_; dsimp only)); refine box_event ?hg (N := 5) ?hd (cs := #[.string (⟨#[]⟩ : ByteArray), .string (⟨#[]⟩ : ByteArray), .int .i64 0, .slice none 0 0, .slice none 0 0]) (t := 26) ?hr ?_; (case hd => rfl); (case hg => rfl); (case hr => first | (go_simp; done) | (go_simp; rfl)); intro gb291 hg w18 hbox hb; have n0_ := Aside0.mk (Kd.R_below (by (with_reducible repeat (first | apply Kd.R_alloc | apply Kd.R_drewN | apply Kd.R_drew)); exact HO275.out) hb); have n1_ := Aside0.mk (Kd.R_below (by (with_reducible repeat (first | apply Kd.R_alloc | apply Kd.R_drewN | apply Kd.R_drew)); exact HO278.out) hb); have n2_ := Aside0.mk (Kd.R_below (by (with_reducible repeat (first | apply Kd.R_alloc | apply Kd.R_drewN | apply Kd.R_drew)); exact HO286.out) hb); have n3_ := Aside0.mk (Kd.R_below (by (with_reducible repeat (first | apply Kd.R_alloc | apply Kd.R_drewN | apply Kd.R_drew)); exact HO289.out) hb); have n4_ := Aside0.mk (blk_below (g := gb280) (o := .cells #[.string t270, .string t271, .int .i64 t272, .slice Ao15 t273.length co15, .slice Ao16 t276.length co16] 26 (0, 0)) (by (with_reducible repeat (first | refine blk_drewN ?_ _ | refine blk_drew ?_ | refine blk_alloc ?_ _)); exact BK280.out) hb); have n5_ := Aside0.mk (below_step (by repeat (first | (with_reducible first | exact HB.out | apply below_alloc | apply pw_below_drewN | apply below_drew1 | refine below_set ?_ GE280.out) | exact HB.out)) hb); have n6_ := Aside0.mk (hbox); have n7_ := Aside0.mk ((by rw [hg]; exact (below_size (by repeat (first | (with_reducible first | exact HB.out | apply below_alloc | apply pw_below_drewN | apply below_drew1 | refine below_set ?_ GE280.out) | exact HB.out))) : w.heap.size ≤ gb291)); have n8_ := Aside0.mk ((by rw [hg]; exact (below_size (by repeat (first | (with_reducible first | exact HB.out | apply below_alloc | apply pw_below_drewN | apply below_drew1 | refine below_set ?_ GE280.out) | exact HB.out))) : w.heap.size ≤ gb291)); have n9_ := Aside0.mk ((by rw [hg]; exact Nat.ne_of_lt (blk_lt (g := gb280) (o := .cells #[.string t270, .string t271, .int .i64 t272, .slice Ao15 t273.length co15, .slice Ao16 t276.length co16] 26 (0, 0)) (by (with_reducible repeat (first | refine blk_drewN ?_ _ | refine blk_drew ?_ | refine blk_alloc ?_ _)); exact BK280.out)) : gb280 ≠ gb291)); have n10_ := Aside0.mk ((by rw [hg]; exact Nat.ne_of_gt (blk_lt (g := gb280) (o := .cells #[.string t270, .string t271, .int .i64 t272, .slice Ao15 t273.length co15, .slice Ao16 t276.length co16] 26 (0, 0)) (by (with_reducible repeat (first | refine blk_drewN ?_ _ | refine blk_drew ?_ | refine blk_alloc ?_ _)); exact BK280.out)) : gb291 ≠ gb280)); clear HO275; clear HO278; clear HO286; clear HO289; clear BK280; clear HB; have HO275 := n0_; have HO278 := n1_; have HO286 := n2_; have HO289 := n3_; have BK280 := n4_; have HB := n5_; have BK291 := n6_; have GW291 := n7_; have GE291 := n8_; have NB280_291 := n9_; have NB291_280 := n10_; clear n0_ n1_ n2_ n3_ n4_ n5_ n6_ n7_ n8_ n9_ n10_; clear hb hbox hg; have hnb19 := NB291_280.out; have hnc19 := NB280_291.out; have hcz20_0 : w18.cell? ⟨gb291, 0, none⟩ = some (.string (⟨#[]⟩ : ByteArray)) := (blk_cell BK291.out 0).trans rfl; have hcz20_1 : w18.cell? ⟨gb291, 1, none⟩ = some (.string (⟨#[]⟩ : ByteArray)) := (blk_cell BK291.out 1).trans rfl; have hcz20_2 : w18.cell? ⟨gb291, 2, none⟩ = some (.int .i64 0) := (blk_cell BK291.out 2).trans rfl; have hcz20_3 : w18.cell? ⟨gb291, 3, none⟩ = some (.slice none 0 0) := (blk_cell BK291.out 3).trans rfl; have hcz20_4 : w18.cell? ⟨gb291, 4, none⟩ = some (.slice none 0 0) := (blk_cell BK291.out 4).trans rfl; have hfz20_0 := blk_frozen BK291.out 0; have hfz20_1 := blk_frozen BK291.out 1; have hfz20_2 := blk_frozen BK291.out 2; have hfz20_3 := blk_frozen BK291.out 3; have hfz20_4 := blk_frozen BK291.out 4; obtain ⟨Ao21, co21, eo21⟩ := Kd.R_slice HO286.out; subst eo21; obtain ⟨Ao22, co22, eo22⟩ := Kd.R_slice HO289.out; subst eo22; have hcz23_0 : w18.cell? ⟨gb280, 0, none⟩ = some (.string t270) := (blk_cell BK280.out 0).trans rfl; have hcz23_1 : w18.cell? ⟨gb280, 1, none⟩ = some (.string t271) := (blk_cell BK280.out 1).trans rfl; have hcz23_2 : w18.cell? ⟨gb280, 2, none⟩ = some (.int .i64 t272) := (blk_cell BK280.out 2).trans rfl; have hcz23_3 : w18.cell? ⟨gb280, 3, none⟩ = some (.slice Ao15 t273.length co15) := (blk_cell BK280.out 3).trans rfl; have hcz23_4 : w18.cell? ⟨gb280, 4, none⟩ = some (.slice Ao16 t276.length co16) := (blk_cell BK280.out 4).trans rfl; have hfz23_0 := blk_frozen BK280.out 0; have hfz23_1 := blk_frozen BK280.out 1; have hfz23_2 := blk_frozen BK280.out 2; have hfz23_3 := blk_frozen BK280.out 3; have hfz23_4 := blk_frozen BK280.out 4))
              go_ret
              exact ⟨by first | rfl | (simp [errW_none, errW_some] <;> rfl) | (simp [*, errW_none, errW_some] <;> rfl), by repeat (first | (with_reducible first | exact HB.out | apply below_alloc | apply pw_below_drewN | apply below_drew1 | refine below_set ?_ GE280.out | refine below_set ?_ GE291.out) | exact HB.out)⟩
            · rw [if_neg c10] at H
              have c10b0 : ((t273.length : Int) == 0) = false := beq_eq_false_iff_ne.mpr c10
              have c10b1 : ((t273.length : Int) != 0) = true := bne_iff_ne.mpr c10
              have c10b2 : ¬ (t273 = []) := fun h_ => c10 (by rw [h_]; rfl)
              exact absurd ((Option.some.inj H).trans HRT.out) (by decide)
          · rw [if_neg c9] at H
            have c9b0 : (t272 == t283) = false := beq_eq_false_iff_ne.mpr c9
            have c9b1 : (t272 != t283) = true := bne_iff_ne.mpr c9
            exact absurd ((Option.some.inj H).trans HRT.out) (by decide)
        · rw [if_neg c8] at H
          have c8b0 : (t271.toList == t282.toList) = false := beq_eq_false_iff_ne.mpr c8
          have c8b1 : (t271.toList != t282.toList) = true := bne_iff_ne.mpr c8
          exact absurd ((Option.some.inj H).trans HRT.out) (by decide)
      · rw [if_neg c7] at H
        have c7b0 : (t270.toList == t281.toList) = false := beq_eq_false_iff_ne.mpr c7
        have c7b1 : (t270.toList != t281.toList) = true := bne_iff_ne.mpr c7
        exact absurd ((Option.some.inj H).trans HRT.out) (by decide)
    · rw [if_neg c6] at H
      have c6b0 : (t279 == t290) = false := beq_eq_false_iff_ne.mpr c6
      have c6b1 : (t279 != t290) = true := bne_iff_ne.mpr c6
      exact absurd ((Option.some.inj H).trans HRT.out) (by decide)
  · replace c3 := Bool.eq_false_iff.mpr c3
    subst c3
    have H1 : (some false) = some r := by rw [if_neg (show ¬ (false = true) by decide)] at H; exact H
    clear H
    have H := H1
    clear H1
    exact absurd ((Option.some.inj H).trans HRT.out) (by decide)

/-- THE ONE PURE STATEMENT of tollbarlaw05_LineRequests: yours. -/
def tollbarlaw05_LineRequests.Pure : Prop := ∀ (a0 : ByteArray), a0.size ≤ 140737488351232 → ∃ k, tollbarlaw05_LineRequests.f k a0 = some true

end Go.Proofs.YtjgpifjfaiaidaaDoor.P

