/- Each function below answers as its Lean twin says; a law answers true at every input that its row speaks of. No further condition. (Laid by this repo's seatprint.py.) -/
import Derived.Test.YthkkkfeiklfjoaaDoorPx0
import Derived.Test.YthkkkfeiklfjoaaDoorFsignSplit
import Derived.Test.YthkkkfeiklfjoaaDoorFsignTrim
import Derived.Test.YthkkkfeiklfjoaaDoorFtollbarlaw02texts
import Derived.Test.YthkkkfeiklfjoaaDoorFtollbarref01SameTexts
namespace Go.Proofs.YthkkkfeiklfjoaaDoor.P
open Go.RowKit Go.Proofs.YthkkkfeiklfjoaaDoorW.PrintWords Go.Proofs.YthkkkfeiklfjoaaDoorW.PrintLast Go.Proofs.YthkkkfeiklfjoaaDoorW.PrintMore
attribute [local go_sem] max2_int min2_int max_two min_two max_three min_three max_four min_four   -- for this text's walks alone
set_option linter.unusedVariables false
set_option linter.unusedSimpArgs false

/-! ### tollbarlaw02_SignParts: function 7 -/
mutual
def tollbarlaw02_SignParts.l0 : Nat → List ByteArray → ByteArray → List ByteArray → Int → Int → Option (Bool)
  | 0, _, _, _, _, _ => none
  | k + 1, x3, x4, x12, x13, x14 => if x14 < x13 then (if 0 ≤ x14 then (if x14 < (x12.length : Int) then (if (rdOf ByteArray.empty x12 x14).toList = ([] : List UInt8) then (tollbarlaw02_SignParts.j1 k x3 x4 (rdOf ByteArray.empty x12 x14) x12 x13 x14 true) else ((sign_Trim.f (rdOf ByteArray.empty x12 x14)).bind fun t240 => (tollbarlaw02_SignParts.j1 k x3 x4 (rdOf ByteArray.empty x12 x14) x12 x13 x14 (t240.toList != (rdOf ByteArray.empty x12 x14).toList)))) else (none)) else (none)) else ((sign_Split.f k x4).bind fun t235 => ((tollbarref01_SameTexts.f k t235 x3).bind fun t238 => (some t238)))
def tollbarlaw02_SignParts.j1 : Nat → List ByteArray → ByteArray → ByteArray → List ByteArray → Int → Int → Bool → Option (Bool)
  | 0, _, _, _, _, _, _, _ => none
  | k + 1, x3, x4, x6, x12, x13, x14, x25 => if x25 = true then (some false) else (tollbarlaw02_SignParts.l1 k x3 x4 x6 0 x12 x13 x14)
def tollbarlaw02_SignParts.l1 : Nat → List ByteArray → ByteArray → ByteArray → Int → List ByteArray → Int → Int → Option (Bool)
  | 0, _, _, _, _, _, _, _ => none
  | k + 1, x3, x4, x6, x7, x12, x13, x14 => if x7 < (x6.size : Int) then (if 0 ≤ x7 then (if (bt x6 x7) = 44 then (some false) else (tollbarlaw02_SignParts.l1 k x3 x4 x6 (wrap64 (x7 + 1)) x12 x13 x14)) else (none)) else (if x4.size + x6.size ≤ 9223372036854775807 then (if (x4 ++ x6).size + 4 ≤ 9223372036854775807 then (tollbarlaw02_SignParts.l0 k x3 ((x4 ++ x6) ++ (⟨#[9, 44, 44, 32]⟩ : ByteArray)) x12 x13 (wrap64 (x14 + 1))) else (none)) else (none))
end
def tollbarlaw02_SignParts.f (k : Nat) (a0 : ByteArray) : Option (Bool) := (tollbarlaw02_texts.f k).bind fun t231 => (if t231 = true then ((sign_Split.f k a0).bind fun t232 => (tollbarlaw02_SignParts.l0 k t232 (⟨#[32, 44, 32]⟩ : ByteArray) t232 (t232.length : Int) 0)) else (some false))
theorem tollbarlaw02_SignParts.mono_l : ∀ k, (∀ y0 y1 y2 y3 y4, LeO (tollbarlaw02_SignParts.l0 k y0 y1 y2 y3 y4) (tollbarlaw02_SignParts.l0 (k + 1) y0 y1 y2 y3 y4)) ∧ (∀ y0 y1 y2 y3 y4 y5 y6, LeO (tollbarlaw02_SignParts.j1 k y0 y1 y2 y3 y4 y5 y6) (tollbarlaw02_SignParts.j1 (k + 1) y0 y1 y2 y3 y4 y5 y6)) ∧ (∀ y0 y1 y2 y3 y4 y5 y6, LeO (tollbarlaw02_SignParts.l1 k y0 y1 y2 y3 y4 y5 y6) (tollbarlaw02_SignParts.l1 (k + 1) y0 y1 y2 y3 y4 y5 y6))
  | 0 => ⟨fun _ _ _ _ _ r h => by simp [tollbarlaw02_SignParts.l0] at h, fun _ _ _ _ _ _ _ r h => by simp [tollbarlaw02_SignParts.j1] at h, fun _ _ _ _ _ _ _ r h => by simp [tollbarlaw02_SignParts.l1] at h⟩
  | k + 1 => by
    obtain ⟨ih0, ih1, ih2⟩ := tollbarlaw02_SignParts.mono_l k
    refine ⟨?_, ?_, ?_⟩
    · intro y0 y1 y2 y3 y4
      unfold tollbarlaw02_SignParts.l0
      repeat' first
      | (with_reducible exact ih0 _ _ _ _ _)
      | (with_reducible exact ih1 _ _ _ _ _ _ _)
      | (with_reducible exact ih2 _ _ _ _ _ _ _)
      | (with_reducible exact sign_Split.mono _ _)
      | (with_reducible exact tollbarlaw02_texts.mono _)
      | (with_reducible exact tollbarref01_SameTexts.mono _ _ _)
      | (with_reducible exact LeO.refl _)
      | (with_reducible exact LeO.none _)
      | (with_reducible refine LeO.ite ?_ ?_)
      | (with_reducible refine LeO.bind ?_ (fun _ => ?_))
      | exact ih0 _ _ _ _ _
      | exact ih1 _ _ _ _ _ _ _
      | exact ih2 _ _ _ _ _ _ _
      | exact sign_Split.mono _ _
      | exact tollbarlaw02_texts.mono _
      | exact tollbarref01_SameTexts.mono _ _ _
      | exact LeO.none _
      | refine LeO.ite ?_ ?_
      | refine LeO.bind ?_ (fun _ => ?_)
    · intro y0 y1 y2 y3 y4 y5 y6
      unfold tollbarlaw02_SignParts.j1
      repeat' first
      | (with_reducible exact ih0 _ _ _ _ _)
      | (with_reducible exact ih1 _ _ _ _ _ _ _)
      | (with_reducible exact ih2 _ _ _ _ _ _ _)
      | (with_reducible exact sign_Split.mono _ _)
      | (with_reducible exact tollbarlaw02_texts.mono _)
      | (with_reducible exact tollbarref01_SameTexts.mono _ _ _)
      | (with_reducible exact LeO.refl _)
      | (with_reducible exact LeO.none _)
      | (with_reducible refine LeO.ite ?_ ?_)
      | (with_reducible refine LeO.bind ?_ (fun _ => ?_))
      | exact ih0 _ _ _ _ _
      | exact ih1 _ _ _ _ _ _ _
      | exact ih2 _ _ _ _ _ _ _
      | exact sign_Split.mono _ _
      | exact tollbarlaw02_texts.mono _
      | exact tollbarref01_SameTexts.mono _ _ _
      | exact LeO.none _
      | refine LeO.ite ?_ ?_
      | refine LeO.bind ?_ (fun _ => ?_)
    · intro y0 y1 y2 y3 y4 y5 y6
      unfold tollbarlaw02_SignParts.l1
      repeat' first
      | (with_reducible exact ih0 _ _ _ _ _)
      | (with_reducible exact ih1 _ _ _ _ _ _ _)
      | (with_reducible exact ih2 _ _ _ _ _ _ _)
      | (with_reducible exact sign_Split.mono _ _)
      | (with_reducible exact tollbarlaw02_texts.mono _)
      | (with_reducible exact tollbarref01_SameTexts.mono _ _ _)
      | (with_reducible exact LeO.refl _)
      | (with_reducible exact LeO.none _)
      | (with_reducible refine LeO.ite ?_ ?_)
      | (with_reducible refine LeO.bind ?_ (fun _ => ?_))
      | exact ih0 _ _ _ _ _
      | exact ih1 _ _ _ _ _ _ _
      | exact ih2 _ _ _ _ _ _ _
      | exact sign_Split.mono _ _
      | exact tollbarlaw02_texts.mono _
      | exact tollbarref01_SameTexts.mono _ _ _
      | exact LeO.none _
      | refine LeO.ite ?_ ?_
      | refine LeO.bind ?_ (fun _ => ?_)
theorem tollbarlaw02_SignParts.mono : ∀ a0 k, LeO (tollbarlaw02_SignParts.f k a0) (tollbarlaw02_SignParts.f (k + 1) a0) := by
  intro a0 k
  obtain ⟨ih0, ih1, ih2⟩ := tollbarlaw02_SignParts.mono_l k
  unfold tollbarlaw02_SignParts.f
  repeat' first
      | (with_reducible exact ih0 _ _ _ _ _)
      | (with_reducible exact ih1 _ _ _ _ _ _ _)
      | (with_reducible exact ih2 _ _ _ _ _ _ _)
      | (with_reducible exact sign_Split.mono _ _)
      | (with_reducible exact tollbarlaw02_texts.mono _)
      | (with_reducible exact tollbarref01_SameTexts.mono _ _ _)
      | (with_reducible exact LeO.refl _)
      | (with_reducible exact LeO.none _)
      | (with_reducible refine LeO.ite ?_ ?_)
      | (with_reducible refine LeO.bind ?_ (fun _ => ?_))
      | exact ih0 _ _ _ _ _
      | exact ih1 _ _ _ _ _ _ _
      | exact ih2 _ _ _ _ _ _ _
      | exact sign_Split.mono _ _
      | exact tollbarlaw02_texts.mono _
      | exact tollbarref01_SameTexts.mono _ _ _
      | exact LeO.none _
      | refine LeO.ite ?_ ?_
      | refine LeO.bind ?_ (fun _ => ?_)
set_option maxHeartbeats 8000000 in
set_option maxRecDepth 100000 in
theorem tollbarlaw02_SignParts.calls (k : Nat) (a0 : ByteArray) (r : Bool) (w : World) (h : tollbarlaw02_SignParts.f k a0 = some r) :
    Calls Tryd.prog 7 #[.string a0] w fun e w' => e = .returned (.bool r) ∧ Below w.heap.size w w' := by
  have HB := Aside0.mk (Below.refl w.heap.size w)
  have H : ((tollbarlaw02_texts.f k).bind fun t231 => (if t231 = true then ((sign_Split.f k a0).bind fun t232 => (tollbarlaw02_SignParts.l0 k t232 (⟨#[32, 44, 32]⟩ : ByteArray) t232 (t232.length : Int) 0)) else (some false))) = some r := h
  clear h
  replace H := Option.bind_eq_some_iff.mp H
  obtain ⟨t231, A20, H⟩ := H
  replace H : (if t231 = true then ((sign_Split.f k a0).bind fun t232 => (tollbarlaw02_SignParts.l0 k t232 (⟨#[32, 44, 32]⟩ : ByteArray) t232 (t232.length : Int) 0)) else (some false)) = some r := H
  have A2 := Aside0.mk A20
  clear A20
  by_cases c3 : t231 = true
  · subst c3
    have H1 : ((sign_Split.f k a0).bind fun t232 => (tollbarlaw02_SignParts.l0 k t232 (⟨#[32, 44, 32]⟩ : ByteArray) t232 (t232.length : Int) 0)) = some r := by rw [if_pos rfl] at H; exact H
    clear H
    have H := H1
    clear H1
    replace H := Option.bind_eq_some_iff.mp H
    obtain ⟨t232, A40, H⟩ := H
    replace H : (tollbarlaw02_SignParts.l0 k t232 (⟨#[32, 44, 32]⟩ : ByteArray) t232 (t232.length : Int) 0) = some r := H
    have A4 := Aside0.mk A40
    clear A40
    have H' := Aside0.mk H
    clear H
    go_enter Tryd.func7, Tryd.ntmps7
    go_wp2_with (first | ((with_reducible refine gate_callee (f := 18) rfl ?_); refine goesL_ (some 8) rfl rfl Tryd.func18 (by kernel_rfl) rfl #[] rfl (by (try simp only [List.map_toArray, List.map_cons, List.map_nil]); first | done | rfl | (simp only [List.length_drop, List.length_take]; rfl)) ?_; (with_reducible refine (tollbarlaw02_texts.calls k  true _ A2.out).mono ?_); rintro e w5 ⟨rfl, hb⟩; (try clear A2); refine ⟨_, rfl, ?_⟩; have n0_ := Aside0.mk (below_step (by repeat (first | (with_reducible first | exact HB.out | apply below_alloc | apply pw_below_drewN | apply below_drew1) | exact HB.out)) hb); clear HB; have HB := n0_; clear n0_; (try clear hb); (try clear hb2); (try clear hk); (try clear hi)) | ((with_reducible refine gate_callee (f := 24) rfl ?_); refine goesL_ (some 11) rfl rfl Tryd.func24 (by kernel_rfl) rfl #[.string a0] rfl (by (try simp only [List.map_toArray, List.map_cons, List.map_nil]); first | done | rfl | (simp only [List.length_drop, List.length_take]; rfl)) ?_; (with_reducible refine (sign_Split.calls k a0 t232 _ A4.out).mono ?_); rintro e w6 ⟨v233, rfl, ho0, hb⟩; (try clear A4); refine ⟨_, rfl, ?_⟩; have n0_ := Aside0.mk (Kd.R_lower ho0 (below_size (by repeat (first | (with_reducible first | exact HB.out | apply below_alloc | apply pw_below_drewN | apply below_drew1) | exact HB.out)))); have n1_ := Aside0.mk (below_step (by repeat (first | (with_reducible first | exact HB.out | apply below_alloc | apply pw_below_drewN | apply below_drew1) | exact HB.out)) hb); clear HB; have HO234 := n0_; have HB := n1_; clear n0_ n1_; (try clear hb); (try clear hb2); (try clear hk); (try clear hi); (try clear ho0); obtain ⟨Ao7, co7, eo7⟩ := Kd.R_slice HO234.out; subst eo7))
    go_loopg [4, 14] k (fun kq v4 v14 w' => ∃ (x4_1 : ByteArray) (x14_1 : Int), v4 = .string x4_1 ∧ v14 = .int .i64 x14_1 ∧ Aside0 (tollbarlaw02_SignParts.l0 kq t232 x4_1 t232 (t232.length : Int) x14_1 = some r) ∧ Aside0 (kq ≤ k) ∧ Aside0 (Kd.R Kd.string 9 w' w.heap.size (fun _ => True) (.slice Ao7 t232.length co7) t232) ∧ Aside0 (Kd.R Kd.string 9 w' w.heap.size (fun _ => True) (.slice Ao7 t232.length co7) t232) ∧ Aside0 (Below w.heap.size w w'))
    case atStart => exact ⟨((⟨#[32, 44, 32]⟩ : ByteArray)), (0), (by first | rfl | (simp; done) | (simp [*]; done)), (by first | rfl | (simp; done) | (simp [*]; done)), H', ⟨Nat.le_refl _⟩, ⟨by (with_reducible repeat (first | apply Kd.R_alloc | apply Kd.R_drewN | apply Kd.R_drew)); exact HO234.out⟩, ⟨by (with_reducible repeat (first | apply Kd.R_alloc | apply Kd.R_drewN | apply Kd.R_drew)); exact HO234.out⟩, ⟨by repeat (first | (with_reducible first | exact HB.out | apply below_alloc | apply pw_below_drewN | apply below_drew1) | exact HB.out)⟩⟩
    case round =>
      clear H'
      try clear c1
      try clear c2
      try clear p2
      try clear c3
      try clear c7
      obtain ⟨x4_1, x14_1, rfl, rfl, HA, HK1, HO_3, HO_12, HB⟩ := hrel
      cases gk with
      | zero => exact absurd HA.out (by simp [tollbarlaw02_SignParts.l0])
      | succ k1 =>
        have H := HA.out
        clear HA
        simp only [tollbarlaw02_SignParts.l0] at H
        by_cases c8 : x14_1 < (t232.length : Int)
        · rw [if_pos c8] at H
          have c8b0 : decide (x14_1 < (t232.length : Int)) = true := decide_eq_true c8
          clear c8
          by_cases c9 : 0 ≤ x14_1
          · rw [if_pos c9] at H
            have c9b0 : decide (0 ≤ x14_1) = true := decide_eq_true c9
            clear c9
            by_cases c10 : x14_1 < (t232.length : Int)
            · rw [if_pos c10] at H
              have c10b0 : decide (x14_1 < (t232.length : Int)) = true := decide_eq_true c10
              clear c10
              have HC11 := Aside0.mk H
              clear H
              have p239 : 0 ≤ (x14_1 : Int) := of_decide_eq_true (by first | (with_reducible assumption) | assumption)
              have q239 : x14_1 < (t232.length : Int) := of_decide_eq_true (by first | (with_reducible assumption) | assumption)
              obtain ⟨ad239, e239, hx239_0⟩ := Kd.at_string (Kd.R_reads' HO_12.out).2.2 x14_1 p239 q239
              cases e239
              replace p239 := eq_true p239
              replace q239 := eq_true q239
              go_upto_region 8 with (fail)
              go_cut [25] (fun v25 wc => ∃ (kq : Nat) (x25_10 : Bool), v25 = .bool x25_10 ∧ Aside0 (tollbarlaw02_SignParts.j1 kq t232 x4_1 (rdOf ByteArray.empty t232 x14_1) t232 (t232.length : Int) x14_1 x25_10 = some r) ∧ Aside0 (kq ≤ k1) ∧ Aside0 (Kd.R Kd.string 9 wc w.heap.size (fun _ => True) (.slice (some ad239) t232.length co7) t232) ∧ Aside0 (Kd.R Kd.string 9 wc w.heap.size (fun _ => True) (.slice (some ad239) t232.length co7) t232) ∧ Aside0 (Below w.heap.size w wc))
              case first =>
                have H := HC11.out
                clear HC11
                by_cases c12 : (rdOf ByteArray.empty t232 x14_1).toList = ([] : List UInt8)
                · rw [if_pos c12] at H
                  have c12b0 : ((rdOf ByteArray.empty t232 x14_1).toList == ([] : List UInt8)) = true := beq_iff_eq.mpr c12
                  have c12b1 : ((rdOf ByteArray.empty t232 x14_1).toList != ([] : List UInt8)) = false := bne_eq_false_iff_eq.mpr c12
                  clear c12
                  (first | rw [c12b0] | (simp only [i64_w, i32_w]; rw [c12b0]) | skip)
                  have H' := Aside0.mk H
                  clear H
                  go_wp2
                  go_meet
                  case rel => exact ⟨_, (true), (by first | rfl | (simp; done) | (simp [*]; done)), H', ⟨by have := HK1.out; first | omega | exact Nat.le_refl _⟩, ⟨by (with_reducible repeat (first | apply Kd.R_alloc | apply Kd.R_drewN | apply Kd.R_drew)); exact HO_3.out⟩, ⟨by (with_reducible repeat (first | apply Kd.R_alloc | apply Kd.R_drewN | apply Kd.R_drew)); exact HO_12.out⟩, ⟨by repeat (first | (with_reducible first | exact HB.out | apply below_alloc | apply pw_below_drewN | apply below_drew1) | exact HB.out)⟩⟩
                · rw [if_neg c12] at H
                  have c12b0 : ((rdOf ByteArray.empty t232 x14_1).toList == ([] : List UInt8)) = false := beq_eq_false_iff_ne.mpr c12
                  have c12b1 : ((rdOf ByteArray.empty t232 x14_1).toList != ([] : List UInt8)) = true := bne_iff_ne.mpr c12
                  (first | rw [c12b0] | (simp only [i64_w, i32_w]; rw [c12b0]) | skip)
                  replace H := Option.bind_eq_some_iff.mp H
                  obtain ⟨t240, A130, H⟩ := H
                  replace H : (tollbarlaw02_SignParts.j1 k1 t232 x4_1 (rdOf ByteArray.empty t232 x14_1) t232 (t232.length : Int) x14_1 (t240.toList != (rdOf ByteArray.empty t232 x14_1).toList)) = some r := H
                  have A13 := Aside0.mk A130
                  clear A130
                  have H' := Aside0.mk H
                  clear H
                  go_wp2_with (first | (go_at_call 19; (with_reducible refine (sign_Trim.calls (rdOf ByteArray.empty t232 x14_1) t240 _ A13.out).mono ?_); rintro e w14 ⟨rfl, hb⟩; (try clear A13); have n0_ := Aside0.mk (Kd.R_below (by (with_reducible repeat (first | apply Kd.R_alloc | apply Kd.R_drewN | apply Kd.R_drew)); exact HO_3.out) hb); have n1_ := Aside0.mk (Kd.R_below (by (with_reducible repeat (first | apply Kd.R_alloc | apply Kd.R_drewN | apply Kd.R_drew)); exact HO_12.out) hb); have n2_ := Aside0.mk (below_step (by repeat (first | (with_reducible first | exact HB.out | apply below_alloc | apply pw_below_drewN | apply below_drew1) | exact HB.out)) hb); clear HO_3; clear HO_12; clear HB; have HO_3 := n0_; have HO_12 := n1_; have HB := n2_; clear n0_ n1_ n2_; (try clear hb); (try clear hb2); (try clear hk); (try clear hi)))
                  go_meet
                  case rel => exact ⟨_, ((t240.toList != (rdOf ByteArray.empty t232 x14_1).toList)), (by first | rfl | (simp; done) | (simp [*]; done)), H', ⟨by have := HK1.out; first | omega | exact Nat.le_refl _⟩, ⟨by (with_reducible repeat (first | apply Kd.R_alloc | apply Kd.R_drewN | apply Kd.R_drew)); exact HO_3.out⟩, ⟨by (with_reducible repeat (first | apply Kd.R_alloc | apply Kd.R_drewN | apply Kd.R_drew)); exact HO_12.out⟩, ⟨by repeat (first | (with_reducible first | exact HB.out | apply below_alloc | apply pw_below_drewN | apply below_drew1) | exact HB.out)⟩⟩
              case rest =>
                clear HC11
                try clear c1
                try clear c2
                try clear p2
                try clear q2
                try clear hx2
                try clear c3
                try clear c7
                try clear c8
                try clear c8b0
                try clear c9
                try clear c9b0
                try clear c10
                try clear c10b0
                try clear c12
                try clear c12b0
                try clear c12b1
                try clear hx239_0
                try clear p2
                try clear p239
                try clear q239
                obtain ⟨kq, x25_10, rfl, HA, HJ10, HO_3, HO_12, HB⟩ := hcut
                cases kq with
                | zero => exact absurd HA.out (by simp [tollbarlaw02_SignParts.j1])
                | succ kj10 =>
                  have H := HA.out
                  clear HA
                  simp only [tollbarlaw02_SignParts.j1] at H
                  by_cases c15 : x25_10 = true
                  · subst c15
                    have H1 : (some false) = some r := by rw [if_pos rfl] at H; exact H
                    clear H
                    have H := H1
                    clear H1
                    obtain rfl := Option.some.inj H
                    go_wp2
                    go_ret
                    exact ⟨by first | rfl | (simp [errW_none, errW_some] <;> rfl) | (simp [*, errW_none, errW_some] <;> rfl), by repeat (first | (with_reducible first | exact HB.out | apply below_alloc | apply pw_below_drewN | apply below_drew1) | exact HB.out)⟩
                  · replace c15 := Bool.eq_false_iff.mpr c15
                    subst c15
                    have H1 : (tollbarlaw02_SignParts.l1 kj10 t232 x4_1 (rdOf ByteArray.empty t232 x14_1) 0 t232 (t232.length : Int) x14_1) = some r := by rw [if_neg (show ¬ (false = true) by decide)] at H; exact H
                    clear H
                    have H := H1
                    clear H1
                    have H' := Aside0.mk H
                    clear H
                    go_wp2
                    go_loopg [7] kj10 (fun kq v7 w' => ∃ (x7_3 : Int), v7 = .int .i64 x7_3 ∧ Aside0 (tollbarlaw02_SignParts.l1 kq t232 x4_1 (rdOf ByteArray.empty t232 x14_1) x7_3 t232 (t232.length : Int) x14_1 = some r) ∧ Aside0 (kq ≤ kj10) ∧ Aside0 (Kd.R Kd.string 9 w' w.heap.size (fun _ => True) (.slice (some ad239) t232.length co7) t232) ∧ Aside0 (Kd.R Kd.string 9 w' w.heap.size (fun _ => True) (.slice (some ad239) t232.length co7) t232) ∧ Aside0 (Below w.heap.size w w'))
                    case atStart => exact ⟨(0), (by first | rfl | (simp; done) | (simp [*]; done)), H', ⟨Nat.le_refl _⟩, ⟨by (with_reducible repeat (first | apply Kd.R_alloc | apply Kd.R_drewN | apply Kd.R_drew)); exact HO_3.out⟩, ⟨by (with_reducible repeat (first | apply Kd.R_alloc | apply Kd.R_drewN | apply Kd.R_drew)); exact HO_12.out⟩, ⟨by repeat (first | (with_reducible first | exact HB.out | apply below_alloc | apply pw_below_drewN | apply below_drew1) | exact HB.out)⟩⟩
                    case round =>
                      clear H'
                      try clear c1
                      try clear c2
                      try clear p2
                      try clear q2
                      try clear hx2
                      try clear c3
                      try clear c7
                      try clear c8
                      try clear c8b0
                      try clear c9
                      try clear c9b0
                      try clear c10
                      try clear c10b0
                      try clear c12
                      try clear c12b0
                      try clear c12b1
                      try clear c15
                      try clear hx239_0
                      try clear p2
                      try clear p239
                      try clear q2
                      try clear q239
                      obtain ⟨x7_3, rfl, HA, HK3, HO_3, HO_12, HB⟩ := hrel
                      cases gk with
                      | zero => exact absurd HA.out (by simp [tollbarlaw02_SignParts.l1])
                      | succ k3 =>
                        have H := HA.out
                        clear HA
                        simp only [tollbarlaw02_SignParts.l1] at H
                        by_cases c16 : x7_3 < ((rdOf ByteArray.empty t232 x14_1).size : Int)
                        · rw [if_pos c16] at H
                          have c16b0 : decide (x7_3 < ((rdOf ByteArray.empty t232 x14_1).size : Int)) = true := decide_eq_true c16
                          clear c16
                          by_cases c17 : 0 ≤ x7_3
                          · rw [if_pos c17] at H
                            have c17b0 : decide (0 ≤ x7_3) = true := decide_eq_true c17
                            clear c17
                            by_cases c19 : (bt (rdOf ByteArray.empty t232 x14_1) x7_3) = 44
                            · rw [if_pos c19] at H
                              have c19b0 : ((bt (rdOf ByteArray.empty t232 x14_1) x7_3) == 44) = true := beq_iff_eq.mpr c19
                              have c19b1 : ((bt (rdOf ByteArray.empty t232 x14_1) x7_3) != 44) = false := bne_eq_false_iff_eq.mpr c19
                              clear c19
                              obtain rfl := Option.some.inj H
                              have p18 : 0 ≤ (x7_3 : Int) := of_decide_eq_true (by first | (with_reducible assumption) | assumption)
                              have q18 : x7_3 < ((rdOf ByteArray.empty t232 x14_1).size : Int) := of_decide_eq_true (by first | (with_reducible assumption) | assumption)
                              have hx18 := bt_at (rdOf ByteArray.empty t232 x14_1) x7_3
                              replace p18 := eq_true p18
                              replace q18 := eq_true q18
                              go_wp2
                              go_ret
                              exact ⟨by first | rfl | (simp [errW_none, errW_some] <;> rfl) | (simp [*, errW_none, errW_some] <;> rfl), by repeat (first | (with_reducible first | exact HB.out | apply below_alloc | apply pw_below_drewN | apply below_drew1) | exact HB.out)⟩
                            · rw [if_neg c19] at H
                              have c19b0 : ((bt (rdOf ByteArray.empty t232 x14_1) x7_3) == 44) = false := beq_eq_false_iff_ne.mpr c19
                              have c19b1 : ((bt (rdOf ByteArray.empty t232 x14_1) x7_3) != 44) = true := bne_iff_ne.mpr c19
                              have H' := Aside0.mk H
                              clear H
                              have p18 : 0 ≤ (x7_3 : Int) := of_decide_eq_true (by first | (with_reducible assumption) | assumption)
                              have q18 : x7_3 < ((rdOf ByteArray.empty t232 x14_1).size : Int) := of_decide_eq_true (by first | (with_reducible assumption) | assumption)
                              have hx18 := bt_at (rdOf ByteArray.empty t232 x14_1) x7_3
                              replace p18 := eq_true p18
                              replace q18 := eq_true q18
                              go_wp2
                              go_roundg k3
                              case measure => have := HK1.out; have := HJ10.out; have := HK3.out; omega
                              case rel => exact ⟨(wrap64 (x7_3 + 1)), (by first | rfl | (simp; done) | (simp [*]; done)), H', ⟨by have := HK1.out; have := HJ10.out; have := HK3.out; omega⟩, ⟨by (with_reducible repeat (first | apply Kd.R_alloc | apply Kd.R_drewN | apply Kd.R_drew)); exact HO_3.out⟩, ⟨by (with_reducible repeat (first | apply Kd.R_alloc | apply Kd.R_drewN | apply Kd.R_drew)); exact HO_12.out⟩, ⟨by repeat (first | (with_reducible first | exact HB.out | apply below_alloc | apply pw_below_drewN | apply below_drew1) | exact HB.out)⟩⟩
                          · rw [if_neg c17] at H
                            exact absurd H (by simp)
                        · rw [if_neg c16] at H
                          have c16b0 : decide (x7_3 < ((rdOf ByteArray.empty t232 x14_1).size : Int)) = false := decide_eq_false c16
                          clear c16
                          by_cases c20 : x4_1.size + (rdOf ByteArray.empty t232 x14_1).size ≤ 9223372036854775807
                          · rw [if_pos c20] at H
                            have c20b0 := eq_true c20
                            have c20b1 : decide (x4_1.size + (rdOf ByteArray.empty t232 x14_1).size ≤ 9223372036854775807) = true := decide_eq_true c20
                            try have c20b2 : (9223372036854775807 < x4_1.size + (rdOf ByteArray.empty t232 x14_1).size) = False := eq_false (Nat.not_lt.2 c20)
                            by_cases c21 : (x4_1 ++ (rdOf ByteArray.empty t232 x14_1)).size + 4 ≤ 9223372036854775807
                            · rw [if_pos c21] at H
                              have c21b0 := eq_true c21
                              have c21b1 : decide ((x4_1 ++ (rdOf ByteArray.empty t232 x14_1)).size + 4 ≤ 9223372036854775807) = true := decide_eq_true c21
                              try have c21b2 : (9223372036854775807 < (x4_1 ++ (rdOf ByteArray.empty t232 x14_1)).size + 4) = False := eq_false (Nat.not_lt.2 c21)
                              try (have c21b3 := c21b0; simp only [ByteArray.size_append] at c21b3; have c21b4 := c21b2; simp only [ByteArray.size_append] at c21b4)
                              have H' := Aside0.mk H
                              clear H
                              go_wp2
                              go_roundg k3
                              case measure => have := HK1.out; have := HJ10.out; have := HK3.out; omega
                              case rel => exact ⟨((x4_1 ++ (rdOf ByteArray.empty t232 x14_1)) ++ (⟨#[9, 44, 44, 32]⟩ : ByteArray)), (wrap64 (x14_1 + 1)), (by first | rfl | (simp; done) | (simp [*]; done)), (by first | rfl | (simp; done) | (simp [*]; done)), H', ⟨by have := HK1.out; have := HJ10.out; have := HK3.out; omega⟩, ⟨by (with_reducible repeat (first | apply Kd.R_alloc | apply Kd.R_drewN | apply Kd.R_drew)); exact HO_3.out⟩, ⟨by (with_reducible repeat (first | apply Kd.R_alloc | apply Kd.R_drewN | apply Kd.R_drew)); exact HO_12.out⟩, ⟨by repeat (first | (with_reducible first | exact HB.out | apply below_alloc | apply pw_below_drewN | apply below_drew1) | exact HB.out)⟩⟩
                            · rw [if_neg c21] at H
                              exact absurd H (by simp)
                          · rw [if_neg c20] at H
                            exact absurd H (by simp)
            · rw [if_neg c10] at H
              exact absurd H (by simp)
          · rw [if_neg c9] at H
            exact absurd H (by simp)
        · rw [if_neg c8] at H
          have c8b0 : decide (x14_1 < (t232.length : Int)) = false := decide_eq_false c8
          clear c8
          replace H := Option.bind_eq_some_iff.mp H
          obtain ⟨t235, A220, H⟩ := H
          replace H : ((tollbarref01_SameTexts.f k1 t235 t232).bind fun t238 => (some t238)) = some r := H
          have A22 := Aside0.mk A220
          clear A220
          replace H := Option.bind_eq_some_iff.mp H
          obtain ⟨t238, A230, H⟩ := H
          replace H : (some t238) = some r := H
          have A23 := Aside0.mk A230
          clear A230
          obtain rfl := Option.some.inj H
          go_wp2_with (first | ((with_reducible refine gate_callee (f := 24) rfl ?_); refine goesL_ (some 42) rfl rfl Tryd.func24 (by kernel_rfl) rfl #[.string x4_1] rfl (by (try simp only [List.map_toArray, List.map_cons, List.map_nil]); first | done | rfl | (simp only [List.length_drop, List.length_take]; rfl)) ?_; (with_reducible refine (sign_Split.calls k1 x4_1 t235 _ A22.out).mono ?_); rintro e w24 ⟨v236, rfl, ho0, hb⟩; (try clear A22); refine ⟨_, rfl, ?_⟩; have n0_ := Aside0.mk (Kd.R_elder' (by (with_reducible repeat (first | apply Kd.R_alloc | apply Kd.R_drewN | apply Kd.R_drew)); exact HO_3.out) (Kd.R_base ho0) hb); have n1_ := Aside0.mk (Kd.R_elder' (by (with_reducible repeat (first | apply Kd.R_alloc | apply Kd.R_drewN | apply Kd.R_drew)); exact HO_12.out) (Kd.R_base ho0) hb); have n2_ := Aside0.mk (Kd.R_lower (Kd.R_new' (Kd.R_new' ho0 (Kd.R_lt (by (with_reducible repeat (first | apply Kd.R_alloc | apply Kd.R_drewN | apply Kd.R_drew)); exact HO_3.out))) (Kd.R_lt (by (with_reducible repeat (first | apply Kd.R_alloc | apply Kd.R_drewN | apply Kd.R_drew)); exact HO_12.out))) (below_size (by repeat (first | (with_reducible first | exact HB.out | apply below_alloc | apply pw_below_drewN | apply below_drew1) | exact HB.out)))); have n3_ := Aside0.mk (below_step (by repeat (first | (with_reducible first | exact HB.out | apply below_alloc | apply pw_below_drewN | apply below_drew1) | exact HB.out)) hb); clear HO_3; clear HO_12; clear HB; have HO_3 := n0_; have HO_12 := n1_; have HO237 := n2_; have HB := n3_; clear n0_ n1_ n2_ n3_; (try clear hb); (try clear hb2); (try clear hk); (try clear hi); (try clear ho0); obtain ⟨Ao25, co25, eo25⟩ := Kd.R_slice HO237.out; subst eo25) | ((with_reducible refine gate_callee (f := 23) rfl ?_); refine goesL_ (some 44) rfl rfl Tryd.func23 (by kernel_rfl) rfl #[.slice Ao25 t235.length co25, .slice Ao7 t232.length co7] rfl (by (try simp only [List.map_toArray, List.map_cons, List.map_nil]); first | done | rfl | (simp only [List.length_drop, List.length_take]; rfl)) ?_; (with_reducible refine (tollbarref01_SameTexts.calls k1 _ _ t235 _ _ t232 t238 _ ?side1 ?side2 ?side3 ?side4 A23.out).mono ?_); (case side1 => repeat (first | exact (Kd.R_reads' HO237.out).2.2 | (with_reducible refine Kd.C_alloc ?_ _) | (with_reducible refine Kd.C_drewN ?_ _) | (with_reducible refine Kd.C_drew ?_))); (case side2 => exact (Kd.R_reads' HO237.out).2.1); (case side3 => repeat (first | exact (Kd.R_reads' HO_3.out).2.2 | (with_reducible refine Kd.C_alloc ?_ _) | (with_reducible refine Kd.C_drewN ?_ _) | (with_reducible refine Kd.C_drew ?_))); (case side4 => exact (Kd.R_reads' HO_3.out).2.1); rintro e w' ⟨rfl, ⟨nd, rfl⟩⟩; (try clear A23); refine ⟨_, rfl, ?_⟩))
          go_ret
          exact ⟨by first | rfl | (simp [errW_none, errW_some] <;> rfl) | (simp [*, errW_none, errW_some] <;> rfl), by repeat (first | (with_reducible first | exact HB.out | apply below_alloc | apply pw_below_drewN | apply below_drew1) | exact HB.out)⟩
  · replace c3 := Bool.eq_false_iff.mpr c3
    subst c3
    have H1 : (some false) = some r := by rw [if_neg (show ¬ (false = true) by decide)] at H; exact H
    clear H
    have H := H1
    clear H1
    obtain rfl := Option.some.inj H
    go_enter Tryd.func7, Tryd.ntmps7
    go_wp2_with (first | ((with_reducible refine gate_callee (f := 18) rfl ?_); refine goesL_ (some 8) rfl rfl Tryd.func18 (by kernel_rfl) rfl #[] rfl (by (try simp only [List.map_toArray, List.map_cons, List.map_nil]); first | done | rfl | (simp only [List.length_drop, List.length_take]; rfl)) ?_; (with_reducible refine (tollbarlaw02_texts.calls k  false _ A2.out).mono ?_); rintro e w26 ⟨rfl, hb⟩; (try clear A2); refine ⟨_, rfl, ?_⟩; have n0_ := Aside0.mk (below_step (by repeat (first | (with_reducible first | exact HB.out | apply below_alloc | apply pw_below_drewN | apply below_drew1) | exact HB.out)) hb); clear HB; have HB := n0_; clear n0_; (try clear hb); (try clear hb2); (try clear hk); (try clear hi)))
    go_ret
    exact ⟨by first | rfl | (simp [errW_none, errW_some] <;> rfl) | (simp [*, errW_none, errW_some] <;> rfl), by repeat (first | (with_reducible first | exact HB.out | apply below_alloc | apply pw_below_drewN | apply below_drew1) | exact HB.out)⟩

/-- THE ONE PURE STATEMENT of tollbarlaw02_SignParts: yours. -/
def tollbarlaw02_SignParts.Pure : Prop := ∀ (a0 : ByteArray), a0.size ≤ 140737488351232 → ∃ k, tollbarlaw02_SignParts.f k a0 = some true
theorem tollbarlaw02_SignParts.walk (P : tollbarlaw02_SignParts.Pure) (a0 : ByteArray) (w : World) (w0 : a0.size ≤ 140737488351232) :
    Calls Tryd.prog 7 #[.string a0] w fun e w' => e = .returned (.bool true) ∧ Below w.heap.size w w' := by
  obtain ⟨k, h⟩ := P a0 w0
  refine (tollbarlaw02_SignParts.calls k a0 true w h).mono ?_
  rintro e w' ⟨rfl, hd⟩
  exact ⟨rfl, hd⟩

end Go.Proofs.YthkkkfeiklfjoaaDoor.P
