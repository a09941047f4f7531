/- Each function below answers as its Lean twin says; a law answers true at every input that its row speaks of. No further condition. (Laid by this repo's seatprint.py.) -/
import Derived.Test.YthkkkfeiklfjoaaDoorPx0
namespace Go.Proofs.YthkkkfeiklfjoaaDoor.P
open Go.RowKit Go.Proofs.YthkkkfeiklfjoaaDoorW.PrintWords Go.Proofs.YthkkkfeiklfjoaaDoorW.PrintLast Go.Proofs.YthkkkfeiklfjoaaDoorW.PrintMore
attribute [local go_sem] max2_int min2_int max_two min_two max_three min_three max_four min_four   -- for this text's walks alone
set_option linter.unusedVariables false
set_option linter.unusedSimpArgs false

/-! ### tollbarref02_HexText: function 17 -/
mutual
def tollbarref02_HexText.j0 : Nat → Int → Option (ByteArray)
  | 0, _ => none
  | k + 1, x0 => tollbarref02_HexText.l0 k x0 (⟨#[]⟩ : ByteArray)
def tollbarref02_HexText.l0 : Nat → Int → ByteArray → Option (ByteArray)
  | 0, _, _ => none
  | k + 1, x0, x3 => if x3.toList = ([] : List UInt8) then (tollbarref02_HexText.j2 k x0 x3 true) else (tollbarref02_HexText.j2 k x0 x3 (decide (x0 > 0)))
def tollbarref02_HexText.j2 : Nat → Int → ByteArray → Bool → Option (ByteArray)
  | 0, _, _, _ => none
  | k + 1, x0, x3, x12 => if x12 = true then (if (Int.tmod x0 16) > 9 then ((some (([(wrap64 ((wrap64 (97 + (Int.tmod x0 16))) - 10)) % 256] : List Int) : List Int)).bind fun y154 => (if (strOfNums y154).size + x3.size ≤ 9223372036854775807 then (tollbarref02_HexText.l0 k (wrap64 (Int.tdiv x0 16)) ((strOfNums y154) ++ x3)) else (none))) else ((some (([(wrap64 (48 + (Int.tmod x0 16))) % 256] : List Int) : List Int)).bind fun y157 => (if (strOfNums y157).size + x3.size ≤ 9223372036854775807 then (tollbarref02_HexText.l0 k (wrap64 (Int.tdiv x0 16)) ((strOfNums y157) ++ x3)) else (none)))) else (some x3)
end
def tollbarref02_HexText.f (k : Nat) (a0 : Int) : Option (ByteArray) := if a0 < 0 then (tollbarref02_HexText.j0 k 0) else (tollbarref02_HexText.j0 k a0)
theorem tollbarref02_HexText.mono_l : ∀ k, (∀ y0, LeO (tollbarref02_HexText.j0 k y0) (tollbarref02_HexText.j0 (k + 1) y0)) ∧ (∀ y0 y1, LeO (tollbarref02_HexText.l0 k y0 y1) (tollbarref02_HexText.l0 (k + 1) y0 y1)) ∧ (∀ y0 y1 y2, LeO (tollbarref02_HexText.j2 k y0 y1 y2) (tollbarref02_HexText.j2 (k + 1) y0 y1 y2))
  | 0 => ⟨fun _ r h => by simp [tollbarref02_HexText.j0] at h, fun _ _ r h => by simp [tollbarref02_HexText.l0] at h, fun _ _ _ r h => by simp [tollbarref02_HexText.j2] at h⟩
  | k + 1 => by
    obtain ⟨ih0, ih1, ih2⟩ := tollbarref02_HexText.mono_l k
    refine ⟨?_, ?_, ?_⟩
    · intro y0
      unfold tollbarref02_HexText.j0
      repeat' first
      | (with_reducible exact ih0 _)
      | (with_reducible exact ih1 _ _)
      | (with_reducible exact ih2 _ _ _)
      | (with_reducible exact LeO.refl _)
      | (with_reducible exact LeO.none _)
      | (with_reducible refine LeO.ite ?_ ?_)
      | (with_reducible refine LeO.bind ?_ (fun _ => ?_))
      | exact ih0 _
      | exact ih1 _ _
      | exact ih2 _ _ _
      | exact LeO.none _
      | refine LeO.ite ?_ ?_
      | refine LeO.bind ?_ (fun _ => ?_)
    · intro y0 y1
      unfold tollbarref02_HexText.l0
      repeat' first
      | (with_reducible exact ih0 _)
      | (with_reducible exact ih1 _ _)
      | (with_reducible exact ih2 _ _ _)
      | (with_reducible exact LeO.refl _)
      | (with_reducible exact LeO.none _)
      | (with_reducible refine LeO.ite ?_ ?_)
      | (with_reducible refine LeO.bind ?_ (fun _ => ?_))
      | exact ih0 _
      | exact ih1 _ _
      | exact ih2 _ _ _
      | exact LeO.none _
      | refine LeO.ite ?_ ?_
      | refine LeO.bind ?_ (fun _ => ?_)
    · intro y0 y1 y2
      unfold tollbarref02_HexText.j2
      repeat' first
      | (with_reducible exact ih0 _)
      | (with_reducible exact ih1 _ _)
      | (with_reducible exact ih2 _ _ _)
      | (with_reducible exact LeO.refl _)
      | (with_reducible exact LeO.none _)
      | (with_reducible refine LeO.ite ?_ ?_)
      | (with_reducible refine LeO.bind ?_ (fun _ => ?_))
      | exact ih0 _
      | exact ih1 _ _
      | exact ih2 _ _ _
      | exact LeO.none _
      | refine LeO.ite ?_ ?_
      | refine LeO.bind ?_ (fun _ => ?_)
theorem tollbarref02_HexText.mono : ∀ a0 k, LeO (tollbarref02_HexText.f k a0) (tollbarref02_HexText.f (k + 1) a0) := by
  intro a0 k
  obtain ⟨ih0, ih1, ih2⟩ := tollbarref02_HexText.mono_l k
  unfold tollbarref02_HexText.f
  repeat' first
      | (with_reducible exact ih0 _)
      | (with_reducible exact ih1 _ _)
      | (with_reducible exact ih2 _ _ _)
      | (with_reducible exact LeO.refl _)
      | (with_reducible exact LeO.none _)
      | (with_reducible refine LeO.ite ?_ ?_)
      | (with_reducible refine LeO.bind ?_ (fun _ => ?_))
      | exact ih0 _
      | exact ih1 _ _
      | exact ih2 _ _ _
      | exact LeO.none _
      | refine LeO.ite ?_ ?_
      | refine LeO.bind ?_ (fun _ => ?_)
set_option maxHeartbeats 8000000 in
set_option maxRecDepth 100000 in
theorem tollbarref02_HexText.calls (k : Nat) (a0 : Int) (r : ByteArray) (w : World) (h : tollbarref02_HexText.f k a0 = some r) :
    Calls Tryd.prog 17 #[.int .i64 a0] w fun e w' => e = .returned (.string r) ∧ Below w.heap.size w w' := by
  have HB := Aside0.mk (Below.refl w.heap.size w)
  have H : (if a0 < 0 then (tollbarref02_HexText.j0 k 0) else (tollbarref02_HexText.j0 k a0)) = some r := h
  clear h
  have HC2 := Aside0.mk H
  clear H
  go_enter Tryd.func17, Tryd.ntmps17
  go_upto_if 6 with (fail)
  go_cut [0] (fun v0 wc => ∃ (kq : Nat) (x0_1 : Int), v0 = .int .i64 x0_1 ∧ Aside0 (tollbarref02_HexText.j0 kq x0_1 = some r) ∧ Aside0 (kq ≤ k) ∧ Aside0 (Below w.heap.size w wc))
  case first =>
    have H := HC2.out
    clear HC2
    by_cases c3 : a0 < 0
    · rw [if_pos c3] at H
      have c3b0 : decide (a0 < 0) = true := decide_eq_true c3
      clear c3
      (first | rw [c3b0] | (simp only [i64_w, i32_w]; rw [c3b0]) | skip)
      have H' := Aside0.mk H
      clear H
      go_wp2
      go_meet
      case rel => exact ⟨_, (0), (by first | rfl | (simp; done) | (simp [*]; done)), H', ⟨by first | omega | exact Nat.le_refl _⟩, ⟨by repeat (first | (with_reducible first | exact HB.out | apply below_alloc | apply pw_below_drewN | apply below_drew1) | exact HB.out)⟩⟩
    · rw [if_neg c3] at H
      have c3b0 : decide (a0 < 0) = false := decide_eq_false c3
      clear c3
      (first | rw [c3b0] | (simp only [i64_w, i32_w]; rw [c3b0]) | skip)
      have H' := Aside0.mk H
      clear H
      go_wp2
      go_meet
      case rel => exact ⟨_, (a0), (by first | rfl | (simp; done) | (simp [*]; done)), H', ⟨by first | omega | exact Nat.le_refl _⟩, ⟨by repeat (first | (with_reducible first | exact HB.out | apply below_alloc | apply pw_below_drewN | apply below_drew1) | exact HB.out)⟩⟩
  case rest =>
    clear HC2
    try clear c1
    try clear p2
    try clear c3
    try clear c3b0
    obtain ⟨kq, x0_1, rfl, HA, HJ1, HB⟩ := hcut
    cases kq with
    | zero => exact absurd HA.out (by simp [tollbarref02_HexText.j0])
    | succ kj1 =>
      have H := HA.out
      clear HA
      simp only [tollbarref02_HexText.j0] at H
      have H' := Aside0.mk H
      clear H
      go_wp2
      go_loopg [0, 3] kj1 (fun kq v0 v3 w' => ∃ (x0_2 : Int) (x3_2 : ByteArray), v0 = .int .i64 x0_2 ∧ v3 = .string x3_2 ∧ Aside0 (tollbarref02_HexText.l0 kq x0_2 x3_2 = some r) ∧ Aside0 (kq ≤ kj1) ∧ Aside0 (Below w.heap.size w w'))
      case atStart => exact ⟨(x0_1), ((⟨#[]⟩ : ByteArray)), (by first | rfl | (simp; done) | (simp [*]; done)), (by first | rfl | (simp; done) | (simp [*]; done)), H', ⟨Nat.le_refl _⟩, ⟨by repeat (first | (with_reducible first | exact HB.out | apply below_alloc | apply pw_below_drewN | apply below_drew1) | exact HB.out)⟩⟩
      case round =>
        clear H'
        try clear c1
        try clear p2
        try clear c3
        try clear c3b0
        try clear p2
        obtain ⟨x0_2, x3_2, rfl, rfl, HA, HK2, HB⟩ := hrel
        cases gk with
        | zero => exact absurd HA.out (by simp [tollbarref02_HexText.l0])
        | succ k2 =>
          have H := HA.out
          clear HA
          simp only [tollbarref02_HexText.l0] at H
          have HC4 := Aside0.mk H
          clear H
          go_upto_region 4 with (fail)
          go_cut [12] (fun v12 wc => ∃ (kq : Nat) (x12_3 : Bool), v12 = .bool x12_3 ∧ Aside0 (tollbarref02_HexText.j2 kq x0_2 x3_2 x12_3 = some r) ∧ Aside0 (kq ≤ k2) ∧ Aside0 (Below w.heap.size w wc))
          case first =>
            have H := HC4.out
            clear HC4
            by_cases c5 : x3_2.toList = ([] : List UInt8)
            · rw [if_pos c5] at H
              have c5b0 : (x3_2.toList == ([] : List UInt8)) = true := beq_iff_eq.mpr c5
              have c5b1 : (x3_2.toList != ([] : List UInt8)) = false := bne_eq_false_iff_eq.mpr c5
              clear c5
              (first | rw [c5b0] | (simp only [i64_w, i32_w]; rw [c5b0]) | skip)
              have H' := Aside0.mk H
              clear H
              go_wp2
              go_meet
              case rel => exact ⟨_, (true), (by first | rfl | (simp; done) | (simp [*]; done)), H', ⟨by have := HJ1.out; have := HK2.out; first | omega | exact Nat.le_refl _⟩, ⟨by repeat (first | (with_reducible first | exact HB.out | apply below_alloc | apply pw_below_drewN | apply below_drew1) | exact HB.out)⟩⟩
            · rw [if_neg c5] at H
              have c5b0 : (x3_2.toList == ([] : List UInt8)) = false := beq_eq_false_iff_ne.mpr c5
              have c5b1 : (x3_2.toList != ([] : List UInt8)) = true := bne_iff_ne.mpr c5
              (first | rw [c5b0] | (simp only [i64_w, i32_w]; rw [c5b0]) | skip)
              have H' := Aside0.mk H
              clear H
              go_wp2
              go_meet
              case rel => exact ⟨_, (decide (x0_2 > 0)), (by first | rfl | (simp; done) | (simp [*]; done)), H', ⟨by have := HJ1.out; have := HK2.out; first | omega | exact Nat.le_refl _⟩, ⟨by repeat (first | (with_reducible first | exact HB.out | apply below_alloc | apply pw_below_drewN | apply below_drew1) | exact HB.out)⟩⟩
          case rest =>
            clear HC4
            try clear c1
            try clear p2
            try clear c3
            try clear c3b0
            try clear c5
            try clear c5b0
            try clear c5b1
            try clear p2
            obtain ⟨kq, x12_3, rfl, HA, HJ3, HB⟩ := hcut
            cases kq with
            | zero => exact absurd HA.out (by simp [tollbarref02_HexText.j2])
            | succ kj3 =>
              have H := HA.out
              clear HA
              simp only [tollbarref02_HexText.j2] at H
              by_cases c6 : x12_3 = true
              · subst c6
                have H1 : (if (Int.tmod x0_2 16) > 9 then ((some (([(wrap64 ((wrap64 (97 + (Int.tmod x0_2 16))) - 10)) % 256] : List Int) : List Int)).bind fun y154 => (if (strOfNums y154).size + x3_2.size ≤ 9223372036854775807 then (tollbarref02_HexText.l0 kj3 (wrap64 (Int.tdiv x0_2 16)) ((strOfNums y154) ++ x3_2)) else (none))) else ((some (([(wrap64 (48 + (Int.tmod x0_2 16))) % 256] : List Int) : List Int)).bind fun y157 => (if (strOfNums y157).size + x3_2.size ≤ 9223372036854775807 then (tollbarref02_HexText.l0 kj3 (wrap64 (Int.tdiv x0_2 16)) ((strOfNums y157) ++ x3_2)) else (none)))) = some r := by rw [if_pos rfl] at H; exact H
                clear H
                have H := H1
                clear H1
                by_cases c7 : (Int.tmod x0_2 16) > 9
                · rw [if_pos c7] at H
                  have c7b0 : decide (9 < (Int.tmod x0_2 16)) = true := decide_eq_true c7
                  clear c7
                  obtain ⟨y154, hy154⟩ : ∃ y_ : List Int, y_ = (([(wrap64 ((wrap64 (97 + (Int.tmod x0_2 16))) - 10)) % 256] : List Int)) := ⟨_, rfl⟩
                  replace H : (if (strOfNums y154).size + x3_2.size ≤ 9223372036854775807 then (tollbarref02_HexText.l0 kj3 (wrap64 (Int.tdiv x0_2 16)) ((strOfNums y154) ++ x3_2)) else (none)) = some r := by first | (rw [hy154]; with_reducible exact H) | (have H2_ := (Option.bind_some _ _).symm.trans H; rw [hy154]; with_reducible exact H2_) | (have H2_ := (Option.bind_some _ _).symm.trans H; with_reducible exact H2_) | with_reducible exact H | (rw [hy154]; exact H) | exact H
                  have Ny154 := Aside0.mk hy154
                  clear hy154
                  by_cases c8 : (strOfNums y154).size + x3_2.size ≤ 9223372036854775807
                  · rw [if_pos c8] at H
                    have c8b0 := eq_true c8
                    have c8b1 : decide ((strOfNums y154).size + x3_2.size ≤ 9223372036854775807) = true := decide_eq_true c8
                    try have c8b2 : (9223372036854775807 < (strOfNums y154).size + x3_2.size) = False := eq_false (Nat.not_lt.2 c8)
                    have H' := Aside0.mk H
                    clear H
                    go_wp2_with (first | ((with_reducible refine gate_dst (N := 26) rfl ?_); refine Kd.R_lit (Kd.int .u8) _ 5 ?hg (N := 26) ?hd (xs := ([(wrap64 ((wrap64 (97 + (Int.tmod x0_2 16))) - 10)) % 256] : List Int)) (inner := [.int .u8 ((wrap64 ((wrap64 (97 + (Int.tmod x0_2 16))) - 10)) % 256)]) (ok := fun _ => True) (okp := fun _ => True) ?hr ?hp (fun _ hk => hk) trivial (Below.refl _ _) (Nat.le_refl _) (by simp) ?_; (case hd => rfl); (case hg => rfl); (case hr => first | (go_simp; done) | (go_simp; rfl)); (case hp => exact (Reps.one (show Kd.M (Kd.int .u8) _ _ _ ((wrap64 ((wrap64 (97 + (Int.tmod x0_2 16))) - 10)) % 256) [.int .u8 ((wrap64 ((wrap64 (97 + (Int.tmod x0_2 16))) - 10)) % 256)] from rfl) (Reps.none _ _))); intro v155 w9 ho10 hb hg_ hnew_; clear hg_ hnew_; (first | rw [← Ny154.out] at ho10 | (simp only [Int.reduceToNat] at ho10; rw [← Ny154.out] at ho10)); have n0_ := Aside0.mk (Kd.R_lower ho10 (below_size (by repeat (first | (with_reducible first | exact HB.out | apply below_alloc | apply pw_below_drewN | apply below_drew1) | exact HB.out)))); have n1_ := Aside0.mk (below_step (by repeat (first | (with_reducible first | exact HB.out | apply below_alloc | apply pw_below_drewN | apply below_drew1) | exact HB.out)) hb); clear HB; have HO156 := n0_; have HB := n1_; clear n0_ n1_; clear hb ho10; have hcv11 := own_string (P := Tryd.prog) Tryd.underlying33 Tryd.underlying5 Tryd.underlying9 (Kd.own_of_R HO156.out)))
                    go_roundg kj3
                    case measure => have := HJ1.out; have := HK2.out; have := HJ3.out; omega
                    case rel => exact ⟨(wrap64 (Int.tdiv x0_2 16)), ((strOfNums y154) ++ x3_2), (by first | rfl | (simp; done) | (simp [*]; done)), (by first | rfl | (simp; done) | (simp [*]; done)), H', ⟨by have := HJ1.out; have := HK2.out; have := HJ3.out; omega⟩, ⟨by repeat (first | (with_reducible first | exact HB.out | apply below_alloc | apply pw_below_drewN | apply below_drew1) | exact HB.out)⟩⟩
                  · rw [if_neg c8] at H
                    exact absurd H (by simp)
                · rw [if_neg c7] at H
                  have c7b0 : decide (9 < (Int.tmod x0_2 16)) = false := decide_eq_false c7
                  clear c7
                  obtain ⟨y157, hy157⟩ : ∃ y_ : List Int, y_ = (([(wrap64 (48 + (Int.tmod x0_2 16))) % 256] : List Int)) := ⟨_, rfl⟩
                  replace H : (if (strOfNums y157).size + x3_2.size ≤ 9223372036854775807 then (tollbarref02_HexText.l0 kj3 (wrap64 (Int.tdiv x0_2 16)) ((strOfNums y157) ++ x3_2)) else (none)) = some r := by first | (rw [hy157]; with_reducible exact H) | (have H2_ := (Option.bind_some _ _).symm.trans H; rw [hy157]; with_reducible exact H2_) | (have H2_ := (Option.bind_some _ _).symm.trans H; with_reducible exact H2_) | with_reducible exact H | (rw [hy157]; exact H) | exact H
                  have Ny157 := Aside0.mk hy157
                  clear hy157
                  by_cases c12 : (strOfNums y157).size + x3_2.size ≤ 9223372036854775807
                  · rw [if_pos c12] at H
                    have c12b0 := eq_true c12
                    have c12b1 : decide ((strOfNums y157).size + x3_2.size ≤ 9223372036854775807) = true := decide_eq_true c12
                    try have c12b2 : (9223372036854775807 < (strOfNums y157).size + x3_2.size) = False := eq_false (Nat.not_lt.2 c12)
                    have H' := Aside0.mk H
                    clear H
                    go_wp2_with (first | ((with_reducible refine gate_dst (N := 26) rfl ?_); refine Kd.R_lit (Kd.int .u8) _ 5 ?hg (N := 26) ?hd (xs := ([(wrap64 (48 + (Int.tmod x0_2 16))) % 256] : List Int)) (inner := [.int .u8 ((wrap64 (48 + (Int.tmod x0_2 16))) % 256)]) (ok := fun _ => True) (okp := fun _ => True) ?hr ?hp (fun _ hk => hk) trivial (Below.refl _ _) (Nat.le_refl _) (by simp) ?_; (case hd => rfl); (case hg => rfl); (case hr => first | (go_simp; done) | (go_simp; rfl)); (case hp => exact (Reps.one (show Kd.M (Kd.int .u8) _ _ _ ((wrap64 (48 + (Int.tmod x0_2 16))) % 256) [.int .u8 ((wrap64 (48 + (Int.tmod x0_2 16))) % 256)] from rfl) (Reps.none _ _))); intro v158 w13 ho14 hb hg_ hnew_; clear hg_ hnew_; (first | rw [← Ny157.out] at ho14 | (simp only [Int.reduceToNat] at ho14; rw [← Ny157.out] at ho14)); have n0_ := Aside0.mk (Kd.R_lower ho14 (below_size (by repeat (first | (with_reducible first | exact HB.out | apply below_alloc | apply pw_below_drewN | apply below_drew1) | exact HB.out)))); have n1_ := Aside0.mk (below_step (by repeat (first | (with_reducible first | exact HB.out | apply below_alloc | apply pw_below_drewN | apply below_drew1) | exact HB.out)) hb); clear HB; have HO159 := n0_; have HB := n1_; clear n0_ n1_; clear hb ho14; have hcv15 := own_string (P := Tryd.prog) Tryd.underlying33 Tryd.underlying5 Tryd.underlying9 (Kd.own_of_R HO159.out)))
                    go_roundg kj3
                    case measure => have := HJ1.out; have := HK2.out; have := HJ3.out; omega
                    case rel => exact ⟨(wrap64 (Int.tdiv x0_2 16)), ((strOfNums y157) ++ x3_2), (by first | rfl | (simp; done) | (simp [*]; done)), (by first | rfl | (simp; done) | (simp [*]; done)), H', ⟨by have := HJ1.out; have := HK2.out; have := HJ3.out; omega⟩, ⟨by repeat (first | (with_reducible first | exact HB.out | apply below_alloc | apply pw_below_drewN | apply below_drew1) | exact HB.out)⟩⟩
                  · rw [if_neg c12] at H
                    exact absurd H (by simp)
              · replace c6 := Bool.eq_false_iff.mpr c6
                subst c6
                have H1 : (some x3_2) = some r := by rw [if_neg (show ¬ (false = true) by decide)] at H; exact H
                clear H
                have H := H1
                clear H1
                obtain rfl := Option.some.inj H
                go_wp2
                go_ret
                exact ⟨by first | rfl | (simp [errW_none, errW_some] <;> rfl) | (simp [*, errW_none, errW_some] <;> rfl), by repeat (first | (with_reducible first | exact HB.out | apply below_alloc | apply pw_below_drewN | apply below_drew1) | exact HB.out)⟩

end Go.Proofs.YthkkkfeiklfjoaaDoor.P
