/- Each function below answers as its Lean twin says. No further condition. (Laid by this repo's packseat.py out of the seat's texts and of the print's words.) -/
import Derived.Test.YtfjeinnemimjoaaDoorU0base0x0
import Derived.Test.YtfjeinnemimjoaaDoorUchunk1x1
import Derived.Test.YtfjeinnemimjoaaDoorUchunk0x1
import Derived.Lib.SlBytesConst
namespace Go.Proofs.YtfjeinnemimjoaaDoor.P
open Go.RowKit Go.Proofs.YtfjeinnemimjoaaDoorW.PrintWords Go.Proofs.YtfjeinnemimjoaaDoorW.PrintLast Go.Proofs.YtfjeinnemimjoaaDoorW.PrintMore
attribute [local go_sem] max2_int min2_int max_two min_two max_three min_three max_four min_four   -- for this text's walks alone
set_option linter.unusedVariables false
set_option linter.unusedSimpArgs false

def tollbarlaw06_alive.f : Option (Bool) := some true
theorem alive6_1 : chunk_Decode.f 60 [51, 59, 120, 61, 49, 13, 10, 97, 98, 99, 13, 10, 48, 13, 10, 97, 58, 32, 98, 13, 10, 13, 10, 114, 101, 115, 116] 10 = some ([97, 98, 99], 23, 0) := by kernel_rfl
theorem alive6_2 : chunk_Decode.f 60 [51, 13, 10, 97, 98] 10 = some ([], 0, 0) := by kernel_rfl
theorem alive6_3 : chunk_Decode.f 60 [120, 13, 10] 10 = some ([], 0, 30) := by kernel_rfl
theorem alive6_4 : chunk_Encode.f 60 [] 5 = some [48, 13, 10, 13, 10] := by kernel_rfl
theorem alive6_5 : chunk_Encode.f 60 [97, 98, 99] 2 = some [50, 13, 10, 97, 98, 13, 10, 49, 13, 10, 99, 13, 10, 48, 13, 10, 13, 10] := by kernel_rfl
theorem F_const (W : World) (e : Nat) (xs : List Int) (fr : Nat × Nat) (hm : xs.length ≤ 9223372036854775807) :
    Kd.F (Kd.int .u8) (W.alloc (.cells (nums .u8 xs).toArray e fr)) (fun _ => True) (some ⟨W.heap.size, 0, none⟩) xs.length xs := fun W' hW => by
  refine Kd.C_of_reads (d := (0 : Int)) (h1 := fun _ => rfl) ⟨rfl, hm, fun _ => ⟨_, rfl, fun j hj => ?_⟩⟩
  have hl : (nums .u8 xs).length = xs.length := nums_length _ _
  have hg : (W.alloc (.cells (nums .u8 xs).toArray e fr)).heap[W.heap.size]? = some (.cells (nums .u8 xs).toArray e fr) := by
    show (W.heap.push _)[W.heap.size]? = _
    simp
  have := (hW W.heap.size trivial (by simp)).trans hg
  rw [add_plain]
  rw [cell_of_row _ _ _ _ _ _ this]
  simp [nums, List.getD_eq_getElem?_getD, List.getElem?_eq_getElem hj]
theorem law_base {w w1 : World} {b g : Nat} (hg : b ≤ g) (h : Below g w w1) : Below b w w1 := ⟨h.os, h.tape, h.output, h.size, fun i hi => h.block i (Nat.lt_of_lt_of_le hi hg)⟩
set_option maxHeartbeats 8000000 in
set_option maxRecDepth 100000 in
theorem tollbarlaw06_alive.calls (r : Bool) (w : World) (h : tollbarlaw06_alive.f = some r) (ht : Tabs w) :
    Calls Tryd.prog 6 #[] w fun e w' => e = .returned (.bool r) ∧ Below w.heap.size w w' := by
  obtain rfl := Option.some.inj h
  clear h
  have HTB := Aside0.mk ht
  clear ht
  have kc := fun (w : World) (C : Array Value) (n c : Nat) => Lib.run_convert_bytes_const (P := Tryd.prog) w 25 5 C n c Tryd.underlying25 Tryd.underlying5
  go_enter Tryd.func6, Tryd.ntmps6
  have HB := Aside0.mk (Below.refl w.heap.size w)
  go_wp2_with fail
  go_at_call 8
  refine (chunk_Decode.calls 60 _ _ [51, 59, 120, 61, 49, 13, 10, 97, 98, 99, 13, 10, 48, 13, 10, 97, 58, 32, 98, 13, 10, 13, 10, 114, 101, 115, 116] 10 _ _ _ _ (C_const _ _ _ _ (by decide)) (by decide) alive6_1).mono ?_
  rintro e w1 ⟨v1, rfl, hr1, hb⟩
  have HB' := Aside0.mk (below_step (by repeat (first | exact HB.out | apply below_alloc)) hb)
  clear HB hb
  have HB := HB'
  clear HB'
  obtain ⟨A1, c1, rfl, hl1, hC1⟩ := Kd.R_reads hr1
  have HR1 := Aside0.mk hr1
  have HB1 := Aside0.mk (Below.refl w1.heap.size w1)
  clear hr1 hl1 hC1
  go_wp2_with fail
  go_at_call 8
  refine (chunk_Decode.calls 60 _ _ [51, 13, 10, 97, 98] 10 _ _ _ _ (C_const _ _ _ _ (by decide)) (by decide) alive6_2).mono ?_
  rintro e w2 ⟨v2, rfl, hr2, hb⟩
  have HB' := Aside0.mk (below_step (by repeat (first | exact HB.out | apply below_alloc)) hb)
  have HB1' := Aside0.mk (below_step (by repeat (first | exact HB1.out | apply below_alloc)) hb)
  clear HB HB1 hb hr2
  have HB := HB'
  have HB1 := HB1'
  clear HB' HB1'
  go_wp2_with fail
  go_at_call 8
  refine (chunk_Decode.calls 60 _ _ [120, 13, 10] 10 _ _ _ _ (C_const _ _ _ _ (by decide)) (by decide) alive6_3).mono ?_
  rintro e w3 ⟨v3, rfl, hr3, hb⟩
  have HB' := Aside0.mk (below_step (by repeat (first | exact HB.out | apply below_alloc)) hb)
  have HB1' := Aside0.mk (below_step (by repeat (first | exact HB1.out | apply below_alloc)) hb)
  clear HB HB1 hb hr3
  have HB := HB'
  have HB1 := HB1'
  clear HB' HB1'
  have hcv1 : (convert 25 9 (.slice A1 3 c1)).run Tryd.prog w3 = .ok (.string ⟨#[97, 98, 99]⟩) w3 := own_string (P := Tryd.prog) Tryd.underlying25 Tryd.underlying5 Tryd.underlying9 (Kd.own_of_R (Kd.R_below HR1.out HB1.out))
  go_wp2_with fail
  go_at_call 20
  refine (chunk_Encode.calls 60 (fun _ => False) _ _ [] 5 _ _ (Kd.V_nil _ _ _ _ _) alive6_4 (HTB.out.below HB.out)).mono ?_
  rintro e w4 ⟨v4, rfl, hr4, hb⟩
  have HB' := Aside0.mk (below_step (by repeat (first | exact HB.out | apply below_alloc)) hb)
  clear HB hb
  have HB := HB'
  clear HB'
  obtain ⟨A4, c4, rfl, hl4, hC4⟩ := Kd.R_reads hr4
  have hcv4 : (convert 25 9 (.slice A4 5 c4)).run Tryd.prog w4 = .ok (.string ⟨#[48, 13, 10, 13, 10]⟩) w4 := own_string (P := Tryd.prog) Tryd.underlying25 Tryd.underlying5 Tryd.underlying9 (Kd.own_of_R hr4)
  clear hr4 hl4 hC4
  go_wp2_with fail
  go_at_call 20
  refine (chunk_Encode.calls 60 (fun _ => True) _ _ [97, 98, 99] 2 _ _ (Kd.V_mk (by decide) (F_const _ _ _ _ (by decide))) alive6_5 (HTB.out.below (by repeat (first | exact HB.out | apply below_alloc)))).mono ?_
  rintro e w5 ⟨v5, rfl, hr5, hb⟩
  have HB' := Aside0.mk (below_step (by repeat (first | exact HB.out | apply below_alloc)) hb)
  clear HB hb
  have HB := HB'
  clear HB'
  obtain ⟨A5, c5, rfl, hl5, hC5⟩ := Kd.R_reads hr5
  have hcv5 : (convert 25 9 (.slice A5 18 c5)).run Tryd.prog w5 = .ok (.string ⟨#[50, 13, 10, 97, 98, 13, 10, 49, 13, 10, 99, 13, 10, 48, 13, 10, 13, 10]⟩) w5 := own_string (P := Tryd.prog) Tryd.underlying25 Tryd.underlying5 Tryd.underlying9 (Kd.own_of_R hr5)
  clear hr5 hl5 hC5
  go_wp2
  go_ret
  exact ⟨rfl, HB.out⟩


end Go.Proofs.YtfjeinnemimjoaaDoor.P

namespace Go.Proofs.YtfjeinnemimjoaaDoor.P
open Go.RowKit Go.Proofs.YtfjeinnemimjoaaDoorW.PrintWords Go.Proofs.YtfjeinnemimjoaaDoorW.PrintLast Go.Proofs.YtfjeinnemimjoaaDoorW.PrintMore
attribute [local go_sem] max2_int min2_int max_two min_two max_three min_three max_four min_four   -- for this text's walks alone
set_option linter.unusedVariables false
set_option linter.unusedSimpArgs false

def tollbarlaw06_bad.l0 : Nat → ByteArray → Int → Option (Bool)
  | 0, _, _ => none
  | k + 1, x0, x3 => if x3 < (x0.size : Int) then (if 0 ≤ x3 then (if (bt x0 x3) < 32 then (if (bt x0 x3) = 9 then (if (bt x0 x3) = 127 then (some true) else (tollbarlaw06_bad.l0 k x0 (wrap64 (x3 + 1)))) else (some true)) else (if (bt x0 x3) = 127 then (some true) else (tollbarlaw06_bad.l0 k x0 (wrap64 (x3 + 1))))) else (none)) else (some false)
def tollbarlaw06_bad.f (k : Nat) (a0 : ByteArray) : Option (Bool) := tollbarlaw06_bad.l0 k a0 0
theorem tollbarlaw06_bad.mono_l : ∀ k, (∀ y0 y1, LeO (tollbarlaw06_bad.l0 k y0 y1) (tollbarlaw06_bad.l0 (k + 1) y0 y1))
  | 0 => fun _ _ r h => by simp [tollbarlaw06_bad.l0] at h
  | k + 1 => by
    have ih0 := tollbarlaw06_bad.mono_l k
    · intro y0 y1
      unfold tollbarlaw06_bad.l0
      repeat' first
      | (with_reducible exact ih0 _ _)
      | (with_reducible exact LeO.refl _)
      | (with_reducible exact LeO.none _)
      | (with_reducible refine LeO.ite ?_ ?_)
      | (with_reducible refine LeO.bind ?_ (fun _ => ?_))
      | exact ih0 _ _
      | exact LeO.none _
      | refine LeO.ite ?_ ?_
      | refine LeO.bind ?_ (fun _ => ?_)
theorem tollbarlaw06_bad.mono : ∀ a0 k, LeO (tollbarlaw06_bad.f k a0) (tollbarlaw06_bad.f (k + 1) a0) := by
  intro a0 k
  have ih0 := tollbarlaw06_bad.mono_l k
  unfold tollbarlaw06_bad.f
  repeat' first
      | (with_reducible exact ih0 _ _)
      | (with_reducible exact LeO.refl _)
      | (with_reducible exact LeO.none _)
      | (with_reducible refine LeO.ite ?_ ?_)
      | (with_reducible refine LeO.bind ?_ (fun _ => ?_))
      | exact ih0 _ _
      | exact LeO.none _
      | refine LeO.ite ?_ ?_
      | refine LeO.bind ?_ (fun _ => ?_)
set_option maxHeartbeats 8000000 in
set_option maxRecDepth 100000 in
theorem tollbarlaw06_bad.calls (k : Nat) (a0 : ByteArray) (r : Bool) (w : World) (h : tollbarlaw06_bad.f k a0 = some r) :
    Calls Tryd.prog 7 #[.string a0] w fun e w' => e = .returned (.bool r) ∧ Drawn0 w w' := by
  have H : (tollbarlaw06_bad.l0 k a0 0) = some r := h
  clear h
  have H' := Aside0.mk H
  clear H
  go_enter Tryd.func7, Tryd.ntmps7
  go_wp2
  go_loopg [3] k (fun kq v3 w' => ∃ (x3_1 : Int), v3 = .int .i64 x3_1 ∧ Aside0 (tollbarlaw06_bad.l0 kq a0 x3_1 = some r) ∧ Aside0 (kq ≤ k) ∧ Drawn0 w w')
  case atStart => exact ⟨(0), (by first | rfl | (simp; done) | (simp [*]; done)), H', ⟨Nat.le_refl _⟩, by repeat (first | exact Drawn0.refl _ | apply Drawn0.step)⟩
  case round =>
    clear H'
    obtain ⟨x3_1, rfl, HA, HK1, ⟨m1, rfl⟩⟩ := hrel
    cases gk with
    | zero => exact absurd HA.out (by simp [tollbarlaw06_bad.l0])
    | succ k1 =>
      have H := HA.out
      clear HA
      simp only [tollbarlaw06_bad.l0] at H
      by_cases c2 : x3_1 < (a0.size : Int)
      · rw [if_pos c2] at H
        have c2b0 : decide (x3_1 < (a0.size : Int)) = true := decide_eq_true c2
        clear c2
        by_cases c3 : 0 ≤ x3_1
        · rw [if_pos c3] at H
          have c3b0 : decide (0 ≤ x3_1) = true := decide_eq_true c3
          clear c3
          by_cases c5 : (bt a0 x3_1) < 32
          · rw [if_pos c5] at H
            have c5b0 : decide ((bt a0 x3_1) < 32) = true := decide_eq_true c5
            clear c5
            by_cases c7 : (bt a0 x3_1) = 9
            · rw [if_pos c7] at H
              have c7b0 : ((bt a0 x3_1) == 9) = true := beq_iff_eq.mpr c7
              have c7b1 : ((bt a0 x3_1) != 9) = false := bne_eq_false_iff_eq.mpr c7
              clear c7
              by_cases c9 : (bt a0 x3_1) = 127
              · rw [if_pos c9] at H
                have c9b0 : ((bt a0 x3_1) == 127) = true := beq_iff_eq.mpr c9
                have c9b1 : ((bt a0 x3_1) != 127) = false := bne_eq_false_iff_eq.mpr c9
                clear c9
                obtain rfl := Option.some.inj H
                have p4 : 0 ≤ (x3_1 : Int) := of_decide_eq_true (by first | (with_reducible assumption) | assumption)
                have q4 : x3_1 < (a0.size : Int) := of_decide_eq_true (by first | (with_reducible assumption) | assumption)
                have hx4 := bt_at a0 x3_1
                replace p4 := eq_true p4
                replace q4 := eq_true q4
                have p6 : 0 ≤ (x3_1 : Int) := of_decide_eq_true (by first | (with_reducible assumption) | assumption)
                have q6 : x3_1 < (a0.size : Int) := of_decide_eq_true (by first | (with_reducible assumption) | assumption)
                have hx6 := bt_at a0 x3_1
                replace p6 := eq_true p6
                replace q6 := eq_true q6
                have p8 : 0 ≤ (x3_1 : Int) := of_decide_eq_true (by first | (with_reducible assumption) | assumption)
                have q8 : x3_1 < (a0.size : Int) := of_decide_eq_true (by first | (with_reducible assumption) | assumption)
                have hx8 := bt_at a0 x3_1
                replace p8 := eq_true p8
                replace q8 := eq_true q8
                go_wp2
                go_ret
                exact ⟨by first | rfl | (simp; done) | (simp [*]; done), by repeat (first | exact Drawn0.refl _ | apply Drawn0.step)⟩
              · rw [if_neg c9] at H
                have c9b0 : ((bt a0 x3_1) == 127) = false := beq_eq_false_iff_ne.mpr c9
                have c9b1 : ((bt a0 x3_1) != 127) = true := bne_iff_ne.mpr c9
                have H' := Aside0.mk H
                clear H
                have p4 : 0 ≤ (x3_1 : Int) := of_decide_eq_true (by first | (with_reducible assumption) | assumption)
                have q4 : x3_1 < (a0.size : Int) := of_decide_eq_true (by first | (with_reducible assumption) | assumption)
                have hx4 := bt_at a0 x3_1
                replace p4 := eq_true p4
                replace q4 := eq_true q4
                have p6 : 0 ≤ (x3_1 : Int) := of_decide_eq_true (by first | (with_reducible assumption) | assumption)
                have q6 : x3_1 < (a0.size : Int) := of_decide_eq_true (by first | (with_reducible assumption) | assumption)
                have hx6 := bt_at a0 x3_1
                replace p6 := eq_true p6
                replace q6 := eq_true q6
                have p8 : 0 ≤ (x3_1 : Int) := of_decide_eq_true (by first | (with_reducible assumption) | assumption)
                have q8 : x3_1 < (a0.size : Int) := of_decide_eq_true (by first | (with_reducible assumption) | assumption)
                have hx8 := bt_at a0 x3_1
                replace p8 := eq_true p8
                replace q8 := eq_true q8
                go_wp2
                go_roundg k1
                case measure => have := HK1.out; omega
                case rel => exact ⟨(wrap64 (x3_1 + 1)), (by first | rfl | (simp; done) | (simp [*]; done)), H', ⟨by have := HK1.out; omega⟩, by repeat (first | exact Drawn0.refl _ | apply Drawn0.step)⟩
            · rw [if_neg c7] at H
              have c7b0 : ((bt a0 x3_1) == 9) = false := beq_eq_false_iff_ne.mpr c7
              have c7b1 : ((bt a0 x3_1) != 9) = true := bne_iff_ne.mpr c7
              obtain rfl := Option.some.inj H
              have p4 : 0 ≤ (x3_1 : Int) := of_decide_eq_true (by first | (with_reducible assumption) | assumption)
              have q4 : x3_1 < (a0.size : Int) := of_decide_eq_true (by first | (with_reducible assumption) | assumption)
              have hx4 := bt_at a0 x3_1
              replace p4 := eq_true p4
              replace q4 := eq_true q4
              have p6 : 0 ≤ (x3_1 : Int) := of_decide_eq_true (by first | (with_reducible assumption) | assumption)
              have q6 : x3_1 < (a0.size : Int) := of_decide_eq_true (by first | (with_reducible assumption) | assumption)
              have hx6 := bt_at a0 x3_1
              replace p6 := eq_true p6
              replace q6 := eq_true q6
              go_wp2
              go_ret
              exact ⟨by first | rfl | (simp; done) | (simp [*]; done), by repeat (first | exact Drawn0.refl _ | apply Drawn0.step)⟩
          · rw [if_neg c5] at H
            have c5b0 : decide ((bt a0 x3_1) < 32) = false := decide_eq_false c5
            clear c5
            by_cases c11 : (bt a0 x3_1) = 127
            · rw [if_pos c11] at H
              have c11b0 : ((bt a0 x3_1) == 127) = true := beq_iff_eq.mpr c11
              have c11b1 : ((bt a0 x3_1) != 127) = false := bne_eq_false_iff_eq.mpr c11
              clear c11
              obtain rfl := Option.some.inj H
              have p4 : 0 ≤ (x3_1 : Int) := of_decide_eq_true (by first | (with_reducible assumption) | assumption)
              have q4 : x3_1 < (a0.size : Int) := of_decide_eq_true (by first | (with_reducible assumption) | assumption)
              have hx4 := bt_at a0 x3_1
              replace p4 := eq_true p4
              replace q4 := eq_true q4
              have p10 : 0 ≤ (x3_1 : Int) := of_decide_eq_true (by first | (with_reducible assumption) | assumption)
              have q10 : x3_1 < (a0.size : Int) := of_decide_eq_true (by first | (with_reducible assumption) | assumption)
              have hx10 := bt_at a0 x3_1
              replace p10 := eq_true p10
              replace q10 := eq_true q10
              go_wp2
              go_ret
              exact ⟨by first | rfl | (simp; done) | (simp [*]; done), by repeat (first | exact Drawn0.refl _ | apply Drawn0.step)⟩
            · rw [if_neg c11] at H
              have c11b0 : ((bt a0 x3_1) == 127) = false := beq_eq_false_iff_ne.mpr c11
              have c11b1 : ((bt a0 x3_1) != 127) = true := bne_iff_ne.mpr c11
              have H' := Aside0.mk H
              clear H
              have p4 : 0 ≤ (x3_1 : Int) := of_decide_eq_true (by first | (with_reducible assumption) | assumption)
              have q4 : x3_1 < (a0.size : Int) := of_decide_eq_true (by first | (with_reducible assumption) | assumption)
              have hx4 := bt_at a0 x3_1
              replace p4 := eq_true p4
              replace q4 := eq_true q4
              have p10 : 0 ≤ (x3_1 : Int) := of_decide_eq_true (by first | (with_reducible assumption) | assumption)
              have q10 : x3_1 < (a0.size : Int) := of_decide_eq_true (by first | (with_reducible assumption) | assumption)
              have hx10 := bt_at a0 x3_1
              replace p10 := eq_true p10
              replace q10 := eq_true q10
              go_wp2
              go_roundg k1
              case measure => have := HK1.out; omega
              case rel => exact ⟨(wrap64 (x3_1 + 1)), (by first | rfl | (simp; done) | (simp [*]; done)), H', ⟨by have := HK1.out; omega⟩, by repeat (first | exact Drawn0.refl _ | apply Drawn0.step)⟩
        · rw [if_neg c3] at H
          exact absurd H (by simp)
      · rw [if_neg c2] at H
        have c2b0 : decide (x3_1 < (a0.size : Int)) = false := decide_eq_false c2
        clear c2
        obtain rfl := Option.some.inj H
        go_wp2
        go_ret
        exact ⟨by first | rfl | (simp; done) | (simp [*]; done), by repeat (first | exact Drawn0.refl _ | apply Drawn0.step)⟩

end Go.Proofs.YtfjeinnemimjoaaDoor.P

