/- Each function below answers as its Lean twin says. No further condition. (Laid by this repo's packseat.py out of the seat's texts and of the print's words.) -/
import Derived.Test.YtjgpifjfaiaidaaDoorU0base0x0
import Derived.Test.YtjgpifjfaiaidaaDoorUsign0x0
namespace Go.Proofs.YtjgpifjfaiaidaaDoor.P
open Go.RowKit Go.Proofs.YtjgpifjfaiaidaaDoorW.PrintWords Go.Proofs.YtjgpifjfaiaidaaDoorW.PrintLast Go.Proofs.YtjgpifjfaiaidaaDoorW.PrintMore
attribute [local go_sem] max2_int min2_int max_two min_two max_three min_three max_four min_four   -- for this text's walks alone
set_option linter.unusedVariables false
set_option linter.unusedSimpArgs false

def line_StatusLine.l0 : Nat → ByteArray → Int → ByteArray → Int → List (S84) → List Int → Option (ByteArray)
  | 0, _, _, _, _, _, _ => none
  | k + 1, x3, x196000, x196001, x196002, x196003, x196004 => if (x3.size : Int) < 3 then (if 1 + x3.size ≤ 9223372036854775807 then (line_StatusLine.l0 k ((⟨#[48]⟩ : ByteArray) ++ x3) x196000 x196001 x196002 x196003 x196004) else (none)) else ((sign_Text.f x196002).bind fun t197 => (if 7 + t197.size ≤ 9223372036854775807 then (if ((⟨#[72, 84, 84, 80, 47, 49, 46]⟩ : ByteArray) ++ t197).size + 1 ≤ 9223372036854775807 then (if (((⟨#[72, 84, 84, 80, 47, 49, 46]⟩ : ByteArray) ++ t197) ++ (⟨#[32]⟩ : ByteArray)).size + x3.size ≤ 9223372036854775807 then (if ((((⟨#[72, 84, 84, 80, 47, 49, 46]⟩ : ByteArray) ++ t197) ++ (⟨#[32]⟩ : ByteArray)) ++ x3).size + 1 ≤ 9223372036854775807 then (if (((((⟨#[72, 84, 84, 80, 47, 49, 46]⟩ : ByteArray) ++ t197) ++ (⟨#[32]⟩ : ByteArray)) ++ x3) ++ (⟨#[32]⟩ : ByteArray)).size + x196001.size ≤ 9223372036854775807 then (if ((((((⟨#[72, 84, 84, 80, 47, 49, 46]⟩ : ByteArray) ++ t197) ++ (⟨#[32]⟩ : ByteArray)) ++ x3) ++ (⟨#[32]⟩ : ByteArray)) ++ x196001).size + 2 ≤ 9223372036854775807 then (some (((((((⟨#[72, 84, 84, 80, 47, 49, 46]⟩ : ByteArray) ++ t197) ++ (⟨#[32]⟩ : ByteArray)) ++ x3) ++ (⟨#[32]⟩ : ByteArray)) ++ x196001) ++ (⟨#[13, 10]⟩ : ByteArray))) else (none)) else (none)) else (none)) else (none)) else (none)) else (none)))
def line_StatusLine.f (k : Nat) (a0_0 : Int) (a0_1 : ByteArray) (a0_2 : Int) (l0_3 : List (S84)) (l0_4 : List Int) : Option (ByteArray) := (sign_Text.f a0_0).bind fun t196 => (line_StatusLine.l0 k t196 a0_0 a0_1 a0_2 l0_3 l0_4)
theorem line_StatusLine.mono_l : ∀ k, (∀ y0 y1 y2 y3 y4 y5, LeO (line_StatusLine.l0 k y0 y1 y2 y3 y4 y5) (line_StatusLine.l0 (k + 1) y0 y1 y2 y3 y4 y5))
  | 0 => fun _ _ _ _ _ _ r h => by simp [line_StatusLine.l0] at h
  | k + 1 => by
    have ih0 := line_StatusLine.mono_l k
    · intro y0 y1 y2 y3 y4 y5
      unfold line_StatusLine.l0
      repeat' first
      | (with_reducible exact ih0 _ _ _ _ _ _)
      | (with_reducible exact LeO.refl _)
      | (with_reducible exact LeO.none _)
      | (with_reducible refine LeO.ite ?_ ?_)
      | (with_reducible refine LeO.bind ?_ (fun _ => ?_))
      | exact ih0 _ _ _ _ _ _
      | exact LeO.none _
      | refine LeO.ite ?_ ?_
      | refine LeO.bind ?_ (fun _ => ?_)
theorem line_StatusLine.mono : ∀ a0 a1 a2 a3 a4 k, LeO (line_StatusLine.f k a0 a1 a2 a3 a4) (line_StatusLine.f (k + 1) a0 a1 a2 a3 a4) := by
  intro a0 a1 a2 a3 a4 k
  have ih0 := line_StatusLine.mono_l k
  unfold line_StatusLine.f
  repeat' first
      | (with_reducible exact ih0 _ _ _ _ _ _)
      | (with_reducible exact LeO.refl _)
      | (with_reducible exact LeO.none _)
      | (with_reducible refine LeO.ite ?_ ?_)
      | (with_reducible refine LeO.bind ?_ (fun _ => ?_))
      | exact ih0 _ _ _ _ _ _
      | exact LeO.none _
      | refine LeO.ite ?_ ?_
      | refine LeO.bind ?_ (fun _ => ?_)
def line_StatusLine.T4 : Bool × List (List Nat × List Nat) := (true, [([], []), ([0], [0]), ([1], [1]), ([2], [2]), ([3], [3]), ([], []), ([4, 5], [4, 5]), ([6], [6]), ([], []), ([8], [8]), ([7, 9], [7, 9]), ([10], [10]), ([11, 2, 0, 1, 2, 3, 4, 5, 6, 7, 8, 9, 10, 11], [11])])
def line_StatusLine.B4 : List Nat := [0, 1, 3, 7, 15, 0, 63, 127, 0, 256, 1023, 2047, 4095]
theorem line_StatusLine.tab4 : rtab .any (opsOf Tryd.f24 4) = line_StatusLine.T4 := by kernel_rfl
theorem line_StatusLine.bits4 : waitsOk line_StatusLine.T4.2 line_StatusLine.B4 = true := by kernel_rfl
set_option maxHeartbeats 8000000 in
set_option maxRecDepth 100000 in
theorem line_StatusLine.calls (k : Nat) (a0_0 : Int) (a0_1 : ByteArray) (a0_2 : Int) (A0_3 : Option Addr) (c0_3 : Nat) (l0_3 : List (S84)) (A0_4 : Option Addr) (c0_4 : Nat) (l0_4 : List Int) (r : ByteArray) (w : World) (hr0_3 : Kd.C k84 w A0_3 l0_3.length l0_3) (hc0_3 : l0_3.length ≤ c0_3) (hr0_4 : Kd.C (Kd.int .u8) w A0_4 l0_4.length l0_4) (hc0_4 : l0_4.length ≤ c0_4) (h : line_StatusLine.f k a0_0 a0_1 a0_2 l0_3 l0_4 = some r) (ht : Tabs w) :
    Calls Tryd.prog 24 #[.agg #[.int .i64 a0_0, .string a0_1, .int .i64 a0_2, .slice A0_3 l0_3.length c0_3, .slice A0_4 l0_4.length c0_4]] w fun e w' => e = .returned (.string r) ∧ Below w.heap.size w w' := by
  have HTB := Aside0.mk ht
  clear ht
  have hu31 := Tryd.underlying31
  have HR0_3 := Aside0.mk hr0_3
  have HC0_3 := Aside0.mk hc0_3
  clear hr0_3 hc0_3
  have HR0_4 := Aside0.mk hr0_4
  have HC0_4 := Aside0.mk hc0_4
  clear hr0_4 hc0_4
  have HB := Aside0.mk (Below.refl w.heap.size w)
  have H : ((sign_Text.f a0_0).bind fun t196 => (line_StatusLine.l0 k t196 a0_0 a0_1 a0_2 l0_3 l0_4)) = some r := h
  clear h
  replace H := Option.bind_eq_some_iff.mp H
  obtain ⟨t196, A20, H⟩ := H
  replace H : (line_StatusLine.l0 k t196 a0_0 a0_1 a0_2 l0_3 l0_4) = some r := H
  have A2 := Aside0.mk A20
  clear A20
  have H' := Aside0.mk H
  clear H
  go_enter Tryd.func24, Tryd.ntmps24
  go_wp2_with (first | ((with_reducible refine gate_dst (N := 1) rfl ?_); refine box_event ?hg (N := 1) ?hd (cs := #[.int .i64 a0_0, .string a0_1, .int .i64 a0_2, .slice A0_3 l0_3.length c0_3, .slice A0_4 l0_4.length c0_4]) (t := 31) ?hr ?_; (case hd => rfl); (case hg => rfl); (case hr => first | (go_simp; done) | (go_simp; rfl)); intro gb195 hg w3 hbox hb; have n0_ := Aside0.mk (below_step (by repeat (first | (with_reducible first | exact HB.out | apply below_alloc | apply pw_below_drewN | apply below_drew1) | exact HB.out)) hb); have n1_ := Aside0.mk (hbox); have n2_ := Aside0.mk ((by rw [hg]; exact (below_size (by repeat (first | (with_reducible first | exact HB.out | apply below_alloc | apply pw_below_drewN | apply below_drew1) | exact HB.out))) : w.heap.size ≤ gb195)); have n3_ := Aside0.mk ((by rw [hg]; exact (below_size (by repeat (first | (with_reducible first | exact HB.out | apply below_alloc | apply pw_below_drewN | apply below_drew1) | exact HB.out))) : w.heap.size ≤ gb195)); clear HB; have HB := n0_; have BK195 := n1_; have GW195 := n2_; have GE195 := n3_; clear n0_ n1_ n2_ n3_; clear hb hbox hg; have hcz4_0 : w3.cell? ⟨gb195, 0, none⟩ = some (.int .i64 a0_0) := (blk_cell BK195.out 0).trans rfl; have hcz4_1 : w3.cell? ⟨gb195, 1, none⟩ = some (.string a0_1) := (blk_cell BK195.out 1).trans rfl; have hcz4_2 : w3.cell? ⟨gb195, 2, none⟩ = some (.int .i64 a0_2) := (blk_cell BK195.out 2).trans rfl; have hcz4_3 : w3.cell? ⟨gb195, 3, none⟩ = some (.slice A0_3 l0_3.length c0_3) := (blk_cell BK195.out 3).trans rfl; have hcz4_4 : w3.cell? ⟨gb195, 4, none⟩ = some (.slice A0_4 l0_4.length c0_4) := (blk_cell BK195.out 4).trans rfl; have hfz4_0 := blk_frozen BK195.out 0; have hfz4_1 := blk_frozen BK195.out 1; have hfz4_2 := blk_frozen BK195.out 2; have hfz4_3 := blk_frozen BK195.out 3; have hfz4_4 := blk_frozen BK195.out 4) | ((with_reducible refine gate_callee (f := 54) rfl ?_); refine goesL_ (some 6) rfl rfl Tryd.func54 (by kernel_rfl) rfl #[.int .i64 a0_0] rfl (by (try simp only [List.map_toArray, List.map_cons, List.map_nil]); first | done | rfl | (simp only [List.length_drop, List.length_take]; rfl)) ?_; (with_reducible refine (sign_Text.calls a0_0 t196 _ A2.out ?hT).mono ?_); (case hT => exact HTB.out.below (by repeat (first | (with_reducible first | exact HB.out | apply below_alloc | apply pw_below_drewN | apply below_drew1 | refine below_set ?_ GE195.out) | exact HB.out))); rintro e w5 ⟨rfl, hb⟩; (try clear A2); refine ⟨_, rfl, ?_⟩; have n0_ := Aside0.mk (blk_below (g := gb195) (o := .cells #[.int .i64 a0_0, .string a0_1, .int .i64 a0_2, .slice A0_3 l0_3.length c0_3, .slice A0_4 l0_4.length c0_4] 31 (0, 0)) (by (with_reducible repeat (first | refine blk_drewN ?_ _ | refine blk_drew ?_ | refine blk_alloc ?_ _)); exact BK195.out) hb); have n1_ := Aside0.mk (below_step (by repeat (first | (with_reducible first | exact HB.out | apply below_alloc | apply pw_below_drewN | apply below_drew1 | refine below_set ?_ GE195.out) | exact HB.out)) hb); clear BK195; clear HB; have BK195 := n0_; have HB := n1_; clear n0_ n1_; (try clear hb); (try clear hb2); (try clear hk); (try clear hi)))
  go_loopg [3] k (fun kq v3 w' => ∃ (x3_1 : ByteArray), v3 = .string x3_1 ∧ Aside0 (line_StatusLine.l0 kq x3_1 a0_0 a0_1 a0_2 l0_3 l0_4 = some r) ∧ Aside0 (kq ≤ k) ∧ Aside0 (w'.heap[gb195]? = some (.cells #[.int .i64 a0_0, .string a0_1, .int .i64 a0_2, (.slice A0_3 l0_3.length c0_3), (.slice A0_4 l0_4.length c0_4)] 31 (0, 0))) ∧ Aside0 (Below w.heap.size w w'))
  case atStart => exact ⟨(t196), (by first | rfl | (simp; done) | (simp [*]; done)), H', ⟨Nat.le_refl _⟩, ⟨by (with_reducible repeat (first | refine blk_drewN ?_ _ | refine blk_drew ?_ | refine blk_alloc ?_ _)); exact BK195.out⟩, ⟨by repeat (first | (with_reducible first | exact HB.out | apply below_alloc | apply pw_below_drewN | apply below_drew1 | refine below_set ?_ GE195.out) | exact HB.out)⟩⟩
  case round =>
    clear H'
    try clear c2
    try clear p2
    try clear c5
    try clear hcz4_0
    try clear hcz4_1
    try clear hcz4_2
    try clear hcz4_3
    try clear hcz4_4
    try clear hfz4_0
    try clear hfz4_1
    try clear hfz4_2
    try clear hfz4_3
    try clear hfz4_4
    obtain ⟨x3_1, rfl, HA, HK1, BK195, HB⟩ := hrel
    cases gk with
    | zero => exact absurd HA.out (by simp [line_StatusLine.l0])
    | succ k1 =>
      have H := HA.out
      clear HA
      simp only [line_StatusLine.l0] at H
      by_cases c6 : (x3_1.size : Int) < 3
      · rw [if_pos c6] at H
        have c6b0 : decide ((x3_1.size : Int) < 3) = true := decide_eq_true c6
        have c6b1 : decide (x3_1.size < 3) = true := decide_eq_true (by omega)
        clear c6
        by_cases c7 : 1 + x3_1.size ≤ 9223372036854775807
        · rw [if_pos c7] at H
          have c7b0 := eq_true c7
          have c7b1 : decide (1 + x3_1.size ≤ 9223372036854775807) = true := decide_eq_true c7
          try have c7b2 : (9223372036854775807 < 1 + x3_1.size) = False := eq_false (Nat.not_lt.2 c7)
          have H' := Aside0.mk H
          clear H
          go_wp2
          go_roundg k1
          case measure => have := HK1.out; omega
          case rel => exact ⟨((⟨#[48]⟩ : ByteArray) ++ x3_1), (by first | rfl | (simp; done) | (simp [*]; done)), H', ⟨by have := HK1.out; omega⟩, ⟨by (with_reducible repeat (first | refine blk_drewN ?_ _ | refine blk_drew ?_ | refine blk_alloc ?_ _)); exact BK195.out⟩, ⟨by repeat (first | (with_reducible first | exact HB.out | apply below_alloc | apply pw_below_drewN | apply below_drew1 | refine below_set ?_ GE195.out) | exact HB.out)⟩⟩
        · rw [if_neg c7] at H
          exact absurd H (by simp)
      · rw [if_neg c6] at H
        have c6b0 : decide ((x3_1.size : Int) < 3) = false := decide_eq_false c6
        have c6b1 : decide (x3_1.size < 3) = false := decide_eq_false (by omega)
        clear c6
        replace H := Option.bind_eq_some_iff.mp H
        obtain ⟨t197, A80, H⟩ := H
        replace H : (if 7 + t197.size ≤ 9223372036854775807 then (if ((⟨#[72, 84, 84, 80, 47, 49, 46]⟩ : ByteArray) ++ t197).size + 1 ≤ 9223372036854775807 then (if (((⟨#[72, 84, 84, 80, 47, 49, 46]⟩ : ByteArray) ++ t197) ++ (⟨#[32]⟩ : ByteArray)).size + x3_1.size ≤ 9223372036854775807 then (if ((((⟨#[72, 84, 84, 80, 47, 49, 46]⟩ : ByteArray) ++ t197) ++ (⟨#[32]⟩ : ByteArray)) ++ x3_1).size + 1 ≤ 9223372036854775807 then (if (((((⟨#[72, 84, 84, 80, 47, 49, 46]⟩ : ByteArray) ++ t197) ++ (⟨#[32]⟩ : ByteArray)) ++ x3_1) ++ (⟨#[32]⟩ : ByteArray)).size + a0_1.size ≤ 9223372036854775807 then (if ((((((⟨#[72, 84, 84, 80, 47, 49, 46]⟩ : ByteArray) ++ t197) ++ (⟨#[32]⟩ : ByteArray)) ++ x3_1) ++ (⟨#[32]⟩ : ByteArray)) ++ a0_1).size + 2 ≤ 9223372036854775807 then (some (((((((⟨#[72, 84, 84, 80, 47, 49, 46]⟩ : ByteArray) ++ t197) ++ (⟨#[32]⟩ : ByteArray)) ++ x3_1) ++ (⟨#[32]⟩ : ByteArray)) ++ a0_1) ++ (⟨#[13, 10]⟩ : ByteArray))) else (none)) else (none)) else (none)) else (none)) else (none)) else (none)) = some r := H
        have A8 := Aside0.mk A80
        clear A80
        by_cases c9 : 7 + t197.size ≤ 9223372036854775807
        · rw [if_pos c9] at H
          have c9b0 := eq_true c9
          have c9b1 : decide (7 + t197.size ≤ 9223372036854775807) = true := decide_eq_true c9
          try have c9b2 : (9223372036854775807 < 7 + t197.size) = False := eq_false (Nat.not_lt.2 c9)
          by_cases c10 : ((⟨#[72, 84, 84, 80, 47, 49, 46]⟩ : ByteArray) ++ t197).size + 1 ≤ 9223372036854775807
          · rw [if_pos c10] at H
            have c10b0 := eq_true c10
            have c10b1 : decide (((⟨#[72, 84, 84, 80, 47, 49, 46]⟩ : ByteArray) ++ t197).size + 1 ≤ 9223372036854775807) = true := decide_eq_true c10
            try have c10b2 : (9223372036854775807 < ((⟨#[72, 84, 84, 80, 47, 49, 46]⟩ : ByteArray) ++ t197).size + 1) = False := eq_false (Nat.not_lt.2 c10)
            try (have c10b3 := c10b0; simp only [ByteArray.size_append] at c10b3; have c10b4 := c10b2; simp only [ByteArray.size_append] at c10b4)
            try have c10b5 : (9223372036854775807 < 7 + t197.size + 1) = False := eq_false (by have q_ := c10; simp only [ByteArray.size_append] at q_; have e0_ : (⟨#[72, 84, 84, 80, 47, 49, 46]⟩ : ByteArray).size = 7 := rfl; omega)
            try have c10b6 : (7 + t197.size + 1 ≤ 9223372036854775807) = True := eq_true (by have q_ := c10; simp only [ByteArray.size_append] at q_; have e0_ : (⟨#[72, 84, 84, 80, 47, 49, 46]⟩ : ByteArray).size = 7 := rfl; omega)
            by_cases c11 : (((⟨#[72, 84, 84, 80, 47, 49, 46]⟩ : ByteArray) ++ t197) ++ (⟨#[32]⟩ : ByteArray)).size + x3_1.size ≤ 9223372036854775807
            · rw [if_pos c11] at H
              have c11b0 := eq_true c11
              have c11b1 : decide ((((⟨#[72, 84, 84, 80, 47, 49, 46]⟩ : ByteArray) ++ t197) ++ (⟨#[32]⟩ : ByteArray)).size + x3_1.size ≤ 9223372036854775807) = true := decide_eq_true c11
              try have c11b2 : (9223372036854775807 < (((⟨#[72, 84, 84, 80, 47, 49, 46]⟩ : ByteArray) ++ t197) ++ (⟨#[32]⟩ : ByteArray)).size + x3_1.size) = False := eq_false (Nat.not_lt.2 c11)
              try (have c11b3 := c11b0; simp only [ByteArray.size_append] at c11b3; have c11b4 := c11b2; simp only [ByteArray.size_append] at c11b4)
              try have c11b5 : (9223372036854775807 < 7 + t197.size + 1 + x3_1.size) = False := eq_false (by have q_ := c11; simp only [ByteArray.size_append] at q_; have e0_ : (⟨#[32]⟩ : ByteArray).size = 1 := rfl; have e1_ : (⟨#[72, 84, 84, 80, 47, 49, 46]⟩ : ByteArray).size = 7 := rfl; omega)
              try have c11b6 : (7 + t197.size + 1 + x3_1.size ≤ 9223372036854775807) = True := eq_true (by have q_ := c11; simp only [ByteArray.size_append] at q_; have e0_ : (⟨#[32]⟩ : ByteArray).size = 1 := rfl; have e1_ : (⟨#[72, 84, 84, 80, 47, 49, 46]⟩ : ByteArray).size = 7 := rfl; omega)
              by_cases c12 : ((((⟨#[72, 84, 84, 80, 47, 49, 46]⟩ : ByteArray) ++ t197) ++ (⟨#[32]⟩ : ByteArray)) ++ x3_1).size + 1 ≤ 9223372036854775807
              · rw [if_pos c12] at H
                have c12b0 := eq_true c12
                have c12b1 : decide (((((⟨#[72, 84, 84, 80, 47, 49, 46]⟩ : ByteArray) ++ t197) ++ (⟨#[32]⟩ : ByteArray)) ++ x3_1).size + 1 ≤ 9223372036854775807) = true := decide_eq_true c12
                try have c12b2 : (9223372036854775807 < ((((⟨#[72, 84, 84, 80, 47, 49, 46]⟩ : ByteArray) ++ t197) ++ (⟨#[32]⟩ : ByteArray)) ++ x3_1).size + 1) = False := eq_false (Nat.not_lt.2 c12)
                try (have c12b3 := c12b0; simp only [ByteArray.size_append] at c12b3; have c12b4 := c12b2; simp only [ByteArray.size_append] at c12b4)
                try have c12b5 : (9223372036854775807 < 7 + t197.size + 1 + x3_1.size + 1) = False := eq_false (by have q_ := c12; simp only [ByteArray.size_append] at q_; have e0_ : (⟨#[32]⟩ : ByteArray).size = 1 := rfl; have e1_ : (⟨#[72, 84, 84, 80, 47, 49, 46]⟩ : ByteArray).size = 7 := rfl; omega)
                try have c12b6 : (7 + t197.size + 1 + x3_1.size + 1 ≤ 9223372036854775807) = True := eq_true (by have q_ := c12; simp only [ByteArray.size_append] at q_; have e0_ : (⟨#[32]⟩ : ByteArray).size = 1 := rfl; have e1_ : (⟨#[72, 84, 84, 80, 47, 49, 46]⟩ : ByteArray).size = 7 := rfl; omega)
                by_cases c13 : (((((⟨#[72, 84, 84, 80, 47, 49, 46]⟩ : ByteArray) ++ t197) ++ (⟨#[32]⟩ : ByteArray)) ++ x3_1) ++ (⟨#[32]⟩ : ByteArray)).size + a0_1.size ≤ 9223372036854775807
                · rw [if_pos c13] at H
                  have c13b0 := eq_true c13
                  have c13b1 : decide ((((((⟨#[72, 84, 84, 80, 47, 49, 46]⟩ : ByteArray) ++ t197) ++ (⟨#[32]⟩ : ByteArray)) ++ x3_1) ++ (⟨#[32]⟩ : ByteArray)).size + a0_1.size ≤ 9223372036854775807) = true := decide_eq_true c13
                  try have c13b2 : (9223372036854775807 < (((((⟨#[72, 84, 84, 80, 47, 49, 46]⟩ : ByteArray) ++ t197) ++ (⟨#[32]⟩ : ByteArray)) ++ x3_1) ++ (⟨#[32]⟩ : ByteArray)).size + a0_1.size) = False := eq_false (Nat.not_lt.2 c13)
                  try (have c13b3 := c13b0; simp only [ByteArray.size_append] at c13b3; have c13b4 := c13b2; simp only [ByteArray.size_append] at c13b4)
                  try have c13b5 : (9223372036854775807 < 7 + t197.size + 1 + x3_1.size + 1 + a0_1.size) = False := eq_false (by have q_ := c13; simp only [ByteArray.size_append] at q_; have e0_ : (⟨#[32]⟩ : ByteArray).size = 1 := rfl; have e1_ : (⟨#[72, 84, 84, 80, 47, 49, 46]⟩ : ByteArray).size = 7 := rfl; omega)
                  try have c13b6 : (7 + t197.size + 1 + x3_1.size + 1 + a0_1.size ≤ 9223372036854775807) = True := eq_true (by have q_ := c13; simp only [ByteArray.size_append] at q_; have e0_ : (⟨#[32]⟩ : ByteArray).size = 1 := rfl; have e1_ : (⟨#[72, 84, 84, 80, 47, 49, 46]⟩ : ByteArray).size = 7 := rfl; omega)
                  by_cases c14 : ((((((⟨#[72, 84, 84, 80, 47, 49, 46]⟩ : ByteArray) ++ t197) ++ (⟨#[32]⟩ : ByteArray)) ++ x3_1) ++ (⟨#[32]⟩ : ByteArray)) ++ a0_1).size + 2 ≤ 9223372036854775807
                  · rw [if_pos c14] at H
                    have c14b0 := eq_true c14
                    have c14b1 : decide (((((((⟨#[72, 84, 84, 80, 47, 49, 46]⟩ : ByteArray) ++ t197) ++ (⟨#[32]⟩ : ByteArray)) ++ x3_1) ++ (⟨#[32]⟩ : ByteArray)) ++ a0_1).size + 2 ≤ 9223372036854775807) = true := decide_eq_true c14
                    try have c14b2 : (9223372036854775807 < ((((((⟨#[72, 84, 84, 80, 47, 49, 46]⟩ : ByteArray) ++ t197) ++ (⟨#[32]⟩ : ByteArray)) ++ x3_1) ++ (⟨#[32]⟩ : ByteArray)) ++ a0_1).size + 2) = False := eq_false (Nat.not_lt.2 c14)
                    try (have c14b3 := c14b0; simp only [ByteArray.size_append] at c14b3; have c14b4 := c14b2; simp only [ByteArray.size_append] at c14b4)
                    try have c14b5 : (9223372036854775807 < 7 + t197.size + 1 + x3_1.size + 1 + a0_1.size + 2) = False := eq_false (by have q_ := c14; simp only [ByteArray.size_append] at q_; have e0_ : (⟨#[32]⟩ : ByteArray).size = 1 := rfl; have e1_ : (⟨#[72, 84, 84, 80, 47, 49, 46]⟩ : ByteArray).size = 7 := rfl; omega)
                    try have c14b6 : (7 + t197.size + 1 + x3_1.size + 1 + a0_1.size + 2 ≤ 9223372036854775807) = True := eq_true (by have q_ := c14; simp only [ByteArray.size_append] at q_; have e0_ : (⟨#[32]⟩ : ByteArray).size = 1 := rfl; have e1_ : (⟨#[72, 84, 84, 80, 47, 49, 46]⟩ : ByteArray).size = 7 := rfl; omega)
                    obtain rfl := Option.some.inj H
                    try go_wp2
                    have n0_ := Aside0.mk (blk_drew BK195.out)
                    have n1_ := Aside0.mk (below_drew1 HB.out)
                    clear BK195
                    clear HB
                    have BK195 := n0_
                    have HB := n1_
                    clear n0_ n1_
                    refine start_ (n := 13) (S := fun w' => w'.cell? ⟨gb195, 0, none⟩ = some (.int .i64 a0_0) ∧ w'.cell? ⟨gb195, 1, none⟩ = some (.string a0_1) ∧ w'.cell? ⟨gb195, 2, none⟩ = some (.int .i64 a0_2) ∧ w'.cell? ⟨gb195, 3, none⟩ = some (.slice A0_3 l0_3.length c0_3) ∧ w'.cell? ⟨gb195, 4, none⟩ = some (.slice A0_4 l0_4.length c0_4)) (ds := []) #[false, false, false, false, false, false, false, false, false, false, false, false, false] (by kernel_rfl) rfl rfl ⟨(blk_cell BK195.out 0).trans rfl, (blk_cell BK195.out 1).trans rfl, (blk_cell BK195.out 2).trans rfl, (blk_cell BK195.out 3).trans rfl, (blk_cell BK195.out 4).trans rfl⟩ (fun hHeld => ?_); refine with_tabW line_StatusLine.tab4 line_StatusLine.bits4 (fun HT_ HW_ => ?_)
                    generalize wr.drew = w15 at BK195 HB hHeld ⊢
                    refine pure_ (i := 0) (N := some 12) (v := ?_) (a' := ?_) #[true, false, false, false, false, false, false, false, false, false, false, false, false] rfl rfl (any_of HT_.out (by kernel_rfl)) (fun _ _ _ h => h) (Or.inl ⟨by rfl, ?_⟩) ?_ ?_
                    rotate_left
                    · intro w'
                      go_simp
                      with_reducible rfl
                    rotate_left
                    · simp only [Act.put, List.setIfInBounds_toArray, List.set_cons_zero, List.set_cons_succ, i64_w, i32_w]
                      rfl
                    refine pure_ (i := 5) (N := some 17) (v := ?_) (a' := ?_) #[true, false, false, false, false, true, false, false, false, false, false, false, false] rfl rfl (any_of HT_.out (by kernel_rfl)) (fun _ _ _ h => h) (Or.inl ⟨by rfl, ?_⟩) ?_ ?_
                    rotate_left
                    · intro w'
                      go_simp
                      with_reducible rfl
                    rotate_left
                    · simp only [Act.put, List.setIfInBounds_toArray, List.set_cons_zero, List.set_cons_succ, i64_w, i32_w]
                      rfl
                    refine pure_ (i := 8) (N := some 20) (v := ?_) (a' := ?_) #[true, false, false, false, false, true, false, false, true, false, false, false, false] rfl rfl (any_of HT_.out (by kernel_rfl)) (fun _ _ _ h => h) (Or.inl ⟨by rfl, ?_⟩) ?_ ?_
                    rotate_left
                    · intro w'
                      go_simp
                      with_reducible rfl
                    rotate_left
                    · simp only [Act.put, List.setIfInBounds_toArray, List.set_cons_zero, List.set_cons_succ, i64_w, i32_w]
                      rfl
                    refine take_ (i := 1) (N := some 13) (v := ?_) (a' := ?_) #[true, true, false, false, false, true, false, false, true, false, false, false, false] rfl rfl (take_ofW HT_.out HW_.out (by kernel_rfl)) (fun _ _ _ h => h) (Or.inl ⟨by rfl, ?_⟩) hHeld ?_ ?_
                    rotate_left
                    · rintro w' ⟨s0, s1, s2, s3, s4⟩
                      go_simp
                      with_reducible rfl
                    rotate_left
                    · simp only [Act.put, List.setIfInBounds_toArray, List.set_cons_zero, List.set_cons_succ, i64_w, i32_w]
                      rfl
                    refine take_ (i := 9) (N := some 21) (v := ?_) (a' := ?_) #[true, true, false, false, false, true, false, false, true, true, false, false, false] rfl rfl (take_ofW HT_.out HW_.out (by kernel_rfl)) (fun _ _ _ h => h) (Or.inl ⟨by rfl, ?_⟩) hHeld ?_ ?_
                    rotate_left
                    · rintro w' ⟨s0, s1, s2, s3, s4⟩
                      go_simp
                      with_reducible rfl
                    rotate_left
                    · simp only [Act.put, List.setIfInBounds_toArray, List.set_cons_zero, List.set_cons_succ, i64_w, i32_w]
                      rfl
                    refine one_ (i := 2) (N := some 14) #[true, true, true, false, false, true, false, false, true, true, false, false, false] rfl rfl (one_of HT_.out (by kernel_rfl)) (by decide) (fun K hK => ?_)
                    refine goes_ Tryd.func54 (by kernel_rfl) rfl #[.int .i64 a0_2] (by rfl) rfl rfl (by (try simp only [List.map_toArray, List.map_cons, List.map_nil]); first | done | rfl | (simp only [List.length_drop, List.length_take]; rfl)) ?_
                    with_reducible refine (sign_Text.calls a0_2 t197 _ A8.out ?hT).mono ?_; (case hT => exact HTB.out.below (by repeat (first | (with_reducible first | exact HB.out | apply below_alloc | apply pw_below_drewN | apply below_drew1 | refine below_set ?_ GE195.out) | exact HB.out)))
                    rintro e w16 ⟨rfl, hb⟩
                    refine ⟨_, rfl, ?_⟩
                    have n0_ := Aside0.mk (blk_below (g := gb195) (o := .cells #[.int .i64 a0_0, .string a0_1, .int .i64 a0_2, .slice A0_3 l0_3.length c0_3, .slice A0_4 l0_4.length c0_4] 31 (0, 0)) (by (with_reducible repeat (first | refine blk_drewN ?_ _ | refine blk_drew ?_ | refine blk_alloc ?_ _)); exact BK195.out) hb)
                    have n1_ := Aside0.mk (below_step (by repeat (first | (with_reducible first | exact HB.out | apply below_alloc | apply pw_below_drewN | apply below_drew1 | refine below_set ?_ GE195.out) | exact HB.out)) hb)
                    clear BK195
                    clear HB
                    have BK195 := n0_
                    have HB := n1_
                    clear n0_ n1_
                    (try clear hb)
                    (try clear hb2)
                    (try clear hk)
                    (try clear hi)
                    refine hK.out _ _ ⟨(blk_cell BK195.out 0).trans rfl, (blk_cell BK195.out 1).trans rfl, (blk_cell BK195.out 2).trans rfl, (blk_cell BK195.out 3).trans rfl, (blk_cell BK195.out 4).trans rfl⟩ (fun hHeld => ?_)
                    clear hK K
                    refine norm_ (a' := ?_) ?_ ?_
                    rotate_left
                    · show Act.put _ (some 14) _ = _
                      simp only [Act.put, List.setIfInBounds_toArray, List.set_cons_zero, List.set_cons_succ, i64_w, i32_w]
                      rfl
                    refine pure_ (i := 3) (N := some 15) (v := ?_) (a' := ?_) #[true, true, true, true, false, true, false, false, true, true, false, false, false] rfl rfl (any_of HT_.out (by kernel_rfl)) (fun _ _ _ h => h) (Or.inl ⟨by rfl, ?_⟩) ?_ ?_
                    rotate_left
                    · intro w'
                      go_simp
                      with_reducible rfl
                    rotate_left
                    · simp only [Act.put, List.setIfInBounds_toArray, List.set_cons_zero, List.set_cons_succ, i64_w, i32_w]
                      rfl
                    refine pure_ (i := 4) (N := some 16) (v := ?_) (a' := ?_) #[true, true, true, true, true, true, false, false, true, true, false, false, false] rfl rfl (any_of HT_.out (by kernel_rfl)) (fun _ _ _ h => h) (Or.inl ⟨by rfl, ?_⟩) ?_ ?_
                    rotate_left
                    · intro w'
                      go_simp
                      with_reducible rfl
                    rotate_left
                    · simp only [Act.put, List.setIfInBounds_toArray, List.set_cons_zero, List.set_cons_succ, i64_w, i32_w]
                      rfl
                    refine pure_ (i := 6) (N := some 18) (v := ?_) (a' := ?_) #[true, true, true, true, true, true, true, false, true, true, false, false, false] rfl rfl (any_of HT_.out (by kernel_rfl)) (fun _ _ _ h => h) (Or.inl ⟨by rfl, ?_⟩) ?_ ?_
                    rotate_left
                    · intro w'
                      go_simp
                      with_reducible rfl
                    rotate_left
                    · simp only [Act.put, List.setIfInBounds_toArray, List.set_cons_zero, List.set_cons_succ, i64_w, i32_w]
                      rfl
                    refine pure_ (i := 7) (N := some 19) (v := ?_) (a' := ?_) #[true, true, true, true, true, true, true, true, true, true, false, false, false] rfl rfl (any_of HT_.out (by kernel_rfl)) (fun _ _ _ h => h) (Or.inl ⟨by rfl, ?_⟩) ?_ ?_
                    rotate_left
                    · intro w'
                      go_simp
                      with_reducible rfl
                    rotate_left
                    · simp only [Act.put, List.setIfInBounds_toArray, List.set_cons_zero, List.set_cons_succ, i64_w, i32_w]
                      rfl
                    refine pure_ (i := 10) (N := some 22) (v := ?_) (a' := ?_) #[true, true, true, true, true, true, true, true, true, true, true, false, false] rfl rfl (any_of HT_.out (by kernel_rfl)) (fun _ _ _ h => h) (Or.inl ⟨by rfl, ?_⟩) ?_ ?_
                    rotate_left
                    · intro w'
                      go_simp
                      with_reducible rfl
                    rotate_left
                    · simp only [Act.put, List.setIfInBounds_toArray, List.set_cons_zero, List.set_cons_succ, i64_w, i32_w]
                      rfl
                    refine pure_ (i := 11) (N := some 23) (v := ?_) (a' := ?_) #[true, true, true, true, true, true, true, true, true, true, true, true, false] rfl rfl (any_of HT_.out (by kernel_rfl)) (fun _ _ _ h => h) (Or.inl ⟨by rfl, ?_⟩) ?_ ?_
                    rotate_left
                    · intro w'
                      go_simp
                      with_reducible rfl
                    rotate_left
                    · simp only [Act.put, List.setIfInBounds_toArray, List.set_cons_zero, List.set_cons_succ, i64_w, i32_w]
                      rfl
                    refine pure_ (i := 12) (N := some 2) (v := ?_) (a' := ?_) #[true, true, true, true, true, true, true, true, true, true, true, true, true] rfl rfl (any_of HT_.out (by kernel_rfl)) (fun _ _ _ h => h) (Or.inl ⟨by rfl, ?_⟩) ?_ ?_
                    rotate_left
                    · intro w'
                      go_simp
                      with_reducible rfl
                    rotate_left
                    · simp only [Act.put, List.setIfInBounds_toArray, List.set_cons_zero, List.set_cons_succ, i64_w, i32_w]
                      rfl
                    refine done_ (done_of HT_.out (by kernel_rfl)) ?_
                    try go_wp2
                    go_ret
                    exact ⟨by first | rfl | (simp [errW_none, errW_some] <;> rfl) | (simp [*, errW_none, errW_some] <;> rfl), by repeat (first | (with_reducible first | exact HB.out | apply below_alloc | apply pw_below_drewN | apply below_drew1 | refine below_set ?_ GE195.out) | exact HB.out)⟩
                  · rw [if_neg c14] at H
                    exact absurd H (by simp)
                · rw [if_neg c13] at H
                  exact absurd H (by simp)
              · rw [if_neg c12] at H
                exact absurd H (by simp)
            · rw [if_neg c11] at H
              exact absurd H (by simp)
          · rw [if_neg c10] at H
            exact absurd H (by simp)
        · rw [if_neg c9] at H
          exact absurd H (by simp)

end Go.Proofs.YtjgpifjfaiaidaaDoor.P

