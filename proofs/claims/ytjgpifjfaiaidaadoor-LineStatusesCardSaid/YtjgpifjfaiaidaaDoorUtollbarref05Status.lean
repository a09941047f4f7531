/- Each function below answers as its Lean twin says. No further condition. (Laid by this repo's packseat.py out of the seat's texts and of the print's words.) -/
import Derived.Test.YtjgpifjfaiaidaaDoorU0base0x0
import Derived.Test.YtjgpifjfaiaidaaDoorUtollbarref020x0
import Derived.Test.YtjgpifjfaiaidaaDoorUtollbarref020x1
import Derived.Test.YtjgpifjfaiaidaaDoorUtollbarref050x0
namespace Go.Proofs.YtjgpifjfaiaidaaDoor.P
open Go.RowKit Go.Proofs.YtjgpifjfaiaidaaDoorW.PrintWords Go.Proofs.YtjgpifjfaiaidaaDoorW.PrintLast Go.Proofs.YtjgpifjfaiaidaaDoorW.PrintMore
attribute [local go_sem] max2_int min2_int max_two min_two max_three min_three max_four min_four   -- for this text's walks alone
set_option linter.unusedVariables false
set_option linter.unusedSimpArgs false

mutual
def tollbarref05_Status.j0 : Nat → ByteArray → Bool → Option (Int × ByteArray × Int × (List (S84)) × List Int × Bool)
  | 0, _, _ => none
  | k + 1, x0, x17 => if x17 = true then (some (0, (⟨#[]⟩ : ByteArray), 0, ([] : List (S84)), ([] : List Int), false)) else (if 0 ≤ 8 then (if 8 ≤ (x0.size : Int) then ((tollbarref05_Version.f (x0.extract 0 8)).bind fun bt293 => (if bt293.2.2 = true then (if bt293.1 = 1 then (tollbarref05_Status.j1 k x0 bt293.2.1 (decide (bt293.2.1 > 1))) else (tollbarref05_Status.j1 k x0 bt293.2.1 true)) else (tollbarref05_Status.j1 k x0 bt293.2.1 true))) else (none)) else (none))
def tollbarref05_Status.j1 : Nat → ByteArray → Int → Bool → Option (Int × ByteArray × Int × (List (S84)) × List Int × Bool)
  | 0, _, _, _ => none
  | k + 1, x0, x5, x35 => if x35 = true then (some (0, (⟨#[]⟩ : ByteArray), 0, ([] : List (S84)), ([] : List Int), false)) else (tollbarref05_Status.l0 k x0 x5 9)
def tollbarref05_Status.l0 : Nat → ByteArray → Int → Int → Option (Int × ByteArray × Int × (List (S84)) × List Int × Bool)
  | 0, _, _, _ => none
  | k + 1, x0, x5, x7 => if x7 < 12 then (if 0 ≤ x7 then (if x7 < (x0.size : Int) then ((tollbarref02_Digit.f (bt x0 x7)).bind fun t296 => (if t296 = true then (tollbarref05_Status.l0 k x0 x5 (wrap64 (x7 + 1))) else (some (0, (⟨#[]⟩ : ByteArray), 0, ([] : List (S84)), ([] : List Int), false)))) else (none)) else (none)) else (if 9 < (x0.size : Int) then (if 10 < (x0.size : Int) then (if 11 < (x0.size : Int) then (if (x0.size : Int) > 12 then (if 12 < (x0.size : Int) then (if (bt x0 12) = 32 then (if 13 ≤ (x0.size : Int) then (if (((100 * (((bt x0 9) - 48) % 256)) + (10 * (((bt x0 10) - 48) % 256))) + (((bt x0 11) - 48) % 256)) < 100 then (some (0, (⟨#[]⟩ : ByteArray), 0, ([] : List (S84)), ([] : List Int), false)) else (if (((100 * (((bt x0 9) - 48) % 256)) + (10 * (((bt x0 10) - 48) % 256))) + (((bt x0 11) - 48) % 256)) > 599 then (some (0, (⟨#[]⟩ : ByteArray), 0, ([] : List (S84)), ([] : List Int), false)) else ((tollbarref02_Value.f k (x0.extract 13 x0.size)).bind fun t297 => (if t297 = true then (if ((x0.extract 13 x0.size).size : Int) > 100 then (some (0, (⟨#[]⟩ : ByteArray), 0, ([] : List (S84)), ([] : List Int), false)) else (some (((100 * (((bt x0 9) - 48) % 256)) + (10 * (((bt x0 10) - 48) % 256))) + (((bt x0 11) - 48) % 256), x0.extract 13 x0.size, x5, ([] : List (S84)), ([] : List Int), true))) else (some (0, (⟨#[]⟩ : ByteArray), 0, ([] : List (S84)), ([] : List Int), false)))))) else (none)) else (some (0, (⟨#[]⟩ : ByteArray), 0, ([] : List (S84)), ([] : List Int), false))) else (none)) else (if (((100 * (((bt x0 9) - 48) % 256)) + (10 * (((bt x0 10) - 48) % 256))) + (((bt x0 11) - 48) % 256)) < 100 then (some (0, (⟨#[]⟩ : ByteArray), 0, ([] : List (S84)), ([] : List Int), false)) else (if (((100 * (((bt x0 9) - 48) % 256)) + (10 * (((bt x0 10) - 48) % 256))) + (((bt x0 11) - 48) % 256)) > 599 then (some (0, (⟨#[]⟩ : ByteArray), 0, ([] : List (S84)), ([] : List Int), false)) else ((tollbarref02_Value.f k (⟨#[]⟩ : ByteArray)).bind fun t298 => (if t298 = true then (if 0 > 100 then (some (0, (⟨#[]⟩ : ByteArray), 0, ([] : List (S84)), ([] : List Int), false)) else (some (((100 * (((bt x0 9) - 48) % 256)) + (10 * (((bt x0 10) - 48) % 256))) + (((bt x0 11) - 48) % 256), (⟨#[]⟩ : ByteArray), x5, ([] : List (S84)), ([] : List Int), true))) else (some (0, (⟨#[]⟩ : ByteArray), 0, ([] : List (S84)), ([] : List Int), false))))))) else (none)) else (none)) else (none))
end
def tollbarref05_Status.f (k : Nat) (a0 : ByteArray) : Option (Int × ByteArray × Int × (List (S84)) × List Int × Bool) := if (a0.size : Int) < 12 then (tollbarref05_Status.j0 k a0 true) else (if 8 < (a0.size : Int) then (tollbarref05_Status.j0 k a0 ((bt a0 8) != 32)) else (none))
theorem tollbarref05_Status.mono_l : ∀ k, (∀ y0 y1, LeO (tollbarref05_Status.j0 k y0 y1) (tollbarref05_Status.j0 (k + 1) y0 y1)) ∧ (∀ y0 y1 y2, LeO (tollbarref05_Status.j1 k y0 y1 y2) (tollbarref05_Status.j1 (k + 1) y0 y1 y2)) ∧ (∀ y0 y1 y2, LeO (tollbarref05_Status.l0 k y0 y1 y2) (tollbarref05_Status.l0 (k + 1) y0 y1 y2))
  | 0 => ⟨fun _ _ r h => by simp [tollbarref05_Status.j0] at h, fun _ _ _ r h => by simp [tollbarref05_Status.j1] at h, fun _ _ _ r h => by simp [tollbarref05_Status.l0] at h⟩
  | k + 1 => by
    obtain ⟨ih0, ih1, ih2⟩ := tollbarref05_Status.mono_l k
    refine ⟨?_, ?_, ?_⟩
    · intro y0 y1
      unfold tollbarref05_Status.j0
      repeat' first
      | (with_reducible exact ih0 _ _)
      | (with_reducible exact ih1 _ _ _)
      | (with_reducible exact ih2 _ _ _)
      | (with_reducible exact tollbarref02_Value.mono _ _)
      | (with_reducible exact LeO.refl _)
      | (with_reducible exact LeO.none _)
      | (with_reducible refine LeO.ite ?_ ?_)
      | (with_reducible refine LeO.bind ?_ (fun _ => ?_))
      | exact ih0 _ _
      | exact ih1 _ _ _
      | exact ih2 _ _ _
      | exact tollbarref02_Value.mono _ _
      | exact LeO.none _
      | refine LeO.ite ?_ ?_
      | refine LeO.bind ?_ (fun _ => ?_)
    · intro y0 y1 y2
      unfold tollbarref05_Status.j1
      repeat' first
      | (with_reducible exact ih0 _ _)
      | (with_reducible exact ih1 _ _ _)
      | (with_reducible exact ih2 _ _ _)
      | (with_reducible exact tollbarref02_Value.mono _ _)
      | (with_reducible exact LeO.refl _)
      | (with_reducible exact LeO.none _)
      | (with_reducible refine LeO.ite ?_ ?_)
      | (with_reducible refine LeO.bind ?_ (fun _ => ?_))
      | exact ih0 _ _
      | exact ih1 _ _ _
      | exact ih2 _ _ _
      | exact tollbarref02_Value.mono _ _
      | exact LeO.none _
      | refine LeO.ite ?_ ?_
      | refine LeO.bind ?_ (fun _ => ?_)
    · intro y0 y1 y2
      unfold tollbarref05_Status.l0
      repeat' first
      | (with_reducible exact ih0 _ _)
      | (with_reducible exact ih1 _ _ _)
      | (with_reducible exact ih2 _ _ _)
      | (with_reducible exact tollbarref02_Value.mono _ _)
      | (with_reducible exact LeO.refl _)
      | (with_reducible exact LeO.none _)
      | (with_reducible refine LeO.ite ?_ ?_)
      | (with_reducible refine LeO.bind ?_ (fun _ => ?_))
      | exact ih0 _ _
      | exact ih1 _ _ _
      | exact ih2 _ _ _
      | exact tollbarref02_Value.mono _ _
      | exact LeO.none _
      | refine LeO.ite ?_ ?_
      | refine LeO.bind ?_ (fun _ => ?_)
theorem tollbarref05_Status.mono : ∀ a0 k, LeO (tollbarref05_Status.f k a0) (tollbarref05_Status.f (k + 1) a0) := by
  intro a0 k
  obtain ⟨ih0, ih1, ih2⟩ := tollbarref05_Status.mono_l k
  unfold tollbarref05_Status.f
  repeat' first
      | (with_reducible exact ih0 _ _)
      | (with_reducible exact ih1 _ _ _)
      | (with_reducible exact ih2 _ _ _)
      | (with_reducible exact tollbarref02_Value.mono _ _)
      | (with_reducible exact LeO.refl _)
      | (with_reducible exact LeO.none _)
      | (with_reducible refine LeO.ite ?_ ?_)
      | (with_reducible refine LeO.bind ?_ (fun _ => ?_))
      | exact ih0 _ _
      | exact ih1 _ _ _
      | exact ih2 _ _ _
      | exact tollbarref02_Value.mono _ _
      | exact LeO.none _
      | refine LeO.ite ?_ ?_
      | refine LeO.bind ?_ (fun _ => ?_)
set_option maxHeartbeats 8000000 in
set_option maxRecDepth 100000 in
theorem tollbarref05_Status.calls (k : Nat) (a0 : ByteArray) (r1 : Int) (r2 : ByteArray) (r3 : Int) (r4 : List (S84)) (r5 : List Int) (r6 : Bool) (w : World) (h : tollbarref05_Status.f k a0 = some (r1, r2, r3, r4, r5, r6)) :
    Calls Tryd.prog 19 #[.string a0] w fun e w' => ∃ v3_ v4_ : Value, e = .returned (.tuple #[.agg #[.int .i64 r1, .string r2, .int .i64 r3, v3_, v4_], .bool r6]) ∧ Kd.R k84 84 w' w.heap.size (fun _ => True) v3_ r4 ∧ Kd.R (Kd.int .u8) 5 w' w.heap.size (fun _ => True) v4_ r5 ∧ Below w.heap.size w w' := by
  have hu31 := Tryd.underlying31
  have HB := Aside0.mk (Below.refl w.heap.size w)
  have H : (if (a0.size : Int) < 12 then (tollbarref05_Status.j0 k a0 true) else (if 8 < (a0.size : Int) then (tollbarref05_Status.j0 k a0 ((bt a0 8) != 32)) else (none))) = some (r1, r2, r3, r4, r5, r6) := h
  clear h
  have HC2 := Aside0.mk H
  clear H
  go_enter Tryd.func19, Tryd.ntmps19
  go_upto_region 1 with (first | ((with_reducible refine gate_dst (N := 2) rfl ?_); (try (refine gate_guard (by rfl) ?_; dsimp only)); refine box_event ?hg (N := 2) ?hd (cs := #[.int .i64 0, .string (⟨#[]⟩ : ByteArray), .int .i64 0, .slice none 0 0, .slice none 0 0]) (t := 31) ?hr ?_; (case hd => rfl); (case hg => rfl); (case hr => first | (go_simp; done) | (go_simp; rfl)); intro gb292 hg w3 hbox hb; have n0_ := Aside0.mk (below_step (by repeat (first | (with_reducible first | exact HB.out | apply below_alloc | apply pw_below_drewN | apply below_drew1) | exact HB.out)) hb); have n1_ := Aside0.mk (hbox); have n2_ := Aside0.mk ((by rw [hg]; exact (below_size (by repeat (first | (with_reducible first | exact HB.out | apply below_alloc | apply pw_below_drewN | apply below_drew1) | exact HB.out))) : w.heap.size ≤ gb292)); have n3_ := Aside0.mk ((by rw [hg]; exact (below_size (by repeat (first | (with_reducible first | exact HB.out | apply below_alloc | apply pw_below_drewN | apply below_drew1) | exact HB.out))) : w.heap.size ≤ gb292)); clear HB; have HB := n0_; have BK292 := n1_; have GW292 := n2_; have GE292 := n3_; clear n0_ n1_ n2_ n3_; clear hb hbox hg))
  repeat (go_quiet (first | ((with_reducible refine gate_dst (N := 2) rfl ?_); (try (refine gate_guard (by rfl) ?_; dsimp only)); refine box_event ?hg (N := 2) ?hd (cs := #[.int .i64 0, .string (⟨#[]⟩ : ByteArray), .int .i64 0, .slice none 0 0, .slice none 0 0]) (t := 31) ?hr ?_; (case hd => rfl); (case hg => rfl); (case hr => first | (go_simp; done) | (go_simp; rfl)); intro gb292 hg w3 hbox hb; have n0_ := Aside0.mk (below_step (by repeat (first | (with_reducible first | exact HB.out | apply below_alloc | apply pw_below_drewN | apply below_drew1) | exact HB.out)) hb); have n1_ := Aside0.mk (hbox); have n2_ := Aside0.mk ((by rw [hg]; exact (below_size (by repeat (first | (with_reducible first | exact HB.out | apply below_alloc | apply pw_below_drewN | apply below_drew1) | exact HB.out))) : w.heap.size ≤ gb292)); have n3_ := Aside0.mk ((by rw [hg]; exact (below_size (by repeat (first | (with_reducible first | exact HB.out | apply below_alloc | apply pw_below_drewN | apply below_drew1) | exact HB.out))) : w.heap.size ≤ gb292)); clear HB; have HB := n0_; have BK292 := n1_; have GW292 := n2_; have GE292 := n3_; clear n0_ n1_ n2_ n3_; clear hb hbox hg)); go_upto_region 1 with (first | ((with_reducible refine gate_dst (N := 2) rfl ?_); (try (refine gate_guard (by rfl) ?_; dsimp only)); refine box_event ?hg (N := 2) ?hd (cs := #[.int .i64 0, .string (⟨#[]⟩ : ByteArray), .int .i64 0, .slice none 0 0, .slice none 0 0]) (t := 31) ?hr ?_; (case hd => rfl); (case hg => rfl); (case hr => first | (go_simp; done) | (go_simp; rfl)); intro gb292 hg w3 hbox hb; have n0_ := Aside0.mk (below_step (by repeat (first | (with_reducible first | exact HB.out | apply below_alloc | apply pw_below_drewN | apply below_drew1) | exact HB.out)) hb); have n1_ := Aside0.mk (hbox); have n2_ := Aside0.mk ((by rw [hg]; exact (below_size (by repeat (first | (with_reducible first | exact HB.out | apply below_alloc | apply pw_below_drewN | apply below_drew1) | exact HB.out))) : w.heap.size ≤ gb292)); have n3_ := Aside0.mk ((by rw [hg]; exact (below_size (by repeat (first | (with_reducible first | exact HB.out | apply below_alloc | apply pw_below_drewN | apply below_drew1) | exact HB.out))) : w.heap.size ≤ gb292)); clear HB; have HB := n0_; have BK292 := n1_; have GW292 := n2_; have GE292 := n3_; clear n0_ n1_ n2_ n3_; clear hb hbox hg)))
  (try simp only [Act.put, List.setIfInBounds_toArray, List.set_cons_zero, List.set_cons_succ])
  go_cut [17] (fun v17 wc => ∃ (kq : Nat) (x17_1 : Bool), v17 = .bool x17_1 ∧ Aside0 (tollbarref05_Status.j0 kq a0 x17_1 = some (r1, r2, r3, r4, r5, r6)) ∧ Aside0 (kq ≤ k) ∧ Aside0 (wc.heap[gb292]? = some (.cells #[.int .i64 0, .string (⟨#[]⟩ : ByteArray), .int .i64 0, (.slice none 0 0), (.slice none 0 0)] 31 (0, 0))) ∧ Aside0 (Below w.heap.size w wc))
  case first =>
    have H := HC2.out
    clear HC2
    by_cases c4 : (a0.size : Int) < 12
    · rw [if_pos c4] at H
      have c4b0 : decide ((a0.size : Int) < 12) = true := decide_eq_true c4
      have c4b1 : decide (a0.size < 12) = true := decide_eq_true (by omega)
      clear c4
      (first | rw [c4b0] | (simp only [i64_w, i32_w]; rw [c4b0]) | skip)
      have H' := Aside0.mk H
      clear H
      go_wp2
      repeat (go_quiet (fail); try go_wp2)
      go_meet
      case rel => exact ⟨_, (true), (by first | rfl | (simp; done) | (simp [*]; done)), H', ⟨by first | omega | exact Nat.le_refl _⟩, ⟨by (with_reducible repeat (first | refine blk_drewN ?_ _ | refine blk_drew ?_ | refine blk_alloc ?_ _)); exact BK292.out⟩, ⟨by repeat (first | (with_reducible first | exact HB.out | apply below_alloc | apply pw_below_drewN | apply below_drew1 | refine below_set ?_ GE292.out) | exact HB.out)⟩⟩
    · rw [if_neg c4] at H
      have c4b0 : decide ((a0.size : Int) < 12) = false := decide_eq_false c4
      have c4b1 : decide (a0.size < 12) = false := decide_eq_false (by omega)
      clear c4
      (first | rw [c4b0] | (simp only [i64_w, i32_w]; rw [c4b0]) | skip)
      by_cases c5 : 8 < (a0.size : Int)
      · rw [if_pos c5] at H
        have c5b0 : decide (8 < (a0.size : Int)) = true := decide_eq_true c5
        have c5b1 : decide (8 < a0.size) = true := decide_eq_true (by omega)
        clear c5
        have H' := Aside0.mk H
        clear H
        have p6 : 0 ≤ (8 : Int) := (by omega)
        have q6 : 8 < a0.size := (by have : (8 : Int) < (a0.size : Int) := of_decide_eq_true (by first | (with_reducible assumption) | assumption); omega)
        have hx6 : ∀ h : 8 < a0.size, ((a0[8]'h).toNat : Int) = bt a0 8 := bt_at a0 8
        clear p6
        have qi6 : (8 < (a0.size : Int)) = True := eq_true (of_decide_eq_true (by first | (with_reducible assumption) | assumption))
        replace q6 := eq_true q6
        go_wp2
        repeat (go_quiet (fail); try go_wp2)
        go_meet
        case rel => exact ⟨_, (((bt a0 8) != 32)), (by first | rfl | (simp; done) | (simp [*]; done)), H', ⟨by first | omega | exact Nat.le_refl _⟩, ⟨by (with_reducible repeat (first | refine blk_drewN ?_ _ | refine blk_drew ?_ | refine blk_alloc ?_ _)); exact BK292.out⟩, ⟨by repeat (first | (with_reducible first | exact HB.out | apply below_alloc | apply pw_below_drewN | apply below_drew1 | refine below_set ?_ GE292.out) | exact HB.out)⟩⟩
      · rw [if_neg c5] at H
        exact absurd H (by simp)
  case rest =>
    clear HC2
    try clear c1
    try clear p2
    try clear c4
    try clear c4b0
    try clear c4b1
    try clear c5
    try clear c5b0
    try clear c5b1
    try clear p6
    try clear q6
    try clear hx6
    try clear qi6
    try clear p6
    try clear q6
    obtain ⟨kq, x17_1, rfl, HA, HJ1, BK292, HB⟩ := hcut
    cases kq with
    | zero => exact absurd HA.out (by simp [tollbarref05_Status.j0])
    | succ kj1 =>
      have H := HA.out
      clear HA
      simp only [tollbarref05_Status.j0] at H
      by_cases c7 : x17_1 = true
      · subst c7
        have H1 : (some (0, (⟨#[]⟩ : ByteArray), 0, ([] : List (S84)), ([] : List Int), false)) = some (r1, r2, r3, r4, r5, r6) := by rw [if_pos rfl] at H; exact H
        clear H
        have H := H1
        clear H1
        simp only [Option.some.injEq, Prod.mk.injEq] at H
        obtain ⟨rfl, rfl, rfl, rfl, rfl, rfl⟩ := H
        have hcz8_0 : wc.cell? ⟨gb292, 0, none⟩ = some (.int .i64 0) := (blk_cell BK292.out 0).trans rfl
        have hcz8_1 : wc.cell? ⟨gb292, 1, none⟩ = some (.string (⟨#[]⟩ : ByteArray)) := (blk_cell BK292.out 1).trans rfl
        have hcz8_2 : wc.cell? ⟨gb292, 2, none⟩ = some (.int .i64 0) := (blk_cell BK292.out 2).trans rfl
        have hcz8_3 : wc.cell? ⟨gb292, 3, none⟩ = some (.slice none 0 0) := (blk_cell BK292.out 3).trans rfl
        have hcz8_4 : wc.cell? ⟨gb292, 4, none⟩ = some (.slice none 0 0) := (blk_cell BK292.out 4).trans rfl
        have hfz8_0 := blk_frozen BK292.out 0
        have hfz8_1 := blk_frozen BK292.out 1
        have hfz8_2 := blk_frozen BK292.out 2
        have hfz8_3 := blk_frozen BK292.out 3
        have hfz8_4 := blk_frozen BK292.out 4
        go_wp2
        repeat (go_quiet (fail); try go_wp2)
        refine bodyPost_ret (results_ct rfl _ _ gb292 31 #[.int .i64 0, .string (⟨#[]⟩ : ByteArray), .int .i64 0, .slice none 0 0, .slice none 0 0] (0, 0) _ rfl (by (with_reducible repeat (first | refine blk_drewN ?_ _ | refine blk_drew ?_ | refine blk_alloc ?_ _)); refine blk_put (cs := #[.int .i64 0, .string (⟨#[]⟩ : ByteArray), .int .i64 0, .slice none 0 0, .slice none 0 0]) ?_ 4 _ rfl; (with_reducible repeat (first | refine blk_drewN ?_ _ | refine blk_drew ?_ | refine blk_alloc ?_ _)); refine blk_put (cs := #[.int .i64 0, .string (⟨#[]⟩ : ByteArray), .int .i64 0, .slice none 0 0, .slice none 0 0]) ?_ 3 _ rfl; (with_reducible repeat (first | refine blk_drewN ?_ _ | refine blk_drew ?_ | refine blk_alloc ?_ _)); refine blk_put (cs := #[.int .i64 0, .string (⟨#[]⟩ : ByteArray), .int .i64 0, .slice none 0 0, .slice none 0 0]) ?_ 2 _ rfl; (with_reducible repeat (first | refine blk_drewN ?_ _ | refine blk_drew ?_ | refine blk_alloc ?_ _)); refine blk_put (cs := #[.int .i64 0, .string (⟨#[]⟩ : ByteArray), .int .i64 0, .slice none 0 0, .slice none 0 0]) ?_ 1 _ rfl; (with_reducible repeat (first | refine blk_drewN ?_ _ | refine blk_drew ?_ | refine blk_alloc ?_ _)); refine blk_put (cs := #[.int .i64 0, .string (⟨#[]⟩ : ByteArray), .int .i64 0, .slice none 0 0, .slice none 0 0]) ?_ 0 _ rfl; (with_reducible repeat (first | refine blk_drewN ?_ _ | refine blk_drew ?_ | refine blk_alloc ?_ _)); exact BK292.out) Tryd.underlying31 rfl (by kernel_rfl)) rfl ?_
        exact ⟨_, _, by first | rfl | (simp [errW_none, errW_some] <;> rfl) | (simp [*, errW_none, errW_some] <;> rfl), by first | exact Kd.R_nil _ _ _ _ _ | exact Kd.N_nil _ _ _ _ _ | exact Kd.V_nil _ _ _ _ _ | exact Kd.Q_nil _ _ _ _ _ | exact Kd.S_nil _ _ _ _ _, by first | exact Kd.R_nil _ _ _ _ _ | exact Kd.N_nil _ _ _ _ _ | exact Kd.V_nil _ _ _ _ _ | exact Kd.Q_nil _ _ _ _ _ | exact Kd.S_nil _ _ _ _ _, by repeat (first | (with_reducible first | exact HB.out | apply below_alloc | apply pw_below_drewN | apply below_drew1 | refine below_set ?_ GE292.out) | exact HB.out)⟩
      · replace c7 := Bool.eq_false_iff.mpr c7
        subst c7
        have H1 : (if 0 ≤ 8 then (if 8 ≤ (a0.size : Int) then ((tollbarref05_Version.f (a0.extract 0 8)).bind fun bt293 => (if bt293.2.2 = true then (if bt293.1 = 1 then (tollbarref05_Status.j1 kj1 a0 bt293.2.1 (decide (bt293.2.1 > 1))) else (tollbarref05_Status.j1 kj1 a0 bt293.2.1 true)) else (tollbarref05_Status.j1 kj1 a0 bt293.2.1 true))) else (none)) else (none)) = some (r1, r2, r3, r4, r5, r6) := by rw [if_neg (show ¬ (false = true) by decide)] at H; exact H
        clear H
        have H := H1
        clear H1
        by_cases c9 : 0 ≤ 8
        · rw [if_pos c9] at H
          have c9b0 := eq_true c9
          have c9b1 : decide (0 ≤ 8) = true := decide_eq_true c9
          clear c9
          by_cases c10 : 8 ≤ (a0.size : Int)
          · rw [if_pos c10] at H
            have c10b0 := eq_true c10
            have c10b1 : decide (8 ≤ (a0.size : Int)) = true := decide_eq_true c10
            clear c10
            replace H := Option.bind_eq_some_iff.mp H
            obtain ⟨⟨t293, t294, t295⟩, A110, H⟩ := H
            replace H : (if t295 = true then (if t293 = 1 then (tollbarref05_Status.j1 kj1 a0 t294 (decide (t294 > 1))) else (tollbarref05_Status.j1 kj1 a0 t294 true)) else (tollbarref05_Status.j1 kj1 a0 t294 true)) = some (r1, r2, r3, r4, r5, r6) := H
            have A11 := Aside0.mk A110
            clear A110
            have HC12 := Aside0.mk H
            clear H
            go_upto_region 4 with (first | (go_at_call 43; (with_reducible refine (tollbarref05_Version.calls (a0.extract 0 8) t293 t294 t295 _ A11.out).mono ?_); rintro e w' ⟨rfl, ⟨nd, rfl⟩⟩; (try first | exact ⟨rfl, _, World.drewN_drewN _ _ _⟩ | exact ⟨rfl, _, Eq.trans (World.drewN_drewN _ _ _) (congrArg (World.drewN _) (Nat.add_assoc _ _ _))⟩)))
            repeat (go_quiet (first | (go_at_call 43; (with_reducible refine (tollbarref05_Version.calls (a0.extract 0 8) t293 t294 t295 _ A11.out).mono ?_); rintro e w' ⟨rfl, ⟨nd, rfl⟩⟩; (try first | exact ⟨rfl, _, World.drewN_drewN _ _ _⟩ | exact ⟨rfl, _, Eq.trans (World.drewN_drewN _ _ _) (congrArg (World.drewN _) (Nat.add_assoc _ _ _))⟩))); go_upto_region 4 with (first | (go_at_call 43; (with_reducible refine (tollbarref05_Version.calls (a0.extract 0 8) t293 t294 t295 _ A11.out).mono ?_); rintro e w' ⟨rfl, ⟨nd, rfl⟩⟩; (try first | exact ⟨rfl, _, World.drewN_drewN _ _ _⟩ | exact ⟨rfl, _, Eq.trans (World.drewN_drewN _ _ _) (congrArg (World.drewN _) (Nat.add_assoc _ _ _))⟩))))
            (try simp only [Act.put, List.setIfInBounds_toArray, List.set_cons_zero, List.set_cons_succ])
            go_cut [35] (fun v35 wc => ∃ (kq : Nat) (x35_11 : Bool), v35 = .bool x35_11 ∧ Aside0 (tollbarref05_Status.j1 kq a0 t294 x35_11 = some (r1, r2, r3, r4, r5, r6)) ∧ Aside0 (kq ≤ kj1) ∧ Aside0 (wc.heap[gb292]? = some (.cells #[.int .i64 0, .string (⟨#[]⟩ : ByteArray), .int .i64 0, (.slice none 0 0), (.slice none 0 0)] 31 (0, 0))) ∧ Aside0 (Below w.heap.size w wc))
            case first =>
              have H := HC12.out
              clear HC12
              by_cases c13 : t295 = true
              · subst c13
                have H1 : (if t293 = 1 then (tollbarref05_Status.j1 kj1 a0 t294 (decide (t294 > 1))) else (tollbarref05_Status.j1 kj1 a0 t294 true)) = some (r1, r2, r3, r4, r5, r6) := by rw [if_pos rfl] at H; exact H
                clear H
                have H := H1
                clear H1
                by_cases c14 : t293 = 1
                · rw [if_pos c14] at H
                  have c14b0 : (t293 == 1) = true := beq_iff_eq.mpr c14
                  have c14b1 : (t293 != 1) = false := bne_eq_false_iff_eq.mpr c14
                  clear c14
                  (first | rw [c14b0] | (simp only [i64_w, i32_w]; rw [c14b0]) | skip)
                  have H' := Aside0.mk H
                  clear H
                  go_wp2
                  repeat (go_quiet (fail); try go_wp2)
                  go_meet
                  case rel => exact ⟨_, (decide (t294 > 1)), (by first | rfl | (simp; done) | (simp [*]; done)), H', ⟨by have := HJ1.out; first | omega | exact Nat.le_refl _⟩, ⟨by (with_reducible repeat (first | refine blk_drewN ?_ _ | refine blk_drew ?_ | refine blk_alloc ?_ _)); exact BK292.out⟩, ⟨by repeat (first | (with_reducible first | exact HB.out | apply below_alloc | apply pw_below_drewN | apply below_drew1 | refine below_set ?_ GE292.out) | exact HB.out)⟩⟩
                · rw [if_neg c14] at H
                  have c14b0 : (t293 == 1) = false := beq_eq_false_iff_ne.mpr c14
                  have c14b1 : (t293 != 1) = true := bne_iff_ne.mpr c14
                  (first | rw [c14b0] | (simp only [i64_w, i32_w]; rw [c14b0]) | skip)
                  have H' := Aside0.mk H
                  clear H
                  go_wp2
                  repeat (go_quiet (fail); try go_wp2)
                  go_meet
                  case rel => exact ⟨_, (true), (by first | rfl | (simp; done) | (simp [*]; done)), H', ⟨by have := HJ1.out; first | omega | exact Nat.le_refl _⟩, ⟨by (with_reducible repeat (first | refine blk_drewN ?_ _ | refine blk_drew ?_ | refine blk_alloc ?_ _)); exact BK292.out⟩, ⟨by repeat (first | (with_reducible first | exact HB.out | apply below_alloc | apply pw_below_drewN | apply below_drew1 | refine below_set ?_ GE292.out) | exact HB.out)⟩⟩
              · replace c13 := Bool.eq_false_iff.mpr c13
                subst c13
                have H1 : (tollbarref05_Status.j1 kj1 a0 t294 true) = some (r1, r2, r3, r4, r5, r6) := by rw [if_neg (show ¬ (false = true) by decide)] at H; exact H
                clear H
                have H := H1
                clear H1
                have H' := Aside0.mk H
                clear H
                go_wp2
                repeat (go_quiet (fail); try go_wp2)
                go_meet
                case rel => exact ⟨_, (true), (by first | rfl | (simp; done) | (simp [*]; done)), H', ⟨by have := HJ1.out; first | omega | exact Nat.le_refl _⟩, ⟨by (with_reducible repeat (first | refine blk_drewN ?_ _ | refine blk_drew ?_ | refine blk_alloc ?_ _)); exact BK292.out⟩, ⟨by repeat (first | (with_reducible first | exact HB.out | apply below_alloc | apply pw_below_drewN | apply below_drew1 | refine below_set ?_ GE292.out) | exact HB.out)⟩⟩
            case rest =>
              clear HC12
              try clear c1
              try clear p2
              try clear c4
              try clear c4b0
              try clear c4b1
              try clear c5
              try clear c5b0
              try clear c5b1
              try clear p6
              try clear q6
              try clear hx6
              try clear qi6
              try clear c7
              try clear c9
              try clear c9b0
              try clear c9b1
              try clear c10
              try clear c10b0
              try clear c10b1
              try clear c13
              try clear c14
              try clear c14b0
              try clear c14b1
              try clear hcz8_0
              try clear hcz8_1
              try clear hcz8_2
              try clear hcz8_3
              try clear hcz8_4
              try clear hfz8_0
              try clear hfz8_1
              try clear hfz8_2
              try clear hfz8_3
              try clear hfz8_4
              try clear p2
              try clear p6
              try clear q6
              obtain ⟨kq, x35_11, rfl, HA, HJ11, BK292, HB⟩ := hcut
              cases kq with
              | zero => exact absurd HA.out (by simp [tollbarref05_Status.j1])
              | succ kj11 =>
                have H := HA.out
                clear HA
                simp only [tollbarref05_Status.j1] at H
                by_cases c15 : x35_11 = true
                · subst c15
                  have H1 : (some (0, (⟨#[]⟩ : ByteArray), 0, ([] : List (S84)), ([] : List Int), false)) = some (r1, r2, r3, r4, r5, r6) := by rw [if_pos rfl] at H; exact H
                  clear H
                  have H := H1
                  clear H1
                  simp only [Option.some.injEq, Prod.mk.injEq] at H
                  obtain ⟨rfl, rfl, rfl, rfl, rfl, rfl⟩ := H
                  have hcz16_0 : wc.cell? ⟨gb292, 0, none⟩ = some (.int .i64 0) := (blk_cell BK292.out 0).trans rfl
                  have hcz16_1 : wc.cell? ⟨gb292, 1, none⟩ = some (.string (⟨#[]⟩ : ByteArray)) := (blk_cell BK292.out 1).trans rfl
                  have hcz16_2 : wc.cell? ⟨gb292, 2, none⟩ = some (.int .i64 0) := (blk_cell BK292.out 2).trans rfl
                  have hcz16_3 : wc.cell? ⟨gb292, 3, none⟩ = some (.slice none 0 0) := (blk_cell BK292.out 3).trans rfl
                  have hcz16_4 : wc.cell? ⟨gb292, 4, none⟩ = some (.slice none 0 0) := (blk_cell BK292.out 4).trans rfl
                  have hfz16_0 := blk_frozen BK292.out 0
                  have hfz16_1 := blk_frozen BK292.out 1
                  have hfz16_2 := blk_frozen BK292.out 2
                  have hfz16_3 := blk_frozen BK292.out 3
                  have hfz16_4 := blk_frozen BK292.out 4
                  go_wp2
                  repeat (go_quiet (fail); try go_wp2)
                  refine bodyPost_ret (results_ct rfl _ _ gb292 31 #[.int .i64 0, .string (⟨#[]⟩ : ByteArray), .int .i64 0, .slice none 0 0, .slice none 0 0] (0, 0) _ rfl (by (with_reducible repeat (first | refine blk_drewN ?_ _ | refine blk_drew ?_ | refine blk_alloc ?_ _)); refine blk_put (cs := #[.int .i64 0, .string (⟨#[]⟩ : ByteArray), .int .i64 0, .slice none 0 0, .slice none 0 0]) ?_ 4 _ rfl; (with_reducible repeat (first | refine blk_drewN ?_ _ | refine blk_drew ?_ | refine blk_alloc ?_ _)); refine blk_put (cs := #[.int .i64 0, .string (⟨#[]⟩ : ByteArray), .int .i64 0, .slice none 0 0, .slice none 0 0]) ?_ 3 _ rfl; (with_reducible repeat (first | refine blk_drewN ?_ _ | refine blk_drew ?_ | refine blk_alloc ?_ _)); refine blk_put (cs := #[.int .i64 0, .string (⟨#[]⟩ : ByteArray), .int .i64 0, .slice none 0 0, .slice none 0 0]) ?_ 2 _ rfl; (with_reducible repeat (first | refine blk_drewN ?_ _ | refine blk_drew ?_ | refine blk_alloc ?_ _)); refine blk_put (cs := #[.int .i64 0, .string (⟨#[]⟩ : ByteArray), .int .i64 0, .slice none 0 0, .slice none 0 0]) ?_ 1 _ rfl; (with_reducible repeat (first | refine blk_drewN ?_ _ | refine blk_drew ?_ | refine blk_alloc ?_ _)); refine blk_put (cs := #[.int .i64 0, .string (⟨#[]⟩ : ByteArray), .int .i64 0, .slice none 0 0, .slice none 0 0]) ?_ 0 _ rfl; (with_reducible repeat (first | refine blk_drewN ?_ _ | refine blk_drew ?_ | refine blk_alloc ?_ _)); exact BK292.out) Tryd.underlying31 rfl (by kernel_rfl)) rfl ?_
                  exact ⟨_, _, by first | rfl | (simp [errW_none, errW_some] <;> rfl) | (simp [*, errW_none, errW_some] <;> rfl), by first | exact Kd.R_nil _ _ _ _ _ | exact Kd.N_nil _ _ _ _ _ | exact Kd.V_nil _ _ _ _ _ | exact Kd.Q_nil _ _ _ _ _ | exact Kd.S_nil _ _ _ _ _, by first | exact Kd.R_nil _ _ _ _ _ | exact Kd.N_nil _ _ _ _ _ | exact Kd.V_nil _ _ _ _ _ | exact Kd.Q_nil _ _ _ _ _ | exact Kd.S_nil _ _ _ _ _, by repeat (first | (with_reducible first | exact HB.out | apply below_alloc | apply pw_below_drewN | apply below_drew1 | refine below_set ?_ GE292.out) | exact HB.out)⟩
                · replace c15 := Bool.eq_false_iff.mpr c15
                  subst c15
                  have H1 : (tollbarref05_Status.l0 kj11 a0 t294 9) = some (r1, r2, r3, r4, r5, r6) := by rw [if_neg (show ¬ (false = true) by decide)] at H; exact H
                  clear H
                  have H := H1
                  clear H1
                  have H' := Aside0.mk H
                  clear H
                  go_wp2
                  repeat (go_quiet (fail); try go_wp2)
                  go_loopg [7] kj11 (fun kq v7 w' => ∃ (x7_3 : Int) (x293000_3 : Int) (x293001_3 : ByteArray) (x293002_3 : Int), v7 = .int .i64 x7_3 ∧ Aside0 (tollbarref05_Status.l0 kq a0 t294 x7_3 = some (r1, r2, r3, r4, r5, r6)) ∧ Aside0 (kq ≤ kj11) ∧ Aside0 (w'.heap[gb292]? = some (.cells #[.int .i64 x293000_3, .string x293001_3, .int .i64 x293002_3, (.slice none 0 0), (.slice none 0 0)] 31 (0, 0))) ∧ Aside0 (Below w.heap.size w w'))
                  case atStart => exact ⟨(9), (0), ((⟨#[]⟩ : ByteArray)), (0), (by first | rfl | (simp; done) | (simp [*]; done)), H', ⟨Nat.le_refl _⟩, ⟨by (with_reducible repeat (first | refine blk_drewN ?_ _ | refine blk_drew ?_ | refine blk_alloc ?_ _)); exact BK292.out⟩, ⟨by repeat (first | (with_reducible first | exact HB.out | apply below_alloc | apply pw_below_drewN | apply below_drew1 | refine below_set ?_ GE292.out) | exact HB.out)⟩⟩
                  case round =>
                    clear H'
                    try clear c1
                    try clear p2
                    try clear c4
                    try clear c4b0
                    try clear c4b1
                    try clear c5
                    try clear c5b0
                    try clear c5b1
                    try clear p6
                    try clear q6
                    try clear hx6
                    try clear qi6
                    try clear c7
                    try clear c9
                    try clear c9b0
                    try clear c9b1
                    try clear c10
                    try clear c10b0
                    try clear c10b1
                    try clear c13
                    try clear c14
                    try clear c14b0
                    try clear c14b1
                    try clear c15
                    try clear hcz16_0
                    try clear hcz16_1
                    try clear hcz16_2
                    try clear hcz16_3
                    try clear hcz16_4
                    try clear hcz8_0
                    try clear hcz8_1
                    try clear hcz8_2
                    try clear hcz8_3
                    try clear hcz8_4
                    try clear hfz16_0
                    try clear hfz16_1
                    try clear hfz16_2
                    try clear hfz16_3
                    try clear hfz16_4
                    try clear hfz8_0
                    try clear hfz8_1
                    try clear hfz8_2
                    try clear hfz8_3
                    try clear hfz8_4
                    try clear p2
                    try clear p6
                    try clear q6
                    obtain ⟨x7_3, x293000_3, x293001_3, x293002_3, rfl, HA, HK3, BK292, HB⟩ := hrel
                    cases gk with
                    | zero => exact absurd HA.out (by simp [tollbarref05_Status.l0])
                    | succ k3 =>
                      have H := HA.out
                      clear HA
                      simp only [tollbarref05_Status.l0] at H
                      by_cases c17 : x7_3 < 12
                      · rw [if_pos c17] at H
                        have c17b0 : decide (x7_3 < 12) = true := decide_eq_true c17
                        clear c17
                        by_cases c18 : 0 ≤ x7_3
                        · rw [if_pos c18] at H
                          have c18b0 : decide (0 ≤ x7_3) = true := decide_eq_true c18
                          clear c18
                          by_cases c19 : x7_3 < (a0.size : Int)
                          · rw [if_pos c19] at H
                            have c19b0 : decide (x7_3 < (a0.size : Int)) = true := decide_eq_true c19
                            clear c19
                            replace H := Option.bind_eq_some_iff.mp H
                            obtain ⟨t296, A210, H⟩ := H
                            replace H : (if t296 = true then (tollbarref05_Status.l0 k3 a0 t294 (wrap64 (x7_3 + 1))) else (some (0, (⟨#[]⟩ : ByteArray), 0, ([] : List (S84)), ([] : List Int), false))) = some (r1, r2, r3, r4, r5, r6) := H
                            have A21 := Aside0.mk A210
                            clear A210
                            by_cases c22 : t296 = true
                            · subst c22
                              have H1 : (tollbarref05_Status.l0 k3 a0 t294 (wrap64 (x7_3 + 1))) = some (r1, r2, r3, r4, r5, r6) := by rw [if_pos rfl] at H; exact H
                              clear H
                              have H := H1
                              clear H1
                              have H' := Aside0.mk H
                              clear H
                              have p20 : 0 ≤ (x7_3 : Int) := of_decide_eq_true (by first | (with_reducible assumption) | assumption)
                              have q20 : x7_3 < (a0.size : Int) := of_decide_eq_true (by first | (with_reducible assumption) | assumption)
                              have hx20 := bt_at a0 x7_3
                              replace p20 := eq_true p20
                              replace q20 := eq_true q20
                              go_wp2_with (first | (go_at_call 48; (with_reducible refine (tollbarref02_Digit.calls (bt a0 x7_3) true _ A21.out).mono ?_); rintro e w' ⟨rfl, ⟨nd, rfl⟩⟩; (try clear A21); (try first | exact ⟨rfl, _, World.drewN_drewN _ _ _⟩ | exact ⟨rfl, _, Eq.trans (World.drewN_drewN _ _ _) (congrArg (World.drewN _) (Nat.add_assoc _ _ _))⟩)))
                              repeat (go_quiet (first | (go_at_call 48; (with_reducible refine (tollbarref02_Digit.calls (bt a0 x7_3) true _ A21.out).mono ?_); rintro e w' ⟨rfl, ⟨nd, rfl⟩⟩; (try clear A21); (try first | exact ⟨rfl, _, World.drewN_drewN _ _ _⟩ | exact ⟨rfl, _, Eq.trans (World.drewN_drewN _ _ _) (congrArg (World.drewN _) (Nat.add_assoc _ _ _))⟩))); try go_wp2_with (first | (go_at_call 48; (with_reducible refine (tollbarref02_Digit.calls (bt a0 x7_3) true _ A21.out).mono ?_); rintro e w' ⟨rfl, ⟨nd, rfl⟩⟩; (try clear A21); (try first | exact ⟨rfl, _, World.drewN_drewN _ _ _⟩ | exact ⟨rfl, _, Eq.trans (World.drewN_drewN _ _ _) (congrArg (World.drewN _) (Nat.add_assoc _ _ _))⟩))))
                              go_roundg k3
                              case measure => have := HJ1.out; have := HJ11.out; have := HK3.out; omega
                              case rel => exact ⟨(wrap64 (x7_3 + 1)), (x293000_3), (x293001_3), (x293002_3), (by first | rfl | (simp; done) | (simp [*]; done)), H', ⟨by have := HJ1.out; have := HJ11.out; have := HK3.out; omega⟩, ⟨by (with_reducible repeat (first | refine blk_drewN ?_ _ | refine blk_drew ?_ | refine blk_alloc ?_ _)); exact BK292.out⟩, ⟨by repeat (first | (with_reducible first | exact HB.out | apply below_alloc | apply pw_below_drewN | apply below_drew1 | refine below_set ?_ GE292.out) | exact HB.out)⟩⟩
                            · replace c22 := Bool.eq_false_iff.mpr c22
                              subst c22
                              have H1 : (some (0, (⟨#[]⟩ : ByteArray), 0, ([] : List (S84)), ([] : List Int), false)) = some (r1, r2, r3, r4, r5, r6) := by rw [if_neg (show ¬ (false = true) by decide)] at H; exact H
                              clear H
                              have H := H1
                              clear H1
                              simp only [Option.some.injEq, Prod.mk.injEq] at H
                              obtain ⟨rfl, rfl, rfl, rfl, rfl, rfl⟩ := H
                              have p20 : 0 ≤ (x7_3 : Int) := of_decide_eq_true (by first | (with_reducible assumption) | assumption)
                              have q20 : x7_3 < (a0.size : Int) := of_decide_eq_true (by first | (with_reducible assumption) | assumption)
                              have hx20 := bt_at a0 x7_3
                              replace p20 := eq_true p20
                              replace q20 := eq_true q20
                              go_wp2_with (first | (go_at_call 48; (with_reducible refine (tollbarref02_Digit.calls (bt a0 x7_3) false _ A21.out).mono ?_); rintro e w' ⟨rfl, ⟨nd, rfl⟩⟩; (try clear A21); (try first | exact ⟨rfl, _, World.drewN_drewN _ _ _⟩ | exact ⟨rfl, _, Eq.trans (World.drewN_drewN _ _ _) (congrArg (World.drewN _) (Nat.add_assoc _ _ _))⟩); have hcz23_0 : wr.cell? ⟨gb292, 0, none⟩ = some (.int .i64 x293000_3) := (blk_cell BK292.out 0).trans rfl; have hcz23_1 : wr.cell? ⟨gb292, 1, none⟩ = some (.string x293001_3) := (blk_cell BK292.out 1).trans rfl; have hcz23_2 : wr.cell? ⟨gb292, 2, none⟩ = some (.int .i64 x293002_3) := (blk_cell BK292.out 2).trans rfl; have hcz23_3 : wr.cell? ⟨gb292, 3, none⟩ = some (.slice none 0 0) := (blk_cell BK292.out 3).trans rfl; have hcz23_4 : wr.cell? ⟨gb292, 4, none⟩ = some (.slice none 0 0) := (blk_cell BK292.out 4).trans rfl; have hfz23_0 := blk_frozen BK292.out 0; have hfz23_1 := blk_frozen BK292.out 1; have hfz23_2 := blk_frozen BK292.out 2; have hfz23_3 := blk_frozen BK292.out 3; have hfz23_4 := blk_frozen BK292.out 4))
                              repeat (go_quiet (first | (go_at_call 48; (with_reducible refine (tollbarref02_Digit.calls (bt a0 x7_3) false _ A21.out).mono ?_); rintro e w' ⟨rfl, ⟨nd, rfl⟩⟩; (try clear A21); (try first | exact ⟨rfl, _, World.drewN_drewN _ _ _⟩ | exact ⟨rfl, _, Eq.trans (World.drewN_drewN _ _ _) (congrArg (World.drewN _) (Nat.add_assoc _ _ _))⟩); have hcz23_0 : wr.cell? ⟨gb292, 0, none⟩ = some (.int .i64 x293000_3) := (blk_cell BK292.out 0).trans rfl; have hcz23_1 : wr.cell? ⟨gb292, 1, none⟩ = some (.string x293001_3) := (blk_cell BK292.out 1).trans rfl; have hcz23_2 : wr.cell? ⟨gb292, 2, none⟩ = some (.int .i64 x293002_3) := (blk_cell BK292.out 2).trans rfl; have hcz23_3 : wr.cell? ⟨gb292, 3, none⟩ = some (.slice none 0 0) := (blk_cell BK292.out 3).trans rfl; have hcz23_4 : wr.cell? ⟨gb292, 4, none⟩ = some (.slice none 0 0) := (blk_cell BK292.out 4).trans rfl; have hfz23_0 := blk_frozen BK292.out 0; have hfz23_1 := blk_frozen BK292.out 1; have hfz23_2 := blk_frozen BK292.out 2; have hfz23_3 := blk_frozen BK292.out 3; have hfz23_4 := blk_frozen BK292.out 4)); try go_wp2_with (first | (go_at_call 48; (with_reducible refine (tollbarref02_Digit.calls (bt a0 x7_3) false _ A21.out).mono ?_); rintro e w' ⟨rfl, ⟨nd, rfl⟩⟩; (try clear A21); (try first | exact ⟨rfl, _, World.drewN_drewN _ _ _⟩ | exact ⟨rfl, _, Eq.trans (World.drewN_drewN _ _ _) (congrArg (World.drewN _) (Nat.add_assoc _ _ _))⟩); have hcz23_0 : wr.cell? ⟨gb292, 0, none⟩ = some (.int .i64 x293000_3) := (blk_cell BK292.out 0).trans rfl; have hcz23_1 : wr.cell? ⟨gb292, 1, none⟩ = some (.string x293001_3) := (blk_cell BK292.out 1).trans rfl; have hcz23_2 : wr.cell? ⟨gb292, 2, none⟩ = some (.int .i64 x293002_3) := (blk_cell BK292.out 2).trans rfl; have hcz23_3 : wr.cell? ⟨gb292, 3, none⟩ = some (.slice none 0 0) := (blk_cell BK292.out 3).trans rfl; have hcz23_4 : wr.cell? ⟨gb292, 4, none⟩ = some (.slice none 0 0) := (blk_cell BK292.out 4).trans rfl; have hfz23_0 := blk_frozen BK292.out 0; have hfz23_1 := blk_frozen BK292.out 1; have hfz23_2 := blk_frozen BK292.out 2; have hfz23_3 := blk_frozen BK292.out 3; have hfz23_4 := blk_frozen BK292.out 4)))
                              refine bodyPost_ret (results_ct rfl _ _ gb292 31 #[.int .i64 0, .string (⟨#[]⟩ : ByteArray), .int .i64 0, .slice none 0 0, .slice none 0 0] (0, 0) _ rfl (by (with_reducible repeat (first | refine blk_drewN ?_ _ | refine blk_drew ?_ | refine blk_alloc ?_ _)); refine blk_put (cs := #[.int .i64 0, .string (⟨#[]⟩ : ByteArray), .int .i64 0, .slice none 0 0, .slice none 0 0]) ?_ 4 _ rfl; (with_reducible repeat (first | refine blk_drewN ?_ _ | refine blk_drew ?_ | refine blk_alloc ?_ _)); refine blk_put (cs := #[.int .i64 0, .string (⟨#[]⟩ : ByteArray), .int .i64 0, .slice none 0 0, .slice none 0 0]) ?_ 3 _ rfl; (with_reducible repeat (first | refine blk_drewN ?_ _ | refine blk_drew ?_ | refine blk_alloc ?_ _)); refine blk_put (cs := #[.int .i64 0, .string (⟨#[]⟩ : ByteArray), .int .i64 x293002_3, .slice none 0 0, .slice none 0 0]) ?_ 2 _ rfl; (with_reducible repeat (first | refine blk_drewN ?_ _ | refine blk_drew ?_ | refine blk_alloc ?_ _)); refine blk_put (cs := #[.int .i64 0, .string x293001_3, .int .i64 x293002_3, .slice none 0 0, .slice none 0 0]) ?_ 1 _ rfl; (with_reducible repeat (first | refine blk_drewN ?_ _ | refine blk_drew ?_ | refine blk_alloc ?_ _)); refine blk_put (cs := #[.int .i64 x293000_3, .string x293001_3, .int .i64 x293002_3, .slice none 0 0, .slice none 0 0]) ?_ 0 _ rfl; (with_reducible repeat (first | refine blk_drewN ?_ _ | refine blk_drew ?_ | refine blk_alloc ?_ _)); exact BK292.out) Tryd.underlying31 rfl (by kernel_rfl)) rfl ?_
                              exact ⟨_, _, by first | rfl | (simp [errW_none, errW_some] <;> rfl) | (simp [*, errW_none, errW_some] <;> rfl), by first | exact Kd.R_nil _ _ _ _ _ | exact Kd.N_nil _ _ _ _ _ | exact Kd.V_nil _ _ _ _ _ | exact Kd.Q_nil _ _ _ _ _ | exact Kd.S_nil _ _ _ _ _, by first | exact Kd.R_nil _ _ _ _ _ | exact Kd.N_nil _ _ _ _ _ | exact Kd.V_nil _ _ _ _ _ | exact Kd.Q_nil _ _ _ _ _ | exact Kd.S_nil _ _ _ _ _, by repeat (first | (with_reducible first | exact HB.out | apply below_alloc | apply pw_below_drewN | apply below_drew1 | refine below_set ?_ GE292.out) | exact HB.out)⟩
                          · rw [if_neg c19] at H
                            exact absurd H (by simp)
                        · rw [if_neg c18] at H
                          exact absurd H (by simp)
                      · rw [if_neg c17] at H
                        have c17b0 : decide (x7_3 < 12) = false := decide_eq_false c17
                        clear c17
                        by_cases c24 : 9 < (a0.size : Int)
                        · rw [if_pos c24] at H
                          have c24b0 : decide (9 < (a0.size : Int)) = true := decide_eq_true c24
                          have c24b1 : decide (9 < a0.size) = true := decide_eq_true (by omega)
                          clear c24
                          by_cases c26 : 10 < (a0.size : Int)
                          · rw [if_pos c26] at H
                            have c26b0 : decide (10 < (a0.size : Int)) = true := decide_eq_true c26
                            have c26b1 : decide (10 < a0.size) = true := decide_eq_true (by omega)
                            clear c26
                            by_cases c28 : 11 < (a0.size : Int)
                            · rw [if_pos c28] at H
                              have c28b0 : decide (11 < (a0.size : Int)) = true := decide_eq_true c28
                              have c28b1 : decide (11 < a0.size) = true := decide_eq_true (by omega)
                              clear c28
                              by_cases c30 : (a0.size : Int) > 12
                              · rw [if_pos c30] at H
                                have c30b0 : decide (12 < (a0.size : Int)) = true := decide_eq_true c30
                                have c30b1 : decide (12 < a0.size) = true := decide_eq_true (by omega)
                                clear c30
                                by_cases c31 : 12 < (a0.size : Int)
                                · rw [if_pos c31] at H
                                  have c31b0 : decide (12 < (a0.size : Int)) = true := decide_eq_true c31
                                  have c31b1 : decide (12 < a0.size) = true := decide_eq_true (by omega)
                                  clear c31
                                  by_cases c33 : (bt a0 12) = 32
                                  · rw [if_pos c33] at H
                                    have c33b0 : ((bt a0 12) == 32) = true := beq_iff_eq.mpr c33
                                    have c33b1 : ((bt a0 12) != 32) = false := bne_eq_false_iff_eq.mpr c33
                                    clear c33
                                    by_cases c34 : 13 ≤ (a0.size : Int)
                                    · rw [if_pos c34] at H
                                      have c34b0 := eq_true c34
                                      have c34b1 : decide (13 ≤ (a0.size : Int)) = true := decide_eq_true c34
                                      clear c34
                                      by_cases c35 : (((100 * (((bt a0 9) - 48) % 256)) + (10 * (((bt a0 10) - 48) % 256))) + (((bt a0 11) - 48) % 256)) < 100
                                      · rw [if_pos c35] at H
                                        have c35b0 : decide ((((100 * (((bt a0 9) - 48) % 256)) + (10 * (((bt a0 10) - 48) % 256))) + (((bt a0 11) - 48) % 256)) < 100) = true := decide_eq_true c35
                                        clear c35
                                        simp only [Option.some.injEq, Prod.mk.injEq] at H
                                        obtain ⟨rfl, rfl, rfl, rfl, rfl, rfl⟩ := H
                                        have p25 : 0 ≤ (9 : Int) := (by omega)
                                        have q25 : 9 < a0.size := (by have : (9 : Int) < (a0.size : Int) := of_decide_eq_true (by first | (with_reducible assumption) | assumption); omega)
                                        have hx25 : ∀ h : 9 < a0.size, ((a0[9]'h).toNat : Int) = bt a0 9 := bt_at a0 9
                                        clear p25
                                        have qi25 : (9 < (a0.size : Int)) = True := eq_true (of_decide_eq_true (by first | (with_reducible assumption) | assumption))
                                        replace q25 := eq_true q25
                                        have p27 : 0 ≤ (10 : Int) := (by omega)
                                        have q27 : 10 < a0.size := (by have : (10 : Int) < (a0.size : Int) := of_decide_eq_true (by first | (with_reducible assumption) | assumption); omega)
                                        have hx27 : ∀ h : 10 < a0.size, ((a0[10]'h).toNat : Int) = bt a0 10 := bt_at a0 10
                                        clear p27
                                        have qi27 : (10 < (a0.size : Int)) = True := eq_true (of_decide_eq_true (by first | (with_reducible assumption) | assumption))
                                        replace q27 := eq_true q27
                                        have p29 : 0 ≤ (11 : Int) := (by omega)
                                        have q29 : 11 < a0.size := (by have : (11 : Int) < (a0.size : Int) := of_decide_eq_true (by first | (with_reducible assumption) | assumption); omega)
                                        have hx29 : ∀ h : 11 < a0.size, ((a0[11]'h).toNat : Int) = bt a0 11 := bt_at a0 11
                                        clear p29
                                        have qi29 : (11 < (a0.size : Int)) = True := eq_true (of_decide_eq_true (by first | (with_reducible assumption) | assumption))
                                        replace q29 := eq_true q29
                                        have p32 : 0 ≤ (12 : Int) := (by omega)
                                        have q32 : 12 < a0.size := (by have : (12 : Int) < (a0.size : Int) := of_decide_eq_true (by first | (with_reducible assumption) | assumption); omega)
                                        have hx32 : ∀ h : 12 < a0.size, ((a0[12]'h).toNat : Int) = bt a0 12 := bt_at a0 12
                                        clear p32
                                        have qi32 : (12 < (a0.size : Int)) = True := eq_true (of_decide_eq_true (by first | (with_reducible assumption) | assumption))
                                        replace q32 := eq_true q32
                                        have hcz36_0 : wr.cell? ⟨gb292, 0, none⟩ = some (.int .i64 x293000_3) := (blk_cell BK292.out 0).trans rfl
                                        have hcz36_1 : wr.cell? ⟨gb292, 1, none⟩ = some (.string x293001_3) := (blk_cell BK292.out 1).trans rfl
                                        have hcz36_2 : wr.cell? ⟨gb292, 2, none⟩ = some (.int .i64 x293002_3) := (blk_cell BK292.out 2).trans rfl
                                        have hcz36_3 : wr.cell? ⟨gb292, 3, none⟩ = some (.slice none 0 0) := (blk_cell BK292.out 3).trans rfl
                                        have hcz36_4 : wr.cell? ⟨gb292, 4, none⟩ = some (.slice none 0 0) := (blk_cell BK292.out 4).trans rfl
                                        have hfz36_0 := blk_frozen BK292.out 0
                                        have hfz36_1 := blk_frozen BK292.out 1
                                        have hfz36_2 := blk_frozen BK292.out 2
                                        have hfz36_3 := blk_frozen BK292.out 3
                                        have hfz36_4 := blk_frozen BK292.out 4
                                        go_wp2
                                        repeat (go_quiet (fail); try go_wp2)
                                        refine bodyPost_ret (results_ct rfl _ _ gb292 31 #[.int .i64 0, .string (⟨#[]⟩ : ByteArray), .int .i64 0, .slice none 0 0, .slice none 0 0] (0, 0) _ rfl (by (with_reducible repeat (first | refine blk_drewN ?_ _ | refine blk_drew ?_ | refine blk_alloc ?_ _)); refine blk_put (cs := #[.int .i64 0, .string (⟨#[]⟩ : ByteArray), .int .i64 0, .slice none 0 0, .slice none 0 0]) ?_ 4 _ rfl; (with_reducible repeat (first | refine blk_drewN ?_ _ | refine blk_drew ?_ | refine blk_alloc ?_ _)); refine blk_put (cs := #[.int .i64 0, .string (⟨#[]⟩ : ByteArray), .int .i64 0, .slice none 0 0, .slice none 0 0]) ?_ 3 _ rfl; (with_reducible repeat (first | refine blk_drewN ?_ _ | refine blk_drew ?_ | refine blk_alloc ?_ _)); refine blk_put (cs := #[.int .i64 0, .string (⟨#[]⟩ : ByteArray), .int .i64 x293002_3, .slice none 0 0, .slice none 0 0]) ?_ 2 _ rfl; (with_reducible repeat (first | refine blk_drewN ?_ _ | refine blk_drew ?_ | refine blk_alloc ?_ _)); refine blk_put (cs := #[.int .i64 0, .string x293001_3, .int .i64 x293002_3, .slice none 0 0, .slice none 0 0]) ?_ 1 _ rfl; (with_reducible repeat (first | refine blk_drewN ?_ _ | refine blk_drew ?_ | refine blk_alloc ?_ _)); refine blk_put (cs := #[.int .i64 x293000_3, .string x293001_3, .int .i64 x293002_3, .slice none 0 0, .slice none 0 0]) ?_ 0 _ rfl; (with_reducible repeat (first | refine blk_drewN ?_ _ | refine blk_drew ?_ | refine blk_alloc ?_ _)); exact BK292.out) Tryd.underlying31 rfl (by kernel_rfl)) rfl ?_
                                        exact ⟨_, _, by first | rfl | (simp [errW_none, errW_some] <;> rfl) | (simp [*, errW_none, errW_some] <;> rfl), by first | exact Kd.R_nil _ _ _ _ _ | exact Kd.N_nil _ _ _ _ _ | exact Kd.V_nil _ _ _ _ _ | exact Kd.Q_nil _ _ _ _ _ | exact Kd.S_nil _ _ _ _ _, by first | exact Kd.R_nil _ _ _ _ _ | exact Kd.N_nil _ _ _ _ _ | exact Kd.V_nil _ _ _ _ _ | exact Kd.Q_nil _ _ _ _ _ | exact Kd.S_nil _ _ _ _ _, by repeat (first | (with_reducible first | exact HB.out | apply below_alloc | apply pw_below_drewN | apply below_drew1 | refine below_set ?_ GE292.out) | exact HB.out)⟩
                                      · rw [if_neg c35] at H
                                        have c35b0 : decide ((((100 * (((bt a0 9) - 48) % 256)) + (10 * (((bt a0 10) - 48) % 256))) + (((bt a0 11) - 48) % 256)) < 100) = false := decide_eq_false c35
                                        clear c35
                                        by_cases c37 : (((100 * (((bt a0 9) - 48) % 256)) + (10 * (((bt a0 10) - 48) % 256))) + (((bt a0 11) - 48) % 256)) > 599
                                        · rw [if_pos c37] at H
                                          have c37b0 : decide (599 < (((100 * (((bt a0 9) - 48) % 256)) + (10 * (((bt a0 10) - 48) % 256))) + (((bt a0 11) - 48) % 256))) = true := decide_eq_true c37
                                          clear c37
                                          simp only [Option.some.injEq, Prod.mk.injEq] at H
                                          obtain ⟨rfl, rfl, rfl, rfl, rfl, rfl⟩ := H
                                          have p25 : 0 ≤ (9 : Int) := (by omega)
                                          have q25 : 9 < a0.size := (by have : (9 : Int) < (a0.size : Int) := of_decide_eq_true (by first | (with_reducible assumption) | assumption); omega)
                                          have hx25 : ∀ h : 9 < a0.size, ((a0[9]'h).toNat : Int) = bt a0 9 := bt_at a0 9
                                          clear p25
                                          have qi25 : (9 < (a0.size : Int)) = True := eq_true (of_decide_eq_true (by first | (with_reducible assumption) | assumption))
                                          replace q25 := eq_true q25
                                          have p27 : 0 ≤ (10 : Int) := (by omega)
                                          have q27 : 10 < a0.size := (by have : (10 : Int) < (a0.size : Int) := of_decide_eq_true (by first | (with_reducible assumption) | assumption); omega)
                                          have hx27 : ∀ h : 10 < a0.size, ((a0[10]'h).toNat : Int) = bt a0 10 := bt_at a0 10
                                          clear p27
                                          have qi27 : (10 < (a0.size : Int)) = True := eq_true (of_decide_eq_true (by first | (with_reducible assumption) | assumption))
                                          replace q27 := eq_true q27
                                          have p29 : 0 ≤ (11 : Int) := (by omega)
                                          have q29 : 11 < a0.size := (by have : (11 : Int) < (a0.size : Int) := of_decide_eq_true (by first | (with_reducible assumption) | assumption); omega)
                                          have hx29 : ∀ h : 11 < a0.size, ((a0[11]'h).toNat : Int) = bt a0 11 := bt_at a0 11
                                          clear p29
                                          have qi29 : (11 < (a0.size : Int)) = True := eq_true (of_decide_eq_true (by first | (with_reducible assumption) | assumption))
                                          replace q29 := eq_true q29
                                          have p32 : 0 ≤ (12 : Int) := (by omega)
                                          have q32 : 12 < a0.size := (by have : (12 : Int) < (a0.size : Int) := of_decide_eq_true (by first | (with_reducible assumption) | assumption); omega)
                                          have hx32 : ∀ h : 12 < a0.size, ((a0[12]'h).toNat : Int) = bt a0 12 := bt_at a0 12
                                          clear p32
                                          have qi32 : (12 < (a0.size : Int)) = True := eq_true (of_decide_eq_true (by first | (with_reducible assumption) | assumption))
                                          replace q32 := eq_true q32
                                          have hcz38_0 : wr.cell? ⟨gb292, 0, none⟩ = some (.int .i64 x293000_3) := (blk_cell BK292.out 0).trans rfl
                                          have hcz38_1 : wr.cell? ⟨gb292, 1, none⟩ = some (.string x293001_3) := (blk_cell BK292.out 1).trans rfl
                                          have hcz38_2 : wr.cell? ⟨gb292, 2, none⟩ = some (.int .i64 x293002_3) := (blk_cell BK292.out 2).trans rfl
                                          have hcz38_3 : wr.cell? ⟨gb292, 3, none⟩ = some (.slice none 0 0) := (blk_cell BK292.out 3).trans rfl
                                          have hcz38_4 : wr.cell? ⟨gb292, 4, none⟩ = some (.slice none 0 0) := (blk_cell BK292.out 4).trans rfl
                                          have hfz38_0 := blk_frozen BK292.out 0
                                          have hfz38_1 := blk_frozen BK292.out 1
                                          have hfz38_2 := blk_frozen BK292.out 2
                                          have hfz38_3 := blk_frozen BK292.out 3
                                          have hfz38_4 := blk_frozen BK292.out 4
                                          go_wp2
                                          repeat (go_quiet (fail); try go_wp2)
                                          refine bodyPost_ret (results_ct rfl _ _ gb292 31 #[.int .i64 0, .string (⟨#[]⟩ : ByteArray), .int .i64 0, .slice none 0 0, .slice none 0 0] (0, 0) _ rfl (by (with_reducible repeat (first | refine blk_drewN ?_ _ | refine blk_drew ?_ | refine blk_alloc ?_ _)); refine blk_put (cs := #[.int .i64 0, .string (⟨#[]⟩ : ByteArray), .int .i64 0, .slice none 0 0, .slice none 0 0]) ?_ 4 _ rfl; (with_reducible repeat (first | refine blk_drewN ?_ _ | refine blk_drew ?_ | refine blk_alloc ?_ _)); refine blk_put (cs := #[.int .i64 0, .string (⟨#[]⟩ : ByteArray), .int .i64 0, .slice none 0 0, .slice none 0 0]) ?_ 3 _ rfl; (with_reducible repeat (first | refine blk_drewN ?_ _ | refine blk_drew ?_ | refine blk_alloc ?_ _)); refine blk_put (cs := #[.int .i64 0, .string (⟨#[]⟩ : ByteArray), .int .i64 x293002_3, .slice none 0 0, .slice none 0 0]) ?_ 2 _ rfl; (with_reducible repeat (first | refine blk_drewN ?_ _ | refine blk_drew ?_ | refine blk_alloc ?_ _)); refine blk_put (cs := #[.int .i64 0, .string x293001_3, .int .i64 x293002_3, .slice none 0 0, .slice none 0 0]) ?_ 1 _ rfl; (with_reducible repeat (first | refine blk_drewN ?_ _ | refine blk_drew ?_ | refine blk_alloc ?_ _)); refine blk_put (cs := #[.int .i64 x293000_3, .string x293001_3, .int .i64 x293002_3, .slice none 0 0, .slice none 0 0]) ?_ 0 _ rfl; (with_reducible repeat (first | refine blk_drewN ?_ _ | refine blk_drew ?_ | refine blk_alloc ?_ _)); exact BK292.out) Tryd.underlying31 rfl (by kernel_rfl)) rfl ?_
                                          exact ⟨_, _, by first | rfl | (simp [errW_none, errW_some] <;> rfl) | (simp [*, errW_none, errW_some] <;> rfl), by first | exact Kd.R_nil _ _ _ _ _ | exact Kd.N_nil _ _ _ _ _ | exact Kd.V_nil _ _ _ _ _ | exact Kd.Q_nil _ _ _ _ _ | exact Kd.S_nil _ _ _ _ _, by first | exact Kd.R_nil _ _ _ _ _ | exact Kd.N_nil _ _ _ _ _ | exact Kd.V_nil _ _ _ _ _ | exact Kd.Q_nil _ _ _ _ _ | exact Kd.S_nil _ _ _ _ _, by repeat (first | (with_reducible first | exact HB.out | apply below_alloc | apply pw_below_drewN | apply below_drew1 | refine below_set ?_ GE292.out) | exact HB.out)⟩
                                        · rw [if_neg c37] at H
                                          have c37b0 : decide (599 < (((100 * (((bt a0 9) - 48) % 256)) + (10 * (((bt a0 10) - 48) % 256))) + (((bt a0 11) - 48) % 256))) = false := decide_eq_false c37
                                          clear c37
                                          replace H := Option.bind_eq_some_iff.mp H
                                          obtain ⟨t297, A390, H⟩ := H
                                          replace H : (if t297 = true then (if ((a0.extract 13 a0.size).size : Int) > 100 then (some (0, (⟨#[]⟩ : ByteArray), 0, ([] : List (S84)), ([] : List Int), false)) else (some (((100 * (((bt a0 9) - 48) % 256)) + (10 * (((bt a0 10) - 48) % 256))) + (((bt a0 11) - 48) % 256), a0.extract 13 a0.size, t294, ([] : List (S84)), ([] : List Int), true))) else (some (0, (⟨#[]⟩ : ByteArray), 0, ([] : List (S84)), ([] : List Int), false))) = some (r1, r2, r3, r4, r5, r6) := H
                                          have A39 := Aside0.mk A390
                                          clear A390
                                          by_cases c40 : t297 = true
                                          · subst c40
                                            have H1 : (if ((a0.extract 13 a0.size).size : Int) > 100 then (some (0, (⟨#[]⟩ : ByteArray), 0, ([] : List (S84)), ([] : List Int), false)) else (some (((100 * (((bt a0 9) - 48) % 256)) + (10 * (((bt a0 10) - 48) % 256))) + (((bt a0 11) - 48) % 256), a0.extract 13 a0.size, t294, ([] : List (S84)), ([] : List Int), true))) = some (r1, r2, r3, r4, r5, r6) := by rw [if_pos rfl] at H; exact H
                                            clear H
                                            have H := H1
                                            clear H1
                                            by_cases c41 : ((a0.extract 13 a0.size).size : Int) > 100
                                            · rw [if_pos c41] at H
                                              have c41b0 : decide (100 < ((a0.extract 13 a0.size).size : Int)) = true := decide_eq_true c41
                                              have c41b9 : decide (100 < ((a0.size - 13 : Nat) : Int)) = true := by rw [← c41b0, ByteArray.size_extract, Nat.min_self]
                                              have c41b1 : decide (100 < (a0.extract 13 a0.size).size) = true := decide_eq_true (by omega)
                                              clear c41
                                              simp only [Option.some.injEq, Prod.mk.injEq] at H
                                              obtain ⟨rfl, rfl, rfl, rfl, rfl, rfl⟩ := H
                                              have p25 : 0 ≤ (9 : Int) := (by omega)
                                              have q25 : 9 < a0.size := (by have : (9 : Int) < (a0.size : Int) := of_decide_eq_true (by first | (with_reducible assumption) | assumption); omega)
                                              have hx25 : ∀ h : 9 < a0.size, ((a0[9]'h).toNat : Int) = bt a0 9 := bt_at a0 9
                                              clear p25
                                              have qi25 : (9 < (a0.size : Int)) = True := eq_true (of_decide_eq_true (by first | (with_reducible assumption) | assumption))
                                              replace q25 := eq_true q25
                                              have p27 : 0 ≤ (10 : Int) := (by omega)
                                              have q27 : 10 < a0.size := (by have : (10 : Int) < (a0.size : Int) := of_decide_eq_true (by first | (with_reducible assumption) | assumption); omega)
                                              have hx27 : ∀ h : 10 < a0.size, ((a0[10]'h).toNat : Int) = bt a0 10 := bt_at a0 10
                                              clear p27
                                              have qi27 : (10 < (a0.size : Int)) = True := eq_true (of_decide_eq_true (by first | (with_reducible assumption) | assumption))
                                              replace q27 := eq_true q27
                                              have p29 : 0 ≤ (11 : Int) := (by omega)
                                              have q29 : 11 < a0.size := (by have : (11 : Int) < (a0.size : Int) := of_decide_eq_true (by first | (with_reducible assumption) | assumption); omega)
                                              have hx29 : ∀ h : 11 < a0.size, ((a0[11]'h).toNat : Int) = bt a0 11 := bt_at a0 11
                                              clear p29
                                              have qi29 : (11 < (a0.size : Int)) = True := eq_true (of_decide_eq_true (by first | (with_reducible assumption) | assumption))
                                              replace q29 := eq_true q29
                                              have p32 : 0 ≤ (12 : Int) := (by omega)
                                              have q32 : 12 < a0.size := (by have : (12 : Int) < (a0.size : Int) := of_decide_eq_true (by first | (with_reducible assumption) | assumption); omega)
                                              have hx32 : ∀ h : 12 < a0.size, ((a0[12]'h).toNat : Int) = bt a0 12 := bt_at a0 12
                                              clear p32
                                              have qi32 : (12 < (a0.size : Int)) = True := eq_true (of_decide_eq_true (by first | (with_reducible assumption) | assumption))
                                              replace q32 := eq_true q32
                                              go_wp2_with (first | (go_at_call 49; (with_reducible refine (tollbarref02_Value.calls k3 (a0.extract 13 a0.size) true _ A39.out).mono ?_); rintro e w' ⟨rfl, ⟨nd, rfl⟩⟩; (try clear A39); (try first | exact ⟨rfl, _, World.drewN_drewN _ _ _⟩ | exact ⟨rfl, _, Eq.trans (World.drewN_drewN _ _ _) (congrArg (World.drewN _) (Nat.add_assoc _ _ _))⟩); have hcz42_0 : wr.cell? ⟨gb292, 0, none⟩ = some (.int .i64 x293000_3) := (blk_cell BK292.out 0).trans rfl; have hcz42_1 : wr.cell? ⟨gb292, 1, none⟩ = some (.string x293001_3) := (blk_cell BK292.out 1).trans rfl; have hcz42_2 : wr.cell? ⟨gb292, 2, none⟩ = some (.int .i64 x293002_3) := (blk_cell BK292.out 2).trans rfl; have hcz42_3 : wr.cell? ⟨gb292, 3, none⟩ = some (.slice none 0 0) := (blk_cell BK292.out 3).trans rfl; have hcz42_4 : wr.cell? ⟨gb292, 4, none⟩ = some (.slice none 0 0) := (blk_cell BK292.out 4).trans rfl; have hfz42_0 := blk_frozen BK292.out 0; have hfz42_1 := blk_frozen BK292.out 1; have hfz42_2 := blk_frozen BK292.out 2; have hfz42_3 := blk_frozen BK292.out 3; have hfz42_4 := blk_frozen BK292.out 4))
                                              repeat (go_quiet (first | (go_at_call 49; (with_reducible refine (tollbarref02_Value.calls k3 (a0.extract 13 a0.size) true _ A39.out).mono ?_); rintro e w' ⟨rfl, ⟨nd, rfl⟩⟩; (try clear A39); (try first | exact ⟨rfl, _, World.drewN_drewN _ _ _⟩ | exact ⟨rfl, _, Eq.trans (World.drewN_drewN _ _ _) (congrArg (World.drewN _) (Nat.add_assoc _ _ _))⟩); have hcz42_0 : wr.cell? ⟨gb292, 0, none⟩ = some (.int .i64 x293000_3) := (blk_cell BK292.out 0).trans rfl; have hcz42_1 : wr.cell? ⟨gb292, 1, none⟩ = some (.string x293001_3) := (blk_cell BK292.out 1).trans rfl; have hcz42_2 : wr.cell? ⟨gb292, 2, none⟩ = some (.int .i64 x293002_3) := (blk_cell BK292.out 2).trans rfl; have hcz42_3 : wr.cell? ⟨gb292, 3, none⟩ = some (.slice none 0 0) := (blk_cell BK292.out 3).trans rfl; have hcz42_4 : wr.cell? ⟨gb292, 4, none⟩ = some (.slice none 0 0) := (blk_cell BK292.out 4).trans rfl; have hfz42_0 := blk_frozen BK292.out 0; have hfz42_1 := blk_frozen BK292.out 1; have hfz42_2 := blk_frozen BK292.out 2; have hfz42_3 := blk_frozen BK292.out 3; have hfz42_4 := blk_frozen BK292.out 4)); try go_wp2_with (first | (go_at_call 49; (with_reducible refine (tollbarref02_Value.calls k3 (a0.extract 13 a0.size) true _ A39.out).mono ?_); rintro e w' ⟨rfl, ⟨nd, rfl⟩⟩; (try clear A39); (try first | exact ⟨rfl, _, World.drewN_drewN _ _ _⟩ | exact ⟨rfl, _, Eq.trans (World.drewN_drewN _ _ _) (congrArg (World.drewN _) (Nat.add_assoc _ _ _))⟩); have hcz42_0 : wr.cell? ⟨gb292, 0, none⟩ = some (.int .i64 x293000_3) := (blk_cell BK292.out 0).trans rfl; have hcz42_1 : wr.cell? ⟨gb292, 1, none⟩ = some (.string x293001_3) := (blk_cell BK292.out 1).trans rfl; have hcz42_2 : wr.cell? ⟨gb292, 2, none⟩ = some (.int .i64 x293002_3) := (blk_cell BK292.out 2).trans rfl; have hcz42_3 : wr.cell? ⟨gb292, 3, none⟩ = some (.slice none 0 0) := (blk_cell BK292.out 3).trans rfl; have hcz42_4 : wr.cell? ⟨gb292, 4, none⟩ = some (.slice none 0 0) := (blk_cell BK292.out 4).trans rfl; have hfz42_0 := blk_frozen BK292.out 0; have hfz42_1 := blk_frozen BK292.out 1; have hfz42_2 := blk_frozen BK292.out 2; have hfz42_3 := blk_frozen BK292.out 3; have hfz42_4 := blk_frozen BK292.out 4)))
                                              refine bodyPost_ret (results_ct rfl _ _ gb292 31 #[.int .i64 0, .string (⟨#[]⟩ : ByteArray), .int .i64 0, .slice none 0 0, .slice none 0 0] (0, 0) _ rfl (by (with_reducible repeat (first | refine blk_drewN ?_ _ | refine blk_drew ?_ | refine blk_alloc ?_ _)); refine blk_put (cs := #[.int .i64 0, .string (⟨#[]⟩ : ByteArray), .int .i64 0, .slice none 0 0, .slice none 0 0]) ?_ 4 _ rfl; (with_reducible repeat (first | refine blk_drewN ?_ _ | refine blk_drew ?_ | refine blk_alloc ?_ _)); refine blk_put (cs := #[.int .i64 0, .string (⟨#[]⟩ : ByteArray), .int .i64 0, .slice none 0 0, .slice none 0 0]) ?_ 3 _ rfl; (with_reducible repeat (first | refine blk_drewN ?_ _ | refine blk_drew ?_ | refine blk_alloc ?_ _)); refine blk_put (cs := #[.int .i64 0, .string (⟨#[]⟩ : ByteArray), .int .i64 x293002_3, .slice none 0 0, .slice none 0 0]) ?_ 2 _ rfl; (with_reducible repeat (first | refine blk_drewN ?_ _ | refine blk_drew ?_ | refine blk_alloc ?_ _)); refine blk_put (cs := #[.int .i64 0, .string x293001_3, .int .i64 x293002_3, .slice none 0 0, .slice none 0 0]) ?_ 1 _ rfl; (with_reducible repeat (first | refine blk_drewN ?_ _ | refine blk_drew ?_ | refine blk_alloc ?_ _)); refine blk_put (cs := #[.int .i64 x293000_3, .string x293001_3, .int .i64 x293002_3, .slice none 0 0, .slice none 0 0]) ?_ 0 _ rfl; (with_reducible repeat (first | refine blk_drewN ?_ _ | refine blk_drew ?_ | refine blk_alloc ?_ _)); exact BK292.out) Tryd.underlying31 rfl (by kernel_rfl)) rfl ?_
                                              exact ⟨_, _, by first | rfl | (simp [errW_none, errW_some] <;> rfl) | (simp [*, errW_none, errW_some] <;> rfl), by first | exact Kd.R_nil _ _ _ _ _ | exact Kd.N_nil _ _ _ _ _ | exact Kd.V_nil _ _ _ _ _ | exact Kd.Q_nil _ _ _ _ _ | exact Kd.S_nil _ _ _ _ _, by first | exact Kd.R_nil _ _ _ _ _ | exact Kd.N_nil _ _ _ _ _ | exact Kd.V_nil _ _ _ _ _ | exact Kd.Q_nil _ _ _ _ _ | exact Kd.S_nil _ _ _ _ _, by repeat (first | (with_reducible first | exact HB.out | apply below_alloc | apply pw_below_drewN | apply below_drew1 | refine below_set ?_ GE292.out) | exact HB.out)⟩
                                            · rw [if_neg c41] at H
                                              have c41b0 : decide (100 < ((a0.extract 13 a0.size).size : Int)) = false := decide_eq_false c41
                                              have c41b9 : decide (100 < ((a0.size - 13 : Nat) : Int)) = false := by rw [← c41b0, ByteArray.size_extract, Nat.min_self]
                                              have c41b1 : decide (100 < (a0.extract 13 a0.size).size) = false := decide_eq_false (by omega)
                                              clear c41
                                              simp only [Option.some.injEq, Prod.mk.injEq] at H
                                              obtain ⟨rfl, rfl, rfl, rfl, rfl, rfl⟩ := H
                                              have p25 : 0 ≤ (9 : Int) := (by omega)
                                              have q25 : 9 < a0.size := (by have : (9 : Int) < (a0.size : Int) := of_decide_eq_true (by first | (with_reducible assumption) | assumption); omega)
                                              have hx25 : ∀ h : 9 < a0.size, ((a0[9]'h).toNat : Int) = bt a0 9 := bt_at a0 9
                                              clear p25
                                              have qi25 : (9 < (a0.size : Int)) = True := eq_true (of_decide_eq_true (by first | (with_reducible assumption) | assumption))
                                              replace q25 := eq_true q25
                                              have p27 : 0 ≤ (10 : Int) := (by omega)
                                              have q27 : 10 < a0.size := (by have : (10 : Int) < (a0.size : Int) := of_decide_eq_true (by first | (with_reducible assumption) | assumption); omega)
                                              have hx27 : ∀ h : 10 < a0.size, ((a0[10]'h).toNat : Int) = bt a0 10 := bt_at a0 10
                                              clear p27
                                              have qi27 : (10 < (a0.size : Int)) = True := eq_true (of_decide_eq_true (by first | (with_reducible assumption) | assumption))
                                              replace q27 := eq_true q27
                                              have p29 : 0 ≤ (11 : Int) := (by omega)
                                              have q29 : 11 < a0.size := (by have : (11 : Int) < (a0.size : Int) := of_decide_eq_true (by first | (with_reducible assumption) | assumption); omega)
                                              have hx29 : ∀ h : 11 < a0.size, ((a0[11]'h).toNat : Int) = bt a0 11 := bt_at a0 11
                                              clear p29
                                              have qi29 : (11 < (a0.size : Int)) = True := eq_true (of_decide_eq_true (by first | (with_reducible assumption) | assumption))
                                              replace q29 := eq_true q29
                                              have p32 : 0 ≤ (12 : Int) := (by omega)
                                              have q32 : 12 < a0.size := (by have : (12 : Int) < (a0.size : Int) := of_decide_eq_true (by first | (with_reducible assumption) | assumption); omega)
                                              have hx32 : ∀ h : 12 < a0.size, ((a0[12]'h).toNat : Int) = bt a0 12 := bt_at a0 12
                                              clear p32
                                              have qi32 : (12 < (a0.size : Int)) = True := eq_true (of_decide_eq_true (by first | (with_reducible assumption) | assumption))
                                              replace q32 := eq_true q32
                                              go_wp2_with (first | (go_at_call 49; (with_reducible refine (tollbarref02_Value.calls k3 (a0.extract 13 a0.size) true _ A39.out).mono ?_); rintro e w' ⟨rfl, ⟨nd, rfl⟩⟩; (try clear A39); (try first | exact ⟨rfl, _, World.drewN_drewN _ _ _⟩ | exact ⟨rfl, _, Eq.trans (World.drewN_drewN _ _ _) (congrArg (World.drewN _) (Nat.add_assoc _ _ _))⟩); have hcz43_0 : wr.cell? ⟨gb292, 0, none⟩ = some (.int .i64 x293000_3) := (blk_cell BK292.out 0).trans rfl; have hcz43_1 : wr.cell? ⟨gb292, 1, none⟩ = some (.string x293001_3) := (blk_cell BK292.out 1).trans rfl; have hcz43_2 : wr.cell? ⟨gb292, 2, none⟩ = some (.int .i64 x293002_3) := (blk_cell BK292.out 2).trans rfl; have hcz43_3 : wr.cell? ⟨gb292, 3, none⟩ = some (.slice none 0 0) := (blk_cell BK292.out 3).trans rfl; have hcz43_4 : wr.cell? ⟨gb292, 4, none⟩ = some (.slice none 0 0) := (blk_cell BK292.out 4).trans rfl; have hfz43_0 := blk_frozen BK292.out 0; have hfz43_1 := blk_frozen BK292.out 1; have hfz43_2 := blk_frozen BK292.out 2; have hfz43_3 := blk_frozen BK292.out 3; have hfz43_4 := blk_frozen BK292.out 4))
                                              repeat (go_quiet (first | (go_at_call 49; (with_reducible refine (tollbarref02_Value.calls k3 (a0.extract 13 a0.size) true _ A39.out).mono ?_); rintro e w' ⟨rfl, ⟨nd, rfl⟩⟩; (try clear A39); (try first | exact ⟨rfl, _, World.drewN_drewN _ _ _⟩ | exact ⟨rfl, _, Eq.trans (World.drewN_drewN _ _ _) (congrArg (World.drewN _) (Nat.add_assoc _ _ _))⟩); have hcz43_0 : wr.cell? ⟨gb292, 0, none⟩ = some (.int .i64 x293000_3) := (blk_cell BK292.out 0).trans rfl; have hcz43_1 : wr.cell? ⟨gb292, 1, none⟩ = some (.string x293001_3) := (blk_cell BK292.out 1).trans rfl; have hcz43_2 : wr.cell? ⟨gb292, 2, none⟩ = some (.int .i64 x293002_3) := (blk_cell BK292.out 2).trans rfl; have hcz43_3 : wr.cell? ⟨gb292, 3, none⟩ = some (.slice none 0 0) := (blk_cell BK292.out 3).trans rfl; have hcz43_4 : wr.cell? ⟨gb292, 4, none⟩ = some (.slice none 0 0) := (blk_cell BK292.out 4).trans rfl; have hfz43_0 := blk_frozen BK292.out 0; have hfz43_1 := blk_frozen BK292.out 1; have hfz43_2 := blk_frozen BK292.out 2; have hfz43_3 := blk_frozen BK292.out 3; have hfz43_4 := blk_frozen BK292.out 4)); try go_wp2_with (first | (go_at_call 49; (with_reducible refine (tollbarref02_Value.calls k3 (a0.extract 13 a0.size) true _ A39.out).mono ?_); rintro e w' ⟨rfl, ⟨nd, rfl⟩⟩; (try clear A39); (try first | exact ⟨rfl, _, World.drewN_drewN _ _ _⟩ | exact ⟨rfl, _, Eq.trans (World.drewN_drewN _ _ _) (congrArg (World.drewN _) (Nat.add_assoc _ _ _))⟩); have hcz43_0 : wr.cell? ⟨gb292, 0, none⟩ = some (.int .i64 x293000_3) := (blk_cell BK292.out 0).trans rfl; have hcz43_1 : wr.cell? ⟨gb292, 1, none⟩ = some (.string x293001_3) := (blk_cell BK292.out 1).trans rfl; have hcz43_2 : wr.cell? ⟨gb292, 2, none⟩ = some (.int .i64 x293002_3) := (blk_cell BK292.out 2).trans rfl; have hcz43_3 : wr.cell? ⟨gb292, 3, none⟩ = some (.slice none 0 0) := (blk_cell BK292.out 3).trans rfl; have hcz43_4 : wr.cell? ⟨gb292, 4, none⟩ = some (.slice none 0 0) := (blk_cell BK292.out 4).trans rfl; have hfz43_0 := blk_frozen BK292.out 0; have hfz43_1 := blk_frozen BK292.out 1; have hfz43_2 := blk_frozen BK292.out 2; have hfz43_3 := blk_frozen BK292.out 3; have hfz43_4 := blk_frozen BK292.out 4)))
                                              refine bodyPost_ret (results_ct rfl _ _ gb292 31 #[.int .i64 (((100 * (((bt a0 9) - 48) % 256)) + (10 * (((bt a0 10) - 48) % 256))) + (((bt a0 11) - 48) % 256)), .string (a0.extract 13 a0.size), .int .i64 t294, .slice none 0 0, .slice none 0 0] (0, 0) _ rfl (by (with_reducible repeat (first | refine blk_drewN ?_ _ | refine blk_drew ?_ | refine blk_alloc ?_ _)); refine blk_put (cs := #[.int .i64 (((100 * (((bt a0 9) - 48) % 256)) + (10 * (((bt a0 10) - 48) % 256))) + (((bt a0 11) - 48) % 256)), .string (a0.extract 13 a0.size), .int .i64 t294, .slice none 0 0, .slice none 0 0]) ?_ 4 _ rfl; (with_reducible repeat (first | refine blk_drewN ?_ _ | refine blk_drew ?_ | refine blk_alloc ?_ _)); refine blk_put (cs := #[.int .i64 (((100 * (((bt a0 9) - 48) % 256)) + (10 * (((bt a0 10) - 48) % 256))) + (((bt a0 11) - 48) % 256)), .string (a0.extract 13 a0.size), .int .i64 t294, .slice none 0 0, .slice none 0 0]) ?_ 3 _ rfl; (with_reducible repeat (first | refine blk_drewN ?_ _ | refine blk_drew ?_ | refine blk_alloc ?_ _)); refine blk_put (cs := #[.int .i64 (((100 * (((bt a0 9) - 48) % 256)) + (10 * (((bt a0 10) - 48) % 256))) + (((bt a0 11) - 48) % 256)), .string (a0.extract 13 a0.size), .int .i64 x293002_3, .slice none 0 0, .slice none 0 0]) ?_ 2 _ rfl; (with_reducible repeat (first | refine blk_drewN ?_ _ | refine blk_drew ?_ | refine blk_alloc ?_ _)); refine blk_put (cs := #[.int .i64 (((100 * (((bt a0 9) - 48) % 256)) + (10 * (((bt a0 10) - 48) % 256))) + (((bt a0 11) - 48) % 256)), .string x293001_3, .int .i64 x293002_3, .slice none 0 0, .slice none 0 0]) ?_ 1 _ rfl; (with_reducible repeat (first | refine blk_drewN ?_ _ | refine blk_drew ?_ | refine blk_alloc ?_ _)); refine blk_put (cs := #[.int .i64 x293000_3, .string x293001_3, .int .i64 x293002_3, .slice none 0 0, .slice none 0 0]) ?_ 0 _ rfl; (with_reducible repeat (first | refine blk_drewN ?_ _ | refine blk_drew ?_ | refine blk_alloc ?_ _)); exact BK292.out) Tryd.underlying31 rfl (by kernel_rfl)) rfl ?_
                                              exact ⟨_, _, by first | rfl | (simp [errW_none, errW_some] <;> rfl) | (simp [*, errW_none, errW_some] <;> rfl), by first | exact Kd.R_nil _ _ _ _ _ | exact Kd.N_nil _ _ _ _ _ | exact Kd.V_nil _ _ _ _ _ | exact Kd.Q_nil _ _ _ _ _ | exact Kd.S_nil _ _ _ _ _, by first | exact Kd.R_nil _ _ _ _ _ | exact Kd.N_nil _ _ _ _ _ | exact Kd.V_nil _ _ _ _ _ | exact Kd.Q_nil _ _ _ _ _ | exact Kd.S_nil _ _ _ _ _, by repeat (first | (with_reducible first | exact HB.out | apply below_alloc | apply pw_below_drewN | apply below_drew1 | refine below_set ?_ GE292.out) | exact HB.out)⟩
                                          · replace c40 := Bool.eq_false_iff.mpr c40
                                            subst c40
                                            have H1 : (some (0, (⟨#[]⟩ : ByteArray), 0, ([] : List (S84)), ([] : List Int), false)) = some (r1, r2, r3, r4, r5, r6) := by rw [if_neg (show ¬ (false = true) by decide)] at H; exact H
                                            clear H
                                            have H := H1
                                            clear H1
                                            simp only [Option.some.injEq, Prod.mk.injEq] at H
                                            obtain ⟨rfl, rfl, rfl, rfl, rfl, rfl⟩ := H
                                            have p25 : 0 ≤ (9 : Int) := (by omega)
                                            have q25 : 9 < a0.size := (by have : (9 : Int) < (a0.size : Int) := of_decide_eq_true (by first | (with_reducible assumption) | assumption); omega)
                                            have hx25 : ∀ h : 9 < a0.size, ((a0[9]'h).toNat : Int) = bt a0 9 := bt_at a0 9
                                            clear p25
                                            have qi25 : (9 < (a0.size : Int)) = True := eq_true (of_decide_eq_true (by first | (with_reducible assumption) | assumption))
                                            replace q25 := eq_true q25
                                            have p27 : 0 ≤ (10 : Int) := (by omega)
                                            have q27 : 10 < a0.size := (by have : (10 : Int) < (a0.size : Int) := of_decide_eq_true (by first | (with_reducible assumption) | assumption); omega)
                                            have hx27 : ∀ h : 10 < a0.size, ((a0[10]'h).toNat : Int) = bt a0 10 := bt_at a0 10
                                            clear p27
                                            have qi27 : (10 < (a0.size : Int)) = True := eq_true (of_decide_eq_true (by first | (with_reducible assumption) | assumption))
                                            replace q27 := eq_true q27
                                            have p29 : 0 ≤ (11 : Int) := (by omega)
                                            have q29 : 11 < a0.size := (by have : (11 : Int) < (a0.size : Int) := of_decide_eq_true (by first | (with_reducible assumption) | assumption); omega)
                                            have hx29 : ∀ h : 11 < a0.size, ((a0[11]'h).toNat : Int) = bt a0 11 := bt_at a0 11
                                            clear p29
                                            have qi29 : (11 < (a0.size : Int)) = True := eq_true (of_decide_eq_true (by first | (with_reducible assumption) | assumption))
                                            replace q29 := eq_true q29
                                            have p32 : 0 ≤ (12 : Int) := (by omega)
                                            have q32 : 12 < a0.size := (by have : (12 : Int) < (a0.size : Int) := of_decide_eq_true (by first | (with_reducible assumption) | assumption); omega)
                                            have hx32 : ∀ h : 12 < a0.size, ((a0[12]'h).toNat : Int) = bt a0 12 := bt_at a0 12
                                            clear p32
                                            have qi32 : (12 < (a0.size : Int)) = True := eq_true (of_decide_eq_true (by first | (with_reducible assumption) | assumption))
                                            replace q32 := eq_true q32
                                            go_wp2_with (first | (go_at_call 49; (with_reducible refine (tollbarref02_Value.calls k3 (a0.extract 13 a0.size) false _ A39.out).mono ?_); rintro e w' ⟨rfl, ⟨nd, rfl⟩⟩; (try clear A39); (try first | exact ⟨rfl, _, World.drewN_drewN _ _ _⟩ | exact ⟨rfl, _, Eq.trans (World.drewN_drewN _ _ _) (congrArg (World.drewN _) (Nat.add_assoc _ _ _))⟩); have hcz44_0 : wr.cell? ⟨gb292, 0, none⟩ = some (.int .i64 x293000_3) := (blk_cell BK292.out 0).trans rfl; have hcz44_1 : wr.cell? ⟨gb292, 1, none⟩ = some (.string x293001_3) := (blk_cell BK292.out 1).trans rfl; have hcz44_2 : wr.cell? ⟨gb292, 2, none⟩ = some (.int .i64 x293002_3) := (blk_cell BK292.out 2).trans rfl; have hcz44_3 : wr.cell? ⟨gb292, 3, none⟩ = some (.slice none 0 0) := (blk_cell BK292.out 3).trans rfl; have hcz44_4 : wr.cell? ⟨gb292, 4, none⟩ = some (.slice none 0 0) := (blk_cell BK292.out 4).trans rfl; have hfz44_0 := blk_frozen BK292.out 0; have hfz44_1 := blk_frozen BK292.out 1; have hfz44_2 := blk_frozen BK292.out 2; have hfz44_3 := blk_frozen BK292.out 3; have hfz44_4 := blk_frozen BK292.out 4))
                                            repeat (go_quiet (first | (go_at_call 49; (with_reducible refine (tollbarref02_Value.calls k3 (a0.extract 13 a0.size) false _ A39.out).mono ?_); rintro e w' ⟨rfl, ⟨nd, rfl⟩⟩; (try clear A39); (try first | exact ⟨rfl, _, World.drewN_drewN _ _ _⟩ | exact ⟨rfl, _, Eq.trans (World.drewN_drewN _ _ _) (congrArg (World.drewN _) (Nat.add_assoc _ _ _))⟩); have hcz44_0 : wr.cell? ⟨gb292, 0, none⟩ = some (.int .i64 x293000_3) := (blk_cell BK292.out 0).trans rfl; have hcz44_1 : wr.cell? ⟨gb292, 1, none⟩ = some (.string x293001_3) := (blk_cell BK292.out 1).trans rfl; have hcz44_2 : wr.cell? ⟨gb292, 2, none⟩ = some (.int .i64 x293002_3) := (blk_cell BK292.out 2).trans rfl; have hcz44_3 : wr.cell? ⟨gb292, 3, none⟩ = some (.slice none 0 0) := (blk_cell BK292.out 3).trans rfl; have hcz44_4 : wr.cell? ⟨gb292, 4, none⟩ = some (.slice none 0 0) := (blk_cell BK292.out 4).trans rfl; have hfz44_0 := blk_frozen BK292.out 0; have hfz44_1 := blk_frozen BK292.out 1; have hfz44_2 := blk_frozen BK292.out 2; have hfz44_3 := blk_frozen BK292.out 3; have hfz44_4 := blk_frozen BK292.out 4)); try go_wp2_with (first | (go_at_call 49; (with_reducible refine (tollbarref02_Value.calls k3 (a0.extract 13 a0.size) false _ A39.out).mono ?_); rintro e w' ⟨rfl, ⟨nd, rfl⟩⟩; (try clear A39); (try first | exact ⟨rfl, _, World.drewN_drewN _ _ _⟩ | exact ⟨rfl, _, Eq.trans (World.drewN_drewN _ _ _) (congrArg (World.drewN _) (Nat.add_assoc _ _ _))⟩); have hcz44_0 : wr.cell? ⟨gb292, 0, none⟩ = some (.int .i64 x293000_3) := (blk_cell BK292.out 0).trans rfl; have hcz44_1 : wr.cell? ⟨gb292, 1, none⟩ = some (.string x293001_3) := (blk_cell BK292.out 1).trans rfl; have hcz44_2 : wr.cell? ⟨gb292, 2, none⟩ = some (.int .i64 x293002_3) := (blk_cell BK292.out 2).trans rfl; have hcz44_3 : wr.cell? ⟨gb292, 3, none⟩ = some (.slice none 0 0) := (blk_cell BK292.out 3).trans rfl; have hcz44_4 : wr.cell? ⟨gb292, 4, none⟩ = some (.slice none 0 0) := (blk_cell BK292.out 4).trans rfl; have hfz44_0 := blk_frozen BK292.out 0; have hfz44_1 := blk_frozen BK292.out 1; have hfz44_2 := blk_frozen BK292.out 2; have hfz44_3 := blk_frozen BK292.out 3; have hfz44_4 := blk_frozen BK292.out 4)))
                                            refine bodyPost_ret (results_ct rfl _ _ gb292 31 #[.int .i64 0, .string (⟨#[]⟩ : ByteArray), .int .i64 0, .slice none 0 0, .slice none 0 0] (0, 0) _ rfl (by (with_reducible repeat (first | refine blk_drewN ?_ _ | refine blk_drew ?_ | refine blk_alloc ?_ _)); refine blk_put (cs := #[.int .i64 0, .string (⟨#[]⟩ : ByteArray), .int .i64 0, .slice none 0 0, .slice none 0 0]) ?_ 4 _ rfl; (with_reducible repeat (first | refine blk_drewN ?_ _ | refine blk_drew ?_ | refine blk_alloc ?_ _)); refine blk_put (cs := #[.int .i64 0, .string (⟨#[]⟩ : ByteArray), .int .i64 0, .slice none 0 0, .slice none 0 0]) ?_ 3 _ rfl; (with_reducible repeat (first | refine blk_drewN ?_ _ | refine blk_drew ?_ | refine blk_alloc ?_ _)); refine blk_put (cs := #[.int .i64 0, .string (⟨#[]⟩ : ByteArray), .int .i64 x293002_3, .slice none 0 0, .slice none 0 0]) ?_ 2 _ rfl; (with_reducible repeat (first | refine blk_drewN ?_ _ | refine blk_drew ?_ | refine blk_alloc ?_ _)); refine blk_put (cs := #[.int .i64 0, .string x293001_3, .int .i64 x293002_3, .slice none 0 0, .slice none 0 0]) ?_ 1 _ rfl; (with_reducible repeat (first | refine blk_drewN ?_ _ | refine blk_drew ?_ | refine blk_alloc ?_ _)); refine blk_put (cs := #[.int .i64 x293000_3, .string x293001_3, .int .i64 x293002_3, .slice none 0 0, .slice none 0 0]) ?_ 0 _ rfl; (with_reducible repeat (first | refine blk_drewN ?_ _ | refine blk_drew ?_ | refine blk_alloc ?_ _)); exact BK292.out) Tryd.underlying31 rfl (by kernel_rfl)) rfl ?_
                                            exact ⟨_, _, by first | rfl | (simp [errW_none, errW_some] <;> rfl) | (simp [*, errW_none, errW_some] <;> rfl), by first | exact Kd.R_nil _ _ _ _ _ | exact Kd.N_nil _ _ _ _ _ | exact Kd.V_nil _ _ _ _ _ | exact Kd.Q_nil _ _ _ _ _ | exact Kd.S_nil _ _ _ _ _, by first | exact Kd.R_nil _ _ _ _ _ | exact Kd.N_nil _ _ _ _ _ | exact Kd.V_nil _ _ _ _ _ | exact Kd.Q_nil _ _ _ _ _ | exact Kd.S_nil _ _ _ _ _, by repeat (first | (with_reducible first | exact HB.out | apply below_alloc | apply pw_below_drewN | apply below_drew1 | refine below_set ?_ GE292.out) | exact HB.out)⟩
                                    · rw [if_neg c34] at H
                                      exact absurd H (by simp)
                                  · rw [if_neg c33] at H
                                    have c33b0 : ((bt a0 12) == 32) = false := beq_eq_false_iff_ne.mpr c33
                                    have c33b1 : ((bt a0 12) != 32) = true := bne_iff_ne.mpr c33
                                    simp only [Option.some.injEq, Prod.mk.injEq] at H
                                    obtain ⟨rfl, rfl, rfl, rfl, rfl, rfl⟩ := H
                                    have p25 : 0 ≤ (9 : Int) := (by omega)
                                    have q25 : 9 < a0.size := (by have : (9 : Int) < (a0.size : Int) := of_decide_eq_true (by first | (with_reducible assumption) | assumption); omega)
                                    have hx25 : ∀ h : 9 < a0.size, ((a0[9]'h).toNat : Int) = bt a0 9 := bt_at a0 9
                                    clear p25
                                    have qi25 : (9 < (a0.size : Int)) = True := eq_true (of_decide_eq_true (by first | (with_reducible assumption) | assumption))
                                    replace q25 := eq_true q25
                                    have p27 : 0 ≤ (10 : Int) := (by omega)
                                    have q27 : 10 < a0.size := (by have : (10 : Int) < (a0.size : Int) := of_decide_eq_true (by first | (with_reducible assumption) | assumption); omega)
                                    have hx27 : ∀ h : 10 < a0.size, ((a0[10]'h).toNat : Int) = bt a0 10 := bt_at a0 10
                                    clear p27
                                    have qi27 : (10 < (a0.size : Int)) = True := eq_true (of_decide_eq_true (by first | (with_reducible assumption) | assumption))
                                    replace q27 := eq_true q27
                                    have p29 : 0 ≤ (11 : Int) := (by omega)
                                    have q29 : 11 < a0.size := (by have : (11 : Int) < (a0.size : Int) := of_decide_eq_true (by first | (with_reducible assumption) | assumption); omega)
                                    have hx29 : ∀ h : 11 < a0.size, ((a0[11]'h).toNat : Int) = bt a0 11 := bt_at a0 11
                                    clear p29
                                    have qi29 : (11 < (a0.size : Int)) = True := eq_true (of_decide_eq_true (by first | (with_reducible assumption) | assumption))
                                    replace q29 := eq_true q29
                                    have p32 : 0 ≤ (12 : Int) := (by omega)
                                    have q32 : 12 < a0.size := (by have : (12 : Int) < (a0.size : Int) := of_decide_eq_true (by first | (with_reducible assumption) | assumption); omega)
                                    have hx32 : ∀ h : 12 < a0.size, ((a0[12]'h).toNat : Int) = bt a0 12 := bt_at a0 12
                                    clear p32
                                    have qi32 : (12 < (a0.size : Int)) = True := eq_true (of_decide_eq_true (by first | (with_reducible assumption) | assumption))
                                    replace q32 := eq_true q32
                                    have hcz45_0 : wr.cell? ⟨gb292, 0, none⟩ = some (.int .i64 x293000_3) := (blk_cell BK292.out 0).trans rfl
                                    have hcz45_1 : wr.cell? ⟨gb292, 1, none⟩ = some (.string x293001_3) := (blk_cell BK292.out 1).trans rfl
                                    have hcz45_2 : wr.cell? ⟨gb292, 2, none⟩ = some (.int .i64 x293002_3) := (blk_cell BK292.out 2).trans rfl
                                    have hcz45_3 : wr.cell? ⟨gb292, 3, none⟩ = some (.slice none 0 0) := (blk_cell BK292.out 3).trans rfl
                                    have hcz45_4 : wr.cell? ⟨gb292, 4, none⟩ = some (.slice none 0 0) := (blk_cell BK292.out 4).trans rfl
                                    have hfz45_0 := blk_frozen BK292.out 0
                                    have hfz45_1 := blk_frozen BK292.out 1
                                    have hfz45_2 := blk_frozen BK292.out 2
                                    have hfz45_3 := blk_frozen BK292.out 3
                                    have hfz45_4 := blk_frozen BK292.out 4
                                    go_wp2
                                    repeat (go_quiet (fail); try go_wp2)
                                    refine bodyPost_ret (results_ct rfl _ _ gb292 31 #[.int .i64 0, .string (⟨#[]⟩ : ByteArray), .int .i64 0, .slice none 0 0, .slice none 0 0] (0, 0) _ rfl (by (with_reducible repeat (first | refine blk_drewN ?_ _ | refine blk_drew ?_ | refine blk_alloc ?_ _)); refine blk_put (cs := #[.int .i64 0, .string (⟨#[]⟩ : ByteArray), .int .i64 0, .slice none 0 0, .slice none 0 0]) ?_ 4 _ rfl; (with_reducible repeat (first | refine blk_drewN ?_ _ | refine blk_drew ?_ | refine blk_alloc ?_ _)); refine blk_put (cs := #[.int .i64 0, .string (⟨#[]⟩ : ByteArray), .int .i64 0, .slice none 0 0, .slice none 0 0]) ?_ 3 _ rfl; (with_reducible repeat (first | refine blk_drewN ?_ _ | refine blk_drew ?_ | refine blk_alloc ?_ _)); refine blk_put (cs := #[.int .i64 0, .string (⟨#[]⟩ : ByteArray), .int .i64 x293002_3, .slice none 0 0, .slice none 0 0]) ?_ 2 _ rfl; (with_reducible repeat (first | refine blk_drewN ?_ _ | refine blk_drew ?_ | refine blk_alloc ?_ _)); refine blk_put (cs := #[.int .i64 0, .string x293001_3, .int .i64 x293002_3, .slice none 0 0, .slice none 0 0]) ?_ 1 _ rfl; (with_reducible repeat (first | refine blk_drewN ?_ _ | refine blk_drew ?_ | refine blk_alloc ?_ _)); refine blk_put (cs := #[.int .i64 x293000_3, .string x293001_3, .int .i64 x293002_3, .slice none 0 0, .slice none 0 0]) ?_ 0 _ rfl; (with_reducible repeat (first | refine blk_drewN ?_ _ | refine blk_drew ?_ | refine blk_alloc ?_ _)); exact BK292.out) Tryd.underlying31 rfl (by kernel_rfl)) rfl ?_
                                    exact ⟨_, _, by first | rfl | (simp [errW_none, errW_some] <;> rfl) | (simp [*, errW_none, errW_some] <;> rfl), by first | exact Kd.R_nil _ _ _ _ _ | exact Kd.N_nil _ _ _ _ _ | exact Kd.V_nil _ _ _ _ _ | exact Kd.Q_nil _ _ _ _ _ | exact Kd.S_nil _ _ _ _ _, by first | exact Kd.R_nil _ _ _ _ _ | exact Kd.N_nil _ _ _ _ _ | exact Kd.V_nil _ _ _ _ _ | exact Kd.Q_nil _ _ _ _ _ | exact Kd.S_nil _ _ _ _ _, by repeat (first | (with_reducible first | exact HB.out | apply below_alloc | apply pw_below_drewN | apply below_drew1 | refine below_set ?_ GE292.out) | exact HB.out)⟩
                                · rw [if_neg c31] at H
                                  exact absurd H (by simp)
                              · rw [if_neg c30] at H
                                have c30b0 : decide (12 < (a0.size : Int)) = false := decide_eq_false c30
                                have c30b1 : decide (12 < a0.size) = false := decide_eq_false (by omega)
                                clear c30
                                by_cases c46 : (((100 * (((bt a0 9) - 48) % 256)) + (10 * (((bt a0 10) - 48) % 256))) + (((bt a0 11) - 48) % 256)) < 100
                                · rw [if_pos c46] at H
                                  have c46b0 : decide ((((100 * (((bt a0 9) - 48) % 256)) + (10 * (((bt a0 10) - 48) % 256))) + (((bt a0 11) - 48) % 256)) < 100) = true := decide_eq_true c46
                                  clear c46
                                  simp only [Option.some.injEq, Prod.mk.injEq] at H
                                  obtain ⟨rfl, rfl, rfl, rfl, rfl, rfl⟩ := H
                                  have p25 : 0 ≤ (9 : Int) := (by omega)
                                  have q25 : 9 < a0.size := (by have : (9 : Int) < (a0.size : Int) := of_decide_eq_true (by first | (with_reducible assumption) | assumption); omega)
                                  have hx25 : ∀ h : 9 < a0.size, ((a0[9]'h).toNat : Int) = bt a0 9 := bt_at a0 9
                                  clear p25
                                  have qi25 : (9 < (a0.size : Int)) = True := eq_true (of_decide_eq_true (by first | (with_reducible assumption) | assumption))
                                  replace q25 := eq_true q25
                                  have p27 : 0 ≤ (10 : Int) := (by omega)
                                  have q27 : 10 < a0.size := (by have : (10 : Int) < (a0.size : Int) := of_decide_eq_true (by first | (with_reducible assumption) | assumption); omega)
                                  have hx27 : ∀ h : 10 < a0.size, ((a0[10]'h).toNat : Int) = bt a0 10 := bt_at a0 10
                                  clear p27
                                  have qi27 : (10 < (a0.size : Int)) = True := eq_true (of_decide_eq_true (by first | (with_reducible assumption) | assumption))
                                  replace q27 := eq_true q27
                                  have p29 : 0 ≤ (11 : Int) := (by omega)
                                  have q29 : 11 < a0.size := (by have : (11 : Int) < (a0.size : Int) := of_decide_eq_true (by first | (with_reducible assumption) | assumption); omega)
                                  have hx29 : ∀ h : 11 < a0.size, ((a0[11]'h).toNat : Int) = bt a0 11 := bt_at a0 11
                                  clear p29
                                  have qi29 : (11 < (a0.size : Int)) = True := eq_true (of_decide_eq_true (by first | (with_reducible assumption) | assumption))
                                  replace q29 := eq_true q29
                                  have hcz47_0 : wr.cell? ⟨gb292, 0, none⟩ = some (.int .i64 x293000_3) := (blk_cell BK292.out 0).trans rfl
                                  have hcz47_1 : wr.cell? ⟨gb292, 1, none⟩ = some (.string x293001_3) := (blk_cell BK292.out 1).trans rfl
                                  have hcz47_2 : wr.cell? ⟨gb292, 2, none⟩ = some (.int .i64 x293002_3) := (blk_cell BK292.out 2).trans rfl
                                  have hcz47_3 : wr.cell? ⟨gb292, 3, none⟩ = some (.slice none 0 0) := (blk_cell BK292.out 3).trans rfl
                                  have hcz47_4 : wr.cell? ⟨gb292, 4, none⟩ = some (.slice none 0 0) := (blk_cell BK292.out 4).trans rfl
                                  have hfz47_0 := blk_frozen BK292.out 0
                                  have hfz47_1 := blk_frozen BK292.out 1
                                  have hfz47_2 := blk_frozen BK292.out 2
                                  have hfz47_3 := blk_frozen BK292.out 3
                                  have hfz47_4 := blk_frozen BK292.out 4
                                  go_wp2
                                  repeat (go_quiet (fail); try go_wp2)
                                  refine bodyPost_ret (results_ct rfl _ _ gb292 31 #[.int .i64 0, .string (⟨#[]⟩ : ByteArray), .int .i64 0, .slice none 0 0, .slice none 0 0] (0, 0) _ rfl (by (with_reducible repeat (first | refine blk_drewN ?_ _ | refine blk_drew ?_ | refine blk_alloc ?_ _)); refine blk_put (cs := #[.int .i64 0, .string (⟨#[]⟩ : ByteArray), .int .i64 0, .slice none 0 0, .slice none 0 0]) ?_ 4 _ rfl; (with_reducible repeat (first | refine blk_drewN ?_ _ | refine blk_drew ?_ | refine blk_alloc ?_ _)); refine blk_put (cs := #[.int .i64 0, .string (⟨#[]⟩ : ByteArray), .int .i64 0, .slice none 0 0, .slice none 0 0]) ?_ 3 _ rfl; (with_reducible repeat (first | refine blk_drewN ?_ _ | refine blk_drew ?_ | refine blk_alloc ?_ _)); refine blk_put (cs := #[.int .i64 0, .string (⟨#[]⟩ : ByteArray), .int .i64 x293002_3, .slice none 0 0, .slice none 0 0]) ?_ 2 _ rfl; (with_reducible repeat (first | refine blk_drewN ?_ _ | refine blk_drew ?_ | refine blk_alloc ?_ _)); refine blk_put (cs := #[.int .i64 0, .string x293001_3, .int .i64 x293002_3, .slice none 0 0, .slice none 0 0]) ?_ 1 _ rfl; (with_reducible repeat (first | refine blk_drewN ?_ _ | refine blk_drew ?_ | refine blk_alloc ?_ _)); refine blk_put (cs := #[.int .i64 x293000_3, .string x293001_3, .int .i64 x293002_3, .slice none 0 0, .slice none 0 0]) ?_ 0 _ rfl; (with_reducible repeat (first | refine blk_drewN ?_ _ | refine blk_drew ?_ | refine blk_alloc ?_ _)); exact BK292.out) Tryd.underlying31 rfl (by kernel_rfl)) rfl ?_
                                  exact ⟨_, _, by first | rfl | (simp [errW_none, errW_some] <;> rfl) | (simp [*, errW_none, errW_some] <;> rfl), by first | exact Kd.R_nil _ _ _ _ _ | exact Kd.N_nil _ _ _ _ _ | exact Kd.V_nil _ _ _ _ _ | exact Kd.Q_nil _ _ _ _ _ | exact Kd.S_nil _ _ _ _ _, by first | exact Kd.R_nil _ _ _ _ _ | exact Kd.N_nil _ _ _ _ _ | exact Kd.V_nil _ _ _ _ _ | exact Kd.Q_nil _ _ _ _ _ | exact Kd.S_nil _ _ _ _ _, by repeat (first | (with_reducible first | exact HB.out | apply below_alloc | apply pw_below_drewN | apply below_drew1 | refine below_set ?_ GE292.out) | exact HB.out)⟩
                                · rw [if_neg c46] at H
                                  have c46b0 : decide ((((100 * (((bt a0 9) - 48) % 256)) + (10 * (((bt a0 10) - 48) % 256))) + (((bt a0 11) - 48) % 256)) < 100) = false := decide_eq_false c46
                                  clear c46
                                  by_cases c48 : (((100 * (((bt a0 9) - 48) % 256)) + (10 * (((bt a0 10) - 48) % 256))) + (((bt a0 11) - 48) % 256)) > 599
                                  · rw [if_pos c48] at H
                                    have c48b0 : decide (599 < (((100 * (((bt a0 9) - 48) % 256)) + (10 * (((bt a0 10) - 48) % 256))) + (((bt a0 11) - 48) % 256))) = true := decide_eq_true c48
                                    clear c48
                                    simp only [Option.some.injEq, Prod.mk.injEq] at H
                                    obtain ⟨rfl, rfl, rfl, rfl, rfl, rfl⟩ := H
                                    have p25 : 0 ≤ (9 : Int) := (by omega)
                                    have q25 : 9 < a0.size := (by have : (9 : Int) < (a0.size : Int) := of_decide_eq_true (by first | (with_reducible assumption) | assumption); omega)
                                    have hx25 : ∀ h : 9 < a0.size, ((a0[9]'h).toNat : Int) = bt a0 9 := bt_at a0 9
                                    clear p25
                                    have qi25 : (9 < (a0.size : Int)) = True := eq_true (of_decide_eq_true (by first | (with_reducible assumption) | assumption))
                                    replace q25 := eq_true q25
                                    have p27 : 0 ≤ (10 : Int) := (by omega)
                                    have q27 : 10 < a0.size := (by have : (10 : Int) < (a0.size : Int) := of_decide_eq_true (by first | (with_reducible assumption) | assumption); omega)
                                    have hx27 : ∀ h : 10 < a0.size, ((a0[10]'h).toNat : Int) = bt a0 10 := bt_at a0 10
                                    clear p27
                                    have qi27 : (10 < (a0.size : Int)) = True := eq_true (of_decide_eq_true (by first | (with_reducible assumption) | assumption))
                                    replace q27 := eq_true q27
                                    have p29 : 0 ≤ (11 : Int) := (by omega)
                                    have q29 : 11 < a0.size := (by have : (11 : Int) < (a0.size : Int) := of_decide_eq_true (by first | (with_reducible assumption) | assumption); omega)
                                    have hx29 : ∀ h : 11 < a0.size, ((a0[11]'h).toNat : Int) = bt a0 11 := bt_at a0 11
                                    clear p29
                                    have qi29 : (11 < (a0.size : Int)) = True := eq_true (of_decide_eq_true (by first | (with_reducible assumption) | assumption))
                                    replace q29 := eq_true q29
                                    have hcz49_0 : wr.cell? ⟨gb292, 0, none⟩ = some (.int .i64 x293000_3) := (blk_cell BK292.out 0).trans rfl
                                    have hcz49_1 : wr.cell? ⟨gb292, 1, none⟩ = some (.string x293001_3) := (blk_cell BK292.out 1).trans rfl
                                    have hcz49_2 : wr.cell? ⟨gb292, 2, none⟩ = some (.int .i64 x293002_3) := (blk_cell BK292.out 2).trans rfl
                                    have hcz49_3 : wr.cell? ⟨gb292, 3, none⟩ = some (.slice none 0 0) := (blk_cell BK292.out 3).trans rfl
                                    have hcz49_4 : wr.cell? ⟨gb292, 4, none⟩ = some (.slice none 0 0) := (blk_cell BK292.out 4).trans rfl
                                    have hfz49_0 := blk_frozen BK292.out 0
                                    have hfz49_1 := blk_frozen BK292.out 1
                                    have hfz49_2 := blk_frozen BK292.out 2
                                    have hfz49_3 := blk_frozen BK292.out 3
                                    have hfz49_4 := blk_frozen BK292.out 4
                                    go_wp2
                                    repeat (go_quiet (fail); try go_wp2)
                                    refine bodyPost_ret (results_ct rfl _ _ gb292 31 #[.int .i64 0, .string (⟨#[]⟩ : ByteArray), .int .i64 0, .slice none 0 0, .slice none 0 0] (0, 0) _ rfl (by (with_reducible repeat (first | refine blk_drewN ?_ _ | refine blk_drew ?_ | refine blk_alloc ?_ _)); refine blk_put (cs := #[.int .i64 0, .string (⟨#[]⟩ : ByteArray), .int .i64 0, .slice none 0 0, .slice none 0 0]) ?_ 4 _ rfl; (with_reducible repeat (first | refine blk_drewN ?_ _ | refine blk_drew ?_ | refine blk_alloc ?_ _)); refine blk_put (cs := #[.int .i64 0, .string (⟨#[]⟩ : ByteArray), .int .i64 0, .slice none 0 0, .slice none 0 0]) ?_ 3 _ rfl; (with_reducible repeat (first | refine blk_drewN ?_ _ | refine blk_drew ?_ | refine blk_alloc ?_ _)); refine blk_put (cs := #[.int .i64 0, .string (⟨#[]⟩ : ByteArray), .int .i64 x293002_3, .slice none 0 0, .slice none 0 0]) ?_ 2 _ rfl; (with_reducible repeat (first | refine blk_drewN ?_ _ | refine blk_drew ?_ | refine blk_alloc ?_ _)); refine blk_put (cs := #[.int .i64 0, .string x293001_3, .int .i64 x293002_3, .slice none 0 0, .slice none 0 0]) ?_ 1 _ rfl; (with_reducible repeat (first | refine blk_drewN ?_ _ | refine blk_drew ?_ | refine blk_alloc ?_ _)); refine blk_put (cs := #[.int .i64 x293000_3, .string x293001_3, .int .i64 x293002_3, .slice none 0 0, .slice none 0 0]) ?_ 0 _ rfl; (with_reducible repeat (first | refine blk_drewN ?_ _ | refine blk_drew ?_ | refine blk_alloc ?_ _)); exact BK292.out) Tryd.underlying31 rfl (by kernel_rfl)) rfl ?_
                                    exact ⟨_, _, by first | rfl | (simp [errW_none, errW_some] <;> rfl) | (simp [*, errW_none, errW_some] <;> rfl), by first | exact Kd.R_nil _ _ _ _ _ | exact Kd.N_nil _ _ _ _ _ | exact Kd.V_nil _ _ _ _ _ | exact Kd.Q_nil _ _ _ _ _ | exact Kd.S_nil _ _ _ _ _, by first | exact Kd.R_nil _ _ _ _ _ | exact Kd.N_nil _ _ _ _ _ | exact Kd.V_nil _ _ _ _ _ | exact Kd.Q_nil _ _ _ _ _ | exact Kd.S_nil _ _ _ _ _, by repeat (first | (with_reducible first | exact HB.out | apply below_alloc | apply pw_below_drewN | apply below_drew1 | refine below_set ?_ GE292.out) | exact HB.out)⟩
                                  · rw [if_neg c48] at H
                                    have c48b0 : decide (599 < (((100 * (((bt a0 9) - 48) % 256)) + (10 * (((bt a0 10) - 48) % 256))) + (((bt a0 11) - 48) % 256))) = false := decide_eq_false c48
                                    clear c48
                                    replace H := Option.bind_eq_some_iff.mp H
                                    obtain ⟨t298, A500, H⟩ := H
                                    replace H : (if t298 = true then (if 0 > 100 then (some (0, (⟨#[]⟩ : ByteArray), 0, ([] : List (S84)), ([] : List Int), false)) else (some (((100 * (((bt a0 9) - 48) % 256)) + (10 * (((bt a0 10) - 48) % 256))) + (((bt a0 11) - 48) % 256), (⟨#[]⟩ : ByteArray), t294, ([] : List (S84)), ([] : List Int), true))) else (some (0, (⟨#[]⟩ : ByteArray), 0, ([] : List (S84)), ([] : List Int), false))) = some (r1, r2, r3, r4, r5, r6) := H
                                    have A50 := Aside0.mk A500
                                    clear A500
                                    by_cases c51 : t298 = true
                                    · subst c51
                                      have H1 : (if 0 > 100 then (some (0, (⟨#[]⟩ : ByteArray), 0, ([] : List (S84)), ([] : List Int), false)) else (some (((100 * (((bt a0 9) - 48) % 256)) + (10 * (((bt a0 10) - 48) % 256))) + (((bt a0 11) - 48) % 256), (⟨#[]⟩ : ByteArray), t294, ([] : List (S84)), ([] : List Int), true))) = some (r1, r2, r3, r4, r5, r6) := by rw [if_pos rfl] at H; exact H
                                      clear H
                                      have H := H1
                                      clear H1
                                      by_cases c52 : 0 > 100
                                      · exact absurd c52 (by decide)
                                      · rw [if_neg c52] at H
                                        have c52b0 : decide (100 < 0) = false := decide_eq_false c52
                                        clear c52
                                        simp only [Option.some.injEq, Prod.mk.injEq] at H
                                        obtain ⟨rfl, rfl, rfl, rfl, rfl, rfl⟩ := H
                                        have p25 : 0 ≤ (9 : Int) := (by omega)
                                        have q25 : 9 < a0.size := (by have : (9 : Int) < (a0.size : Int) := of_decide_eq_true (by first | (with_reducible assumption) | assumption); omega)
                                        have hx25 : ∀ h : 9 < a0.size, ((a0[9]'h).toNat : Int) = bt a0 9 := bt_at a0 9
                                        clear p25
                                        have qi25 : (9 < (a0.size : Int)) = True := eq_true (of_decide_eq_true (by first | (with_reducible assumption) | assumption))
                                        replace q25 := eq_true q25
                                        have p27 : 0 ≤ (10 : Int) := (by omega)
                                        have q27 : 10 < a0.size := (by have : (10 : Int) < (a0.size : Int) := of_decide_eq_true (by first | (with_reducible assumption) | assumption); omega)
                                        have hx27 : ∀ h : 10 < a0.size, ((a0[10]'h).toNat : Int) = bt a0 10 := bt_at a0 10
                                        clear p27
                                        have qi27 : (10 < (a0.size : Int)) = True := eq_true (of_decide_eq_true (by first | (with_reducible assumption) | assumption))
                                        replace q27 := eq_true q27
                                        have p29 : 0 ≤ (11 : Int) := (by omega)
                                        have q29 : 11 < a0.size := (by have : (11 : Int) < (a0.size : Int) := of_decide_eq_true (by first | (with_reducible assumption) | assumption); omega)
                                        have hx29 : ∀ h : 11 < a0.size, ((a0[11]'h).toNat : Int) = bt a0 11 := bt_at a0 11
                                        clear p29
                                        have qi29 : (11 < (a0.size : Int)) = True := eq_true (of_decide_eq_true (by first | (with_reducible assumption) | assumption))
                                        replace q29 := eq_true q29
                                        go_wp2_with (first | (go_at_call 49; (with_reducible refine (tollbarref02_Value.calls k3 (⟨#[]⟩ : ByteArray) true _ A50.out).mono ?_); rintro e w' ⟨rfl, ⟨nd, rfl⟩⟩; (try clear A50); (try first | exact ⟨rfl, _, World.drewN_drewN _ _ _⟩ | exact ⟨rfl, _, Eq.trans (World.drewN_drewN _ _ _) (congrArg (World.drewN _) (Nat.add_assoc _ _ _))⟩); have hcz54_0 : wr.cell? ⟨gb292, 0, none⟩ = some (.int .i64 x293000_3) := (blk_cell BK292.out 0).trans rfl; have hcz54_1 : wr.cell? ⟨gb292, 1, none⟩ = some (.string x293001_3) := (blk_cell BK292.out 1).trans rfl; have hcz54_2 : wr.cell? ⟨gb292, 2, none⟩ = some (.int .i64 x293002_3) := (blk_cell BK292.out 2).trans rfl; have hcz54_3 : wr.cell? ⟨gb292, 3, none⟩ = some (.slice none 0 0) := (blk_cell BK292.out 3).trans rfl; have hcz54_4 : wr.cell? ⟨gb292, 4, none⟩ = some (.slice none 0 0) := (blk_cell BK292.out 4).trans rfl; have hfz54_0 := blk_frozen BK292.out 0; have hfz54_1 := blk_frozen BK292.out 1; have hfz54_2 := blk_frozen BK292.out 2; have hfz54_3 := blk_frozen BK292.out 3; have hfz54_4 := blk_frozen BK292.out 4))
                                        repeat (go_quiet (first | (go_at_call 49; (with_reducible refine (tollbarref02_Value.calls k3 (⟨#[]⟩ : ByteArray) true _ A50.out).mono ?_); rintro e w' ⟨rfl, ⟨nd, rfl⟩⟩; (try clear A50); (try first | exact ⟨rfl, _, World.drewN_drewN _ _ _⟩ | exact ⟨rfl, _, Eq.trans (World.drewN_drewN _ _ _) (congrArg (World.drewN _) (Nat.add_assoc _ _ _))⟩); have hcz54_0 : wr.cell? ⟨gb292, 0, none⟩ = some (.int .i64 x293000_3) := (blk_cell BK292.out 0).trans rfl; have hcz54_1 : wr.cell? ⟨gb292, 1, none⟩ = some (.string x293001_3) := (blk_cell BK292.out 1).trans rfl; have hcz54_2 : wr.cell? ⟨gb292, 2, none⟩ = some (.int .i64 x293002_3) := (blk_cell BK292.out 2).trans rfl; have hcz54_3 : wr.cell? ⟨gb292, 3, none⟩ = some (.slice none 0 0) := (blk_cell BK292.out 3).trans rfl; have hcz54_4 : wr.cell? ⟨gb292, 4, none⟩ = some (.slice none 0 0) := (blk_cell BK292.out 4).trans rfl; have hfz54_0 := blk_frozen BK292.out 0; have hfz54_1 := blk_frozen BK292.out 1; have hfz54_2 := blk_frozen BK292.out 2; have hfz54_3 := blk_frozen BK292.out 3; have hfz54_4 := blk_frozen BK292.out 4)); try go_wp2_with (first | (go_at_call 49; (with_reducible refine (tollbarref02_Value.calls k3 (⟨#[]⟩ : ByteArray) true _ A50.out).mono ?_); rintro e w' ⟨rfl, ⟨nd, rfl⟩⟩; (try clear A50); (try first | exact ⟨rfl, _, World.drewN_drewN _ _ _⟩ | exact ⟨rfl, _, Eq.trans (World.drewN_drewN _ _ _) (congrArg (World.drewN _) (Nat.add_assoc _ _ _))⟩); have hcz54_0 : wr.cell? ⟨gb292, 0, none⟩ = some (.int .i64 x293000_3) := (blk_cell BK292.out 0).trans rfl; have hcz54_1 : wr.cell? ⟨gb292, 1, none⟩ = some (.string x293001_3) := (blk_cell BK292.out 1).trans rfl; have hcz54_2 : wr.cell? ⟨gb292, 2, none⟩ = some (.int .i64 x293002_3) := (blk_cell BK292.out 2).trans rfl; have hcz54_3 : wr.cell? ⟨gb292, 3, none⟩ = some (.slice none 0 0) := (blk_cell BK292.out 3).trans rfl; have hcz54_4 : wr.cell? ⟨gb292, 4, none⟩ = some (.slice none 0 0) := (blk_cell BK292.out 4).trans rfl; have hfz54_0 := blk_frozen BK292.out 0; have hfz54_1 := blk_frozen BK292.out 1; have hfz54_2 := blk_frozen BK292.out 2; have hfz54_3 := blk_frozen BK292.out 3; have hfz54_4 := blk_frozen BK292.out 4)))
                                        refine bodyPost_ret (results_ct rfl _ _ gb292 31 #[.int .i64 (((100 * (((bt a0 9) - 48) % 256)) + (10 * (((bt a0 10) - 48) % 256))) + (((bt a0 11) - 48) % 256)), .string (⟨#[]⟩ : ByteArray), .int .i64 t294, .slice none 0 0, .slice none 0 0] (0, 0) _ rfl (by (with_reducible repeat (first | refine blk_drewN ?_ _ | refine blk_drew ?_ | refine blk_alloc ?_ _)); refine blk_put (cs := #[.int .i64 (((100 * (((bt a0 9) - 48) % 256)) + (10 * (((bt a0 10) - 48) % 256))) + (((bt a0 11) - 48) % 256)), .string (⟨#[]⟩ : ByteArray), .int .i64 t294, .slice none 0 0, .slice none 0 0]) ?_ 4 _ rfl; (with_reducible repeat (first | refine blk_drewN ?_ _ | refine blk_drew ?_ | refine blk_alloc ?_ _)); refine blk_put (cs := #[.int .i64 (((100 * (((bt a0 9) - 48) % 256)) + (10 * (((bt a0 10) - 48) % 256))) + (((bt a0 11) - 48) % 256)), .string (⟨#[]⟩ : ByteArray), .int .i64 t294, .slice none 0 0, .slice none 0 0]) ?_ 3 _ rfl; (with_reducible repeat (first | refine blk_drewN ?_ _ | refine blk_drew ?_ | refine blk_alloc ?_ _)); refine blk_put (cs := #[.int .i64 (((100 * (((bt a0 9) - 48) % 256)) + (10 * (((bt a0 10) - 48) % 256))) + (((bt a0 11) - 48) % 256)), .string (⟨#[]⟩ : ByteArray), .int .i64 x293002_3, .slice none 0 0, .slice none 0 0]) ?_ 2 _ rfl; (with_reducible repeat (first | refine blk_drewN ?_ _ | refine blk_drew ?_ | refine blk_alloc ?_ _)); refine blk_put (cs := #[.int .i64 (((100 * (((bt a0 9) - 48) % 256)) + (10 * (((bt a0 10) - 48) % 256))) + (((bt a0 11) - 48) % 256)), .string x293001_3, .int .i64 x293002_3, .slice none 0 0, .slice none 0 0]) ?_ 1 _ rfl; (with_reducible repeat (first | refine blk_drewN ?_ _ | refine blk_drew ?_ | refine blk_alloc ?_ _)); refine blk_put (cs := #[.int .i64 x293000_3, .string x293001_3, .int .i64 x293002_3, .slice none 0 0, .slice none 0 0]) ?_ 0 _ rfl; (with_reducible repeat (first | refine blk_drewN ?_ _ | refine blk_drew ?_ | refine blk_alloc ?_ _)); exact BK292.out) Tryd.underlying31 rfl (by kernel_rfl)) rfl ?_
                                        exact ⟨_, _, by first | rfl | (simp [errW_none, errW_some] <;> rfl) | (simp [*, errW_none, errW_some] <;> rfl), by first | exact Kd.R_nil _ _ _ _ _ | exact Kd.N_nil _ _ _ _ _ | exact Kd.V_nil _ _ _ _ _ | exact Kd.Q_nil _ _ _ _ _ | exact Kd.S_nil _ _ _ _ _, by first | exact Kd.R_nil _ _ _ _ _ | exact Kd.N_nil _ _ _ _ _ | exact Kd.V_nil _ _ _ _ _ | exact Kd.Q_nil _ _ _ _ _ | exact Kd.S_nil _ _ _ _ _, by repeat (first | (with_reducible first | exact HB.out | apply below_alloc | apply pw_below_drewN | apply below_drew1 | refine below_set ?_ GE292.out) | exact HB.out)⟩
                                    · replace c51 := Bool.eq_false_iff.mpr c51
                                      subst c51
                                      have H1 : (some (0, (⟨#[]⟩ : ByteArray), 0, ([] : List (S84)), ([] : List Int), false)) = some (r1, r2, r3, r4, r5, r6) := by rw [if_neg (show ¬ (false = true) by decide)] at H; exact H
                                      clear H
                                      have H := H1
                                      clear H1
                                      simp only [Option.some.injEq, Prod.mk.injEq] at H
                                      obtain ⟨rfl, rfl, rfl, rfl, rfl, rfl⟩ := H
                                      have p25 : 0 ≤ (9 : Int) := (by omega)
                                      have q25 : 9 < a0.size := (by have : (9 : Int) < (a0.size : Int) := of_decide_eq_true (by first | (with_reducible assumption) | assumption); omega)
                                      have hx25 : ∀ h : 9 < a0.size, ((a0[9]'h).toNat : Int) = bt a0 9 := bt_at a0 9
                                      clear p25
                                      have qi25 : (9 < (a0.size : Int)) = True := eq_true (of_decide_eq_true (by first | (with_reducible assumption) | assumption))
                                      replace q25 := eq_true q25
                                      have p27 : 0 ≤ (10 : Int) := (by omega)
                                      have q27 : 10 < a0.size := (by have : (10 : Int) < (a0.size : Int) := of_decide_eq_true (by first | (with_reducible assumption) | assumption); omega)
                                      have hx27 : ∀ h : 10 < a0.size, ((a0[10]'h).toNat : Int) = bt a0 10 := bt_at a0 10
                                      clear p27
                                      have qi27 : (10 < (a0.size : Int)) = True := eq_true (of_decide_eq_true (by first | (with_reducible assumption) | assumption))
                                      replace q27 := eq_true q27
                                      have p29 : 0 ≤ (11 : Int) := (by omega)
                                      have q29 : 11 < a0.size := (by have : (11 : Int) < (a0.size : Int) := of_decide_eq_true (by first | (with_reducible assumption) | assumption); omega)
                                      have hx29 : ∀ h : 11 < a0.size, ((a0[11]'h).toNat : Int) = bt a0 11 := bt_at a0 11
                                      clear p29
                                      have qi29 : (11 < (a0.size : Int)) = True := eq_true (of_decide_eq_true (by first | (with_reducible assumption) | assumption))
                                      replace q29 := eq_true q29
                                      go_wp2_with (first | (go_at_call 49; (with_reducible refine (tollbarref02_Value.calls k3 (⟨#[]⟩ : ByteArray) false _ A50.out).mono ?_); rintro e w' ⟨rfl, ⟨nd, rfl⟩⟩; (try clear A50); (try first | exact ⟨rfl, _, World.drewN_drewN _ _ _⟩ | exact ⟨rfl, _, Eq.trans (World.drewN_drewN _ _ _) (congrArg (World.drewN _) (Nat.add_assoc _ _ _))⟩); have hcz55_0 : wr.cell? ⟨gb292, 0, none⟩ = some (.int .i64 x293000_3) := (blk_cell BK292.out 0).trans rfl; have hcz55_1 : wr.cell? ⟨gb292, 1, none⟩ = some (.string x293001_3) := (blk_cell BK292.out 1).trans rfl; have hcz55_2 : wr.cell? ⟨gb292, 2, none⟩ = some (.int .i64 x293002_3) := (blk_cell BK292.out 2).trans rfl; have hcz55_3 : wr.cell? ⟨gb292, 3, none⟩ = some (.slice none 0 0) := (blk_cell BK292.out 3).trans rfl; have hcz55_4 : wr.cell? ⟨gb292, 4, none⟩ = some (.slice none 0 0) := (blk_cell BK292.out 4).trans rfl; have hfz55_0 := blk_frozen BK292.out 0; have hfz55_1 := blk_frozen BK292.out 1; have hfz55_2 := blk_frozen BK292.out 2; have hfz55_3 := blk_frozen BK292.out 3; have hfz55_4 := blk_frozen BK292.out 4))
                                      repeat (go_quiet (first | (go_at_call 49; (with_reducible refine (tollbarref02_Value.calls k3 (⟨#[]⟩ : ByteArray) false _ A50.out).mono ?_); rintro e w' ⟨rfl, ⟨nd, rfl⟩⟩; (try clear A50); (try first | exact ⟨rfl, _, World.drewN_drewN _ _ _⟩ | exact ⟨rfl, _, Eq.trans (World.drewN_drewN _ _ _) (congrArg (World.drewN _) (Nat.add_assoc _ _ _))⟩); have hcz55_0 : wr.cell? ⟨gb292, 0, none⟩ = some (.int .i64 x293000_3) := (blk_cell BK292.out 0).trans rfl; have hcz55_1 : wr.cell? ⟨gb292, 1, none⟩ = some (.string x293001_3) := (blk_cell BK292.out 1).trans rfl; have hcz55_2 : wr.cell? ⟨gb292, 2, none⟩ = some (.int .i64 x293002_3) := (blk_cell BK292.out 2).trans rfl; have hcz55_3 : wr.cell? ⟨gb292, 3, none⟩ = some (.slice none 0 0) := (blk_cell BK292.out 3).trans rfl; have hcz55_4 : wr.cell? ⟨gb292, 4, none⟩ = some (.slice none 0 0) := (blk_cell BK292.out 4).trans rfl; have hfz55_0 := blk_frozen BK292.out 0; have hfz55_1 := blk_frozen BK292.out 1; have hfz55_2 := blk_frozen BK292.out 2; have hfz55_3 := blk_frozen BK292.out 3; have hfz55_4 := blk_frozen BK292.out 4)); try go_wp2_with (first | (go_at_call 49; (with_reducible refine (tollbarref02_Value.calls k3 (⟨#[]⟩ : ByteArray) false _ A50.out).mono ?_); rintro e w' ⟨rfl, ⟨nd, rfl⟩⟩; (try clear A50); (try first | exact ⟨rfl, _, World.drewN_drewN _ _ _⟩ | exact ⟨rfl, _, Eq.trans (World.drewN_drewN _ _ _) (congrArg (World.drewN _) (Nat.add_assoc _ _ _))⟩); have hcz55_0 : wr.cell? ⟨gb292, 0, none⟩ = some (.int .i64 x293000_3) := (blk_cell BK292.out 0).trans rfl; have hcz55_1 : wr.cell? ⟨gb292, 1, none⟩ = some (.string x293001_3) := (blk_cell BK292.out 1).trans rfl; have hcz55_2 : wr.cell? ⟨gb292, 2, none⟩ = some (.int .i64 x293002_3) := (blk_cell BK292.out 2).trans rfl; have hcz55_3 : wr.cell? ⟨gb292, 3, none⟩ = some (.slice none 0 0) := (blk_cell BK292.out 3).trans rfl; have hcz55_4 : wr.cell? ⟨gb292, 4, none⟩ = some (.slice none 0 0) := (blk_cell BK292.out 4).trans rfl; have hfz55_0 := blk_frozen BK292.out 0; have hfz55_1 := blk_frozen BK292.out 1; have hfz55_2 := blk_frozen BK292.out 2; have hfz55_3 := blk_frozen BK292.out 3; have hfz55_4 := blk_frozen BK292.out 4)))
                                      refine bodyPost_ret (results_ct rfl _ _ gb292 31 #[.int .i64 0, .string (⟨#[]⟩ : ByteArray), .int .i64 0, .slice none 0 0, .slice none 0 0] (0, 0) _ rfl (by (with_reducible repeat (first | refine blk_drewN ?_ _ | refine blk_drew ?_ | refine blk_alloc ?_ _)); refine blk_put (cs := #[.int .i64 0, .string (⟨#[]⟩ : ByteArray), .int .i64 0, .slice none 0 0, .slice none 0 0]) ?_ 4 _ rfl; (with_reducible repeat (first | refine blk_drewN ?_ _ | refine blk_drew ?_ | refine blk_alloc ?_ _)); refine blk_put (cs := #[.int .i64 0, .string (⟨#[]⟩ : ByteArray), .int .i64 0, .slice none 0 0, .slice none 0 0]) ?_ 3 _ rfl; (with_reducible repeat (first | refine blk_drewN ?_ _ | refine blk_drew ?_ | refine blk_alloc ?_ _)); refine blk_put (cs := #[.int .i64 0, .string (⟨#[]⟩ : ByteArray), .int .i64 x293002_3, .slice none 0 0, .slice none 0 0]) ?_ 2 _ rfl; (with_reducible repeat (first | refine blk_drewN ?_ _ | refine blk_drew ?_ | refine blk_alloc ?_ _)); refine blk_put (cs := #[.int .i64 0, .string x293001_3, .int .i64 x293002_3, .slice none 0 0, .slice none 0 0]) ?_ 1 _ rfl; (with_reducible repeat (first | refine blk_drewN ?_ _ | refine blk_drew ?_ | refine blk_alloc ?_ _)); refine blk_put (cs := #[.int .i64 x293000_3, .string x293001_3, .int .i64 x293002_3, .slice none 0 0, .slice none 0 0]) ?_ 0 _ rfl; (with_reducible repeat (first | refine blk_drewN ?_ _ | refine blk_drew ?_ | refine blk_alloc ?_ _)); exact BK292.out) Tryd.underlying31 rfl (by kernel_rfl)) rfl ?_
                                      exact ⟨_, _, by first | rfl | (simp [errW_none, errW_some] <;> rfl) | (simp [*, errW_none, errW_some] <;> rfl), by first | exact Kd.R_nil _ _ _ _ _ | exact Kd.N_nil _ _ _ _ _ | exact Kd.V_nil _ _ _ _ _ | exact Kd.Q_nil _ _ _ _ _ | exact Kd.S_nil _ _ _ _ _, by first | exact Kd.R_nil _ _ _ _ _ | exact Kd.N_nil _ _ _ _ _ | exact Kd.V_nil _ _ _ _ _ | exact Kd.Q_nil _ _ _ _ _ | exact Kd.S_nil _ _ _ _ _, by repeat (first | (with_reducible first | exact HB.out | apply below_alloc | apply pw_below_drewN | apply below_drew1 | refine below_set ?_ GE292.out) | exact HB.out)⟩
                            · rw [if_neg c28] at H
                              exact absurd H (by simp)
                          · rw [if_neg c26] at H
                            exact absurd H (by simp)
                        · rw [if_neg c24] at H
                          exact absurd H (by simp)
          · rw [if_neg c10] at H
            exact absurd H (by simp)
        · exact absurd c9 (by decide)

end Go.Proofs.YtjgpifjfaiaidaaDoor.P

