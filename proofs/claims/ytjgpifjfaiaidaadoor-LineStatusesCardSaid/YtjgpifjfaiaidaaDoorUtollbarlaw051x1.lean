/- Each function below answers as its Lean twin says. No further condition. (Laid by this repo's packseat.py out of the seat's texts and of the print's words.) -/
import Derived.Test.YtjgpifjfaiaidaaDoorU0base0x0
import Derived.Test.YtjgpifjfaiaidaaDoorUlineStatus
import Derived.Test.YtjgpifjfaiaidaaDoorUtollbarlaw05reading
import Derived.Test.YtjgpifjfaiaidaaDoorUtollbarref05Status
namespace Go.Proofs.YtjgpifjfaiaidaaDoor.P
open Go.RowKit Go.Proofs.YtjgpifjfaiaidaaDoorW.PrintWords Go.Proofs.YtjgpifjfaiaidaaDoorW.PrintLast Go.Proofs.YtjgpifjfaiaidaaDoorW.PrintMore
attribute [local go_sem] max2_int min2_int max_two min_two max_three min_three max_four min_four   -- for this text's walks alone
set_option linter.unusedVariables false
set_option linter.unusedSimpArgs false

def tollbarlaw05_LineStatuses.f (k : Nat) (a0 : ByteArray) : Option (Bool) := (tollbarlaw05_reading.f k).bind fun t299 => (if t299 = true then ((line_Status.f k a0).bind fun bt300 => ((tollbarref05_Status.f k a0).bind fun bt311 => (if (bt300.2.2.2.2.2 == bt311.2.2.2.2.2) = true then (if bt300.1 = bt311.1 then (if bt300.2.1.toList = bt311.2.1.toList then (if bt300.2.2.1 = bt311.2.2.1 then (if (bt300.2.2.2.1.length : Int) = 0 then (some ((bt300.2.2.2.2.1.length : Int) == 0)) else (some false)) else (some false)) else (some false)) else (some false)) else (some false)))) else (some false))
theorem tollbarlaw05_LineStatuses.mono : ∀ a0 k, LeO (tollbarlaw05_LineStatuses.f k a0) (tollbarlaw05_LineStatuses.f (k + 1) a0) := by
  intro a0 k
  unfold tollbarlaw05_LineStatuses.f
  repeat' first
      | (with_reducible exact line_Status.mono _ _)
      | (with_reducible exact tollbarlaw05_reading.mono _)
      | (with_reducible exact tollbarref05_Status.mono _ _)
      | (with_reducible exact LeO.refl _)
      | (with_reducible exact LeO.none _)
      | (with_reducible refine LeO.ite ?_ ?_)
      | (with_reducible refine LeO.bind ?_ (fun _ => ?_))
      | exact line_Status.mono _ _
      | exact tollbarlaw05_reading.mono _
      | exact tollbarref05_Status.mono _ _
      | exact LeO.none _
      | refine LeO.ite ?_ ?_
      | refine LeO.bind ?_ (fun _ => ?_)
set_option maxHeartbeats 8000000 in
set_option maxRecDepth 100000 in
theorem tollbarlaw05_LineStatuses.calls (k : Nat) (a0 : ByteArray) (r : Bool) (w : World) (h : tollbarlaw05_LineStatuses.f k a0 = some r) (hr : r = true) (ht : Tabs w) :
    Calls Tryd.prog 4 #[.string a0] w fun e w' => e = .returned (.bool r) ∧ Below w.heap.size w w' := by
  have HTB := Aside0.mk ht
  clear ht
  have HRT := Aside0.mk hr
  clear hr
  have hu31 := Tryd.underlying31
  have HB := Aside0.mk (Below.refl w.heap.size w)
  have H : ((tollbarlaw05_reading.f k).bind fun t299 => (if t299 = true then ((line_Status.f k a0).bind fun bt300 => ((tollbarref05_Status.f k a0).bind fun bt311 => (if (bt300.2.2.2.2.2 == bt311.2.2.2.2.2) = true then (if bt300.1 = bt311.1 then (if bt300.2.1.toList = bt311.2.1.toList then (if bt300.2.2.1 = bt311.2.2.1 then (if (bt300.2.2.2.1.length : Int) = 0 then (some ((bt300.2.2.2.2.1.length : Int) == 0)) else (some false)) else (some false)) else (some false)) else (some false)) else (some false)))) else (some false))) = some r := h
  clear h
  replace H := Option.bind_eq_some_iff.mp H
  obtain ⟨t299, A20, H⟩ := H
  replace H : (if t299 = true then ((line_Status.f k a0).bind fun bt300 => ((tollbarref05_Status.f k a0).bind fun bt311 => (if (bt300.2.2.2.2.2 == bt311.2.2.2.2.2) = true then (if bt300.1 = bt311.1 then (if bt300.2.1.toList = bt311.2.1.toList then (if bt300.2.2.1 = bt311.2.2.1 then (if (bt300.2.2.2.1.length : Int) = 0 then (some ((bt300.2.2.2.2.1.length : Int) == 0)) else (some false)) else (some false)) else (some false)) else (some false)) else (some false)))) else (some false)) = some r := H
  have A2 := Aside0.mk A20
  clear A20
  by_cases c3 : t299 = true
  · subst c3
    have H1 : ((line_Status.f k a0).bind fun bt300 => ((tollbarref05_Status.f k a0).bind fun bt311 => (if (bt300.2.2.2.2.2 == bt311.2.2.2.2.2) = true then (if bt300.1 = bt311.1 then (if bt300.2.1.toList = bt311.2.1.toList then (if bt300.2.2.1 = bt311.2.2.1 then (if (bt300.2.2.2.1.length : Int) = 0 then (some ((bt300.2.2.2.2.1.length : Int) == 0)) else (some false)) else (some false)) else (some false)) else (some false)) else (some false)))) = some r := by rw [if_pos rfl] at H; exact H
    clear H
    have H := H1
    clear H1
    replace H := Option.bind_eq_some_iff.mp H
    obtain ⟨⟨t300, t301, t302, t303, t306, t309⟩, A40, H⟩ := H
    replace H : ((tollbarref05_Status.f k a0).bind fun bt311 => (if (t309 == bt311.2.2.2.2.2) = true then (if t300 = bt311.1 then (if t301.toList = bt311.2.1.toList then (if t302 = bt311.2.2.1 then (if (t303.length : Int) = 0 then (some ((t306.length : Int) == 0)) else (some false)) else (some false)) else (some false)) else (some false)) else (some false))) = some r := H
    have A4 := Aside0.mk A40
    clear A40
    replace H := Option.bind_eq_some_iff.mp H
    obtain ⟨⟨t311, t312, t313, t314, t317, t320⟩, A50, H⟩ := H
    replace H : (if (t309 == t320) = true then (if t300 = t311 then (if t301.toList = t312.toList then (if t302 = t313 then (if (t303.length : Int) = 0 then (some ((t306.length : Int) == 0)) else (some false)) else (some false)) else (some false)) else (some false)) else (some false)) = some r := H
    have A5 := Aside0.mk A50
    clear A50
    by_cases c6 : (t309 == t320) = true
    · rw [if_pos c6] at H
      have c6b0 : (t309 == t320) = true := c6
      (try (have c6b1 : decide (t309 = t320) = true := by simpa using c6))
      (try (have c6b2 : (t309 == t320) = true := by simpa using c6))
      clear c6
      by_cases c7 : t300 = t311
      · rw [if_pos c7] at H
        have c7b0 : (t300 == t311) = true := beq_iff_eq.mpr c7
        have c7b1 : (t300 != t311) = false := bne_eq_false_iff_eq.mpr c7
        clear c7
        by_cases c8 : t301.toList = t312.toList
        · rw [if_pos c8] at H
          have c8b0 : (t301.toList == t312.toList) = true := beq_iff_eq.mpr c8
          have c8b1 : (t301.toList != t312.toList) = false := bne_eq_false_iff_eq.mpr c8
          clear c8
          by_cases c9 : t302 = t313
          · rw [if_pos c9] at H
            have c9b0 : (t302 == t313) = true := beq_iff_eq.mpr c9
            have c9b1 : (t302 != t313) = false := bne_eq_false_iff_eq.mpr c9
            clear c9
            by_cases c10 : (t303.length : Int) = 0
            · rw [if_pos c10] at H
              have c10b0 : ((t303.length : Int) == 0) = true := beq_iff_eq.mpr c10
              have c10b1 : ((t303.length : Int) != 0) = false := bne_eq_false_iff_eq.mpr c10
              clear c10
              obtain rfl := Option.some.inj H
              go_enter Tryd.func4, Tryd.ntmps4
              go_wp2_with (first | ((with_reducible refine gate_callee (f := 15) rfl ?_); refine goesL_ (some 7) rfl rfl Tryd.func15 (by kernel_rfl) rfl #[] rfl (by (try simp only [List.map_toArray, List.map_cons, List.map_nil]); first | done | rfl | (simp only [List.length_drop, List.length_take]; rfl)) ?_; (with_reducible refine (tollbarlaw05_reading.calls k  true _ A2.out rfl ?hT).mono ?_); (case hT => exact HTB.out.below (by repeat (first | (with_reducible first | exact HB.out | apply below_alloc | apply pw_below_drewN | apply below_drew1 | refine below_set ?_ GE310.out | refine below_set ?_ GE321.out) | exact HB.out))); rintro e w11 ⟨rfl, hb⟩; (try clear A2); refine ⟨_, rfl, ?_⟩; have n0_ := Aside0.mk (below_step (by repeat (first | (with_reducible first | exact HB.out | apply below_alloc | apply pw_below_drewN | apply below_drew1) | exact HB.out)) hb); clear HB; have HB := n0_; clear n0_; (try clear hb); (try clear hb2); (try clear hk); (try clear hi)) | ((with_reducible refine gate_callee (f := 18) rfl ?_); refine goesL_ (some 11) rfl rfl Tryd.func18 (by kernel_rfl) rfl #[.string a0] rfl (by (try simp only [List.map_toArray, List.map_cons, List.map_nil]); first | done | rfl | (simp only [List.length_drop, List.length_take]; rfl)) ?_; (with_reducible refine (line_Status.calls k a0 t300 t301 t302 t303 t306 t309 _ A4.out).mono ?_); rintro e w12 ⟨v304, v307, rfl, ho0, ho1, hb⟩; (try clear A4); refine ⟨_, rfl, ?_⟩; have n0_ := Aside0.mk (Kd.R_lower ho0 (below_size (by repeat (first | (with_reducible first | exact HB.out | apply below_alloc | apply pw_below_drewN | apply below_drew1) | exact HB.out)))); have n1_ := Aside0.mk (Kd.R_lower ho1 (below_size (by repeat (first | (with_reducible first | exact HB.out | apply below_alloc | apply pw_below_drewN | apply below_drew1) | exact HB.out)))); have n2_ := Aside0.mk (below_step (by repeat (first | (with_reducible first | exact HB.out | apply below_alloc | apply pw_below_drewN | apply below_drew1) | exact HB.out)) hb); clear HB; have HO305 := n0_; have HO308 := n1_; have HB := n2_; clear n0_ n1_ n2_; (try clear hb); (try clear hb2); (try clear hk); (try clear hi); (try clear ho0); (try clear ho1)) | ((with_reducible refine gate_dst (N := 3) rfl ?_); (try (refine gate_guard (by rfl) ?_; dsimp only)); refine box_event ?hg (N := 3) ?hd (cs := #[.int .i64 0, .string (⟨#[]⟩ : ByteArray), .int .i64 0, .slice none 0 0, .slice none 0 0]) (t := 31) ?hr ?_; (case hd => rfl); (case hg => rfl); (case hr => first | (go_simp; done) | (go_simp; rfl)); intro gb310 hg w13 hbox hb; have n0_ := Aside0.mk (Kd.R_below (by (with_reducible repeat (first | apply Kd.R_alloc | apply Kd.R_drewN | apply Kd.R_drew)); exact HO305.out) hb); have n1_ := Aside0.mk (Kd.R_below (by (with_reducible repeat (first | apply Kd.R_alloc | apply Kd.R_drewN | apply Kd.R_drew)); exact HO308.out) hb); have n2_ := Aside0.mk (below_step (by repeat (first | (with_reducible first | exact HB.out | apply below_alloc | apply pw_below_drewN | apply below_drew1) | exact HB.out)) hb); have n3_ := Aside0.mk (hbox); have n4_ := Aside0.mk ((by rw [hg]; exact (below_size (by repeat (first | (with_reducible first | exact HB.out | apply below_alloc | apply pw_below_drewN | apply below_drew1) | exact HB.out))) : w.heap.size ≤ gb310)); have n5_ := Aside0.mk ((by rw [hg]; exact (below_size (by repeat (first | (with_reducible first | exact HB.out | apply below_alloc | apply pw_below_drewN | apply below_drew1) | exact HB.out))) : w.heap.size ≤ gb310)); clear HO305; clear HO308; clear HB; have HO305 := n0_; have HO308 := n1_; have HB := n2_; have BK310 := n3_; have GW310 := n4_; have GE310 := n5_; clear n0_ n1_ n2_ n3_ n4_ n5_; clear hb hbox hg; have hcz14_0 : w13.cell? ⟨gb310, 0, none⟩ = some (.int .i64 0) := (blk_cell BK310.out 0).trans rfl; have hcz14_1 : w13.cell? ⟨gb310, 1, none⟩ = some (.string (⟨#[]⟩ : ByteArray)) := (blk_cell BK310.out 1).trans rfl; have hcz14_2 : w13.cell? ⟨gb310, 2, none⟩ = some (.int .i64 0) := (blk_cell BK310.out 2).trans rfl; have hcz14_3 : w13.cell? ⟨gb310, 3, none⟩ = some (.slice none 0 0) := (blk_cell BK310.out 3).trans rfl; have hcz14_4 : w13.cell? ⟨gb310, 4, none⟩ = some (.slice none 0 0) := (blk_cell BK310.out 4).trans rfl; have hfz14_0 := blk_frozen BK310.out 0; have hfz14_1 := blk_frozen BK310.out 1; have hfz14_2 := blk_frozen BK310.out 2; have hfz14_3 := blk_frozen BK310.out 3; have hfz14_4 := blk_frozen BK310.out 4; obtain ⟨Ao15, co15, eo15⟩ := Kd.R_slice HO305.out; subst eo15; obtain ⟨Ao16, co16, eo16⟩ := Kd.R_slice HO308.out; subst eo16) | ((with_reducible refine gate_callee (f := 19) rfl ?_); refine goesL_ (some 16) rfl rfl Tryd.func19 (by kernel_rfl) rfl #[.string a0] rfl (by (try simp only [List.map_toArray, List.map_cons, List.map_nil]); first | done | rfl | (simp only [List.length_drop, List.length_take]; rfl)) ?_; (with_reducible refine (tollbarref05_Status.calls k a0 t311 t312 t313 t314 t317 t320 _ A5.out).mono ?_); rintro e w17 ⟨v315, v318, rfl, ho0, ho1, hb⟩; (try clear A5); refine ⟨_, rfl, ?_⟩; have n0_ := Aside0.mk (Kd.R_elder' (by (with_reducible repeat (first | apply Kd.R_alloc | apply Kd.R_drewN | apply Kd.R_drew)); exact (Kd.R_mono (Kd.R_far (p := ⟨gb310, 4, none⟩) (Kd.R_far (p := ⟨gb310, 3, none⟩) (Kd.R_far (p := ⟨gb310, 2, none⟩) (Kd.R_far (p := ⟨gb310, 1, none⟩) (Kd.R_far (p := ⟨gb310, 0, none⟩) (Kd.R_types HO305.out BK310.out (by decide)) (fun _ hk => hk.2) (.int .i64 t300)) (fun _ hk => hk.2) (.string t301)) (fun _ hk => hk.2) (.int .i64 t302)) (fun _ hk => hk.2) (.slice Ao15 t303.length co15)) (fun _ hk => hk.2) (.slice Ao16 t306.length co16)) (fun _ h_ => h_.1))) (Kd.R_base ho0) hb); have n1_ := Aside0.mk (Kd.R_elder' (by (with_reducible repeat (first | apply Kd.R_alloc | apply Kd.R_drewN | apply Kd.R_drew)); exact (Kd.R_mono (Kd.R_far (p := ⟨gb310, 4, none⟩) (Kd.R_far (p := ⟨gb310, 3, none⟩) (Kd.R_far (p := ⟨gb310, 2, none⟩) (Kd.R_far (p := ⟨gb310, 1, none⟩) (Kd.R_far (p := ⟨gb310, 0, none⟩) (Kd.R_types HO308.out BK310.out (by decide)) (fun _ hk => hk.2) (.int .i64 t300)) (fun _ hk => hk.2) (.string t301)) (fun _ hk => hk.2) (.int .i64 t302)) (fun _ hk => hk.2) (.slice Ao15 t303.length co15)) (fun _ hk => hk.2) (.slice Ao16 t306.length co16)) (fun _ h_ => h_.1))) (Kd.R_base ho1) hb); have n2_ := Aside0.mk (Kd.R_lower (Kd.R_new' ho0 (Kd.R_lt (by (with_reducible repeat (first | apply Kd.R_alloc | apply Kd.R_drewN | apply Kd.R_drew)); exact (Kd.R_mono (Kd.R_far (p := ⟨gb310, 4, none⟩) (Kd.R_far (p := ⟨gb310, 3, none⟩) (Kd.R_far (p := ⟨gb310, 2, none⟩) (Kd.R_far (p := ⟨gb310, 1, none⟩) (Kd.R_far (p := ⟨gb310, 0, none⟩) (Kd.R_types HO305.out BK310.out (by decide)) (fun _ hk => hk.2) (.int .i64 t300)) (fun _ hk => hk.2) (.string t301)) (fun _ hk => hk.2) (.int .i64 t302)) (fun _ hk => hk.2) (.slice Ao15 t303.length co15)) (fun _ hk => hk.2) (.slice Ao16 t306.length co16)) (fun _ h_ => h_.1))))) (below_size (by repeat (first | (with_reducible first | exact HB.out | apply below_alloc | apply pw_below_drewN | apply below_drew1 | refine below_set ?_ GE310.out) | exact HB.out)))); have n3_ := Aside0.mk (Kd.R_lower (Kd.R_new' ho1 (Kd.R_lt (by (with_reducible repeat (first | apply Kd.R_alloc | apply Kd.R_drewN | apply Kd.R_drew)); exact (Kd.R_mono (Kd.R_far (p := ⟨gb310, 4, none⟩) (Kd.R_far (p := ⟨gb310, 3, none⟩) (Kd.R_far (p := ⟨gb310, 2, none⟩) (Kd.R_far (p := ⟨gb310, 1, none⟩) (Kd.R_far (p := ⟨gb310, 0, none⟩) (Kd.R_types HO308.out BK310.out (by decide)) (fun _ hk => hk.2) (.int .i64 t300)) (fun _ hk => hk.2) (.string t301)) (fun _ hk => hk.2) (.int .i64 t302)) (fun _ hk => hk.2) (.slice Ao15 t303.length co15)) (fun _ hk => hk.2) (.slice Ao16 t306.length co16)) (fun _ h_ => h_.1))))) (below_size (by repeat (first | (with_reducible first | exact HB.out | apply below_alloc | apply pw_below_drewN | apply below_drew1 | refine below_set ?_ GE310.out) | exact HB.out)))); have n4_ := Aside0.mk (blk_below (g := gb310) (o := .cells #[.int .i64 t300, .string t301, .int .i64 t302, .slice Ao15 t303.length co15, .slice Ao16 t306.length co16] 31 (0, 0)) (by (with_reducible repeat (first | refine blk_drewN ?_ _ | refine blk_drew ?_ | refine blk_alloc ?_ _)); refine blk_put (cs := #[.int .i64 t300, .string t301, .int .i64 t302, .slice Ao15 t303.length co15, .slice none 0 0]) ?_ 4 _ rfl; (with_reducible repeat (first | refine blk_drewN ?_ _ | refine blk_drew ?_ | refine blk_alloc ?_ _)); refine blk_put (cs := #[.int .i64 t300, .string t301, .int .i64 t302, .slice none 0 0, .slice none 0 0]) ?_ 3 _ rfl; (with_reducible repeat (first | refine blk_drewN ?_ _ | refine blk_drew ?_ | refine blk_alloc ?_ _)); refine blk_put (cs := #[.int .i64 t300, .string t301, .int .i64 0, .slice none 0 0, .slice none 0 0]) ?_ 2 _ rfl; (with_reducible repeat (first | refine blk_drewN ?_ _ | refine blk_drew ?_ | refine blk_alloc ?_ _)); refine blk_put (cs := #[.int .i64 t300, .string (⟨#[]⟩ : ByteArray), .int .i64 0, .slice none 0 0, .slice none 0 0]) ?_ 1 _ rfl; (with_reducible repeat (first | refine blk_drewN ?_ _ | refine blk_drew ?_ | refine blk_alloc ?_ _)); refine blk_put (cs := #[.int .i64 0, .string (⟨#[]⟩ : ByteArray), .int .i64 0, .slice none 0 0, .slice none 0 0]) ?_ 0 _ rfl; (with_reducible repeat (first | refine blk_drewN ?_ _ | refine blk_drew ?_ | refine blk_alloc ?_ _)); exact BK310.out) hb); have n5_ := Aside0.mk (below_step (by repeat (first | (with_reducible first | exact HB.out | apply below_alloc | apply pw_below_drewN | apply below_drew1 | refine below_set ?_ GE310.out) | exact HB.out)) hb); clear HO305; clear HO308; clear BK310; clear HB; have HO305 := n0_; have HO308 := n1_; have HO316 := n2_; have HO319 := n3_; have BK310 := n4_; have HB := n5_; clear n0_ n1_ n2_ n3_ n4_ n5_; (try clear hb); (try clear hb2); (try clear hk); (try clear hi); (try clear ho0); (try clear ho1)) | ((with_reducible refine gate_dst (N := 5) rfl ?_); (try (refine gate_guard (by rfl) ?_; dsimp only)); refine box_event ?hg (N := 5) ?hd (cs := #[.int .i64 0, .string (⟨#[]⟩ : ByteArray), .int .i64 0, .slice none 0 0, .slice none 0 0]) (t := 31) ?hr ?_; (case hd => rfl); (case hg => rfl); (case hr => first | (go_simp; done) | (go_simp; rfl)); intro gb321 hg w18 hbox hb; have n0_ := Aside0.mk (Kd.R_below (by (with_reducible repeat (first | apply Kd.R_alloc | apply Kd.R_drewN | apply Kd.R_drew)); exact HO305.out) hb); have n1_ := Aside0.mk (Kd.R_below (by (with_reducible repeat (first | apply Kd.R_alloc | apply Kd.R_drewN | apply Kd.R_drew)); exact HO308.out) hb); have n2_ := Aside0.mk (Kd.R_below (by (with_reducible repeat (first | apply Kd.R_alloc | apply Kd.R_drewN | apply Kd.R_drew)); exact HO316.out) hb); have n3_ := Aside0.mk (Kd.R_below (by (with_reducible repeat (first | apply Kd.R_alloc | apply Kd.R_drewN | apply Kd.R_drew)); exact HO319.out) hb); have n4_ := Aside0.mk (blk_below (g := gb310) (o := .cells #[.int .i64 t300, .string t301, .int .i64 t302, .slice Ao15 t303.length co15, .slice Ao16 t306.length co16] 31 (0, 0)) (by (with_reducible repeat (first | refine blk_drewN ?_ _ | refine blk_drew ?_ | refine blk_alloc ?_ _)); exact BK310.out) hb); have n5_ := Aside0.mk (below_step (by repeat (first | (with_reducible first | exact HB.out | apply below_alloc | apply pw_below_drewN | apply below_drew1 | refine below_set ?_ GE310.out) | exact HB.out)) hb); have n6_ := Aside0.mk (hbox); have n7_ := Aside0.mk ((by rw [hg]; exact (below_size (by repeat (first | (with_reducible first | exact HB.out | apply below_alloc | apply pw_below_drewN | apply below_drew1 | refine below_set ?_ GE310.out) | exact HB.out))) : w.heap.size ≤ gb321)); have n8_ := Aside0.mk ((by rw [hg]; exact (below_size (by repeat (first | (with_reducible first | exact HB.out | apply below_alloc | apply pw_below_drewN | apply below_drew1 | refine below_set ?_ GE310.out) | exact HB.out))) : w.heap.size ≤ gb321)); have n9_ := Aside0.mk ((by rw [hg]; exact Nat.ne_of_lt (blk_lt (g := gb310) (o := .cells #[.int .i64 t300, .string t301, .int .i64 t302, .slice Ao15 t303.length co15, .slice Ao16 t306.length co16] 31 (0, 0)) (by (with_reducible repeat (first | refine blk_drewN ?_ _ | refine blk_drew ?_ | refine blk_alloc ?_ _)); exact BK310.out)) : gb310 ≠ gb321)); have n10_ := Aside0.mk ((by rw [hg]; exact Nat.ne_of_gt (blk_lt (g := gb310) (o := .cells #[.int .i64 t300, .string t301, .int .i64 t302, .slice Ao15 t303.length co15, .slice Ao16 t306.length co16] 31 (0, 0)) (by (with_reducible repeat (first | refine blk_drewN ?_ _ | refine blk_drew ?_ | refine blk_alloc ?_ _)); exact BK310.out)) : gb321 ≠ gb310)); clear HO305; clear HO308; clear HO316; clear HO319; clear BK310; clear HB; have HO305 := n0_; have HO308 := n1_; have HO316 := n2_; have HO319 := n3_; have BK310 := n4_; have HB := n5_; have BK321 := n6_; have GW321 := n7_; have GE321 := n8_; have NB310_321 := n9_; have NB321_310 := n10_; clear n0_ n1_ n2_ n3_ n4_ n5_ n6_ n7_ n8_ n9_ n10_; clear hb hbox hg; have hnb19 := NB321_310.out; have hnc19 := NB310_321.out; have hcz20_0 : w18.cell? ⟨gb321, 0, none⟩ = some (.int .i64 0) := (blk_cell BK321.out 0).trans rfl; have hcz20_1 : w18.cell? ⟨gb321, 1, none⟩ = some (.string (⟨#[]⟩ : ByteArray)) := (blk_cell BK321.out 1).trans rfl; have hcz20_2 : w18.cell? ⟨gb321, 2, none⟩ = some (.int .i64 0) := (blk_cell BK321.out 2).trans rfl; have hcz20_3 : w18.cell? ⟨gb321, 3, none⟩ = some (.slice none 0 0) := (blk_cell BK321.out 3).trans rfl; have hcz20_4 : w18.cell? ⟨gb321, 4, none⟩ = some (.slice none 0 0) := (blk_cell BK321.out 4).trans rfl; have hfz20_0 := blk_frozen BK321.out 0; have hfz20_1 := blk_frozen BK321.out 1; have hfz20_2 := blk_frozen BK321.out 2; have hfz20_3 := blk_frozen BK321.out 3; have hfz20_4 := blk_frozen BK321.out 4; obtain ⟨Ao21, co21, eo21⟩ := Kd.R_slice HO316.out; subst eo21; obtain ⟨Ao22, co22, eo22⟩ := Kd.R_slice HO319.out; subst eo22; have hcz23_0 : w18.cell? ⟨gb310, 0, none⟩ = some (.int .i64 t300) := (blk_cell BK310.out 0).trans rfl; have hcz23_1 : w18.cell? ⟨gb310, 1, none⟩ = some (.string t301) := (blk_cell BK310.out 1).trans rfl; have hcz23_2 : w18.cell? ⟨gb310, 2, none⟩ = some (.int .i64 t302) := (blk_cell BK310.out 2).trans rfl; have hcz23_3 : w18.cell? ⟨gb310, 3, none⟩ = some (.slice Ao15 t303.length co15) := (blk_cell BK310.out 3).trans rfl; have hcz23_4 : w18.cell? ⟨gb310, 4, none⟩ = some (.slice Ao16 t306.length co16) := (blk_cell BK310.out 4).trans rfl; have hfz23_0 := blk_frozen BK310.out 0; have hfz23_1 := blk_frozen BK310.out 1; have hfz23_2 := blk_frozen BK310.out 2; have hfz23_3 := blk_frozen BK310.out 3; have hfz23_4 := blk_frozen BK310.out 4))
              go_ret
              exact ⟨by first | rfl | (simp [errW_none, errW_some] <;> rfl) | (simp [*, errW_none, errW_some] <;> rfl), by repeat (first | (with_reducible first | exact HB.out | apply below_alloc | apply pw_below_drewN | apply below_drew1 | refine below_set ?_ GE310.out | refine below_set ?_ GE321.out) | exact HB.out)⟩
            · rw [if_neg c10] at H
              have c10b0 : ((t303.length : Int) == 0) = false := beq_eq_false_iff_ne.mpr c10
              have c10b1 : ((t303.length : Int) != 0) = true := bne_iff_ne.mpr c10
              have c10b2 : ¬ (t303 = []) := fun h_ => c10 (by rw [h_]; rfl)
              exact absurd ((Option.some.inj H).trans HRT.out) (by decide)
          · rw [if_neg c9] at H
            have c9b0 : (t302 == t313) = false := beq_eq_false_iff_ne.mpr c9
            have c9b1 : (t302 != t313) = true := bne_iff_ne.mpr c9
            exact absurd ((Option.some.inj H).trans HRT.out) (by decide)
        · rw [if_neg c8] at H
          have c8b0 : (t301.toList == t312.toList) = false := beq_eq_false_iff_ne.mpr c8
          have c8b1 : (t301.toList != t312.toList) = true := bne_iff_ne.mpr c8
          exact absurd ((Option.some.inj H).trans HRT.out) (by decide)
      · rw [if_neg c7] at H
        have c7b0 : (t300 == t311) = false := beq_eq_false_iff_ne.mpr c7
        have c7b1 : (t300 != t311) = true := bne_iff_ne.mpr c7
        exact absurd ((Option.some.inj H).trans HRT.out) (by decide)
    · rw [if_neg c6] at H
      have c6b0 : (t309 == t320) = false := by simpa using c6
      (try (have c6b1 : decide (t309 = t320) = false := by simpa using c6))
      (try (have c6b2 : (t309 == t320) = false := by simpa using c6))
      (try (have c6b3 : ¬ (t309 = t320) := by simpa using c6))
      clear c6
      exact absurd ((Option.some.inj H).trans HRT.out) (by decide)
  · replace c3 := Bool.eq_false_iff.mpr c3
    subst c3
    have H1 : (some false) = some r := by rw [if_neg (show ¬ (false = true) by decide)] at H; exact H
    clear H
    have H := H1
    clear H1
    exact absurd ((Option.some.inj H).trans HRT.out) (by decide)

/-- THE ONE PURE STATEMENT of tollbarlaw05_LineStatuses: yours. -/
def tollbarlaw05_LineStatuses.Pure : Prop := ∀ (a0 : ByteArray), a0.size ≤ 140737488351232 → ∃ k, tollbarlaw05_LineStatuses.f k a0 = some true

end Go.Proofs.YtjgpifjfaiaidaaDoor.P

