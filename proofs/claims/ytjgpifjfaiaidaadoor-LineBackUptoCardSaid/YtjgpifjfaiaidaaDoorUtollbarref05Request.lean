/- Each function below answers as its Lean twin says. No further condition. (Laid by this repo's packseat.py out of the seat's texts and of the print's words.) -/
import Derived.Test.YtjgpifjfaiaidaaDoorU0base0x0
import Derived.Test.YtjgpifjfaiaidaaDoorUtollbarref020x0
import Derived.Test.YtjgpifjfaiaidaaDoorUtollbarref020x1
import Derived.Test.YtjgpifjfaiaidaaDoorUtollbarref050x0
namespace Go.Proofs.YtjgpifjfaiaidaaDoor.P
open Go.RowKit Go.Proofs.YtjgpifjfaiaidaaDoorW.PrintWords Go.Proofs.YtjgpifjfaiaidaaDoorW.PrintLast Go.Proofs.YtjgpifjfaiaidaaDoorW.PrintMore
attribute [local go_sem] max2_int min2_int max_two min_two max_three min_three max_four min_four   -- for this text's walks alone
set_option linter.unusedVariables false
set_option linter.unusedSimpArgs false

mutual
def tollbarref05_Request.j0 : Nat → List ByteArray → Bool → Option (ByteArray × ByteArray × Int × (List (S84)) × List Int × Int)
  | 0, _, _ => none
  | k + 1, x4, x33 => if x33 = true then (some ((⟨#[]⟩ : ByteArray), (⟨#[]⟩ : ByteArray), 0, ([] : List (S84)), ([] : List Int), 400)) else (if 1 < (x4.length : Int) then (if 0 < ((rdOf ByteArray.empty x4 1).size : Int) then (if (bt (rdOf ByteArray.empty x4 1) 0) = 47 then (tollbarref05_Request.j1 k x4 false) else (if (rdOf ByteArray.empty x4 1).toList = ([42] : List UInt8) then (if 0 < (x4.length : Int) then (tollbarref05_Request.j1 k x4 ((rdOf ByteArray.empty x4 0).toList != ([79, 80, 84, 73, 79, 78, 83] : List UInt8))) else (none)) else (tollbarref05_Request.j1 k x4 true))) else (none)) else (none))
def tollbarref05_Request.j1 : Nat → List ByteArray → Bool → Option (ByteArray × ByteArray × Int × (List (S84)) × List Int × Int)
  | 0, _, _ => none
  | k + 1, x4, x51 => if x51 = true then (some ((⟨#[]⟩ : ByteArray), (⟨#[]⟩ : ByteArray), 0, ([] : List (S84)), ([] : List Int), 400)) else (if 1 < (x4.length : Int) then (if ((rdOf ByteArray.empty x4 1).size : Int) > 512 then (some ((⟨#[]⟩ : ByteArray), (⟨#[]⟩ : ByteArray), 0, ([] : List (S84)), ([] : List Int), 414)) else (if 2 < (x4.length : Int) then ((tollbarref05_Version.f (rdOf ByteArray.empty x4 2)).bind fun bt264 => (if bt264.2.2 = true then (if bt264.1 = 1 then (if bt264.2.1 > 1 then (some ((⟨#[]⟩ : ByteArray), (⟨#[]⟩ : ByteArray), 0, ([] : List (S84)), ([] : List Int), 505)) else (if 0 < (x4.length : Int) then (some (rdOf ByteArray.empty x4 0, rdOf ByteArray.empty x4 1, bt264.2.1, ([] : List (S84)), ([] : List Int), 0)) else (none))) else (some ((⟨#[]⟩ : ByteArray), (⟨#[]⟩ : ByteArray), 0, ([] : List (S84)), ([] : List Int), 505))) else (some ((⟨#[]⟩ : ByteArray), (⟨#[]⟩ : ByteArray), 0, ([] : List (S84)), ([] : List Int), 400)))) else (none))) else (none))
end
def tollbarref05_Request.f (k : Nat) (a0 : ByteArray) : Option (ByteArray × ByteArray × Int × (List (S84)) × List Int × Int) := (tollbarref05_parts.f k a0).bind fun t251 => (if (t251.length : Int) = 3 then (if 0 < (t251.length : Int) then ((tollbarref02_Token.f k (rdOf ByteArray.empty t251 0)).bind fun t255 => (if t255 = true then (if ((rdOf ByteArray.empty t251 0).size : Int) > 20 then (tollbarref05_Request.j0 k t251 true) else (if 1 < (t251.length : Int) then ((tollbarref02_Target.f k (rdOf ByteArray.empty t251 1)).bind fun t258 => (tollbarref05_Request.j0 k t251 (!t258))) else (none))) else (tollbarref05_Request.j0 k t251 true))) else (none)) else (tollbarref05_Request.j0 k t251 true))
theorem tollbarref05_Request.mono_l : ∀ k, (∀ y0 y1, LeO (tollbarref05_Request.j0 k y0 y1) (tollbarref05_Request.j0 (k + 1) y0 y1)) ∧ (∀ y0 y1, LeO (tollbarref05_Request.j1 k y0 y1) (tollbarref05_Request.j1 (k + 1) y0 y1))
  | 0 => ⟨fun _ _ r h => by simp [tollbarref05_Request.j0] at h, fun _ _ r h => by simp [tollbarref05_Request.j1] at h⟩
  | k + 1 => by
    obtain ⟨ih0, ih1⟩ := tollbarref05_Request.mono_l k
    refine ⟨?_, ?_⟩
    · intro y0 y1
      unfold tollbarref05_Request.j0
      repeat' first
      | (with_reducible exact ih0 _ _)
      | (with_reducible exact ih1 _ _)
      | (with_reducible exact tollbarref02_Target.mono _ _)
      | (with_reducible exact tollbarref02_Token.mono _ _)
      | (with_reducible exact tollbarref05_parts.mono _ _)
      | (with_reducible exact LeO.refl _)
      | (with_reducible exact LeO.none _)
      | (with_reducible refine LeO.ite ?_ ?_)
      | (with_reducible refine LeO.bind ?_ (fun _ => ?_))
      | exact ih0 _ _
      | exact ih1 _ _
      | exact tollbarref02_Target.mono _ _
      | exact tollbarref02_Token.mono _ _
      | exact tollbarref05_parts.mono _ _
      | exact LeO.none _
      | refine LeO.ite ?_ ?_
      | refine LeO.bind ?_ (fun _ => ?_)
    · intro y0 y1
      unfold tollbarref05_Request.j1
      repeat' first
      | (with_reducible exact ih0 _ _)
      | (with_reducible exact ih1 _ _)
      | (with_reducible exact tollbarref02_Target.mono _ _)
      | (with_reducible exact tollbarref02_Token.mono _ _)
      | (with_reducible exact tollbarref05_parts.mono _ _)
      | (with_reducible exact LeO.refl _)
      | (with_reducible exact LeO.none _)
      | (with_reducible refine LeO.ite ?_ ?_)
      | (with_reducible refine LeO.bind ?_ (fun _ => ?_))
      | exact ih0 _ _
      | exact ih1 _ _
      | exact tollbarref02_Target.mono _ _
      | exact tollbarref02_Token.mono _ _
      | exact tollbarref05_parts.mono _ _
      | exact LeO.none _
      | refine LeO.ite ?_ ?_
      | refine LeO.bind ?_ (fun _ => ?_)
theorem tollbarref05_Request.mono : ∀ a0 k, LeO (tollbarref05_Request.f k a0) (tollbarref05_Request.f (k + 1) a0) := by
  intro a0 k
  obtain ⟨ih0, ih1⟩ := tollbarref05_Request.mono_l k
  unfold tollbarref05_Request.f
  repeat' first
      | (with_reducible exact ih0 _ _)
      | (with_reducible exact ih1 _ _)
      | (with_reducible exact tollbarref02_Target.mono _ _)
      | (with_reducible exact tollbarref02_Token.mono _ _)
      | (with_reducible exact tollbarref05_parts.mono _ _)
      | (with_reducible exact LeO.refl _)
      | (with_reducible exact LeO.none _)
      | (with_reducible refine LeO.ite ?_ ?_)
      | (with_reducible refine LeO.bind ?_ (fun _ => ?_))
      | exact ih0 _ _
      | exact ih1 _ _
      | exact tollbarref02_Target.mono _ _
      | exact tollbarref02_Token.mono _ _
      | exact tollbarref05_parts.mono _ _
      | exact LeO.none _
      | refine LeO.ite ?_ ?_
      | refine LeO.bind ?_ (fun _ => ?_)
def tollbarref05_Request.T13 : Bool × List (List Nat × List Nat) := (true, [([], []), ([0], [0]), ([1], [1]), ([], []), ([3], [3]), ([4], [4]), ([], []), ([2, 5, 6], [2, 5, 6]), ([7, 0, 1, 2, 3, 4, 5, 6, 7], [7]), ([8, 0, 1, 2, 3, 4, 5, 6, 7, 8], [])])
def tollbarref05_Request.B13 : List Nat := [0, 1, 3, 0, 8, 24, 0, 127, 255, 511]
theorem tollbarref05_Request.tab13 : rtab .any (opsOf Tryd.f17 13) = tollbarref05_Request.T13 := by kernel_rfl
theorem tollbarref05_Request.bits13 : waitsOk tollbarref05_Request.T13.2 tollbarref05_Request.B13 = true := by kernel_rfl
set_option maxHeartbeats 8000000 in
set_option maxRecDepth 100000 in
theorem tollbarref05_Request.calls (k : Nat) (a0 : ByteArray) (r1 : ByteArray) (r2 : ByteArray) (r3 : Int) (r4 : List (S84)) (r5 : List Int) (r6 : Int) (w : World) (h : tollbarref05_Request.f k a0 = some (r1, r2, r3, r4, r5, r6)) :
    Calls Tryd.prog 17 #[.string a0] w fun e w' => ∃ v3_ v4_ : Value, e = .returned (.tuple #[.agg #[.string r1, .string r2, .int .i64 r3, v3_, v4_], .int .i64 r6]) ∧ Kd.R k84 84 w' w.heap.size (fun _ => True) v3_ r4 ∧ Kd.R (Kd.int .u8) 5 w' w.heap.size (fun _ => True) v4_ r5 ∧ Below w.heap.size w w' := by
  have hu26 := Tryd.underlying26
  have HB := Aside0.mk (Below.refl w.heap.size w)
  have H : ((tollbarref05_parts.f k a0).bind fun t251 => (if (t251.length : Int) = 3 then (if 0 < (t251.length : Int) then ((tollbarref02_Token.f k (rdOf ByteArray.empty t251 0)).bind fun t255 => (if t255 = true then (if ((rdOf ByteArray.empty t251 0).size : Int) > 20 then (tollbarref05_Request.j0 k t251 true) else (if 1 < (t251.length : Int) then ((tollbarref02_Target.f k (rdOf ByteArray.empty t251 1)).bind fun t258 => (tollbarref05_Request.j0 k t251 (!t258))) else (none))) else (tollbarref05_Request.j0 k t251 true))) else (none)) else (tollbarref05_Request.j0 k t251 true))) = some (r1, r2, r3, r4, r5, r6) := h
  clear h
  replace H := Option.bind_eq_some_iff.mp H
  obtain ⟨t251, A20, H⟩ := H
  replace H : (if (t251.length : Int) = 3 then (if 0 < (t251.length : Int) then ((tollbarref02_Token.f k (rdOf ByteArray.empty t251 0)).bind fun t255 => (if t255 = true then (if ((rdOf ByteArray.empty t251 0).size : Int) > 20 then (tollbarref05_Request.j0 k t251 true) else (if 1 < (t251.length : Int) then ((tollbarref02_Target.f k (rdOf ByteArray.empty t251 1)).bind fun t258 => (tollbarref05_Request.j0 k t251 (!t258))) else (none))) else (tollbarref05_Request.j0 k t251 true))) else (none)) else (tollbarref05_Request.j0 k t251 true)) = some (r1, r2, r3, r4, r5, r6) := H
  have A2 := Aside0.mk A20
  clear A20
  have HC3 := Aside0.mk H
  clear H
  go_enter Tryd.func17, Tryd.ntmps17
  go_upto_region 2 with (first | ((with_reducible refine gate_dst (N := 2) rfl ?_); (try (refine gate_guard (by rfl) ?_; dsimp only)); refine box_event ?hg (N := 2) ?hd (cs := #[.string (⟨#[]⟩ : ByteArray), .string (⟨#[]⟩ : ByteArray), .int .i64 0, .slice none 0 0, .slice none 0 0]) (t := 26) ?hr ?_; (case hd => rfl); (case hg => rfl); (case hr => first | (go_simp; done) | (go_simp; rfl)); intro gb250 hg w4 hbox hb; have n0_ := Aside0.mk (below_step (by repeat (first | (with_reducible first | exact HB.out | apply below_alloc | apply pw_below_drewN | apply below_drew1) | exact HB.out)) hb); have n1_ := Aside0.mk (hbox); have n2_ := Aside0.mk ((by rw [hg]; exact (below_size (by repeat (first | (with_reducible first | exact HB.out | apply below_alloc | apply pw_below_drewN | apply below_drew1) | exact HB.out))) : w.heap.size ≤ gb250)); have n3_ := Aside0.mk ((by rw [hg]; exact (below_size (by repeat (first | (with_reducible first | exact HB.out | apply below_alloc | apply pw_below_drewN | apply below_drew1) | exact HB.out))) : w.heap.size ≤ gb250)); clear HB; have HB := n0_; have BK250 := n1_; have GW250 := n2_; have GE250 := n3_; clear n0_ n1_ n2_ n3_; clear hb hbox hg) | ((with_reducible refine gate_callee (f := 40) rfl ?_); refine goesL_ (some 9) rfl rfl Tryd.func40 (by kernel_rfl) rfl #[.string a0] rfl (by (try simp only [List.map_toArray, List.map_cons, List.map_nil]); first | done | rfl | (simp only [List.length_drop, List.length_take]; rfl)) ?_; (with_reducible refine (tollbarref05_parts.calls k a0 t251 _ A2.out).mono ?_); rintro e w5 ⟨v252, rfl, ho0, hb⟩; refine ⟨_, rfl, ?_⟩; have n0_ := Aside0.mk (Kd.R_lower ho0 (below_size (by repeat (first | (with_reducible first | exact HB.out | apply below_alloc | apply pw_below_drewN | apply below_drew1 | refine below_set ?_ GE250.out) | exact HB.out)))); have n1_ := Aside0.mk (blk_below (g := gb250) (o := .cells #[.string (⟨#[]⟩ : ByteArray), .string (⟨#[]⟩ : ByteArray), .int .i64 0, .slice none 0 0, .slice none 0 0] 26 (0, 0)) (by (with_reducible repeat (first | refine blk_drewN ?_ _ | refine blk_drew ?_ | refine blk_alloc ?_ _)); exact BK250.out) hb); have n2_ := Aside0.mk (below_step (by repeat (first | (with_reducible first | exact HB.out | apply below_alloc | apply pw_below_drewN | apply below_drew1 | refine below_set ?_ GE250.out) | exact HB.out)) hb); clear BK250; clear HB; have HO253 := n0_; have BK250 := n1_; have HB := n2_; clear n0_ n1_ n2_; (try clear hb); (try clear hb2); (try clear hk); (try clear hi); (try clear ho0)))
  (try simp only [Act.put, List.setIfInBounds_toArray, List.set_cons_zero, List.set_cons_succ])
  go_cut [33] (fun v33 wc => ∃ (kq : Nat) (x33_2 : Bool), v33 = .bool x33_2 ∧ Aside0 (tollbarref05_Request.j0 kq t251 x33_2 = some (r1, r2, r3, r4, r5, r6)) ∧ Aside0 (kq ≤ k) ∧ Aside0 (Kd.R Kd.string 9 wc w.heap.size (fun _ => True) v252 t251) ∧ Aside0 (wc.heap[gb250]? = some (.cells #[.string (⟨#[]⟩ : ByteArray), .string (⟨#[]⟩ : ByteArray), .int .i64 0, (.slice none 0 0), (.slice none 0 0)] 26 (0, 0))) ∧ Aside0 (Below w.heap.size w wc))
  case first =>
    have H := HC3.out
    clear HC3
    by_cases c6 : (t251.length : Int) = 3
    · rw [if_pos c6] at H
      have c6b0 : ((t251.length : Int) == 3) = true := beq_iff_eq.mpr c6
      have c6b1 : ((t251.length : Int) != 3) = false := bne_eq_false_iff_eq.mpr c6
      clear c6
      (first | rw [c6b0] | (simp only [i64_w, i32_w]; rw [c6b0]) | skip)
      by_cases c7 : 0 < (t251.length : Int)
      · rw [if_pos c7] at H
        have c7b0 : decide (0 < (t251.length : Int)) = true := decide_eq_true c7
        have c7b1 : decide (0 < t251.length) = true := decide_eq_true (by omega)
        clear c7
        replace H := Option.bind_eq_some_iff.mp H
        obtain ⟨t255, A80, H⟩ := H
        replace H : (if t255 = true then (if ((rdOf ByteArray.empty t251 0).size : Int) > 20 then (tollbarref05_Request.j0 k t251 true) else (if 1 < (t251.length : Int) then ((tollbarref02_Target.f k (rdOf ByteArray.empty t251 1)).bind fun t258 => (tollbarref05_Request.j0 k t251 (!t258))) else (none))) else (tollbarref05_Request.j0 k t251 true)) = some (r1, r2, r3, r4, r5, r6) := H
        have A8 := Aside0.mk A80
        clear A80
        by_cases c9 : t255 = true
        · subst c9
          have H1 : (if ((rdOf ByteArray.empty t251 0).size : Int) > 20 then (tollbarref05_Request.j0 k t251 true) else (if 1 < (t251.length : Int) then ((tollbarref02_Target.f k (rdOf ByteArray.empty t251 1)).bind fun t258 => (tollbarref05_Request.j0 k t251 (!t258))) else (none))) = some (r1, r2, r3, r4, r5, r6) := by rw [if_pos rfl] at H; exact H
          clear H
          have H := H1
          clear H1
          by_cases c10 : ((rdOf ByteArray.empty t251 0).size : Int) > 20
          · rw [if_pos c10] at H
            have c10b0 : decide (20 < ((rdOf ByteArray.empty t251 0).size : Int)) = true := decide_eq_true c10
            have c10b1 : decide (20 < (rdOf ByteArray.empty t251 0).size) = true := decide_eq_true (by omega)
            clear c10
            have H' := Aside0.mk H
            clear H
            obtain ⟨Ao11, co11, eo11⟩ := Kd.R_slice HO253.out
            subst eo11
            have p254 : 0 ≤ (0 : Int) := (by omega)
            have q254 : 0 < (t251.length : Int) := of_decide_eq_true (by first | (with_reducible assumption) | assumption)
            obtain ⟨ad254, e254, hx254_0⟩ := Kd.at_string (Kd.R_reads' HO253.out).2.2 0 p254 q254
            cases e254
            have qi254 : (0 < t251.length) = True := eq_true (by omega)
            (try rw [show ((0 : Int)).toNat = 0 from rfl] at hx254_0)
            (try rw [Addr.add_zero'] at hx254_0)
            replace p254 := eq_true p254
            replace q254 := eq_true q254
            go_wp2_with (first | (go_at_call 41; (with_reducible refine (tollbarref02_Token.calls k (rdOf ByteArray.empty t251 0) true _ A8.out).mono ?_); rintro e w' ⟨rfl, ⟨nd, rfl⟩⟩; (try clear A8); have p256 : 0 ≤ (0 : Int) := (by omega); have q256 : 0 < (t251.length : Int) := of_decide_eq_true (by first | (with_reducible assumption) | assumption); obtain ⟨ad256, e256, hx256_0⟩ := Kd.at_string (Kd.R_reads' HO253.out).2.2 0 p256 q256; obtain rfl : ad254 = ad256 := (by injection e256); have qi256 : (0 < t251.length) = True := eq_true (by omega); (try rw [show ((0 : Int)).toNat = 0 from rfl] at hx256_0); (try rw [Addr.add_zero'] at hx256_0); replace p256 := eq_true p256; replace q256 := eq_true q256))
            go_meet
            case rel => exact ⟨_, (true), (by first | rfl | (simp; done) | (simp [*]; done)), H', ⟨by first | omega | exact Nat.le_refl _⟩, ⟨by (with_reducible repeat (first | apply Kd.R_alloc | apply Kd.R_drewN | apply Kd.R_drew)); exact HO253.out⟩, ⟨by (with_reducible repeat (first | refine blk_drewN ?_ _ | refine blk_drew ?_ | refine blk_alloc ?_ _)); exact BK250.out⟩, ⟨by repeat (first | (with_reducible first | exact HB.out | apply below_alloc | apply pw_below_drewN | apply below_drew1 | refine below_set ?_ GE250.out) | exact HB.out)⟩⟩
          · rw [if_neg c10] at H
            have c10b0 : decide (20 < ((rdOf ByteArray.empty t251 0).size : Int)) = false := decide_eq_false c10
            have c10b1 : decide (20 < (rdOf ByteArray.empty t251 0).size) = false := decide_eq_false (by omega)
            clear c10
            by_cases c12 : 1 < (t251.length : Int)
            · rw [if_pos c12] at H
              have c12b0 : decide (1 < (t251.length : Int)) = true := decide_eq_true c12
              have c12b1 : decide (1 < t251.length) = true := decide_eq_true (by omega)
              clear c12
              replace H := Option.bind_eq_some_iff.mp H
              obtain ⟨t258, A130, H⟩ := H
              replace H : (tollbarref05_Request.j0 k t251 (!t258)) = some (r1, r2, r3, r4, r5, r6) := H
              have A13 := Aside0.mk A130
              clear A130
              have H' := Aside0.mk H
              clear H
              obtain ⟨Ao14, co14, eo14⟩ := Kd.R_slice HO253.out
              subst eo14
              have p254 : 0 ≤ (0 : Int) := (by omega)
              have q254 : 0 < (t251.length : Int) := of_decide_eq_true (by first | (with_reducible assumption) | assumption)
              obtain ⟨ad254, e254, hx254_0⟩ := Kd.at_string (Kd.R_reads' HO253.out).2.2 0 p254 q254
              cases e254
              have qi254 : (0 < t251.length) = True := eq_true (by omega)
              (try rw [show ((0 : Int)).toNat = 0 from rfl] at hx254_0)
              (try rw [Addr.add_zero'] at hx254_0)
              replace p254 := eq_true p254
              replace q254 := eq_true q254
              go_wp2_with (first | (go_at_call 41; (with_reducible refine (tollbarref02_Token.calls k (rdOf ByteArray.empty t251 0) true _ A8.out).mono ?_); rintro e w' ⟨rfl, ⟨nd, rfl⟩⟩; (try clear A8); have p256 : 0 ≤ (0 : Int) := (by omega); have q256 : 0 < (t251.length : Int) := of_decide_eq_true (by first | (with_reducible assumption) | assumption); obtain ⟨ad256, e256, hx256_0⟩ := Kd.at_string (Kd.R_reads' HO253.out).2.2 0 p256 q256; obtain rfl : ad254 = ad256 := (by injection e256); have qi256 : (0 < t251.length) = True := eq_true (by omega); (try rw [show ((0 : Int)).toNat = 0 from rfl] at hx256_0); (try rw [Addr.add_zero'] at hx256_0); replace p256 := eq_true p256; replace q256 := eq_true q256; have p257 : 0 ≤ (1 : Int) := (by omega); have q257 : 1 < (t251.length : Int) := of_decide_eq_true (by first | (with_reducible assumption) | assumption); obtain ⟨ad257, e257, hx257_0⟩ := Kd.at_string (Kd.R_reads' HO253.out).2.2 1 p257 q257; obtain rfl : ad254 = ad257 := (by injection e257); (try simp only [show (1 : Int).toNat = 1 from rfl, Nat.reduceMul, Nat.reduceEqDiff, Go.Addr.add, ↓reduceIte] at hx257_0); have qi257 : (1 < t251.length) = True := eq_true (by omega); (try rw [show ((1 : Int)).toNat = 1 from rfl] at hx257_0); replace p257 := eq_true p257; replace q257 := eq_true q257) | (go_at_call 42; (with_reducible refine (tollbarref02_Target.calls k (rdOf ByteArray.empty t251 1) t258 _ A13.out).mono ?_); rintro e w' ⟨rfl, ⟨nd, rfl⟩⟩; (try clear A13)))
              go_meet
              case rel => exact ⟨_, (!t258), (by first | rfl | (simp; done) | (simp [*]; done)), H', ⟨by first | omega | exact Nat.le_refl _⟩, ⟨by (with_reducible repeat (first | apply Kd.R_alloc | apply Kd.R_drewN | apply Kd.R_drew)); exact HO253.out⟩, ⟨by (with_reducible repeat (first | refine blk_drewN ?_ _ | refine blk_drew ?_ | refine blk_alloc ?_ _)); exact BK250.out⟩, ⟨by repeat (first | (with_reducible first | exact HB.out | apply below_alloc | apply pw_below_drewN | apply below_drew1 | refine below_set ?_ GE250.out) | exact HB.out)⟩⟩
            · rw [if_neg c12] at H
              exact absurd H (by simp)
        · replace c9 := Bool.eq_false_iff.mpr c9
          subst c9
          have H1 : (tollbarref05_Request.j0 k t251 true) = some (r1, r2, r3, r4, r5, r6) := by rw [if_neg (show ¬ (false = true) by decide)] at H; exact H
          clear H
          have H := H1
          clear H1
          have H' := Aside0.mk H
          clear H
          obtain ⟨Ao15, co15, eo15⟩ := Kd.R_slice HO253.out
          subst eo15
          have p254 : 0 ≤ (0 : Int) := (by omega)
          have q254 : 0 < (t251.length : Int) := of_decide_eq_true (by first | (with_reducible assumption) | assumption)
          obtain ⟨ad254, e254, hx254_0⟩ := Kd.at_string (Kd.R_reads' HO253.out).2.2 0 p254 q254
          cases e254
          have qi254 : (0 < t251.length) = True := eq_true (by omega)
          (try rw [show ((0 : Int)).toNat = 0 from rfl] at hx254_0)
          (try rw [Addr.add_zero'] at hx254_0)
          replace p254 := eq_true p254
          replace q254 := eq_true q254
          go_wp2_with (first | (go_at_call 41; (with_reducible refine (tollbarref02_Token.calls k (rdOf ByteArray.empty t251 0) false _ A8.out).mono ?_); rintro e w' ⟨rfl, ⟨nd, rfl⟩⟩; (try clear A8)))
          go_meet
          case rel => exact ⟨_, (true), (by first | rfl | (simp; done) | (simp [*]; done)), H', ⟨by first | omega | exact Nat.le_refl _⟩, ⟨by (with_reducible repeat (first | apply Kd.R_alloc | apply Kd.R_drewN | apply Kd.R_drew)); exact HO253.out⟩, ⟨by (with_reducible repeat (first | refine blk_drewN ?_ _ | refine blk_drew ?_ | refine blk_alloc ?_ _)); exact BK250.out⟩, ⟨by repeat (first | (with_reducible first | exact HB.out | apply below_alloc | apply pw_below_drewN | apply below_drew1 | refine below_set ?_ GE250.out) | exact HB.out)⟩⟩
      · rw [if_neg c7] at H
        exact absurd H (by simp)
    · rw [if_neg c6] at H
      have c6b0 : ((t251.length : Int) == 3) = false := beq_eq_false_iff_ne.mpr c6
      have c6b1 : ((t251.length : Int) != 3) = true := bne_iff_ne.mpr c6
      (first | rw [c6b0] | (simp only [i64_w, i32_w]; rw [c6b0]) | skip)
      have H' := Aside0.mk H
      clear H
      obtain ⟨Ao16, co16, eo16⟩ := Kd.R_slice HO253.out
      subst eo16
      go_wp2
      go_meet
      case rel => exact ⟨_, (true), (by first | rfl | (simp; done) | (simp [*]; done)), H', ⟨by first | omega | exact Nat.le_refl _⟩, ⟨by (with_reducible repeat (first | apply Kd.R_alloc | apply Kd.R_drewN | apply Kd.R_drew)); exact HO253.out⟩, ⟨by (with_reducible repeat (first | refine blk_drewN ?_ _ | refine blk_drew ?_ | refine blk_alloc ?_ _)); exact BK250.out⟩, ⟨by repeat (first | (with_reducible first | exact HB.out | apply below_alloc | apply pw_below_drewN | apply below_drew1 | refine below_set ?_ GE250.out) | exact HB.out)⟩⟩
  case rest =>
    clear HC3
    try clear c1
    try clear p2
    try clear q2
    try clear hx2
    try clear qi2
    try clear c4
    try clear c6
    try clear c6b0
    try clear c6b1
    try clear c7
    try clear c7b0
    try clear c7b1
    try clear c9
    try clear c10
    try clear c10b0
    try clear c10b1
    try clear c12
    try clear c12b0
    try clear c12b1
    try clear hx254_0
    try clear hx256_0
    try clear hx257_0
    try clear p254
    try clear p256
    try clear p257
    try clear q254
    try clear q256
    try clear q257
    obtain ⟨kq, x33_2, rfl, HA, HJ2, HO_4, BK250, HB⟩ := hcut
    cases kq with
    | zero => exact absurd HA.out (by simp [tollbarref05_Request.j0])
    | succ kj2 =>
      have H := HA.out
      clear HA
      simp only [tollbarref05_Request.j0] at H
      by_cases c17 : x33_2 = true
      · subst c17
        have H1 : (some ((⟨#[]⟩ : ByteArray), (⟨#[]⟩ : ByteArray), 0, ([] : List (S84)), ([] : List Int), 400)) = some (r1, r2, r3, r4, r5, r6) := by rw [if_pos rfl] at H; exact H
        clear H
        have H := H1
        clear H1
        simp only [Option.some.injEq, Prod.mk.injEq] at H
        obtain ⟨rfl, rfl, rfl, rfl, rfl, rfl⟩ := H
        have hcz18_0 : wc.cell? ⟨gb250, 0, none⟩ = some (.string (⟨#[]⟩ : ByteArray)) := (blk_cell BK250.out 0).trans rfl
        have hcz18_1 : wc.cell? ⟨gb250, 1, none⟩ = some (.string (⟨#[]⟩ : ByteArray)) := (blk_cell BK250.out 1).trans rfl
        have hcz18_2 : wc.cell? ⟨gb250, 2, none⟩ = some (.int .i64 0) := (blk_cell BK250.out 2).trans rfl
        have hcz18_3 : wc.cell? ⟨gb250, 3, none⟩ = some (.slice none 0 0) := (blk_cell BK250.out 3).trans rfl
        have hcz18_4 : wc.cell? ⟨gb250, 4, none⟩ = some (.slice none 0 0) := (blk_cell BK250.out 4).trans rfl
        have hfz18_0 := blk_frozen BK250.out 0
        have hfz18_1 := blk_frozen BK250.out 1
        have hfz18_2 := blk_frozen BK250.out 2
        have hfz18_3 := blk_frozen BK250.out 3
        have hfz18_4 := blk_frozen BK250.out 4
        go_wp2
        refine bodyPost_ret (results_ct rfl _ _ gb250 26 #[.string (⟨#[]⟩ : ByteArray), .string (⟨#[]⟩ : ByteArray), .int .i64 0, .slice none 0 0, .slice none 0 0] (0, 0) _ rfl (by (with_reducible repeat (first | refine blk_drewN ?_ _ | refine blk_drew ?_ | refine blk_alloc ?_ _)); refine blk_put (cs := #[.string (⟨#[]⟩ : ByteArray), .string (⟨#[]⟩ : ByteArray), .int .i64 0, .slice none 0 0, .slice none 0 0]) ?_ 4 _ rfl; (with_reducible repeat (first | refine blk_drewN ?_ _ | refine blk_drew ?_ | refine blk_alloc ?_ _)); refine blk_put (cs := #[.string (⟨#[]⟩ : ByteArray), .string (⟨#[]⟩ : ByteArray), .int .i64 0, .slice none 0 0, .slice none 0 0]) ?_ 3 _ rfl; (with_reducible repeat (first | refine blk_drewN ?_ _ | refine blk_drew ?_ | refine blk_alloc ?_ _)); refine blk_put (cs := #[.string (⟨#[]⟩ : ByteArray), .string (⟨#[]⟩ : ByteArray), .int .i64 0, .slice none 0 0, .slice none 0 0]) ?_ 2 _ rfl; (with_reducible repeat (first | refine blk_drewN ?_ _ | refine blk_drew ?_ | refine blk_alloc ?_ _)); refine blk_put (cs := #[.string (⟨#[]⟩ : ByteArray), .string (⟨#[]⟩ : ByteArray), .int .i64 0, .slice none 0 0, .slice none 0 0]) ?_ 1 _ rfl; (with_reducible repeat (first | refine blk_drewN ?_ _ | refine blk_drew ?_ | refine blk_alloc ?_ _)); refine blk_put (cs := #[.string (⟨#[]⟩ : ByteArray), .string (⟨#[]⟩ : ByteArray), .int .i64 0, .slice none 0 0, .slice none 0 0]) ?_ 0 _ rfl; (with_reducible repeat (first | refine blk_drewN ?_ _ | refine blk_drew ?_ | refine blk_alloc ?_ _)); exact BK250.out) Tryd.underlying26 rfl (by kernel_rfl)) rfl ?_
        exact ⟨_, _, by first | rfl | (simp [errW_none, errW_some] <;> rfl) | (simp [*, errW_none, errW_some] <;> rfl), by first | exact Kd.R_nil _ _ _ _ _ | exact Kd.N_nil _ _ _ _ _ | exact Kd.V_nil _ _ _ _ _ | exact Kd.Q_nil _ _ _ _ _ | exact Kd.S_nil _ _ _ _ _, by first | exact Kd.R_nil _ _ _ _ _ | exact Kd.N_nil _ _ _ _ _ | exact Kd.V_nil _ _ _ _ _ | exact Kd.Q_nil _ _ _ _ _ | exact Kd.S_nil _ _ _ _ _, by repeat (first | (with_reducible first | exact HB.out | apply below_alloc | apply pw_below_drewN | apply below_drew1 | refine below_set ?_ GE250.out) | exact HB.out)⟩
      · replace c17 := Bool.eq_false_iff.mpr c17
        subst c17
        have H1 : (if 1 < (t251.length : Int) then (if 0 < ((rdOf ByteArray.empty t251 1).size : Int) then (if (bt (rdOf ByteArray.empty t251 1) 0) = 47 then (tollbarref05_Request.j1 kj2 t251 false) else (if (rdOf ByteArray.empty t251 1).toList = ([42] : List UInt8) then (if 0 < (t251.length : Int) then (tollbarref05_Request.j1 kj2 t251 ((rdOf ByteArray.empty t251 0).toList != ([79, 80, 84, 73, 79, 78, 83] : List UInt8))) else (none)) else (tollbarref05_Request.j1 kj2 t251 true))) else (none)) else (none)) = some (r1, r2, r3, r4, r5, r6) := by rw [if_neg (show ¬ (false = true) by decide)] at H; exact H
        clear H
        have H := H1
        clear H1
        have HC19 := Aside0.mk H
        clear H
        go_upto_region 4 with (fail)
        go_cut [51] (fun v51 wc => ∃ (kq : Nat) (x51_18 : Bool), v51 = .bool x51_18 ∧ Aside0 (tollbarref05_Request.j1 kq t251 x51_18 = some (r1, r2, r3, r4, r5, r6)) ∧ Aside0 (kq ≤ kj2) ∧ Aside0 (Kd.R Kd.string 9 wc w.heap.size (fun _ => True) v252 t251) ∧ Aside0 (wc.heap[gb250]? = some (.cells #[.string (⟨#[]⟩ : ByteArray), .string (⟨#[]⟩ : ByteArray), .int .i64 0, (.slice none 0 0), (.slice none 0 0)] 26 (0, 0))) ∧ Aside0 (Below w.heap.size w wc))
        case first =>
          have H := HC19.out
          clear HC19
          by_cases c20 : 1 < (t251.length : Int)
          · rw [if_pos c20] at H
            have c20b0 : decide (1 < (t251.length : Int)) = true := decide_eq_true c20
            have c20b1 : decide (1 < t251.length) = true := decide_eq_true (by omega)
            clear c20
            (first | rw [c20b0] | (simp only [i64_w, i32_w]; rw [c20b0]) | skip)
            by_cases c21 : 0 < ((rdOf ByteArray.empty t251 1).size : Int)
            · rw [if_pos c21] at H
              have c21b0 : decide (0 < ((rdOf ByteArray.empty t251 1).size : Int)) = true := decide_eq_true c21
              have c21b1 : decide (0 < (rdOf ByteArray.empty t251 1).size) = true := decide_eq_true (by omega)
              clear c21
              by_cases c23 : (bt (rdOf ByteArray.empty t251 1) 0) = 47
              · rw [if_pos c23] at H
                have c23b0 : ((bt (rdOf ByteArray.empty t251 1) 0) == 47) = true := beq_iff_eq.mpr c23
                have c23b1 : ((bt (rdOf ByteArray.empty t251 1) 0) != 47) = false := bne_eq_false_iff_eq.mpr c23
                clear c23
                have H' := Aside0.mk H
                clear H
                obtain ⟨Ao24, co24, eo24⟩ := Kd.R_slice HO_4.out
                subst eo24
                have p259 : 0 ≤ (1 : Int) := (by omega)
                have q259 : 1 < (t251.length : Int) := of_decide_eq_true (by first | (with_reducible assumption) | assumption)
                obtain ⟨ad259, e259, hx259_0⟩ := Kd.at_string (Kd.R_reads' HO_4.out).2.2 1 p259 q259
                cases e259
                (try simp only [show (1 : Int).toNat = 1 from rfl, Nat.reduceMul, Nat.reduceEqDiff, Go.Addr.add, ↓reduceIte] at hx259_0)
                have qi259 : (1 < t251.length) = True := eq_true (by omega)
                (try rw [show ((1 : Int)).toNat = 1 from rfl] at hx259_0)
                replace p259 := eq_true p259
                replace q259 := eq_true q259
                have p22 : 0 ≤ (0 : Int) := (by omega)
                have q22 : 0 < (rdOf ByteArray.empty t251 1).size := (by have : (0 : Int) < ((rdOf ByteArray.empty t251 1).size : Int) := of_decide_eq_true (by first | (with_reducible assumption) | assumption); omega)
                have hx22 : ∀ h : 0 < (rdOf ByteArray.empty t251 1).size, (((rdOf ByteArray.empty t251 1)[0]'h).toNat : Int) = bt (rdOf ByteArray.empty t251 1) 0 := bt_at (rdOf ByteArray.empty t251 1) 0
                clear p22
                have qi22 : (0 < ((rdOf ByteArray.empty t251 1).size : Int)) = True := eq_true (of_decide_eq_true (by first | (with_reducible assumption) | assumption))
                replace q22 := eq_true q22
                go_wp2
                go_meet
                case rel => exact ⟨_, (false), (by first | rfl | (simp; done) | (simp [*]; done)), H', ⟨by have := HJ2.out; first | omega | exact Nat.le_refl _⟩, ⟨by (with_reducible repeat (first | apply Kd.R_alloc | apply Kd.R_drewN | apply Kd.R_drew)); exact HO_4.out⟩, ⟨by (with_reducible repeat (first | refine blk_drewN ?_ _ | refine blk_drew ?_ | refine blk_alloc ?_ _)); exact BK250.out⟩, ⟨by repeat (first | (with_reducible first | exact HB.out | apply below_alloc | apply pw_below_drewN | apply below_drew1 | refine below_set ?_ GE250.out) | exact HB.out)⟩⟩
              · rw [if_neg c23] at H
                have c23b0 : ((bt (rdOf ByteArray.empty t251 1) 0) == 47) = false := beq_eq_false_iff_ne.mpr c23
                have c23b1 : ((bt (rdOf ByteArray.empty t251 1) 0) != 47) = true := bne_iff_ne.mpr c23
                by_cases c25 : (rdOf ByteArray.empty t251 1).toList = ([42] : List UInt8)
                · rw [if_pos c25] at H
                  have c25b0 : ((rdOf ByteArray.empty t251 1).toList == ([42] : List UInt8)) = true := beq_iff_eq.mpr c25
                  have c25b1 : ((rdOf ByteArray.empty t251 1).toList != ([42] : List UInt8)) = false := bne_eq_false_iff_eq.mpr c25
                  clear c25
                  by_cases c26 : 0 < (t251.length : Int)
                  · rw [if_pos c26] at H
                    have c26b0 : decide (0 < (t251.length : Int)) = true := decide_eq_true c26
                    have c26b1 : decide (0 < t251.length) = true := decide_eq_true (by omega)
                    clear c26
                    have H' := Aside0.mk H
                    clear H
                    obtain ⟨Ao27, co27, eo27⟩ := Kd.R_slice HO_4.out
                    subst eo27
                    have p259 : 0 ≤ (1 : Int) := (by omega)
                    have q259 : 1 < (t251.length : Int) := of_decide_eq_true (by first | (with_reducible assumption) | assumption)
                    obtain ⟨ad259, e259, hx259_0⟩ := Kd.at_string (Kd.R_reads' HO_4.out).2.2 1 p259 q259
                    cases e259
                    (try simp only [show (1 : Int).toNat = 1 from rfl, Nat.reduceMul, Nat.reduceEqDiff, Go.Addr.add, ↓reduceIte] at hx259_0)
                    have qi259 : (1 < t251.length) = True := eq_true (by omega)
                    (try rw [show ((1 : Int)).toNat = 1 from rfl] at hx259_0)
                    replace p259 := eq_true p259
                    replace q259 := eq_true q259
                    have p22 : 0 ≤ (0 : Int) := (by omega)
                    have q22 : 0 < (rdOf ByteArray.empty t251 1).size := (by have : (0 : Int) < ((rdOf ByteArray.empty t251 1).size : Int) := of_decide_eq_true (by first | (with_reducible assumption) | assumption); omega)
                    have hx22 : ∀ h : 0 < (rdOf ByteArray.empty t251 1).size, (((rdOf ByteArray.empty t251 1)[0]'h).toNat : Int) = bt (rdOf ByteArray.empty t251 1) 0 := bt_at (rdOf ByteArray.empty t251 1) 0
                    clear p22
                    have qi22 : (0 < ((rdOf ByteArray.empty t251 1).size : Int)) = True := eq_true (of_decide_eq_true (by first | (with_reducible assumption) | assumption))
                    replace q22 := eq_true q22
                    have p260 : 0 ≤ (1 : Int) := (by omega)
                    have q260 : 1 < (t251.length : Int) := of_decide_eq_true (by first | (with_reducible assumption) | assumption)
                    obtain ⟨ad260, e260, hx260_0⟩ := Kd.at_string (Kd.R_reads' HO_4.out).2.2 1 p260 q260
                    obtain rfl : ad259 = ad260 := (by injection e260)
                    (try simp only [show (1 : Int).toNat = 1 from rfl, Nat.reduceMul, Nat.reduceEqDiff, Go.Addr.add, ↓reduceIte] at hx260_0)
                    have qi260 : (1 < t251.length) = True := eq_true (by omega)
                    (try rw [show ((1 : Int)).toNat = 1 from rfl] at hx260_0)
                    replace p260 := eq_true p260
                    replace q260 := eq_true q260
                    have p261 : 0 ≤ (0 : Int) := (by omega)
                    have q261 : 0 < (t251.length : Int) := of_decide_eq_true (by first | (with_reducible assumption) | assumption)
                    obtain ⟨ad261, e261, hx261_0⟩ := Kd.at_string (Kd.R_reads' HO_4.out).2.2 0 p261 q261
                    obtain rfl : ad259 = ad261 := (by injection e261)
                    have qi261 : (0 < t251.length) = True := eq_true (by omega)
                    (try rw [show ((0 : Int)).toNat = 0 from rfl] at hx261_0)
                    (try rw [Addr.add_zero'] at hx261_0)
                    replace p261 := eq_true p261
                    replace q261 := eq_true q261
                    go_wp2
                    go_meet
                    case rel => exact ⟨_, (((rdOf ByteArray.empty t251 0).toList != ([79, 80, 84, 73, 79, 78, 83] : List UInt8))), (by first | rfl | (simp; done) | (simp [*]; done)), H', ⟨by have := HJ2.out; first | omega | exact Nat.le_refl _⟩, ⟨by (with_reducible repeat (first | apply Kd.R_alloc | apply Kd.R_drewN | apply Kd.R_drew)); exact HO_4.out⟩, ⟨by (with_reducible repeat (first | refine blk_drewN ?_ _ | refine blk_drew ?_ | refine blk_alloc ?_ _)); exact BK250.out⟩, ⟨by repeat (first | (with_reducible first | exact HB.out | apply below_alloc | apply pw_below_drewN | apply below_drew1 | refine below_set ?_ GE250.out) | exact HB.out)⟩⟩
                  · rw [if_neg c26] at H
                    exact absurd H (by simp)
                · rw [if_neg c25] at H
                  have c25b0 : ((rdOf ByteArray.empty t251 1).toList == ([42] : List UInt8)) = false := beq_eq_false_iff_ne.mpr c25
                  have c25b1 : ((rdOf ByteArray.empty t251 1).toList != ([42] : List UInt8)) = true := bne_iff_ne.mpr c25
                  have H' := Aside0.mk H
                  clear H
                  obtain ⟨Ao28, co28, eo28⟩ := Kd.R_slice HO_4.out
                  subst eo28
                  have p259 : 0 ≤ (1 : Int) := (by omega)
                  have q259 : 1 < (t251.length : Int) := of_decide_eq_true (by first | (with_reducible assumption) | assumption)
                  obtain ⟨ad259, e259, hx259_0⟩ := Kd.at_string (Kd.R_reads' HO_4.out).2.2 1 p259 q259
                  cases e259
                  (try simp only [show (1 : Int).toNat = 1 from rfl, Nat.reduceMul, Nat.reduceEqDiff, Go.Addr.add, ↓reduceIte] at hx259_0)
                  have qi259 : (1 < t251.length) = True := eq_true (by omega)
                  (try rw [show ((1 : Int)).toNat = 1 from rfl] at hx259_0)
                  replace p259 := eq_true p259
                  replace q259 := eq_true q259
                  have p22 : 0 ≤ (0 : Int) := (by omega)
                  have q22 : 0 < (rdOf ByteArray.empty t251 1).size := (by have : (0 : Int) < ((rdOf ByteArray.empty t251 1).size : Int) := of_decide_eq_true (by first | (with_reducible assumption) | assumption); omega)
                  have hx22 : ∀ h : 0 < (rdOf ByteArray.empty t251 1).size, (((rdOf ByteArray.empty t251 1)[0]'h).toNat : Int) = bt (rdOf ByteArray.empty t251 1) 0 := bt_at (rdOf ByteArray.empty t251 1) 0
                  clear p22
                  have qi22 : (0 < ((rdOf ByteArray.empty t251 1).size : Int)) = True := eq_true (of_decide_eq_true (by first | (with_reducible assumption) | assumption))
                  replace q22 := eq_true q22
                  have p260 : 0 ≤ (1 : Int) := (by omega)
                  have q260 : 1 < (t251.length : Int) := of_decide_eq_true (by first | (with_reducible assumption) | assumption)
                  obtain ⟨ad260, e260, hx260_0⟩ := Kd.at_string (Kd.R_reads' HO_4.out).2.2 1 p260 q260
                  obtain rfl : ad259 = ad260 := (by injection e260)
                  (try simp only [show (1 : Int).toNat = 1 from rfl, Nat.reduceMul, Nat.reduceEqDiff, Go.Addr.add, ↓reduceIte] at hx260_0)
                  have qi260 : (1 < t251.length) = True := eq_true (by omega)
                  (try rw [show ((1 : Int)).toNat = 1 from rfl] at hx260_0)
                  replace p260 := eq_true p260
                  replace q260 := eq_true q260
                  go_wp2
                  go_meet
                  case rel => exact ⟨_, (true), (by first | rfl | (simp; done) | (simp [*]; done)), H', ⟨by have := HJ2.out; first | omega | exact Nat.le_refl _⟩, ⟨by (with_reducible repeat (first | apply Kd.R_alloc | apply Kd.R_drewN | apply Kd.R_drew)); exact HO_4.out⟩, ⟨by (with_reducible repeat (first | refine blk_drewN ?_ _ | refine blk_drew ?_ | refine blk_alloc ?_ _)); exact BK250.out⟩, ⟨by repeat (first | (with_reducible first | exact HB.out | apply below_alloc | apply pw_below_drewN | apply below_drew1 | refine below_set ?_ GE250.out) | exact HB.out)⟩⟩
            · rw [if_neg c21] at H
              exact absurd H (by simp)
          · rw [if_neg c20] at H
            exact absurd H (by simp)
        case rest =>
          clear HC19
          try clear c1
          try clear c2
          try clear p2
          try clear q2
          try clear hx2
          try clear qi2
          try clear c4
          try clear c6
          try clear c6b0
          try clear c6b1
          try clear c7
          try clear c7b0
          try clear c7b1
          try clear c9
          try clear c10
          try clear c10b0
          try clear c10b1
          try clear c12
          try clear c12b0
          try clear c12b1
          try clear c17
          try clear c20
          try clear c20b0
          try clear c20b1
          try clear c21
          try clear c21b0
          try clear c21b1
          try clear p22
          try clear q22
          try clear hx22
          try clear qi22
          try clear c23
          try clear c23b0
          try clear c23b1
          try clear c25
          try clear c25b0
          try clear c25b1
          try clear p25
          try clear q25
          try clear hx25
          try clear qi25
          try clear c26
          try clear c26b0
          try clear c26b1
          try clear p26
          try clear q26
          try clear hx26
          try clear qi26
          try clear hcz18_0
          try clear hcz18_1
          try clear hcz18_2
          try clear hcz18_3
          try clear hcz18_4
          try clear hfz18_0
          try clear hfz18_1
          try clear hfz18_2
          try clear hfz18_3
          try clear hfz18_4
          try clear hx254_0
          try clear hx256_0
          try clear hx257_0
          try clear hx259_0
          try clear hx260_0
          try clear hx261_0
          try clear p2
          try clear p22
          try clear p254
          try clear p256
          try clear p257
          try clear p259
          try clear p260
          try clear p261
          try clear q2
          try clear q22
          try clear q254
          try clear q256
          try clear q257
          try clear q259
          try clear q260
          try clear q261
          obtain ⟨kq, x51_18, rfl, HA, HJ18, HO_4, BK250, HB⟩ := hcut
          cases kq with
          | zero => exact absurd HA.out (by simp [tollbarref05_Request.j1])
          | succ kj18 =>
            have H := HA.out
            clear HA
            simp only [tollbarref05_Request.j1] at H
            by_cases c29 : x51_18 = true
            · subst c29
              have H1 : (some ((⟨#[]⟩ : ByteArray), (⟨#[]⟩ : ByteArray), 0, ([] : List (S84)), ([] : List Int), 400)) = some (r1, r2, r3, r4, r5, r6) := by rw [if_pos rfl] at H; exact H
              clear H
              have H := H1
              clear H1
              simp only [Option.some.injEq, Prod.mk.injEq] at H
              obtain ⟨rfl, rfl, rfl, rfl, rfl, rfl⟩ := H
              have hcz30_0 : wc.cell? ⟨gb250, 0, none⟩ = some (.string (⟨#[]⟩ : ByteArray)) := (blk_cell BK250.out 0).trans rfl
              have hcz30_1 : wc.cell? ⟨gb250, 1, none⟩ = some (.string (⟨#[]⟩ : ByteArray)) := (blk_cell BK250.out 1).trans rfl
              have hcz30_2 : wc.cell? ⟨gb250, 2, none⟩ = some (.int .i64 0) := (blk_cell BK250.out 2).trans rfl
              have hcz30_3 : wc.cell? ⟨gb250, 3, none⟩ = some (.slice none 0 0) := (blk_cell BK250.out 3).trans rfl
              have hcz30_4 : wc.cell? ⟨gb250, 4, none⟩ = some (.slice none 0 0) := (blk_cell BK250.out 4).trans rfl
              have hfz30_0 := blk_frozen BK250.out 0
              have hfz30_1 := blk_frozen BK250.out 1
              have hfz30_2 := blk_frozen BK250.out 2
              have hfz30_3 := blk_frozen BK250.out 3
              have hfz30_4 := blk_frozen BK250.out 4
              go_wp2
              refine bodyPost_ret (results_ct rfl _ _ gb250 26 #[.string (⟨#[]⟩ : ByteArray), .string (⟨#[]⟩ : ByteArray), .int .i64 0, .slice none 0 0, .slice none 0 0] (0, 0) _ rfl (by (with_reducible repeat (first | refine blk_drewN ?_ _ | refine blk_drew ?_ | refine blk_alloc ?_ _)); refine blk_put (cs := #[.string (⟨#[]⟩ : ByteArray), .string (⟨#[]⟩ : ByteArray), .int .i64 0, .slice none 0 0, .slice none 0 0]) ?_ 4 _ rfl; (with_reducible repeat (first | refine blk_drewN ?_ _ | refine blk_drew ?_ | refine blk_alloc ?_ _)); refine blk_put (cs := #[.string (⟨#[]⟩ : ByteArray), .string (⟨#[]⟩ : ByteArray), .int .i64 0, .slice none 0 0, .slice none 0 0]) ?_ 3 _ rfl; (with_reducible repeat (first | refine blk_drewN ?_ _ | refine blk_drew ?_ | refine blk_alloc ?_ _)); refine blk_put (cs := #[.string (⟨#[]⟩ : ByteArray), .string (⟨#[]⟩ : ByteArray), .int .i64 0, .slice none 0 0, .slice none 0 0]) ?_ 2 _ rfl; (with_reducible repeat (first | refine blk_drewN ?_ _ | refine blk_drew ?_ | refine blk_alloc ?_ _)); refine blk_put (cs := #[.string (⟨#[]⟩ : ByteArray), .string (⟨#[]⟩ : ByteArray), .int .i64 0, .slice none 0 0, .slice none 0 0]) ?_ 1 _ rfl; (with_reducible repeat (first | refine blk_drewN ?_ _ | refine blk_drew ?_ | refine blk_alloc ?_ _)); refine blk_put (cs := #[.string (⟨#[]⟩ : ByteArray), .string (⟨#[]⟩ : ByteArray), .int .i64 0, .slice none 0 0, .slice none 0 0]) ?_ 0 _ rfl; (with_reducible repeat (first | refine blk_drewN ?_ _ | refine blk_drew ?_ | refine blk_alloc ?_ _)); exact BK250.out) Tryd.underlying26 rfl (by kernel_rfl)) rfl ?_
              exact ⟨_, _, by first | rfl | (simp [errW_none, errW_some] <;> rfl) | (simp [*, errW_none, errW_some] <;> rfl), by first | exact Kd.R_nil _ _ _ _ _ | exact Kd.N_nil _ _ _ _ _ | exact Kd.V_nil _ _ _ _ _ | exact Kd.Q_nil _ _ _ _ _ | exact Kd.S_nil _ _ _ _ _, by first | exact Kd.R_nil _ _ _ _ _ | exact Kd.N_nil _ _ _ _ _ | exact Kd.V_nil _ _ _ _ _ | exact Kd.Q_nil _ _ _ _ _ | exact Kd.S_nil _ _ _ _ _, by repeat (first | (with_reducible first | exact HB.out | apply below_alloc | apply pw_below_drewN | apply below_drew1 | refine below_set ?_ GE250.out) | exact HB.out)⟩
            · replace c29 := Bool.eq_false_iff.mpr c29
              subst c29
              have H1 : (if 1 < (t251.length : Int) then (if ((rdOf ByteArray.empty t251 1).size : Int) > 512 then (some ((⟨#[]⟩ : ByteArray), (⟨#[]⟩ : ByteArray), 0, ([] : List (S84)), ([] : List Int), 414)) else (if 2 < (t251.length : Int) then ((tollbarref05_Version.f (rdOf ByteArray.empty t251 2)).bind fun bt264 => (if bt264.2.2 = true then (if bt264.1 = 1 then (if bt264.2.1 > 1 then (some ((⟨#[]⟩ : ByteArray), (⟨#[]⟩ : ByteArray), 0, ([] : List (S84)), ([] : List Int), 505)) else (if 0 < (t251.length : Int) then (some (rdOf ByteArray.empty t251 0, rdOf ByteArray.empty t251 1, bt264.2.1, ([] : List (S84)), ([] : List Int), 0)) else (none))) else (some ((⟨#[]⟩ : ByteArray), (⟨#[]⟩ : ByteArray), 0, ([] : List (S84)), ([] : List Int), 505))) else (some ((⟨#[]⟩ : ByteArray), (⟨#[]⟩ : ByteArray), 0, ([] : List (S84)), ([] : List Int), 400)))) else (none))) else (none)) = some (r1, r2, r3, r4, r5, r6) := by rw [if_neg (show ¬ (false = true) by decide)] at H; exact H
              clear H
              have H := H1
              clear H1
              by_cases c31 : 1 < (t251.length : Int)
              · rw [if_pos c31] at H
                have c31b0 : decide (1 < (t251.length : Int)) = true := decide_eq_true c31
                have c31b1 : decide (1 < t251.length) = true := decide_eq_true (by omega)
                clear c31
                by_cases c32 : ((rdOf ByteArray.empty t251 1).size : Int) > 512
                · rw [if_pos c32] at H
                  have c32b0 : decide (512 < ((rdOf ByteArray.empty t251 1).size : Int)) = true := decide_eq_true c32
                  have c32b1 : decide (512 < (rdOf ByteArray.empty t251 1).size) = true := decide_eq_true (by omega)
                  clear c32
                  simp only [Option.some.injEq, Prod.mk.injEq] at H
                  obtain ⟨rfl, rfl, rfl, rfl, rfl, rfl⟩ := H
                  obtain ⟨Ao33, co33, eo33⟩ := Kd.R_slice HO_4.out
                  subst eo33
                  have p262 : 0 ≤ (1 : Int) := (by omega)
                  have q262 : 1 < (t251.length : Int) := of_decide_eq_true (by first | (with_reducible assumption) | assumption)
                  obtain ⟨ad262, e262, hx262_0⟩ := Kd.at_string (Kd.R_reads' HO_4.out).2.2 1 p262 q262
                  cases e262
                  (try simp only [show (1 : Int).toNat = 1 from rfl, Nat.reduceMul, Nat.reduceEqDiff, Go.Addr.add, ↓reduceIte] at hx262_0)
                  have qi262 : (1 < t251.length) = True := eq_true (by omega)
                  (try rw [show ((1 : Int)).toNat = 1 from rfl] at hx262_0)
                  replace p262 := eq_true p262
                  replace q262 := eq_true q262
                  have hcz34_0 : wc.cell? ⟨gb250, 0, none⟩ = some (.string (⟨#[]⟩ : ByteArray)) := (blk_cell BK250.out 0).trans rfl
                  have hcz34_1 : wc.cell? ⟨gb250, 1, none⟩ = some (.string (⟨#[]⟩ : ByteArray)) := (blk_cell BK250.out 1).trans rfl
                  have hcz34_2 : wc.cell? ⟨gb250, 2, none⟩ = some (.int .i64 0) := (blk_cell BK250.out 2).trans rfl
                  have hcz34_3 : wc.cell? ⟨gb250, 3, none⟩ = some (.slice none 0 0) := (blk_cell BK250.out 3).trans rfl
                  have hcz34_4 : wc.cell? ⟨gb250, 4, none⟩ = some (.slice none 0 0) := (blk_cell BK250.out 4).trans rfl
                  have hfz34_0 := blk_frozen BK250.out 0
                  have hfz34_1 := blk_frozen BK250.out 1
                  have hfz34_2 := blk_frozen BK250.out 2
                  have hfz34_3 := blk_frozen BK250.out 3
                  have hfz34_4 := blk_frozen BK250.out 4
                  go_wp2
                  refine bodyPost_ret (results_ct rfl _ _ gb250 26 #[.string (⟨#[]⟩ : ByteArray), .string (⟨#[]⟩ : ByteArray), .int .i64 0, .slice none 0 0, .slice none 0 0] (0, 0) _ rfl (by (with_reducible repeat (first | refine blk_drewN ?_ _ | refine blk_drew ?_ | refine blk_alloc ?_ _)); refine blk_put (cs := #[.string (⟨#[]⟩ : ByteArray), .string (⟨#[]⟩ : ByteArray), .int .i64 0, .slice none 0 0, .slice none 0 0]) ?_ 4 _ rfl; (with_reducible repeat (first | refine blk_drewN ?_ _ | refine blk_drew ?_ | refine blk_alloc ?_ _)); refine blk_put (cs := #[.string (⟨#[]⟩ : ByteArray), .string (⟨#[]⟩ : ByteArray), .int .i64 0, .slice none 0 0, .slice none 0 0]) ?_ 3 _ rfl; (with_reducible repeat (first | refine blk_drewN ?_ _ | refine blk_drew ?_ | refine blk_alloc ?_ _)); refine blk_put (cs := #[.string (⟨#[]⟩ : ByteArray), .string (⟨#[]⟩ : ByteArray), .int .i64 0, .slice none 0 0, .slice none 0 0]) ?_ 2 _ rfl; (with_reducible repeat (first | refine blk_drewN ?_ _ | refine blk_drew ?_ | refine blk_alloc ?_ _)); refine blk_put (cs := #[.string (⟨#[]⟩ : ByteArray), .string (⟨#[]⟩ : ByteArray), .int .i64 0, .slice none 0 0, .slice none 0 0]) ?_ 1 _ rfl; (with_reducible repeat (first | refine blk_drewN ?_ _ | refine blk_drew ?_ | refine blk_alloc ?_ _)); refine blk_put (cs := #[.string (⟨#[]⟩ : ByteArray), .string (⟨#[]⟩ : ByteArray), .int .i64 0, .slice none 0 0, .slice none 0 0]) ?_ 0 _ rfl; (with_reducible repeat (first | refine blk_drewN ?_ _ | refine blk_drew ?_ | refine blk_alloc ?_ _)); exact BK250.out) Tryd.underlying26 rfl (by kernel_rfl)) rfl ?_
                  exact ⟨_, _, by first | rfl | (simp [errW_none, errW_some] <;> rfl) | (simp [*, errW_none, errW_some] <;> rfl), by first | exact Kd.R_nil _ _ _ _ _ | exact Kd.N_nil _ _ _ _ _ | exact Kd.V_nil _ _ _ _ _ | exact Kd.Q_nil _ _ _ _ _ | exact Kd.S_nil _ _ _ _ _, by first | exact Kd.R_nil _ _ _ _ _ | exact Kd.N_nil _ _ _ _ _ | exact Kd.V_nil _ _ _ _ _ | exact Kd.Q_nil _ _ _ _ _ | exact Kd.S_nil _ _ _ _ _, by repeat (first | (with_reducible first | exact HB.out | apply below_alloc | apply pw_below_drewN | apply below_drew1 | refine below_set ?_ GE250.out) | exact HB.out)⟩
                · rw [if_neg c32] at H
                  have c32b0 : decide (512 < ((rdOf ByteArray.empty t251 1).size : Int)) = false := decide_eq_false c32
                  have c32b1 : decide (512 < (rdOf ByteArray.empty t251 1).size) = false := decide_eq_false (by omega)
                  clear c32
                  by_cases c35 : 2 < (t251.length : Int)
                  · rw [if_pos c35] at H
                    have c35b0 : decide (2 < (t251.length : Int)) = true := decide_eq_true c35
                    have c35b1 : decide (2 < t251.length) = true := decide_eq_true (by omega)
                    clear c35
                    replace H := Option.bind_eq_some_iff.mp H
                    obtain ⟨⟨t264, t265, t266⟩, A360, H⟩ := H
                    replace H : (if t266 = true then (if t264 = 1 then (if t265 > 1 then (some ((⟨#[]⟩ : ByteArray), (⟨#[]⟩ : ByteArray), 0, ([] : List (S84)), ([] : List Int), 505)) else (if 0 < (t251.length : Int) then (some (rdOf ByteArray.empty t251 0, rdOf ByteArray.empty t251 1, t265, ([] : List (S84)), ([] : List Int), 0)) else (none))) else (some ((⟨#[]⟩ : ByteArray), (⟨#[]⟩ : ByteArray), 0, ([] : List (S84)), ([] : List Int), 505))) else (some ((⟨#[]⟩ : ByteArray), (⟨#[]⟩ : ByteArray), 0, ([] : List (S84)), ([] : List Int), 400))) = some (r1, r2, r3, r4, r5, r6) := H
                    have A36 := Aside0.mk A360
                    clear A360
                    by_cases c37 : t266 = true
                    · subst c37
                      have H1 : (if t264 = 1 then (if t265 > 1 then (some ((⟨#[]⟩ : ByteArray), (⟨#[]⟩ : ByteArray), 0, ([] : List (S84)), ([] : List Int), 505)) else (if 0 < (t251.length : Int) then (some (rdOf ByteArray.empty t251 0, rdOf ByteArray.empty t251 1, t265, ([] : List (S84)), ([] : List Int), 0)) else (none))) else (some ((⟨#[]⟩ : ByteArray), (⟨#[]⟩ : ByteArray), 0, ([] : List (S84)), ([] : List Int), 505))) = some (r1, r2, r3, r4, r5, r6) := by rw [if_pos rfl] at H; exact H
                      clear H
                      have H := H1
                      clear H1
                      by_cases c38 : t264 = 1
                      · rw [if_pos c38] at H
                        have c38b0 : (t264 == 1) = true := beq_iff_eq.mpr c38
                        have c38b1 : (t264 != 1) = false := bne_eq_false_iff_eq.mpr c38
                        clear c38
                        by_cases c39 : t265 > 1
                        · rw [if_pos c39] at H
                          have c39b0 : decide (1 < t265) = true := decide_eq_true c39
                          clear c39
                          simp only [Option.some.injEq, Prod.mk.injEq] at H
                          obtain ⟨rfl, rfl, rfl, rfl, rfl, rfl⟩ := H
                          obtain ⟨Ao40, co40, eo40⟩ := Kd.R_slice HO_4.out
                          subst eo40
                          have p262 : 0 ≤ (1 : Int) := (by omega)
                          have q262 : 1 < (t251.length : Int) := of_decide_eq_true (by first | (with_reducible assumption) | assumption)
                          obtain ⟨ad262, e262, hx262_0⟩ := Kd.at_string (Kd.R_reads' HO_4.out).2.2 1 p262 q262
                          cases e262
                          (try simp only [show (1 : Int).toNat = 1 from rfl, Nat.reduceMul, Nat.reduceEqDiff, Go.Addr.add, ↓reduceIte] at hx262_0)
                          have qi262 : (1 < t251.length) = True := eq_true (by omega)
                          (try rw [show ((1 : Int)).toNat = 1 from rfl] at hx262_0)
                          replace p262 := eq_true p262
                          replace q262 := eq_true q262
                          have p263 : 0 ≤ (2 : Int) := (by omega)
                          have q263 : 2 < (t251.length : Int) := of_decide_eq_true (by first | (with_reducible assumption) | assumption)
                          obtain ⟨ad263, e263, hx263_0⟩ := Kd.at_string (Kd.R_reads' HO_4.out).2.2 2 p263 q263
                          obtain rfl : ad262 = ad263 := (by injection e263)
                          (try simp only [show (2 : Int).toNat = 2 from rfl, Nat.reduceMul, Nat.reduceEqDiff, Go.Addr.add, ↓reduceIte] at hx263_0)
                          have qi263 : (2 < t251.length) = True := eq_true (by omega)
                          (try rw [show ((2 : Int)).toNat = 2 from rfl] at hx263_0)
                          replace p263 := eq_true p263
                          replace q263 := eq_true q263
                          go_wp2_with (first | ((with_reducible refine gate_callee (f := 43) rfl ?_); refine goesL_ (some 63) rfl rfl Tryd.func43 (by kernel_rfl) rfl #[.string (rdOf ByteArray.empty t251 2)] rfl (by (try simp only [List.map_toArray, List.map_cons, List.map_nil]); first | done | rfl | (simp only [List.length_drop, List.length_take]; rfl)) ?_; (with_reducible refine (tollbarref05_Version.calls (rdOf ByteArray.empty t251 2) t264 t265 true _ A36.out).mono ?_); rintro e w' ⟨rfl, ⟨nd, rfl⟩⟩; (try clear A36); refine ⟨_, rfl, ?_⟩; (try (rw [drewN_self wc]; generalize hq_ : World.drewN wc _ = wc; have n0_ : Aside0 (Kd.R Kd.string 9 wc w.heap.size (fun _ => True) (.slice (some ad262) t251.length co40) t251) := ⟨by rw [← hq_]; exact (by (with_reducible repeat (first | apply Kd.R_alloc | apply Kd.R_drewN | apply Kd.R_drew)); exact HO_4.out)⟩; have n1_ : Aside0 (wc.heap[gb250]? = some (.cells #[.string (⟨#[]⟩ : ByteArray), .string (⟨#[]⟩ : ByteArray), .int .i64 0, .slice none 0 0, .slice none 0 0] 26 (0, 0))) := ⟨by rw [← hq_]; exact (by (with_reducible repeat (first | refine blk_drewN ?_ _ | refine blk_drew ?_ | refine blk_alloc ?_ _)); exact BK250.out)⟩; have n2_ : Aside0 (Below w.heap.size w wc) := ⟨by rw [← hq_]; exact (by repeat (first | (with_reducible first | exact HB.out | apply below_alloc | apply pw_below_drewN | apply below_drew1 | refine below_set ?_ GE250.out) | exact HB.out))⟩; clear HO_4 BK250 HB hq_; have HO_4 := n0_; have BK250 := n1_; have HB := n2_; clear n0_ n1_ n2_)); have hcz41_0 : wc.cell? ⟨gb250, 0, none⟩ = some (.string (⟨#[]⟩ : ByteArray)) := (blk_cell BK250.out 0).trans rfl; have hcz41_1 : wc.cell? ⟨gb250, 1, none⟩ = some (.string (⟨#[]⟩ : ByteArray)) := (blk_cell BK250.out 1).trans rfl; have hcz41_2 : wc.cell? ⟨gb250, 2, none⟩ = some (.int .i64 0) := (blk_cell BK250.out 2).trans rfl; have hcz41_3 : wc.cell? ⟨gb250, 3, none⟩ = some (.slice none 0 0) := (blk_cell BK250.out 3).trans rfl; have hcz41_4 : wc.cell? ⟨gb250, 4, none⟩ = some (.slice none 0 0) := (blk_cell BK250.out 4).trans rfl; have hfz41_0 := blk_frozen BK250.out 0; have hfz41_1 := blk_frozen BK250.out 1; have hfz41_2 := blk_frozen BK250.out 2; have hfz41_3 := blk_frozen BK250.out 3; have hfz41_4 := blk_frozen BK250.out 4))
                          refine bodyPost_ret (results_ct rfl _ _ gb250 26 #[.string (⟨#[]⟩ : ByteArray), .string (⟨#[]⟩ : ByteArray), .int .i64 0, .slice none 0 0, .slice none 0 0] (0, 0) _ rfl (by (with_reducible repeat (first | refine blk_drewN ?_ _ | refine blk_drew ?_ | refine blk_alloc ?_ _)); refine blk_put (cs := #[.string (⟨#[]⟩ : ByteArray), .string (⟨#[]⟩ : ByteArray), .int .i64 0, .slice none 0 0, .slice none 0 0]) ?_ 4 _ rfl; (with_reducible repeat (first | refine blk_drewN ?_ _ | refine blk_drew ?_ | refine blk_alloc ?_ _)); refine blk_put (cs := #[.string (⟨#[]⟩ : ByteArray), .string (⟨#[]⟩ : ByteArray), .int .i64 0, .slice none 0 0, .slice none 0 0]) ?_ 3 _ rfl; (with_reducible repeat (first | refine blk_drewN ?_ _ | refine blk_drew ?_ | refine blk_alloc ?_ _)); refine blk_put (cs := #[.string (⟨#[]⟩ : ByteArray), .string (⟨#[]⟩ : ByteArray), .int .i64 0, .slice none 0 0, .slice none 0 0]) ?_ 2 _ rfl; (with_reducible repeat (first | refine blk_drewN ?_ _ | refine blk_drew ?_ | refine blk_alloc ?_ _)); refine blk_put (cs := #[.string (⟨#[]⟩ : ByteArray), .string (⟨#[]⟩ : ByteArray), .int .i64 0, .slice none 0 0, .slice none 0 0]) ?_ 1 _ rfl; (with_reducible repeat (first | refine blk_drewN ?_ _ | refine blk_drew ?_ | refine blk_alloc ?_ _)); refine blk_put (cs := #[.string (⟨#[]⟩ : ByteArray), .string (⟨#[]⟩ : ByteArray), .int .i64 0, .slice none 0 0, .slice none 0 0]) ?_ 0 _ rfl; (with_reducible repeat (first | refine blk_drewN ?_ _ | refine blk_drew ?_ | refine blk_alloc ?_ _)); exact BK250.out) Tryd.underlying26 rfl (by kernel_rfl)) rfl ?_
                          exact ⟨_, _, by first | rfl | (simp [errW_none, errW_some] <;> rfl) | (simp [*, errW_none, errW_some] <;> rfl), by first | exact Kd.R_nil _ _ _ _ _ | exact Kd.N_nil _ _ _ _ _ | exact Kd.V_nil _ _ _ _ _ | exact Kd.Q_nil _ _ _ _ _ | exact Kd.S_nil _ _ _ _ _, by first | exact Kd.R_nil _ _ _ _ _ | exact Kd.N_nil _ _ _ _ _ | exact Kd.V_nil _ _ _ _ _ | exact Kd.Q_nil _ _ _ _ _ | exact Kd.S_nil _ _ _ _ _, by repeat (first | (with_reducible first | exact HB.out | apply below_alloc | apply pw_below_drewN | apply below_drew1 | refine below_set ?_ GE250.out) | exact HB.out)⟩
                        · rw [if_neg c39] at H
                          have c39b0 : decide (1 < t265) = false := decide_eq_false c39
                          clear c39
                          by_cases c42 : 0 < (t251.length : Int)
                          · rw [if_pos c42] at H
                            have c42b0 : decide (0 < (t251.length : Int)) = true := decide_eq_true c42
                            have c42b1 : decide (0 < t251.length) = true := decide_eq_true (by omega)
                            clear c42
                            simp only [Option.some.injEq, Prod.mk.injEq] at H
                            obtain ⟨rfl, rfl, rfl, rfl, rfl, rfl⟩ := H
                            obtain ⟨Ao43, co43, eo43⟩ := Kd.R_slice HO_4.out
                            subst eo43
                            have p262 : 0 ≤ (1 : Int) := (by omega)
                            have q262 : 1 < (t251.length : Int) := of_decide_eq_true (by first | (with_reducible assumption) | assumption)
                            obtain ⟨ad262, e262, hx262_0⟩ := Kd.at_string (Kd.R_reads' HO_4.out).2.2 1 p262 q262
                            cases e262
                            (try simp only [show (1 : Int).toNat = 1 from rfl, Nat.reduceMul, Nat.reduceEqDiff, Go.Addr.add, ↓reduceIte] at hx262_0)
                            have qi262 : (1 < t251.length) = True := eq_true (by omega)
                            (try rw [show ((1 : Int)).toNat = 1 from rfl] at hx262_0)
                            replace p262 := eq_true p262
                            replace q262 := eq_true q262
                            have p263 : 0 ≤ (2 : Int) := (by omega)
                            have q263 : 2 < (t251.length : Int) := of_decide_eq_true (by first | (with_reducible assumption) | assumption)
                            obtain ⟨ad263, e263, hx263_0⟩ := Kd.at_string (Kd.R_reads' HO_4.out).2.2 2 p263 q263
                            obtain rfl : ad262 = ad263 := (by injection e263)
                            (try simp only [show (2 : Int).toNat = 2 from rfl, Nat.reduceMul, Nat.reduceEqDiff, Go.Addr.add, ↓reduceIte] at hx263_0)
                            have qi263 : (2 < t251.length) = True := eq_true (by omega)
                            (try rw [show ((2 : Int)).toNat = 2 from rfl] at hx263_0)
                            replace p263 := eq_true p263
                            replace q263 := eq_true q263
                            try go_wp2_with (first | ((with_reducible refine gate_callee (f := 43) rfl ?_); refine goesL_ (some 63) rfl rfl Tryd.func43 (by kernel_rfl) rfl #[.string (rdOf ByteArray.empty t251 2)] rfl (by (try simp only [List.map_toArray, List.map_cons, List.map_nil]); first | done | rfl | (simp only [List.length_drop, List.length_take]; rfl)) ?_; (with_reducible refine (tollbarref05_Version.calls (rdOf ByteArray.empty t251 2) t264 t265 true _ A36.out).mono ?_); rintro e w' ⟨rfl, ⟨nd, rfl⟩⟩; (try clear A36); refine ⟨_, rfl, ?_⟩; (try (rw [drewN_self wc]; generalize hq_ : World.drewN wc _ = wc; have n0_ : Aside0 (Kd.R Kd.string 9 wc w.heap.size (fun _ => True) (.slice (some ad262) t251.length co43) t251) := ⟨by rw [← hq_]; exact (by (with_reducible repeat (first | apply Kd.R_alloc | apply Kd.R_drewN | apply Kd.R_drew)); exact HO_4.out)⟩; have n1_ : Aside0 (wc.heap[gb250]? = some (.cells #[.string (⟨#[]⟩ : ByteArray), .string (⟨#[]⟩ : ByteArray), .int .i64 0, .slice none 0 0, .slice none 0 0] 26 (0, 0))) := ⟨by rw [← hq_]; exact (by (with_reducible repeat (first | refine blk_drewN ?_ _ | refine blk_drew ?_ | refine blk_alloc ?_ _)); exact BK250.out)⟩; have n2_ : Aside0 (Below w.heap.size w wc) := ⟨by rw [← hq_]; exact (by repeat (first | (with_reducible first | exact HB.out | apply below_alloc | apply pw_below_drewN | apply below_drew1 | refine below_set ?_ GE250.out) | exact HB.out))⟩; clear HO_4 BK250 HB hq_; have HO_4 := n0_; have BK250 := n1_; have HB := n2_; clear n0_ n1_ n2_))))
                            have n0_ := Aside0.mk (Kd.R_drew HO_4.out)
                            have n1_ := Aside0.mk (blk_drew BK250.out)
                            have n2_ := Aside0.mk (below_drew1 HB.out)
                            clear HO_4
                            clear BK250
                            clear HB
                            have HO_4 := n0_
                            have BK250 := n1_
                            have HB := n2_
                            clear n0_ n1_ n2_
                            have p267 : 0 ≤ (0 : Int) := (by omega)
                            have q267 : 0 < (t251.length : Int) := of_decide_eq_true (by first | (with_reducible assumption) | assumption)
                            obtain ⟨ad267, e267, hx267_0⟩ := Kd.at_string (Kd.R_reads' HO_4.out).2.2 0 p267 q267
                            obtain rfl : ad262 = ad267 := (by injection e267)
                            have qi267 : (0 < t251.length) = True := eq_true (by omega)
                            (try rw [show ((0 : Int)).toNat = 0 from rfl] at hx267_0)
                            (try rw [Addr.add_zero'] at hx267_0)
                            replace p267 := eq_true p267
                            replace q267 := eq_true q267
                            have p268 : 0 ≤ (1 : Int) := (by omega)
                            have q268 : 1 < (t251.length : Int) := of_decide_eq_true (by first | (with_reducible assumption) | assumption)
                            obtain ⟨ad268, e268, hx268_0⟩ := Kd.at_string (Kd.R_reads' HO_4.out).2.2 1 p268 q268
                            obtain rfl : ad262 = ad268 := (by injection e268)
                            (try simp only [show (1 : Int).toNat = 1 from rfl, Nat.reduceMul, Nat.reduceEqDiff, Go.Addr.add, ↓reduceIte] at hx268_0)
                            have qi268 : (1 < t251.length) = True := eq_true (by omega)
                            (try rw [show ((1 : Int)).toNat = 1 from rfl] at hx268_0)
                            replace p268 := eq_true p268
                            replace q268 := eq_true q268
                            refine start_ (n := 10) (S := fun w' => w'.cell? ad262 = some (.string (rdOf ByteArray.empty t251 0)) ∧ w'.cell? ⟨ad262.block, ad262.off + 1, none⟩ = some (.string (rdOf ByteArray.empty t251 1))) (ds := []) #[false, false, false, false, false, false, false, false, false, false] (by kernel_rfl) rfl rfl ⟨hx267_0, hx268_0⟩ (fun hHeld => ?_); refine with_tabW tollbarref05_Request.tab13 tollbarref05_Request.bits13 (fun HT_ HW_ => ?_)
                            generalize wc.drew = w44 at HO_4 BK250 HB hx267_0 hx268_0 hHeld ⊢
                            refine pure_ (i := 0) (N := some 77) (v := ?_) (a' := ?_) #[true, false, false, false, false, false, false, false, false, false] rfl rfl (any_of HT_.out (by kernel_rfl)) (fun _ _ _ h => h) (Or.inl ⟨by rfl, ?_⟩) ?_ ?_
                            rotate_left
                            · intro w'
                              go_simp
                              with_reducible rfl
                            rotate_left
                            · simp only [Act.put, List.setIfInBounds_toArray, List.set_cons_zero, List.set_cons_succ, i64_w, i32_w]
                              rfl
                            refine pure_ (i := 1) (N := some 78) (v := ?_) (a' := ?_) #[true, true, false, false, false, false, false, false, false, false] rfl rfl (any_of HT_.out (by kernel_rfl)) (fun _ _ _ h => h) (Or.inl ⟨by rfl, ?_⟩) ?_ ?_
                            rotate_left
                            · intro w'
                              go_simp
                              with_reducible rfl
                            rotate_left
                            · simp only [Act.put, List.setIfInBounds_toArray, List.set_cons_zero, List.set_cons_succ, i64_w, i32_w]
                              rfl
                            refine pure_ (i := 3) (N := some 80) (v := ?_) (a' := ?_) #[true, true, false, true, false, false, false, false, false, false] rfl rfl (any_of HT_.out (by kernel_rfl)) (fun _ _ _ h => h) (Or.inl ⟨by rfl, ?_⟩) ?_ ?_
                            rotate_left
                            · intro w'
                              go_simp
                              with_reducible rfl
                            rotate_left
                            · simp only [Act.put, List.setIfInBounds_toArray, List.set_cons_zero, List.set_cons_succ, i64_w, i32_w]
                              rfl
                            refine pure_ (i := 4) (N := some 81) (v := ?_) (a' := ?_) #[true, true, false, true, true, false, false, false, false, false] rfl rfl (any_of HT_.out (by kernel_rfl)) (fun _ _ _ h => h) (Or.inl ⟨by rfl, ?_⟩) ?_ ?_
                            rotate_left
                            · intro w'
                              go_simp
                              with_reducible rfl
                            rotate_left
                            · simp only [Act.put, List.setIfInBounds_toArray, List.set_cons_zero, List.set_cons_succ, i64_w, i32_w]
                              rfl
                            refine pure_ (i := 6) (N := some 83) (v := ?_) (a' := ?_) #[true, true, false, true, true, false, true, false, false, false] rfl rfl (any_of HT_.out (by kernel_rfl)) (fun _ _ _ h => h) (Or.inl ⟨by rfl, ?_⟩) ?_ ?_
                            rotate_left
                            · intro w'
                              go_simp
                              with_reducible rfl
                            rotate_left
                            · simp only [Act.put, List.setIfInBounds_toArray, List.set_cons_zero, List.set_cons_succ, i64_w, i32_w]
                              rfl
                            refine take_ (i := 2) (N := some 79) (v := ?_) (a' := ?_) #[true, true, true, true, true, false, true, false, false, false] rfl rfl (take_ofW HT_.out HW_.out (by kernel_rfl)) (fun _ _ _ h => h) (Or.inl ⟨by rfl, ?_⟩) hHeld ?_ ?_
                            rotate_left
                            · rintro w' ⟨s0, s1⟩
                              go_simp
                              with_reducible rfl
                            rotate_left
                            · simp only [Act.put, List.setIfInBounds_toArray, List.set_cons_zero, List.set_cons_succ, i64_w, i32_w]
                              rfl
                            refine take_ (i := 5) (N := some 82) (v := ?_) (a' := ?_) #[true, true, true, true, true, true, true, false, false, false] rfl rfl (take_ofW HT_.out HW_.out (by kernel_rfl)) (fun _ _ _ h => h) (Or.inl ⟨by rfl, ?_⟩) hHeld ?_ ?_
                            rotate_left
                            · rintro w' ⟨s0, s1⟩
                              go_simp
                              with_reducible rfl
                            rotate_left
                            · simp only [Act.put, List.setIfInBounds_toArray, List.set_cons_zero, List.set_cons_succ, i64_w, i32_w]
                              rfl
                            refine pure_ (i := 7) (N := some 84) (v := ?_) (a' := ?_) #[true, true, true, true, true, true, true, true, false, false] rfl rfl (any_of HT_.out (by kernel_rfl)) (fun _ _ _ h => h) (Or.inl ⟨by rfl, ?_⟩) ?_ ?_
                            rotate_left
                            · intro w'
                              go_simp
                              with_reducible rfl
                            rotate_left
                            · simp only [Act.put, List.setIfInBounds_toArray, List.set_cons_zero, List.set_cons_succ, i64_w, i32_w]
                              rfl
                            refine one_ (i := 8) (N := none) #[true, true, true, true, true, true, true, true, true, false] rfl rfl (one_of HT_.out (by kernel_rfl)) (by decide) (fun K hK => ?_)
                            have hs45 : w44.cell? ⟨gb250, 0, none⟩ = some (.string (⟨#[]⟩ : ByteArray)) := (blk_cell BK250.out 0).trans rfl
                            have hfs45 := blk_frozen BK250.out 0
                            have hs46 : w44.cell? ⟨gb250, 1, none⟩ = some (.string (⟨#[]⟩ : ByteArray)) := (blk_cell BK250.out 1).trans rfl
                            have hfs46 := blk_frozen BK250.out 1
                            have hs47 : w44.cell? ⟨gb250, 2, none⟩ = some (.int .i64 0) := (blk_cell BK250.out 2).trans rfl
                            have hfs47 := blk_frozen BK250.out 2
                            have hs48 : w44.cell? ⟨gb250, 3, none⟩ = some (.slice none 0 0) := (blk_cell BK250.out 3).trans rfl
                            have hfs48 := blk_frozen BK250.out 3
                            have hs49 : w44.cell? ⟨gb250, 4, none⟩ = some (.slice none 0 0) := (blk_cell BK250.out 4).trans rfl
                            have hfs49 := blk_frozen BK250.out 4
                            refine skip_ (w1 := ?_) (by rfl) rfl ?_ ?_
                            rotate_left
                            · go_simp
                              rfl
                            refine hK.out _ _ ⟨((cell_far (p := ⟨gb250, _, none⟩) (by first | exact Kd.own_blk (Kd.R_ne HO_4.out BK250.out (by decide)) | (rw [add_block]; exact Kd.own_blk (Kd.R_ne HO_4.out BK250.out (by decide))) | (show (Addr.add _ _).block ≠ _; rw [add_block]; exact Kd.own_blk (Kd.R_ne HO_4.out BK250.out (by decide))) | (dsimp only; exact Kd.own_blk (Kd.R_ne HO_4.out BK250.out (by decide)))) _).trans (((cell_far (p := ⟨gb250, _, none⟩) (by first | exact Kd.own_blk (Kd.R_ne HO_4.out BK250.out (by decide)) | (rw [add_block]; exact Kd.own_blk (Kd.R_ne HO_4.out BK250.out (by decide))) | (show (Addr.add _ _).block ≠ _; rw [add_block]; exact Kd.own_blk (Kd.R_ne HO_4.out BK250.out (by decide))) | (dsimp only; exact Kd.own_blk (Kd.R_ne HO_4.out BK250.out (by decide)))) _).trans (((cell_far (p := ⟨gb250, _, none⟩) (by first | exact Kd.own_blk (Kd.R_ne HO_4.out BK250.out (by decide)) | (rw [add_block]; exact Kd.own_blk (Kd.R_ne HO_4.out BK250.out (by decide))) | (show (Addr.add _ _).block ≠ _; rw [add_block]; exact Kd.own_blk (Kd.R_ne HO_4.out BK250.out (by decide))) | (dsimp only; exact Kd.own_blk (Kd.R_ne HO_4.out BK250.out (by decide)))) _).trans (((cell_far (p := ⟨gb250, _, none⟩) (by first | exact Kd.own_blk (Kd.R_ne HO_4.out BK250.out (by decide)) | (rw [add_block]; exact Kd.own_blk (Kd.R_ne HO_4.out BK250.out (by decide))) | (show (Addr.add _ _).block ≠ _; rw [add_block]; exact Kd.own_blk (Kd.R_ne HO_4.out BK250.out (by decide))) | (dsimp only; exact Kd.own_blk (Kd.R_ne HO_4.out BK250.out (by decide)))) _).trans (((cell_far (p := ⟨gb250, _, none⟩) (by first | exact Kd.own_blk (Kd.R_ne HO_4.out BK250.out (by decide)) | (rw [add_block]; exact Kd.own_blk (Kd.R_ne HO_4.out BK250.out (by decide))) | (show (Addr.add _ _).block ≠ _; rw [add_block]; exact Kd.own_blk (Kd.R_ne HO_4.out BK250.out (by decide))) | (dsimp only; exact Kd.own_blk (Kd.R_ne HO_4.out BK250.out (by decide)))) _).trans (hHeld.1)))))))))), ((cell_far (p := ⟨gb250, _, none⟩) (by first | exact Kd.own_blk (Kd.R_ne HO_4.out BK250.out (by decide)) | (rw [add_block]; exact Kd.own_blk (Kd.R_ne HO_4.out BK250.out (by decide))) | (show (Addr.add _ _).block ≠ _; rw [add_block]; exact Kd.own_blk (Kd.R_ne HO_4.out BK250.out (by decide))) | (dsimp only; exact Kd.own_blk (Kd.R_ne HO_4.out BK250.out (by decide)))) _).trans (((cell_far (p := ⟨gb250, _, none⟩) (by first | exact Kd.own_blk (Kd.R_ne HO_4.out BK250.out (by decide)) | (rw [add_block]; exact Kd.own_blk (Kd.R_ne HO_4.out BK250.out (by decide))) | (show (Addr.add _ _).block ≠ _; rw [add_block]; exact Kd.own_blk (Kd.R_ne HO_4.out BK250.out (by decide))) | (dsimp only; exact Kd.own_blk (Kd.R_ne HO_4.out BK250.out (by decide)))) _).trans (((cell_far (p := ⟨gb250, _, none⟩) (by first | exact Kd.own_blk (Kd.R_ne HO_4.out BK250.out (by decide)) | (rw [add_block]; exact Kd.own_blk (Kd.R_ne HO_4.out BK250.out (by decide))) | (show (Addr.add _ _).block ≠ _; rw [add_block]; exact Kd.own_blk (Kd.R_ne HO_4.out BK250.out (by decide))) | (dsimp only; exact Kd.own_blk (Kd.R_ne HO_4.out BK250.out (by decide)))) _).trans (((cell_far (p := ⟨gb250, _, none⟩) (by first | exact Kd.own_blk (Kd.R_ne HO_4.out BK250.out (by decide)) | (rw [add_block]; exact Kd.own_blk (Kd.R_ne HO_4.out BK250.out (by decide))) | (show (Addr.add _ _).block ≠ _; rw [add_block]; exact Kd.own_blk (Kd.R_ne HO_4.out BK250.out (by decide))) | (dsimp only; exact Kd.own_blk (Kd.R_ne HO_4.out BK250.out (by decide)))) _).trans (((cell_far (p := ⟨gb250, _, none⟩) (by first | exact Kd.own_blk (Kd.R_ne HO_4.out BK250.out (by decide)) | (rw [add_block]; exact Kd.own_blk (Kd.R_ne HO_4.out BK250.out (by decide))) | (show (Addr.add _ _).block ≠ _; rw [add_block]; exact Kd.own_blk (Kd.R_ne HO_4.out BK250.out (by decide))) | (dsimp only; exact Kd.own_blk (Kd.R_ne HO_4.out BK250.out (by decide)))) _).trans (hHeld.2))))))))))⟩ (fun hHeld => ?_)
                            clear hK K
                            refine pure_ (i := 9) (N := some 3) (v := ?_) (a' := ?_) #[true, true, true, true, true, true, true, true, true, true] rfl rfl (any_of HT_.out (by kernel_rfl)) (fun _ _ _ h => h) (Or.inl ⟨by rfl, ?_⟩) ?_ ?_
                            rotate_left
                            · intro w'
                              go_simp
                              with_reducible rfl
                            rotate_left
                            · simp only [Act.put, List.setIfInBounds_toArray, List.set_cons_zero, List.set_cons_succ, i64_w, i32_w]
                              rfl
                            refine done_ (done_of HT_.out (by kernel_rfl)) ?_
                            try go_wp2
                            refine bodyPost_ret (results_ct rfl _ _ gb250 26 #[.string (rdOf ByteArray.empty t251 0), .string (rdOf ByteArray.empty t251 1), .int .i64 t265, .slice none 0 0, .slice none 0 0] (0, 0) _ rfl (by (with_reducible repeat (first | refine blk_drewN ?_ _ | refine blk_drew ?_ | refine blk_alloc ?_ _)); refine blk_put (cs := #[.string (rdOf ByteArray.empty t251 0), .string (rdOf ByteArray.empty t251 1), .int .i64 t265, .slice none 0 0, .slice none 0 0]) ?_ 4 _ rfl; (with_reducible repeat (first | refine blk_drewN ?_ _ | refine blk_drew ?_ | refine blk_alloc ?_ _)); refine blk_put (cs := #[.string (rdOf ByteArray.empty t251 0), .string (rdOf ByteArray.empty t251 1), .int .i64 t265, .slice none 0 0, .slice none 0 0]) ?_ 3 _ rfl; (with_reducible repeat (first | refine blk_drewN ?_ _ | refine blk_drew ?_ | refine blk_alloc ?_ _)); refine blk_put (cs := #[.string (rdOf ByteArray.empty t251 0), .string (rdOf ByteArray.empty t251 1), .int .i64 0, .slice none 0 0, .slice none 0 0]) ?_ 2 _ rfl; (with_reducible repeat (first | refine blk_drewN ?_ _ | refine blk_drew ?_ | refine blk_alloc ?_ _)); refine blk_put (cs := #[.string (rdOf ByteArray.empty t251 0), .string (⟨#[]⟩ : ByteArray), .int .i64 0, .slice none 0 0, .slice none 0 0]) ?_ 1 _ rfl; (with_reducible repeat (first | refine blk_drewN ?_ _ | refine blk_drew ?_ | refine blk_alloc ?_ _)); refine blk_put (cs := #[.string (⟨#[]⟩ : ByteArray), .string (⟨#[]⟩ : ByteArray), .int .i64 0, .slice none 0 0, .slice none 0 0]) ?_ 0 _ rfl; (with_reducible repeat (first | refine blk_drewN ?_ _ | refine blk_drew ?_ | refine blk_alloc ?_ _)); exact BK250.out) Tryd.underlying26 rfl (by kernel_rfl)) rfl ?_
                            exact ⟨_, _, by first | rfl | (simp [errW_none, errW_some] <;> rfl) | (simp [*, errW_none, errW_some] <;> rfl), by first | exact Kd.R_nil _ _ _ _ _ | exact Kd.N_nil _ _ _ _ _ | exact Kd.V_nil _ _ _ _ _ | exact Kd.Q_nil _ _ _ _ _ | exact Kd.S_nil _ _ _ _ _, by first | exact Kd.R_nil _ _ _ _ _ | exact Kd.N_nil _ _ _ _ _ | exact Kd.V_nil _ _ _ _ _ | exact Kd.Q_nil _ _ _ _ _ | exact Kd.S_nil _ _ _ _ _, by repeat (first | (with_reducible first | exact HB.out | apply below_alloc | apply pw_below_drewN | apply below_drew1 | refine below_set ?_ GE250.out) | exact HB.out)⟩
                          · rw [if_neg c42] at H
                            exact absurd H (by simp)
                      · rw [if_neg c38] at H
                        have c38b0 : (t264 == 1) = false := beq_eq_false_iff_ne.mpr c38
                        have c38b1 : (t264 != 1) = true := bne_iff_ne.mpr c38
                        simp only [Option.some.injEq, Prod.mk.injEq] at H
                        obtain ⟨rfl, rfl, rfl, rfl, rfl, rfl⟩ := H
                        obtain ⟨Ao50, co50, eo50⟩ := Kd.R_slice HO_4.out
                        subst eo50
                        have p262 : 0 ≤ (1 : Int) := (by omega)
                        have q262 : 1 < (t251.length : Int) := of_decide_eq_true (by first | (with_reducible assumption) | assumption)
                        obtain ⟨ad262, e262, hx262_0⟩ := Kd.at_string (Kd.R_reads' HO_4.out).2.2 1 p262 q262
                        cases e262
                        (try simp only [show (1 : Int).toNat = 1 from rfl, Nat.reduceMul, Nat.reduceEqDiff, Go.Addr.add, ↓reduceIte] at hx262_0)
                        have qi262 : (1 < t251.length) = True := eq_true (by omega)
                        (try rw [show ((1 : Int)).toNat = 1 from rfl] at hx262_0)
                        replace p262 := eq_true p262
                        replace q262 := eq_true q262
                        have p263 : 0 ≤ (2 : Int) := (by omega)
                        have q263 : 2 < (t251.length : Int) := of_decide_eq_true (by first | (with_reducible assumption) | assumption)
                        obtain ⟨ad263, e263, hx263_0⟩ := Kd.at_string (Kd.R_reads' HO_4.out).2.2 2 p263 q263
                        obtain rfl : ad262 = ad263 := (by injection e263)
                        (try simp only [show (2 : Int).toNat = 2 from rfl, Nat.reduceMul, Nat.reduceEqDiff, Go.Addr.add, ↓reduceIte] at hx263_0)
                        have qi263 : (2 < t251.length) = True := eq_true (by omega)
                        (try rw [show ((2 : Int)).toNat = 2 from rfl] at hx263_0)
                        replace p263 := eq_true p263
                        replace q263 := eq_true q263
                        go_wp2_with (first | ((with_reducible refine gate_callee (f := 43) rfl ?_); refine goesL_ (some 63) rfl rfl Tryd.func43 (by kernel_rfl) rfl #[.string (rdOf ByteArray.empty t251 2)] rfl (by (try simp only [List.map_toArray, List.map_cons, List.map_nil]); first | done | rfl | (simp only [List.length_drop, List.length_take]; rfl)) ?_; (with_reducible refine (tollbarref05_Version.calls (rdOf ByteArray.empty t251 2) t264 t265 true _ A36.out).mono ?_); rintro e w' ⟨rfl, ⟨nd, rfl⟩⟩; (try clear A36); refine ⟨_, rfl, ?_⟩; (try (rw [drewN_self wc]; generalize hq_ : World.drewN wc _ = wc; have n0_ : Aside0 (Kd.R Kd.string 9 wc w.heap.size (fun _ => True) (.slice (some ad262) t251.length co50) t251) := ⟨by rw [← hq_]; exact (by (with_reducible repeat (first | apply Kd.R_alloc | apply Kd.R_drewN | apply Kd.R_drew)); exact HO_4.out)⟩; have n1_ : Aside0 (wc.heap[gb250]? = some (.cells #[.string (⟨#[]⟩ : ByteArray), .string (⟨#[]⟩ : ByteArray), .int .i64 0, .slice none 0 0, .slice none 0 0] 26 (0, 0))) := ⟨by rw [← hq_]; exact (by (with_reducible repeat (first | refine blk_drewN ?_ _ | refine blk_drew ?_ | refine blk_alloc ?_ _)); exact BK250.out)⟩; have n2_ : Aside0 (Below w.heap.size w wc) := ⟨by rw [← hq_]; exact (by repeat (first | (with_reducible first | exact HB.out | apply below_alloc | apply pw_below_drewN | apply below_drew1 | refine below_set ?_ GE250.out) | exact HB.out))⟩; clear HO_4 BK250 HB hq_; have HO_4 := n0_; have BK250 := n1_; have HB := n2_; clear n0_ n1_ n2_)); have hcz51_0 : wc.cell? ⟨gb250, 0, none⟩ = some (.string (⟨#[]⟩ : ByteArray)) := (blk_cell BK250.out 0).trans rfl; have hcz51_1 : wc.cell? ⟨gb250, 1, none⟩ = some (.string (⟨#[]⟩ : ByteArray)) := (blk_cell BK250.out 1).trans rfl; have hcz51_2 : wc.cell? ⟨gb250, 2, none⟩ = some (.int .i64 0) := (blk_cell BK250.out 2).trans rfl; have hcz51_3 : wc.cell? ⟨gb250, 3, none⟩ = some (.slice none 0 0) := (blk_cell BK250.out 3).trans rfl; have hcz51_4 : wc.cell? ⟨gb250, 4, none⟩ = some (.slice none 0 0) := (blk_cell BK250.out 4).trans rfl; have hfz51_0 := blk_frozen BK250.out 0; have hfz51_1 := blk_frozen BK250.out 1; have hfz51_2 := blk_frozen BK250.out 2; have hfz51_3 := blk_frozen BK250.out 3; have hfz51_4 := blk_frozen BK250.out 4))
                        refine bodyPost_ret (results_ct rfl _ _ gb250 26 #[.string (⟨#[]⟩ : ByteArray), .string (⟨#[]⟩ : ByteArray), .int .i64 0, .slice none 0 0, .slice none 0 0] (0, 0) _ rfl (by (with_reducible repeat (first | refine blk_drewN ?_ _ | refine blk_drew ?_ | refine blk_alloc ?_ _)); refine blk_put (cs := #[.string (⟨#[]⟩ : ByteArray), .string (⟨#[]⟩ : ByteArray), .int .i64 0, .slice none 0 0, .slice none 0 0]) ?_ 4 _ rfl; (with_reducible repeat (first | refine blk_drewN ?_ _ | refine blk_drew ?_ | refine blk_alloc ?_ _)); refine blk_put (cs := #[.string (⟨#[]⟩ : ByteArray), .string (⟨#[]⟩ : ByteArray), .int .i64 0, .slice none 0 0, .slice none 0 0]) ?_ 3 _ rfl; (with_reducible repeat (first | refine blk_drewN ?_ _ | refine blk_drew ?_ | refine blk_alloc ?_ _)); refine blk_put (cs := #[.string (⟨#[]⟩ : ByteArray), .string (⟨#[]⟩ : ByteArray), .int .i64 0, .slice none 0 0, .slice none 0 0]) ?_ 2 _ rfl; (with_reducible repeat (first | refine blk_drewN ?_ _ | refine blk_drew ?_ | refine blk_alloc ?_ _)); refine blk_put (cs := #[.string (⟨#[]⟩ : ByteArray), .string (⟨#[]⟩ : ByteArray), .int .i64 0, .slice none 0 0, .slice none 0 0]) ?_ 1 _ rfl; (with_reducible repeat (first | refine blk_drewN ?_ _ | refine blk_drew ?_ | refine blk_alloc ?_ _)); refine blk_put (cs := #[.string (⟨#[]⟩ : ByteArray), .string (⟨#[]⟩ : ByteArray), .int .i64 0, .slice none 0 0, .slice none 0 0]) ?_ 0 _ rfl; (with_reducible repeat (first | refine blk_drewN ?_ _ | refine blk_drew ?_ | refine blk_alloc ?_ _)); exact BK250.out) Tryd.underlying26 rfl (by kernel_rfl)) rfl ?_
                        exact ⟨_, _, by first | rfl | (simp [errW_none, errW_some] <;> rfl) | (simp [*, errW_none, errW_some] <;> rfl), by first | exact Kd.R_nil _ _ _ _ _ | exact Kd.N_nil _ _ _ _ _ | exact Kd.V_nil _ _ _ _ _ | exact Kd.Q_nil _ _ _ _ _ | exact Kd.S_nil _ _ _ _ _, by first | exact Kd.R_nil _ _ _ _ _ | exact Kd.N_nil _ _ _ _ _ | exact Kd.V_nil _ _ _ _ _ | exact Kd.Q_nil _ _ _ _ _ | exact Kd.S_nil _ _ _ _ _, by repeat (first | (with_reducible first | exact HB.out | apply below_alloc | apply pw_below_drewN | apply below_drew1 | refine below_set ?_ GE250.out) | exact HB.out)⟩
                    · replace c37 := Bool.eq_false_iff.mpr c37
                      subst c37
                      have H1 : (some ((⟨#[]⟩ : ByteArray), (⟨#[]⟩ : ByteArray), 0, ([] : List (S84)), ([] : List Int), 400)) = some (r1, r2, r3, r4, r5, r6) := by rw [if_neg (show ¬ (false = true) by decide)] at H; exact H
                      clear H
                      have H := H1
                      clear H1
                      simp only [Option.some.injEq, Prod.mk.injEq] at H
                      obtain ⟨rfl, rfl, rfl, rfl, rfl, rfl⟩ := H
                      obtain ⟨Ao52, co52, eo52⟩ := Kd.R_slice HO_4.out
                      subst eo52
                      have p262 : 0 ≤ (1 : Int) := (by omega)
                      have q262 : 1 < (t251.length : Int) := of_decide_eq_true (by first | (with_reducible assumption) | assumption)
                      obtain ⟨ad262, e262, hx262_0⟩ := Kd.at_string (Kd.R_reads' HO_4.out).2.2 1 p262 q262
                      cases e262
                      (try simp only [show (1 : Int).toNat = 1 from rfl, Nat.reduceMul, Nat.reduceEqDiff, Go.Addr.add, ↓reduceIte] at hx262_0)
                      have qi262 : (1 < t251.length) = True := eq_true (by omega)
                      (try rw [show ((1 : Int)).toNat = 1 from rfl] at hx262_0)
                      replace p262 := eq_true p262
                      replace q262 := eq_true q262
                      have p263 : 0 ≤ (2 : Int) := (by omega)
                      have q263 : 2 < (t251.length : Int) := of_decide_eq_true (by first | (with_reducible assumption) | assumption)
                      obtain ⟨ad263, e263, hx263_0⟩ := Kd.at_string (Kd.R_reads' HO_4.out).2.2 2 p263 q263
                      obtain rfl : ad262 = ad263 := (by injection e263)
                      (try simp only [show (2 : Int).toNat = 2 from rfl, Nat.reduceMul, Nat.reduceEqDiff, Go.Addr.add, ↓reduceIte] at hx263_0)
                      have qi263 : (2 < t251.length) = True := eq_true (by omega)
                      (try rw [show ((2 : Int)).toNat = 2 from rfl] at hx263_0)
                      replace p263 := eq_true p263
                      replace q263 := eq_true q263
                      go_wp2_with (first | ((with_reducible refine gate_callee (f := 43) rfl ?_); refine goesL_ (some 63) rfl rfl Tryd.func43 (by kernel_rfl) rfl #[.string (rdOf ByteArray.empty t251 2)] rfl (by (try simp only [List.map_toArray, List.map_cons, List.map_nil]); first | done | rfl | (simp only [List.length_drop, List.length_take]; rfl)) ?_; (with_reducible refine (tollbarref05_Version.calls (rdOf ByteArray.empty t251 2) t264 t265 false _ A36.out).mono ?_); rintro e w' ⟨rfl, ⟨nd, rfl⟩⟩; (try clear A36); refine ⟨_, rfl, ?_⟩; (try (rw [drewN_self wc]; generalize hq_ : World.drewN wc _ = wc; have n0_ : Aside0 (Kd.R Kd.string 9 wc w.heap.size (fun _ => True) (.slice (some ad262) t251.length co52) t251) := ⟨by rw [← hq_]; exact (by (with_reducible repeat (first | apply Kd.R_alloc | apply Kd.R_drewN | apply Kd.R_drew)); exact HO_4.out)⟩; have n1_ : Aside0 (wc.heap[gb250]? = some (.cells #[.string (⟨#[]⟩ : ByteArray), .string (⟨#[]⟩ : ByteArray), .int .i64 0, .slice none 0 0, .slice none 0 0] 26 (0, 0))) := ⟨by rw [← hq_]; exact (by (with_reducible repeat (first | refine blk_drewN ?_ _ | refine blk_drew ?_ | refine blk_alloc ?_ _)); exact BK250.out)⟩; have n2_ : Aside0 (Below w.heap.size w wc) := ⟨by rw [← hq_]; exact (by repeat (first | (with_reducible first | exact HB.out | apply below_alloc | apply pw_below_drewN | apply below_drew1 | refine below_set ?_ GE250.out) | exact HB.out))⟩; clear HO_4 BK250 HB hq_; have HO_4 := n0_; have BK250 := n1_; have HB := n2_; clear n0_ n1_ n2_)); have hcz53_0 : wc.cell? ⟨gb250, 0, none⟩ = some (.string (⟨#[]⟩ : ByteArray)) := (blk_cell BK250.out 0).trans rfl; have hcz53_1 : wc.cell? ⟨gb250, 1, none⟩ = some (.string (⟨#[]⟩ : ByteArray)) := (blk_cell BK250.out 1).trans rfl; have hcz53_2 : wc.cell? ⟨gb250, 2, none⟩ = some (.int .i64 0) := (blk_cell BK250.out 2).trans rfl; have hcz53_3 : wc.cell? ⟨gb250, 3, none⟩ = some (.slice none 0 0) := (blk_cell BK250.out 3).trans rfl; have hcz53_4 : wc.cell? ⟨gb250, 4, none⟩ = some (.slice none 0 0) := (blk_cell BK250.out 4).trans rfl; have hfz53_0 := blk_frozen BK250.out 0; have hfz53_1 := blk_frozen BK250.out 1; have hfz53_2 := blk_frozen BK250.out 2; have hfz53_3 := blk_frozen BK250.out 3; have hfz53_4 := blk_frozen BK250.out 4))
                      refine bodyPost_ret (results_ct rfl _ _ gb250 26 #[.string (⟨#[]⟩ : ByteArray), .string (⟨#[]⟩ : ByteArray), .int .i64 0, .slice none 0 0, .slice none 0 0] (0, 0) _ rfl (by (with_reducible repeat (first | refine blk_drewN ?_ _ | refine blk_drew ?_ | refine blk_alloc ?_ _)); refine blk_put (cs := #[.string (⟨#[]⟩ : ByteArray), .string (⟨#[]⟩ : ByteArray), .int .i64 0, .slice none 0 0, .slice none 0 0]) ?_ 4 _ rfl; (with_reducible repeat (first | refine blk_drewN ?_ _ | refine blk_drew ?_ | refine blk_alloc ?_ _)); refine blk_put (cs := #[.string (⟨#[]⟩ : ByteArray), .string (⟨#[]⟩ : ByteArray), .int .i64 0, .slice none 0 0, .slice none 0 0]) ?_ 3 _ rfl; (with_reducible repeat (first | refine blk_drewN ?_ _ | refine blk_drew ?_ | refine blk_alloc ?_ _)); refine blk_put (cs := #[.string (⟨#[]⟩ : ByteArray), .string (⟨#[]⟩ : ByteArray), .int .i64 0, .slice none 0 0, .slice none 0 0]) ?_ 2 _ rfl; (with_reducible repeat (first | refine blk_drewN ?_ _ | refine blk_drew ?_ | refine blk_alloc ?_ _)); refine blk_put (cs := #[.string (⟨#[]⟩ : ByteArray), .string (⟨#[]⟩ : ByteArray), .int .i64 0, .slice none 0 0, .slice none 0 0]) ?_ 1 _ rfl; (with_reducible repeat (first | refine blk_drewN ?_ _ | refine blk_drew ?_ | refine blk_alloc ?_ _)); refine blk_put (cs := #[.string (⟨#[]⟩ : ByteArray), .string (⟨#[]⟩ : ByteArray), .int .i64 0, .slice none 0 0, .slice none 0 0]) ?_ 0 _ rfl; (with_reducible repeat (first | refine blk_drewN ?_ _ | refine blk_drew ?_ | refine blk_alloc ?_ _)); exact BK250.out) Tryd.underlying26 rfl (by kernel_rfl)) rfl ?_
                      exact ⟨_, _, by first | rfl | (simp [errW_none, errW_some] <;> rfl) | (simp [*, errW_none, errW_some] <;> rfl), by first | exact Kd.R_nil _ _ _ _ _ | exact Kd.N_nil _ _ _ _ _ | exact Kd.V_nil _ _ _ _ _ | exact Kd.Q_nil _ _ _ _ _ | exact Kd.S_nil _ _ _ _ _, by first | exact Kd.R_nil _ _ _ _ _ | exact Kd.N_nil _ _ _ _ _ | exact Kd.V_nil _ _ _ _ _ | exact Kd.Q_nil _ _ _ _ _ | exact Kd.S_nil _ _ _ _ _, by repeat (first | (with_reducible first | exact HB.out | apply below_alloc | apply pw_below_drewN | apply below_drew1 | refine below_set ?_ GE250.out) | exact HB.out)⟩
                  · rw [if_neg c35] at H
                    exact absurd H (by simp)
              · rw [if_neg c31] at H
                exact absurd H (by simp)

end Go.Proofs.YtjgpifjfaiaidaaDoor.P

