/- Each function below answers as its Lean twin says. No further condition. (Laid by this repo's packseat.py out of the seat's texts and of the print's words.) -/
import Derived.Test.YtjgpifjfaiaidaaDoorU0base0x0
import Derived.Test.YtjgpifjfaiaidaaDoorUchunk0x1
import Derived.Test.YtjgpifjfaiaidaaDoorUtollbarlaw060x0
namespace Go.Proofs.YtjgpifjfaiaidaaDoor.P
open Go.RowKit Go.Proofs.YtjgpifjfaiaidaaDoorW.PrintWords Go.Proofs.YtjgpifjfaiaidaaDoorW.PrintLast Go.Proofs.YtjgpifjfaiaidaaDoorW.PrintMore
attribute [local go_sem] max2_int min2_int max_two min_two max_three min_three max_four min_four   -- for this text's walks alone
set_option linter.unusedVariables false
set_option linter.unusedSimpArgs false

mutual
def tollbarlaw06_ChunkBare.j0 : Nat → List Int → Int → Int → Bool → Bool → Option (Bool)
  | 0, _, _, _, _, _ => none
  | k + 1, x0, x1, x2, x3, x28 => if x28 = true then (some true) else ((chunk_Encode.f k x0 (wrap64 (1 + (Go.bits .and .i64 x1 31)))).bind fun t689 => (tollbarlaw06_ChunkBare.l0 k (wrap64 (1 + (Go.bits .and .i64 x1 31))) x2 x3 t689 (([] : List Int)) 0 (x0.length : Int)))
def tollbarlaw06_ChunkBare.l0 : Nat → Int → Int → Bool → List Int → List Int → Int → Int → Option (Bool)
  | 0, _, _, _, _, _, _, _ => none
  | k + 1, x1, x2, x3, x9, x10, x11, x12 => if x12 > 0 then (tollbarlaw06_ChunkBare.l1 k x1 x2 x3 x9 x10 x11 x12 (mn x12 x1)) else (if (x10.length : Int) = 0 then (none) else (if 0 ≤ (Int.tmod (Go.bits .and .i64 x2 1023) (x10.length : Int)) then (if (Int.tmod (Go.bits .and .i64 x2 1023) (x10.length : Int)) < (x10.length : Int) then ((some (([] : List Int) : List Int)).bind fun y696 => (if 0 ≤ (rd x10 (Int.tmod (Go.bits .and .i64 x2 1023) (x10.length : Int))) then (if (rd x10 (Int.tmod (Go.bits .and .i64 x2 1023) (x10.length : Int))) ≤ (x9.length : Int) then ((some (x9.take ((rd x10 (Int.tmod (Go.bits .and .i64 x2 1023) (x10.length : Int))) : Int).toNat : List Int)).bind fun y699 => (if y696.length + y699.length < 140737488355328 then ((some (y696 ++ y699 : List Int)).bind fun y703 => (if 0 ≤ (wrap64 ((rd x10 (Int.tmod (Go.bits .and .i64 x2 1023) (x10.length : Int))) + 1)) then (if (wrap64 ((rd x10 (Int.tmod (Go.bits .and .i64 x2 1023) (x10.length : Int))) + 1)) ≤ (x9.length : Int) then ((some (x9.drop ((wrap64 ((rd x10 (Int.tmod (Go.bits .and .i64 x2 1023) (x10.length : Int))) + 1)) : Int).toNat : List Int)).bind fun y706 => (if y703.length + y706.length < 140737488355328 then (if x3 = true then ((some (([] : List Int) : List Int)).bind fun y713 => (if y713.length + x9.length < 140737488355328 then ((some (y713 ++ x9 : List Int)).bind fun y716 => (if (wrap64 ((rd x10 (Int.tmod (Go.bits .and .i64 x2 1023) (x10.length : Int))) + 1)) < (y716.length : Int) then ((chunk_Decode.f k (y716.set ((wrap64 ((rd x10 (Int.tmod (Go.bits .and .i64 x2 1023) (x10.length : Int))) + 1)) : Int).toNat 120) 500).bind fun bt720 => (if bt720.2.1 = 0 then (if bt720.2.2 = 20 then (some true) else (some (bt720.2.2 == 30))) else (some false))) else (none))) else (none))) else ((chunk_Decode.f k (y703 ++ y706) 500).bind fun bt725 => (if bt725.2.1 = 0 then (if bt725.2.2 = 20 then (some true) else (some (bt725.2.2 == 30))) else (some false)))) else (none))) else (none)) else (none))) else (none))) else (none)) else (none))) else (none)) else (none)))
def tollbarlaw06_ChunkBare.l1 : Nat → Int → Int → Bool → List Int → List Int → Int → Int → Int → Option (Bool)
  | 0, _, _, _, _, _, _, _, _ => none
  | k + 1, x1, x2, x3, x9, x10, x11, x12, x13 => if 0 ≤ x11 then (if x11 < (x9.length : Int) then (if (rd x9 x11) = 13 then ((some (([x11, wrap64 ((wrap64 (x11 + 2)) + x13)] : List Int) : List Int)).bind fun y731 => (if x10.length + y731.length < 17592186044416 then (tollbarlaw06_ChunkBare.l0 k x1 x2 x3 x9 (x10 ++ y731) (wrap64 (x11 + (wrap64 ((wrap64 (2 + x13)) + 2)))) (wrap64 (x12 - x13))) else (none))) else (tollbarlaw06_ChunkBare.l1 k x1 x2 x3 x9 x10 (wrap64 (x11 + 1)) x12 x13)) else (none)) else (none)
end
def tollbarlaw06_ChunkBare.f (k : Nat) (l0 : List Int) (a1 : Int) (a2 : Int) (a3 : Bool) : Option (Bool) := (tollbarlaw06_alive.f).bind fun t688 => (if t688 = true then (if (l0.length : Int) > 200 then (tollbarlaw06_ChunkBare.j0 k l0 a1 a2 a3 true) else (tollbarlaw06_ChunkBare.j0 k l0 a1 a2 a3 ((l0.length : Int) == 0))) else (some false))
theorem tollbarlaw06_ChunkBare.mono_l : ∀ k, (∀ y0 y1 y2 y3 y4, LeO (tollbarlaw06_ChunkBare.j0 k y0 y1 y2 y3 y4) (tollbarlaw06_ChunkBare.j0 (k + 1) y0 y1 y2 y3 y4)) ∧ (∀ y0 y1 y2 y3 y4 y5 y6, LeO (tollbarlaw06_ChunkBare.l0 k y0 y1 y2 y3 y4 y5 y6) (tollbarlaw06_ChunkBare.l0 (k + 1) y0 y1 y2 y3 y4 y5 y6)) ∧ (∀ y0 y1 y2 y3 y4 y5 y6 y7, LeO (tollbarlaw06_ChunkBare.l1 k y0 y1 y2 y3 y4 y5 y6 y7) (tollbarlaw06_ChunkBare.l1 (k + 1) y0 y1 y2 y3 y4 y5 y6 y7))
  | 0 => ⟨fun _ _ _ _ _ r h => by simp [tollbarlaw06_ChunkBare.j0] at h, fun _ _ _ _ _ _ _ r h => by simp [tollbarlaw06_ChunkBare.l0] at h, fun _ _ _ _ _ _ _ _ r h => by simp [tollbarlaw06_ChunkBare.l1] at h⟩
  | k + 1 => by
    obtain ⟨ih0, ih1, ih2⟩ := tollbarlaw06_ChunkBare.mono_l k
    refine ⟨?_, ?_, ?_⟩
    · intro y0 y1 y2 y3 y4
      unfold tollbarlaw06_ChunkBare.j0
      repeat' first
      | (with_reducible exact ih0 _ _ _ _ _)
      | (with_reducible exact ih1 _ _ _ _ _ _ _)
      | (with_reducible exact ih2 _ _ _ _ _ _ _ _)
      | (with_reducible exact chunk_Decode.mono _ _ _)
      | (with_reducible exact chunk_Encode.mono _ _ _)
      | (with_reducible exact LeO.refl _)
      | (with_reducible exact LeO.none _)
      | (with_reducible refine LeO.ite ?_ ?_)
      | (with_reducible refine LeO.bind ?_ (fun _ => ?_))
      | exact ih0 _ _ _ _ _
      | exact ih1 _ _ _ _ _ _ _
      | exact ih2 _ _ _ _ _ _ _ _
      | exact chunk_Decode.mono _ _ _
      | exact chunk_Encode.mono _ _ _
      | exact LeO.none _
      | refine LeO.ite ?_ ?_
      | refine LeO.bind ?_ (fun _ => ?_)
    · intro y0 y1 y2 y3 y4 y5 y6
      unfold tollbarlaw06_ChunkBare.l0
      repeat' first
      | (with_reducible exact ih0 _ _ _ _ _)
      | (with_reducible exact ih1 _ _ _ _ _ _ _)
      | (with_reducible exact ih2 _ _ _ _ _ _ _ _)
      | (with_reducible exact chunk_Decode.mono _ _ _)
      | (with_reducible exact chunk_Encode.mono _ _ _)
      | (with_reducible exact LeO.refl _)
      | (with_reducible exact LeO.none _)
      | (with_reducible refine LeO.ite ?_ ?_)
      | (with_reducible refine LeO.bind ?_ (fun _ => ?_))
      | exact ih0 _ _ _ _ _
      | exact ih1 _ _ _ _ _ _ _
      | exact ih2 _ _ _ _ _ _ _ _
      | exact chunk_Decode.mono _ _ _
      | exact chunk_Encode.mono _ _ _
      | exact LeO.none _
      | refine LeO.ite ?_ ?_
      | refine LeO.bind ?_ (fun _ => ?_)
    · intro y0 y1 y2 y3 y4 y5 y6 y7
      unfold tollbarlaw06_ChunkBare.l1
      repeat' first
      | (with_reducible exact ih0 _ _ _ _ _)
      | (with_reducible exact ih1 _ _ _ _ _ _ _)
      | (with_reducible exact ih2 _ _ _ _ _ _ _ _)
      | (with_reducible exact chunk_Decode.mono _ _ _)
      | (with_reducible exact chunk_Encode.mono _ _ _)
      | (with_reducible exact LeO.refl _)
      | (with_reducible exact LeO.none _)
      | (with_reducible refine LeO.ite ?_ ?_)
      | (with_reducible refine LeO.bind ?_ (fun _ => ?_))
      | exact ih0 _ _ _ _ _
      | exact ih1 _ _ _ _ _ _ _
      | exact ih2 _ _ _ _ _ _ _ _
      | exact chunk_Decode.mono _ _ _
      | exact chunk_Encode.mono _ _ _
      | exact LeO.none _
      | refine LeO.ite ?_ ?_
      | refine LeO.bind ?_ (fun _ => ?_)
theorem tollbarlaw06_ChunkBare.mono : ∀ a0 a1 a2 a3 k, LeO (tollbarlaw06_ChunkBare.f k a0 a1 a2 a3) (tollbarlaw06_ChunkBare.f (k + 1) a0 a1 a2 a3) := by
  intro a0 a1 a2 a3 k
  obtain ⟨ih0, ih1, ih2⟩ := tollbarlaw06_ChunkBare.mono_l k
  unfold tollbarlaw06_ChunkBare.f
  repeat' first
      | (with_reducible exact ih0 _ _ _ _ _)
      | (with_reducible exact ih1 _ _ _ _ _ _ _)
      | (with_reducible exact ih2 _ _ _ _ _ _ _ _)
      | (with_reducible exact chunk_Decode.mono _ _ _)
      | (with_reducible exact chunk_Encode.mono _ _ _)
      | (with_reducible exact LeO.refl _)
      | (with_reducible exact LeO.none _)
      | (with_reducible refine LeO.ite ?_ ?_)
      | (with_reducible refine LeO.bind ?_ (fun _ => ?_))
      | exact ih0 _ _ _ _ _
      | exact ih1 _ _ _ _ _ _ _
      | exact ih2 _ _ _ _ _ _ _ _
      | exact chunk_Decode.mono _ _ _
      | exact chunk_Encode.mono _ _ _
      | exact LeO.none _
      | refine LeO.ite ?_ ?_
      | refine LeO.bind ?_ (fun _ => ?_)
def tollbarlaw06_ChunkBare.T18 : Bool × List (List Nat × List Nat) := (true, [([], []), ([], []), ([], []), ([1, 2], [1, 2]), ([0, 3], [0, 3]), ([], []), ([], []), ([6], [6]), ([5, 7], [5, 7]), ([4, 8, 4], [4, 8]), ([9, 9, 0, 1, 2, 3, 4, 5, 6, 7, 8, 9], [9])])
def tollbarlaw06_ChunkBare.B18 : List Nat := [0, 0, 0, 6, 15, 0, 0, 64, 224, 511, 1023]
theorem tollbarlaw06_ChunkBare.tab18 : rtab .any (opsOf Tryd.f14 18) = tollbarlaw06_ChunkBare.T18 := by kernel_rfl
theorem tollbarlaw06_ChunkBare.bits18 : waitsOk tollbarlaw06_ChunkBare.T18.2 tollbarlaw06_ChunkBare.B18 = true := by kernel_rfl
set_option maxHeartbeats 8000000 in
set_option maxRecDepth 100000 in
theorem tollbarlaw06_ChunkBare.calls (k : Nat) (A0 : Option Addr) (c0 : Nat) (l0 : List Int) (a1 : Int) (a2 : Int) (a3 : Bool) (r : Bool) (w : World) (hr0 : Kd.C (Kd.int .u8) w A0 l0.length l0) (hc0 : l0.length ≤ c0) (h : tollbarlaw06_ChunkBare.f k l0 a1 a2 a3 = some r) (hr : r = true) (ht : Tabs w) :
    Calls Tryd.prog 14 #[.slice A0 l0.length c0, .int .i64 a1, .int .i64 a2, .bool a3] w fun e w' => e = .returned (.bool r) ∧ Below w.heap.size w w' := by
  have HTB := Aside0.mk ht
  clear ht
  have HRT := Aside0.mk hr
  clear hr
  have HR0 := Aside0.mk hr0
  have HC0 := Aside0.mk hc0
  clear hr0 hc0
  have HB := Aside0.mk (Below.refl w.heap.size w)
  have H : ((tollbarlaw06_alive.f).bind fun t688 => (if t688 = true then (if (l0.length : Int) > 200 then (tollbarlaw06_ChunkBare.j0 k l0 a1 a2 a3 true) else (tollbarlaw06_ChunkBare.j0 k l0 a1 a2 a3 ((l0.length : Int) == 0))) else (some false))) = some r := h
  clear h
  replace H := Option.bind_eq_some_iff.mp H
  obtain ⟨t688, A50, H⟩ := H
  replace H : (if t688 = true then (if (l0.length : Int) > 200 then (tollbarlaw06_ChunkBare.j0 k l0 a1 a2 a3 true) else (tollbarlaw06_ChunkBare.j0 k l0 a1 a2 a3 ((l0.length : Int) == 0))) else (some false)) = some r := H
  have A5 := Aside0.mk A50
  clear A50
  by_cases c6 : t688 = true
  · subst c6
    have H1 : (if (l0.length : Int) > 200 then (tollbarlaw06_ChunkBare.j0 k l0 a1 a2 a3 true) else (tollbarlaw06_ChunkBare.j0 k l0 a1 a2 a3 ((l0.length : Int) == 0))) = some r := by rw [if_pos rfl] at H; exact H
    clear H
    have H := H1
    clear H1
    have HC7 := Aside0.mk H
    clear H
    go_enter Tryd.func14, Tryd.ntmps14
    go_upto_region 3 with (first | ((with_reducible refine gate_callee (f := 28) rfl ?_); refine goesL_ (some 19) rfl rfl Tryd.func28 (by kernel_rfl) rfl #[] rfl (by (try simp only [List.map_toArray, List.map_cons, List.map_nil]); first | done | rfl | (simp only [List.length_drop, List.length_take]; rfl)) ?_; (with_reducible refine (tollbarlaw06_alive.calls  true _ A5.out ?hT).mono ?_); (case hT => exact HTB.out.below (by repeat (first | (with_reducible first | exact HB.out | apply below_alloc | apply pw_below_drewN | apply below_drew1) | exact HB.out))); rintro e w8 ⟨rfl, hb⟩; refine ⟨_, rfl, ?_⟩; have n0_ := Aside0.mk (below_step (by repeat (first | (with_reducible first | exact HB.out | apply below_alloc | apply pw_below_drewN | apply below_drew1) | exact HB.out)) hb); clear HB; have HB := n0_; clear n0_; (try clear hb); (try clear hb2); (try clear hk); (try clear hi)))
    (try simp only [Act.put, List.setIfInBounds_toArray, List.set_cons_zero, List.set_cons_succ])
    go_cut [28] (fun v28 wc => ∃ (kq : Nat) (x28_6 : Bool), v28 = .bool x28_6 ∧ Aside0 (tollbarlaw06_ChunkBare.j0 kq l0 a1 a2 a3 x28_6 = some r) ∧ Aside0 (kq ≤ k) ∧ Aside0 (Below w.heap.size w wc))
    case first =>
      have H := HC7.out
      clear HC7
      by_cases c9 : (l0.length : Int) > 200
      · rw [if_pos c9] at H
        have c9b0 : decide (200 < (l0.length : Int)) = true := decide_eq_true c9
        have c9b1 : decide (200 < l0.length) = true := decide_eq_true (by omega)
        clear c9
        (first | rw [c9b0] | (simp only [i64_w, i32_w]; rw [c9b0]) | skip)
        have H' := Aside0.mk H
        clear H
        go_wp2
        go_meet
        case rel => exact ⟨_, (true), (by first | rfl | (simp; done) | (simp [*]; done)), H', ⟨by first | omega | exact Nat.le_refl _⟩, ⟨by repeat (first | (with_reducible first | exact HB.out | apply below_alloc | apply pw_below_drewN | apply below_drew1) | exact HB.out)⟩⟩
      · rw [if_neg c9] at H
        have c9b0 : decide (200 < (l0.length : Int)) = false := decide_eq_false c9
        have c9b1 : decide (200 < l0.length) = false := decide_eq_false (by omega)
        clear c9
        (first | rw [c9b0] | (simp only [i64_w, i32_w]; rw [c9b0]) | skip)
        have H' := Aside0.mk H
        clear H
        go_wp2
        go_meet
        case rel => exact ⟨_, (((l0.length : Int) == 0)), (by first | rfl | (simp; done) | (simp [*]; done)), H', ⟨by first | omega | exact Nat.le_refl _⟩, ⟨by repeat (first | (with_reducible first | exact HB.out | apply below_alloc | apply pw_below_drewN | apply below_drew1) | exact HB.out)⟩⟩
    case rest =>
      clear HC7
      try clear c1
      try clear c2
      try clear p2
      try clear c6
      try clear c9
      try clear c9b0
      try clear c9b1
      obtain ⟨kq, x28_6, rfl, HA, HJ6, HB⟩ := hcut
      cases kq with
      | zero => exact absurd HA.out (by simp [tollbarlaw06_ChunkBare.j0])
      | succ kj6 =>
        have H := HA.out
        clear HA
        simp only [tollbarlaw06_ChunkBare.j0] at H
        by_cases c10 : x28_6 = true
        · subst c10
          have H1 : (some true) = some r := by rw [if_pos rfl] at H; exact H
          clear H
          have H := H1
          clear H1
          obtain rfl := Option.some.inj H
          go_wp2
          go_ret
          exact ⟨by first | rfl | (simp [errW_none, errW_some] <;> rfl) | (simp [*, errW_none, errW_some] <;> rfl), by repeat (first | (with_reducible first | exact HB.out | apply below_alloc | apply pw_below_drewN | apply below_drew1) | exact HB.out)⟩
        · replace c10 := Bool.eq_false_iff.mpr c10
          subst c10
          have H1 : ((chunk_Encode.f kj6 l0 (wrap64 (1 + (Go.bits .and .i64 a1 31)))).bind fun t689 => (tollbarlaw06_ChunkBare.l0 kj6 (wrap64 (1 + (Go.bits .and .i64 a1 31))) a2 a3 t689 (([] : List Int)) 0 (l0.length : Int))) = some r := by rw [if_neg (show ¬ (false = true) by decide)] at H; exact H
          clear H
          have H := H1
          clear H1
          replace H := Option.bind_eq_some_iff.mp H
          obtain ⟨t689, A110, H⟩ := H
          replace H : (tollbarlaw06_ChunkBare.l0 kj6 (wrap64 (1 + (Go.bits .and .i64 a1 31))) a2 a3 t689 (([] : List Int)) 0 (l0.length : Int)) = some r := H
          have A11 := Aside0.mk A110
          clear A110
          obtain ⟨y692, hy692⟩ : ∃ y_ : List Int, y_ = (([] : List Int)) := ⟨_, rfl⟩
          replace H : (tollbarlaw06_ChunkBare.l0 kj6 (wrap64 (1 + (Go.bits .and .i64 a1 31))) a2 a3 t689 y692 0 (l0.length : Int)) = some r := by first | (rw [hy692]; with_reducible exact H) | (have H2_ := (Option.bind_some _ _).symm.trans H; rw [hy692]; with_reducible exact H2_) | (have H2_ := (Option.bind_some _ _).symm.trans H; with_reducible exact H2_) | with_reducible exact H | (rw [hy692]; exact H) | exact H
          have Ny692 := Aside0.mk hy692
          clear hy692
          have H' := Aside0.mk H
          clear H
          go_wp2_with (first | ((with_reducible refine gate_callee (f := 32) rfl ?_); refine goesL_ (some 34) rfl rfl Tryd.func32 (by kernel_rfl) rfl #[.slice A0 l0.length c0, .int .i64 (wrap64 (1 + (Go.bits .and .i64 a1 31)))] rfl (by (try simp only [List.map_toArray, List.map_cons, List.map_nil]); first | done | rfl | (simp only [List.length_drop, List.length_take]; rfl)) ?_; (with_reducible refine (chunk_Encode.calls kj6 (fun k_ => k_ < w.heap.size) _ _ l0 (wrap64 (1 + (Go.bits .and .i64 a1 31))) t689 _ ?side1 A11.out ?hT).mono ?_); (case hT => exact HTB.out.below (by repeat (first | (with_reducible first | exact HB.out | apply below_alloc | apply pw_below_drewN | apply below_drew1) | exact HB.out))); (case side1 => exact Kd.V_mk HC0.out (Kd.F_below (Kd.C_F (Kd.heap_int .u8) HR0.out) (by repeat (first | (with_reducible first | exact HB.out | apply below_alloc | apply pw_below_drewN | apply below_drew1) | exact HB.out)))); rintro e w12 ⟨v690, rfl, ho0, hb⟩; (try clear A11); refine ⟨_, rfl, ?_⟩; have n0_ := Aside0.mk (Kd.R_lower (Kd.R_mono (ok' := fun k_ => True) ho0 (fun _ hk_ => trivial)) (below_size (by repeat (first | (with_reducible first | exact HB.out | apply below_alloc | apply pw_below_drewN | apply below_drew1) | exact HB.out)))); have n1_ := Aside0.mk (below_step (by repeat (first | (with_reducible first | exact HB.out | apply below_alloc | apply pw_below_drewN | apply below_drew1) | exact HB.out)) hb); clear HB; have HO691 := n0_; have HB := n1_; clear n0_ n1_; (try clear hb); (try clear hb2); (try clear hk); (try clear hi); (try clear ho0)) | ((with_reducible refine gate_dst (N := 35) rfl ?_); (try (refine gate_guard (by rfl) ?_; dsimp only)); refine Kd.R_lit (Kd.int .i64) _ 3 ?hg (N := 35) ?hd (xs := ([] : List Int)) (inner := []) (ok := fun _ => True) (okp := fun _ => True) ?hr ?hp (fun _ hk => hk) trivial (Below.refl _ _) (Nat.le_refl _) (by simp) ?_; (case hd => rfl); (case hg => rfl); (case hr => first | (go_simp; done) | (go_simp; rfl)); (case hp => exact (Reps.none _ _)); intro v693 w13 ho14 hb hg_ hnew_; clear hg_ hnew_; (first | rw [← Ny692.out] at ho14 | (simp only [Int.reduceToNat] at ho14; rw [← Ny692.out] at ho14)); have n0_ := Aside0.mk (Kd.R_below (by (with_reducible repeat (first | apply Kd.R_alloc | apply Kd.R_drewN | apply Kd.R_drew)); exact HO691.out) hb); have n1_ := Aside0.mk (Kd.R_lower ho14 (below_size (by repeat (first | (with_reducible first | exact HB.out | apply below_alloc | apply pw_below_drewN | apply below_drew1) | exact HB.out)))); have n2_ := Aside0.mk (below_step (by repeat (first | (with_reducible first | exact HB.out | apply below_alloc | apply pw_below_drewN | apply below_drew1) | exact HB.out)) hb); clear HO691; clear HB; have HO691 := n0_; have HO694 := n1_; have HB := n2_; clear n0_ n1_ n2_; clear hb ho14))
          go_loopg [10, 11, 12] kj6 (fun kq v10 v11 v12 w' => ∃ (x10_2 : List Int) (x11_2 : Int) (x12_2 : Int), v11 = .int .i64 x11_2 ∧ v12 = .int .i64 x12_2 ∧ Aside0 (tollbarlaw06_ChunkBare.l0 kq (wrap64 (1 + (Go.bits .and .i64 a1 31))) a2 a3 t689 x10_2 x11_2 x12_2 = some r) ∧ Aside0 (kq ≤ kj6) ∧ Aside0 (Kd.R (Kd.int .u8) 5 w' w.heap.size (fun _ => True) v690 t689) ∧ Aside0 (Kd.R (Kd.int .i64) 3 w' w.heap.size (fun _ => True) v10 x10_2) ∧ Aside0 (Below w.heap.size w w'))
          case atStart => exact ⟨(y692), (0), ((l0.length : Int)), (by first | rfl | (simp; done) | (simp [*]; done)), (by first | rfl | (simp; done) | (simp [*]; done)), H', ⟨Nat.le_refl _⟩, ⟨by (with_reducible repeat (first | apply Kd.R_alloc | apply Kd.R_drewN | apply Kd.R_drew)); exact HO691.out⟩, ⟨by (with_reducible repeat (first | apply Kd.R_alloc | apply Kd.R_drewN | apply Kd.R_drew)); exact HO694.out⟩, ⟨by repeat (first | (with_reducible first | exact HB.out | apply below_alloc | apply pw_below_drewN | apply below_drew1) | exact HB.out)⟩⟩
          case round =>
            clear H'
            try clear c1
            try clear c2
            try clear p2
            try clear c3
            try clear c6
            try clear p6
            try clear c9
            try clear c9b0
            try clear c9b1
            try clear c10
            try clear c14
            try clear p2
            obtain ⟨x10_2, x11_2, x12_2, rfl, rfl, HA, HK2, HO_9, HO_10, HB⟩ := hrel
            cases gk with
            | zero => exact absurd HA.out (by simp [tollbarlaw06_ChunkBare.l0])
            | succ k2 =>
              have H := HA.out
              clear HA
              simp only [tollbarlaw06_ChunkBare.l0] at H
              by_cases c15 : x12_2 > 0
              · rw [if_pos c15] at H
                have c15b0 : decide (0 < x12_2) = true := decide_eq_true c15
                clear c15
                obtain ⟨ji16, hji16⟩ : ∃ j_ : Int, (mn x12_2 (wrap64 (1 + (Go.bits .and .i64 a1 31)))) = j_ := ⟨_, rfl⟩
                replace H : (tollbarlaw06_ChunkBare.l1 k2 (wrap64 (1 + (Go.bits .and .i64 a1 31))) a2 a3 t689 x10_2 x11_2 x12_2 ji16) = some r := by first | (rw [hji16] at H; exact H) | (simp only [hji16] at H ⊢; exact H)
                have hji16_ : (if (wrap64 (1 + (Go.bits .and .i64 a1 31))) < x12_2 then (wrap64 (1 + (Go.bits .and .i64 a1 31))) else x12_2) = ji16 := hji16
                have H' := Aside0.mk H
                clear H
                go_wp2
                go_loopg [11] k2 (fun kq v11 w' => ∃ (x11_3 : Int), v11 = .int .i64 x11_3 ∧ Aside0 (tollbarlaw06_ChunkBare.l1 kq (wrap64 (1 + (Go.bits .and .i64 a1 31))) a2 a3 t689 x10_2 x11_3 x12_2 ji16 = some r) ∧ Aside0 (kq ≤ k2) ∧ Aside0 (Kd.R (Kd.int .u8) 5 w' w.heap.size (fun _ => True) v690 t689) ∧ Aside0 (Kd.R (Kd.int .i64) 3 w' w.heap.size (fun _ => True) u10 x10_2) ∧ Aside0 (Below w.heap.size w w'))
                case atStart => exact ⟨(x11_2), (by first | rfl | (simp; done) | (simp [*]; done)), H', ⟨Nat.le_refl _⟩, ⟨by (with_reducible repeat (first | apply Kd.R_alloc | apply Kd.R_drewN | apply Kd.R_drew)); exact HO_9.out⟩, ⟨by (with_reducible repeat (first | apply Kd.R_alloc | apply Kd.R_drewN | apply Kd.R_drew)); exact HO_10.out⟩, ⟨by repeat (first | (with_reducible first | exact HB.out | apply below_alloc | apply pw_below_drewN | apply below_drew1) | exact HB.out)⟩⟩
                case round =>
                  clear H'
                  try clear c1
                  try clear c2
                  try clear p2
                  try clear c3
                  try clear c6
                  try clear p6
                  try clear c9
                  try clear c9b0
                  try clear c9b1
                  try clear c10
                  try clear c14
                  try clear c15
                  try clear c15b0
                  try clear p2
                  try clear p6
                  obtain ⟨x11_3, rfl, HA, HK3, HO_9, HO_10, HB⟩ := hrel
                  cases gk with
                  | zero => exact absurd HA.out (by simp [tollbarlaw06_ChunkBare.l1])
                  | succ k3 =>
                    have H := HA.out
                    clear HA
                    simp only [tollbarlaw06_ChunkBare.l1] at H
                    by_cases c17 : 0 ≤ x11_3
                    · rw [if_pos c17] at H
                      have c17b0 : decide (0 ≤ x11_3) = true := decide_eq_true c17
                      clear c17
                      by_cases c18 : x11_3 < (t689.length : Int)
                      · rw [if_pos c18] at H
                        have c18b0 : decide (x11_3 < (t689.length : Int)) = true := decide_eq_true c18
                        clear c18
                        by_cases c19 : (rd t689 x11_3) = 13
                        · rw [if_pos c19] at H
                          have c19b0 : ((rd t689 x11_3) == 13) = true := beq_iff_eq.mpr c19
                          have c19b1 : ((rd t689 x11_3) != 13) = false := bne_eq_false_iff_eq.mpr c19
                          clear c19
                          obtain ⟨y731, hy731⟩ : ∃ y_ : List Int, y_ = (([x11_3, wrap64 ((wrap64 (x11_3 + 2)) + ji16)] : List Int)) := ⟨_, rfl⟩
                          replace H : (if x10_2.length + y731.length < 17592186044416 then (tollbarlaw06_ChunkBare.l0 k3 (wrap64 (1 + (Go.bits .and .i64 a1 31))) a2 a3 t689 (x10_2 ++ y731) (wrap64 (x11_3 + (wrap64 ((wrap64 (2 + ji16)) + 2)))) (wrap64 (x12_2 - ji16))) else (none)) = some r := by first | (rw [hy731]; with_reducible exact H) | (have H2_ := (Option.bind_some _ _).symm.trans H; rw [hy731]; with_reducible exact H2_) | (have H2_ := (Option.bind_some _ _).symm.trans H; with_reducible exact H2_) | with_reducible exact H | (rw [hy731]; exact H) | exact H
                          have Ny731 := Aside0.mk hy731
                          clear hy731
                          by_cases c20 : x10_2.length + y731.length < 17592186044416
                          · rw [if_pos c20] at H
                            have LMc20 := Aside0.mk c20
                            clear c20
                            obtain ⟨y734, hy734⟩ : ∃ y_ : List Int, y_ = (x10_2 ++ y731) := ⟨_, rfl⟩
                            replace H : (tollbarlaw06_ChunkBare.l0 k3 (wrap64 (1 + (Go.bits .and .i64 a1 31))) a2 a3 t689 y734 (wrap64 (x11_3 + (wrap64 ((wrap64 (2 + ji16)) + 2)))) (wrap64 (x12_2 - ji16))) = some r := by first | (rw [hy734]; with_reducible exact H) | (have H2_ := (Option.bind_some _ _).symm.trans H; rw [hy734]; with_reducible exact H2_) | (have H2_ := (Option.bind_some _ _).symm.trans H; with_reducible exact H2_) | with_reducible exact H | (rw [hy734]; exact H) | exact H
                            have Ny734 := Aside0.mk hy734
                            clear hy734
                            have H' := Aside0.mk H
                            clear H
                            obtain ⟨Ao21, co21, eo21⟩ := Kd.R_slice HO_9.out
                            subst eo21
                            have p730 : 0 ≤ (x11_3 : Int) := of_decide_eq_true (by first | (with_reducible assumption) | assumption)
                            have q730 : x11_3 < (t689.length : Int) := of_decide_eq_true (by first | (with_reducible assumption) | assumption)
                            obtain ⟨ad730, e730, hx730_0⟩ := Kd.at_int (Kd.R_reads' HO_9.out).2.2 x11_3 p730 q730
                            cases e730
                            replace p730 := eq_true p730
                            replace q730 := eq_true q730
                            go_wp2_with (first | ((with_reducible refine gate_dst (N := 56) rfl ?_); (try (refine gate_guard (by rfl) ?_; dsimp only)); refine Kd.R_lit (Kd.int .i64) _ 3 ?hg (N := 56) ?hd (xs := ([x11_3, wrap64 ((wrap64 (x11_3 + 2)) + ji16)] : List Int)) (inner := [.int .i64 x11_3, .int .i64 (wrap64 ((wrap64 (x11_3 + 2)) + ji16))]) (ok := fun _ => True) (okp := fun _ => True) ?hr ?hp (fun _ hk => hk) trivial (Below.refl _ _) (Nat.le_refl _) (by simp) ?_; (case hd => rfl); (case hg => rfl); (case hr => first | (go_simp; done) | (go_simp; rfl)); (case hp => exact (Reps.one (show Kd.M (Kd.int .i64) _ _ _ x11_3 [.int .i64 x11_3] from rfl) (Reps.one (show Kd.M (Kd.int .i64) _ _ _ (wrap64 ((wrap64 (x11_3 + 2)) + ji16)) [.int .i64 (wrap64 ((wrap64 (x11_3 + 2)) + ji16))] from rfl) (Reps.none _ _)))); intro v732 w22 ho23 hb hg_ hnew_; clear hg_ hnew_; (first | rw [← Ny731.out] at ho23 | (simp only [Int.reduceToNat] at ho23; rw [← Ny731.out] at ho23)); have n0_ := Aside0.mk (Kd.R_below (by (with_reducible repeat (first | apply Kd.R_alloc | apply Kd.R_drewN | apply Kd.R_drew)); exact HO_9.out) hb); have n1_ := Aside0.mk (Kd.R_elder' (by (with_reducible repeat (first | apply Kd.R_alloc | apply Kd.R_drewN | apply Kd.R_drew)); exact HO_10.out) (Kd.R_base ho23) hb); have n2_ := Aside0.mk (Kd.R_lower (Kd.R_new' ho23 (Kd.R_lt (by (with_reducible repeat (first | apply Kd.R_alloc | apply Kd.R_drewN | apply Kd.R_drew)); exact HO_10.out))) (below_size (by repeat (first | (with_reducible first | exact HB.out | apply below_alloc | apply pw_below_drewN | apply below_drew1) | exact HB.out)))); have n3_ := Aside0.mk (below_step (by repeat (first | (with_reducible first | exact HB.out | apply below_alloc | apply pw_below_drewN | apply below_drew1) | exact HB.out)) hb); clear HO_9; clear HO_10; clear HB; have HO_9 := n0_; have HO_10 := n1_; have HO733 := n2_; have HB := n3_; clear n0_ n1_ n2_ n3_; clear hb ho23; obtain ⟨Ao25, co25, eo25⟩ := Kd.R_slice HO733.out; subst eo25) | ((with_reducible refine gate_builtin (b := .append) (xs := #[.tmp 50, .tmp 56]) rfl ?_); (try (refine gate_guard (by rfl) ?_; dsimp only)); at_builtin; refine Kd.R_append_rows (Kd.int .i64) (w0 := w) w.heap.size rfl (.tmp 50) (.tmp 56) 53 3 (.int .i64 0) 8 rfl Tryd.underlying53 info3 rfl (by decide) (by omega) u10 x10_2 y731 _ _ _ (fun k_ => some k_ ≠ (.slice Ao25 y731.length co25 : Value).ownBlock) (fun _ => False) rfl rfl ?aO ?aR (fun _ _ h => h) (fun _ h => h.elim) ?aF ?aB ?aS ?aL ?_; (case aR => repeat (first | exact (Kd.R_reads' HO733.out).2.2 | (with_reducible refine Kd.C_alloc ?_ _) | (with_reducible refine Kd.C_drewN ?_ _) | (with_reducible refine Kd.C_drew ?_))); (case aB => exact (by repeat (first | (with_reducible first | exact HB.out | apply below_alloc | apply pw_below_drewN | apply below_drew1) | exact HB.out))); (case aF => exact (fun k_ hk => Kd.fresh' (Kd.R_lt (by (with_reducible repeat (first | apply Kd.R_alloc | apply Kd.R_drewN | apply Kd.R_drew)); exact HO733.out)) k_ hk)); (case aO => exact (by (with_reducible repeat (first | apply Kd.R_alloc | apply Kd.R_drewN | apply Kd.R_drew)); exact Kd.R_mono HO_10.out (fun _ hk => hk.2))); (case aS => exact (below_size (by repeat (first | (with_reducible first | exact HB.out | apply below_alloc | apply pw_below_drewN | apply below_drew1) | exact HB.out)))); (case aL => have := LMc20.out; omega); intro v735 w24 ho hb hg hat; rw [← Ny734.out] at ho; have n0_ := Aside0.mk (Kd.R_over' (by (with_reducible repeat (first | apply Kd.R_alloc | apply Kd.R_drewN | apply Kd.R_drew)); exact HO_9.out) (Kd.R_typed (by (with_reducible repeat (first | apply Kd.R_alloc | apply Kd.R_drewN | apply Kd.R_drew)); exact HO_10.out)) (by decide) hg); have n1_ := Aside0.mk (Kd.R_after (ok := (fun _ => True)) (by (with_reducible repeat (first | apply Kd.R_alloc | apply Kd.R_drewN | apply Kd.R_drew)); exact HO733.out) hg hat); have n2_ := Aside0.mk (hb); have n3_ := Aside0.mk (ho); clear HO_9; clear HO733; clear HB; clear HO_10; have HO_9 := n0_; have HO733 := n1_; have HB := n2_; have HO736 := n3_; clear n0_ n1_ n2_ n3_; clear ho hb hg hat))
                            go_roundg k3
                            case measure => have := HJ6.out; have := HK2.out; have := HK3.out; omega
                            case rel => exact ⟨(y734), (wrap64 (x11_3 + (wrap64 ((wrap64 (2 + ji16)) + 2)))), (wrap64 (x12_2 - ji16)), (by first | rfl | (simp; done) | (simp only [← hji16] <;> (first | rfl | simp)) | (simp [*]; done)), (by first | rfl | (simp; done) | (simp only [← hji16] <;> (first | rfl | simp)) | (simp [*]; done)), H', ⟨by have := HJ6.out; have := HK2.out; have := HK3.out; omega⟩, ⟨by (with_reducible repeat (first | apply Kd.R_alloc | apply Kd.R_drewN | apply Kd.R_drew)); exact HO_9.out⟩, ⟨by (with_reducible repeat (first | apply Kd.R_alloc | apply Kd.R_drewN | apply Kd.R_drew)); exact Kd.R_mono HO736.out (fun _ hk => trivial)⟩, ⟨by repeat (first | (with_reducible first | exact HB.out | apply below_alloc | apply pw_below_drewN | apply below_drew1) | exact HB.out)⟩⟩
                          · rw [if_neg c20] at H
                            exact absurd H (by simp)
                        · rw [if_neg c19] at H
                          have c19b0 : ((rd t689 x11_3) == 13) = false := beq_eq_false_iff_ne.mpr c19
                          have c19b1 : ((rd t689 x11_3) != 13) = true := bne_iff_ne.mpr c19
                          have H' := Aside0.mk H
                          clear H
                          obtain ⟨Ao26, co26, eo26⟩ := Kd.R_slice HO_9.out
                          subst eo26
                          have p730 : 0 ≤ (x11_3 : Int) := of_decide_eq_true (by first | (with_reducible assumption) | assumption)
                          have q730 : x11_3 < (t689.length : Int) := of_decide_eq_true (by first | (with_reducible assumption) | assumption)
                          obtain ⟨ad730, e730, hx730_0⟩ := Kd.at_int (Kd.R_reads' HO_9.out).2.2 x11_3 p730 q730
                          cases e730
                          replace p730 := eq_true p730
                          replace q730 := eq_true q730
                          go_wp2
                          go_roundg k3
                          case measure => have := HJ6.out; have := HK2.out; have := HK3.out; omega
                          case rel => exact ⟨(wrap64 (x11_3 + 1)), (by first | rfl | (simp; done) | (simp [*]; done)), H', ⟨by have := HJ6.out; have := HK2.out; have := HK3.out; omega⟩, ⟨by (with_reducible repeat (first | apply Kd.R_alloc | apply Kd.R_drewN | apply Kd.R_drew)); exact HO_9.out⟩, ⟨by (with_reducible repeat (first | apply Kd.R_alloc | apply Kd.R_drewN | apply Kd.R_drew)); exact HO_10.out⟩, ⟨by repeat (first | (with_reducible first | exact HB.out | apply below_alloc | apply pw_below_drewN | apply below_drew1) | exact HB.out)⟩⟩
                      · rw [if_neg c18] at H
                        exact absurd H (by simp)
                    · rw [if_neg c17] at H
                      exact absurd H (by simp)
              · rw [if_neg c15] at H
                have c15b0 : decide (0 < x12_2) = false := decide_eq_false c15
                clear c15
                by_cases c27 : (x10_2.length : Int) = 0
                · rw [if_pos c27] at H
                  exact absurd H (by simp)
                · rw [if_neg c27] at H
                  have c27b0 : ((x10_2.length : Int) == 0) = false := beq_eq_false_iff_ne.mpr c27
                  have c27b1 : ((x10_2.length : Int) != 0) = true := bne_iff_ne.mpr c27
                  have c27b2 : ¬ (x10_2 = []) := fun h_ => c27 (by rw [h_]; rfl)
                  obtain ⟨ji28, hji28⟩ : ∃ j_ : Int, (Int.tmod (Go.bits .and .i64 a2 1023) (x10_2.length : Int)) = j_ := ⟨_, rfl⟩
                  replace H : (if 0 ≤ (ji28) then (if (ji28) < (x10_2.length : Int) then ((some (([] : List Int) : List Int)).bind fun y696 => (if 0 ≤ (rd x10_2 (ji28)) then (if (rd x10_2 (ji28)) ≤ (t689.length : Int) then ((some (t689.take ((rd x10_2 (ji28)) : Int).toNat : List Int)).bind fun y699 => (if y696.length + y699.length < 140737488355328 then ((some (y696 ++ y699 : List Int)).bind fun y703 => (if 0 ≤ (wrap64 ((rd x10_2 (ji28)) + 1)) then (if (wrap64 ((rd x10_2 (ji28)) + 1)) ≤ (t689.length : Int) then ((some (t689.drop ((wrap64 ((rd x10_2 (ji28)) + 1)) : Int).toNat : List Int)).bind fun y706 => (if y703.length + y706.length < 140737488355328 then (if a3 = true then ((some (([] : List Int) : List Int)).bind fun y713 => (if y713.length + t689.length < 140737488355328 then ((some (y713 ++ t689 : List Int)).bind fun y716 => (if (wrap64 ((rd x10_2 (ji28)) + 1)) < (y716.length : Int) then ((chunk_Decode.f k2 (y716.set ((wrap64 ((rd x10_2 (ji28)) + 1)) : Int).toNat 120) 500).bind fun bt720 => (if bt720.2.1 = 0 then (if bt720.2.2 = 20 then (some true) else (some (bt720.2.2 == 30))) else (some false))) else (none))) else (none))) else ((chunk_Decode.f k2 (y703 ++ y706) 500).bind fun bt725 => (if bt725.2.1 = 0 then (if bt725.2.2 = 20 then (some true) else (some (bt725.2.2 == 30))) else (some false)))) else (none))) else (none)) else (none))) else (none))) else (none)) else (none))) else (none)) else (none)) = some r := by first | (rw [hji28] at H; exact H) | (simp only [hji28] at H ⊢; exact H)
                  by_cases c29 : 0 ≤ (ji28)
                  · rw [if_pos c29] at H
                    have c29b0 : decide (0 ≤ (ji28)) = true := decide_eq_true c29
                    clear c29
                    by_cases c30 : (ji28) < (x10_2.length : Int)
                    · rw [if_pos c30] at H
                      have c30b0 : decide ((ji28) < (x10_2.length : Int)) = true := decide_eq_true c30
                      clear c30
                      obtain ⟨y696, hy696⟩ : ∃ y_ : List Int, y_ = (([] : List Int)) := ⟨_, rfl⟩
                      replace H : (if 0 ≤ (rd x10_2 (ji28)) then (if (rd x10_2 (ji28)) ≤ (t689.length : Int) then ((some (t689.take ((rd x10_2 (ji28)) : Int).toNat : List Int)).bind fun y699 => (if y696.length + y699.length < 140737488355328 then ((some (y696 ++ y699 : List Int)).bind fun y703 => (if 0 ≤ (wrap64 ((rd x10_2 (ji28)) + 1)) then (if (wrap64 ((rd x10_2 (ji28)) + 1)) ≤ (t689.length : Int) then ((some (t689.drop ((wrap64 ((rd x10_2 (ji28)) + 1)) : Int).toNat : List Int)).bind fun y706 => (if y703.length + y706.length < 140737488355328 then (if a3 = true then ((some (([] : List Int) : List Int)).bind fun y713 => (if y713.length + t689.length < 140737488355328 then ((some (y713 ++ t689 : List Int)).bind fun y716 => (if (wrap64 ((rd x10_2 (ji28)) + 1)) < (y716.length : Int) then ((chunk_Decode.f k2 (y716.set ((wrap64 ((rd x10_2 (ji28)) + 1)) : Int).toNat 120) 500).bind fun bt720 => (if bt720.2.1 = 0 then (if bt720.2.2 = 20 then (some true) else (some (bt720.2.2 == 30))) else (some false))) else (none))) else (none))) else ((chunk_Decode.f k2 (y703 ++ y706) 500).bind fun bt725 => (if bt725.2.1 = 0 then (if bt725.2.2 = 20 then (some true) else (some (bt725.2.2 == 30))) else (some false)))) else (none))) else (none)) else (none))) else (none))) else (none)) else (none)) = some r := by first | (rw [hy696]; with_reducible exact H) | (have H2_ := (Option.bind_some _ _).symm.trans H; rw [hy696]; with_reducible exact H2_) | (have H2_ := (Option.bind_some _ _).symm.trans H; with_reducible exact H2_) | with_reducible exact H | (rw [hy696]; exact H) | exact H
                      have Ny696 := Aside0.mk hy696
                      clear hy696
                      by_cases c31 : 0 ≤ (rd x10_2 (ji28))
                      · rw [if_pos c31] at H
                        have c31b0 := eq_true c31
                        have c31b1 : decide (0 ≤ (rd x10_2 (ji28))) = true := decide_eq_true c31
                        clear c31
                        by_cases c32 : (rd x10_2 (ji28)) ≤ (t689.length : Int)
                        · rw [if_pos c32] at H
                          have c32b0 := eq_true c32
                          have c32b1 : decide ((rd x10_2 (ji28)) ≤ (t689.length : Int)) = true := decide_eq_true c32
                          clear c32
                          obtain ⟨y699, hy699⟩ : ∃ y_ : List Int, y_ = (t689.take ((rd x10_2 (ji28)) : Int).toNat) := ⟨_, rfl⟩
                          replace H : (if y696.length + y699.length < 140737488355328 then ((some (y696 ++ y699 : List Int)).bind fun y703 => (if 0 ≤ (wrap64 ((rd x10_2 (ji28)) + 1)) then (if (wrap64 ((rd x10_2 (ji28)) + 1)) ≤ (t689.length : Int) then ((some (t689.drop ((wrap64 ((rd x10_2 (ji28)) + 1)) : Int).toNat : List Int)).bind fun y706 => (if y703.length + y706.length < 140737488355328 then (if a3 = true then ((some (([] : List Int) : List Int)).bind fun y713 => (if y713.length + t689.length < 140737488355328 then ((some (y713 ++ t689 : List Int)).bind fun y716 => (if (wrap64 ((rd x10_2 (ji28)) + 1)) < (y716.length : Int) then ((chunk_Decode.f k2 (y716.set ((wrap64 ((rd x10_2 (ji28)) + 1)) : Int).toNat 120) 500).bind fun bt720 => (if bt720.2.1 = 0 then (if bt720.2.2 = 20 then (some true) else (some (bt720.2.2 == 30))) else (some false))) else (none))) else (none))) else ((chunk_Decode.f k2 (y703 ++ y706) 500).bind fun bt725 => (if bt725.2.1 = 0 then (if bt725.2.2 = 20 then (some true) else (some (bt725.2.2 == 30))) else (some false)))) else (none))) else (none)) else (none))) else (none)) = some r := by first | (rw [hy699]; with_reducible exact H) | (have H2_ := (Option.bind_some _ _).symm.trans H; rw [hy699]; with_reducible exact H2_) | (have H2_ := (Option.bind_some _ _).symm.trans H; with_reducible exact H2_) | with_reducible exact H | (rw [hy699]; exact H) | exact H
                          have Ny699 := Aside0.mk hy699
                          clear hy699
                          by_cases c33 : y696.length + y699.length < 140737488355328
                          · rw [if_pos c33] at H
                            have LMc33 := Aside0.mk c33
                            clear c33
                            obtain ⟨y703, hy703⟩ : ∃ y_ : List Int, y_ = (y696 ++ y699) := ⟨_, rfl⟩
                            replace H : (if 0 ≤ (wrap64 ((rd x10_2 (ji28)) + 1)) then (if (wrap64 ((rd x10_2 (ji28)) + 1)) ≤ (t689.length : Int) then ((some (t689.drop ((wrap64 ((rd x10_2 (ji28)) + 1)) : Int).toNat : List Int)).bind fun y706 => (if y703.length + y706.length < 140737488355328 then (if a3 = true then ((some (([] : List Int) : List Int)).bind fun y713 => (if y713.length + t689.length < 140737488355328 then ((some (y713 ++ t689 : List Int)).bind fun y716 => (if (wrap64 ((rd x10_2 (ji28)) + 1)) < (y716.length : Int) then ((chunk_Decode.f k2 (y716.set ((wrap64 ((rd x10_2 (ji28)) + 1)) : Int).toNat 120) 500).bind fun bt720 => (if bt720.2.1 = 0 then (if bt720.2.2 = 20 then (some true) else (some (bt720.2.2 == 30))) else (some false))) else (none))) else (none))) else ((chunk_Decode.f k2 (y703 ++ y706) 500).bind fun bt725 => (if bt725.2.1 = 0 then (if bt725.2.2 = 20 then (some true) else (some (bt725.2.2 == 30))) else (some false)))) else (none))) else (none)) else (none)) = some r := by first | (rw [hy703]; with_reducible exact H) | (have H2_ := (Option.bind_some _ _).symm.trans H; rw [hy703]; with_reducible exact H2_) | (have H2_ := (Option.bind_some _ _).symm.trans H; with_reducible exact H2_) | with_reducible exact H | (rw [hy703]; exact H) | exact H
                            have Ny703 := Aside0.mk hy703
                            clear hy703
                            obtain ⟨ji34, hji34⟩ : ∃ j_ : Int, (wrap64 ((rd x10_2 (ji28)) + 1)) = j_ := ⟨_, rfl⟩
                            replace H : (if 0 ≤ (ji34) then (if (ji34) ≤ (t689.length : Int) then ((some (t689.drop ((ji34) : Int).toNat : List Int)).bind fun y706 => (if y703.length + y706.length < 140737488355328 then (if a3 = true then ((some (([] : List Int) : List Int)).bind fun y713 => (if y713.length + t689.length < 140737488355328 then ((some (y713 ++ t689 : List Int)).bind fun y716 => (if (ji34) < (y716.length : Int) then ((chunk_Decode.f k2 (y716.set ((ji34) : Int).toNat 120) 500).bind fun bt720 => (if bt720.2.1 = 0 then (if bt720.2.2 = 20 then (some true) else (some (bt720.2.2 == 30))) else (some false))) else (none))) else (none))) else ((chunk_Decode.f k2 (y703 ++ y706) 500).bind fun bt725 => (if bt725.2.1 = 0 then (if bt725.2.2 = 20 then (some true) else (some (bt725.2.2 == 30))) else (some false)))) else (none))) else (none)) else (none)) = some r := by first | (rw [hji34] at H; exact H) | (simp only [hji34] at H ⊢; exact H)
                            have hji34w : (IntKind.i64.wrap ((rd x10_2 (ji28)) + 1)) = ji34 := (i64_w _).trans hji34
                            by_cases c35 : 0 ≤ (ji34)
                            · rw [if_pos c35] at H
                              have c35b0 := eq_true c35
                              have c35b1 : decide (0 ≤ (ji34)) = true := decide_eq_true c35
                              clear c35
                              by_cases c36 : (ji34) ≤ (t689.length : Int)
                              · rw [if_pos c36] at H
                                have c36b0 := eq_true c36
                                have c36b1 : decide ((ji34) ≤ (t689.length : Int)) = true := decide_eq_true c36
                                clear c36
                                obtain ⟨y706, hy706⟩ : ∃ y_ : List Int, y_ = (t689.drop ((ji34) : Int).toNat) := ⟨_, rfl⟩
                                replace H : (if y703.length + y706.length < 140737488355328 then (if a3 = true then ((some (([] : List Int) : List Int)).bind fun y713 => (if y713.length + t689.length < 140737488355328 then ((some (y713 ++ t689 : List Int)).bind fun y716 => (if (ji34) < (y716.length : Int) then ((chunk_Decode.f k2 (y716.set ((ji34) : Int).toNat 120) 500).bind fun bt720 => (if bt720.2.1 = 0 then (if bt720.2.2 = 20 then (some true) else (some (bt720.2.2 == 30))) else (some false))) else (none))) else (none))) else ((chunk_Decode.f k2 (y703 ++ y706) 500).bind fun bt725 => (if bt725.2.1 = 0 then (if bt725.2.2 = 20 then (some true) else (some (bt725.2.2 == 30))) else (some false)))) else (none)) = some r := by first | (rw [hy706]; with_reducible exact H) | (have H2_ := (Option.bind_some _ _).symm.trans H; rw [hy706]; with_reducible exact H2_) | (have H2_ := (Option.bind_some _ _).symm.trans H; with_reducible exact H2_) | with_reducible exact H | (rw [hy706]; exact H) | exact H
                                have Ny706 := Aside0.mk hy706
                                clear hy706
                                by_cases c37 : y703.length + y706.length < 140737488355328
                                · rw [if_pos c37] at H
                                  have LMc37 := Aside0.mk c37
                                  clear c37
                                  obtain ⟨y710, hy710⟩ : ∃ y_ : List Int, y_ = (y703 ++ y706) := ⟨_, rfl⟩
                                  replace H : (if a3 = true then ((some (([] : List Int) : List Int)).bind fun y713 => (if y713.length + t689.length < 140737488355328 then ((some (y713 ++ t689 : List Int)).bind fun y716 => (if (ji34) < (y716.length : Int) then ((chunk_Decode.f k2 (y716.set ((ji34) : Int).toNat 120) 500).bind fun bt720 => (if bt720.2.1 = 0 then (if bt720.2.2 = 20 then (some true) else (some (bt720.2.2 == 30))) else (some false))) else (none))) else (none))) else ((chunk_Decode.f k2 y710 500).bind fun bt725 => (if bt725.2.1 = 0 then (if bt725.2.2 = 20 then (some true) else (some (bt725.2.2 == 30))) else (some false)))) = some r := by first | (rw [hy710]; with_reducible exact H) | (have H2_ := (Option.bind_some _ _).symm.trans H; rw [hy710]; with_reducible exact H2_) | (have H2_ := (Option.bind_some _ _).symm.trans H; with_reducible exact H2_) | with_reducible exact H | (rw [hy710]; exact H) | exact H
                                  have Ny710 := Aside0.mk hy710
                                  clear hy710
                                  by_cases c38 : a3 = true
                                  · subst c38
                                    have H1 : ((some (([] : List Int) : List Int)).bind fun y713 => (if y713.length + t689.length < 140737488355328 then ((some (y713 ++ t689 : List Int)).bind fun y716 => (if (ji34) < (y716.length : Int) then ((chunk_Decode.f k2 (y716.set ((ji34) : Int).toNat 120) 500).bind fun bt720 => (if bt720.2.1 = 0 then (if bt720.2.2 = 20 then (some true) else (some (bt720.2.2 == 30))) else (some false))) else (none))) else (none))) = some r := by rw [if_pos rfl] at H; exact H
                                    clear H
                                    have H := H1
                                    clear H1
                                    obtain ⟨y713, hy713⟩ : ∃ y_ : List Int, y_ = (([] : List Int)) := ⟨_, rfl⟩
                                    replace H : (if y713.length + t689.length < 140737488355328 then ((some (y713 ++ t689 : List Int)).bind fun y716 => (if (ji34) < (y716.length : Int) then ((chunk_Decode.f k2 (y716.set ((ji34) : Int).toNat 120) 500).bind fun bt720 => (if bt720.2.1 = 0 then (if bt720.2.2 = 20 then (some true) else (some (bt720.2.2 == 30))) else (some false))) else (none))) else (none)) = some r := by first | (rw [hy713]; with_reducible exact H) | (have H2_ := (Option.bind_some _ _).symm.trans H; rw [hy713]; with_reducible exact H2_) | (have H2_ := (Option.bind_some _ _).symm.trans H; with_reducible exact H2_) | with_reducible exact H | (rw [hy713]; exact H) | exact H
                                    have Ny713 := Aside0.mk hy713
                                    clear hy713
                                    by_cases c39 : y713.length + t689.length < 140737488355328
                                    · rw [if_pos c39] at H
                                      have LMc39 := Aside0.mk c39
                                      clear c39
                                      obtain ⟨y716, hy716⟩ : ∃ y_ : List Int, y_ = (y713 ++ t689) := ⟨_, rfl⟩
                                      replace H : (if (ji34) < (y716.length : Int) then ((chunk_Decode.f k2 (y716.set ((ji34) : Int).toNat 120) 500).bind fun bt720 => (if bt720.2.1 = 0 then (if bt720.2.2 = 20 then (some true) else (some (bt720.2.2 == 30))) else (some false))) else (none)) = some r := by first | (rw [hy716]; with_reducible exact H) | (have H2_ := (Option.bind_some _ _).symm.trans H; rw [hy716]; with_reducible exact H2_) | (have H2_ := (Option.bind_some _ _).symm.trans H; with_reducible exact H2_) | with_reducible exact H | (rw [hy716]; exact H) | exact H
                                      have Ny716 := Aside0.mk hy716
                                      clear hy716
                                      by_cases c40 : (ji34) < (y716.length : Int)
                                      · rw [if_pos c40] at H
                                        have c40b0 : decide ((ji34) < (y716.length : Int)) = true := decide_eq_true c40
                                        clear c40
                                        obtain ⟨y719, hy719⟩ : ∃ y_ : List Int, y_ = (y716.set ((ji34) : Int).toNat 120) := ⟨_, rfl⟩
                                        replace H : ((chunk_Decode.f k2 y719 500).bind fun bt720 => (if bt720.2.1 = 0 then (if bt720.2.2 = 20 then (some true) else (some (bt720.2.2 == 30))) else (some false))) = some r := by first | (rw [hy719]; with_reducible exact H) | (have H2_ := (Option.bind_some _ _).symm.trans H; rw [hy719]; with_reducible exact H2_) | (have H2_ := (Option.bind_some _ _).symm.trans H; with_reducible exact H2_) | with_reducible exact H | (rw [hy719]; exact H) | exact H
                                        have Ny719 := Aside0.mk hy719
                                        clear hy719
                                        replace H := Option.bind_eq_some_iff.mp H
                                        obtain ⟨⟨t720, t721, t722⟩, A420, H⟩ := H
                                        replace H : (if t721 = 0 then (if t722 = 20 then (some true) else (some (t722 == 30))) else (some false)) = some r := H
                                        have A42 := Aside0.mk A420
                                        clear A420
                                        by_cases c43 : t721 = 0
                                        · rw [if_pos c43] at H
                                          have c43b0 : (t721 == 0) = true := beq_iff_eq.mpr c43
                                          have c43b1 : (t721 != 0) = false := bne_eq_false_iff_eq.mpr c43
                                          clear c43
                                          by_cases c44 : t722 = 20
                                          · rw [if_pos c44] at H
                                            have c44b0 : (t722 == 20) = true := beq_iff_eq.mpr c44
                                            have c44b1 : (t722 != 20) = false := bne_eq_false_iff_eq.mpr c44
                                            clear c44
                                            obtain rfl := Option.some.inj H
                                            obtain ⟨Ao45, co45, eo45⟩ := Kd.R_slice HO_10.out
                                            subst eo45
                                            have p695 : 0 ≤ ((ji28) : Int) := of_decide_eq_true (by first | (with_reducible assumption) | assumption)
                                            have q695 : (ji28) < (x10_2.length : Int) := of_decide_eq_true (by first | (with_reducible assumption) | assumption)
                                            obtain ⟨ad695, e695, hx695_0⟩ := Kd.at_int (Kd.R_reads' HO_10.out).2.2 (ji28) p695 q695
                                            cases e695
                                            replace p695 := eq_true p695
                                            replace q695 := eq_true q695
                                            try go_wp2
                                            have n0_ := Aside0.mk (Kd.R_drew HO_9.out)
                                            have n1_ := Aside0.mk (Kd.R_drew HO_10.out)
                                            have n2_ := Aside0.mk (below_drew1 HB.out)
                                            clear HO_9
                                            clear HO_10
                                            clear HB
                                            have HO_9 := n0_
                                            have HO_10 := n1_
                                            have HB := n2_
                                            clear n0_ n1_ n2_
                                            obtain ⟨Ao48, co48, eo48⟩ := Kd.R_slice HO_9.out
                                            (first | subst eo48 | (injection eo48 with f1_ f2_ f3_; have f4_ := f1_.symm; have f5_ := f3_.symm; clear f1_ f2_ f3_; subst f4_; subst f5_))
                                            have q47 : ((rd x10_2 (ji28)) : Int) ≤ ((t689.length : Int) : Int) := of_decide_eq_true (by first | (with_reducible assumption) | assumption)
                                            obtain ⟨i047, hi047, _, hsz47, _⟩ := info_parts info5
                                            have hroom47 : t689.length ≤ co48 := (Kd.R_reads' HO_9.out).2.1
                                            have hC47 : Kd.C (Kd.int .u8) _ Ao48 t689.length t689 := (Kd.R_reads' HO_9.out).2.2
                                            have hcut47 := cut_to (P := Tryd.prog) 24 5 .i64 Tryd.underlying24 hi047 Ao48 t689.length co48 (rd x10_2 (ji28)) (of_decide_eq_true (by first | (with_reducible assumption) | assumption)) q47 hroom47
                                            have hr47 := Kd.C_take (m := ((rd x10_2 (ji28)) : Int).toNat) hC47 (by omega)
                                            have hy47 : y699.length = ((rd x10_2 (ji28)) : Int).toNat := (by rw [Ny699.out, List.length_take]; omega)
                                            rw [← Ny699.out] at hr47
                                            rw [← hy47] at hcut47
                                            have HR702 := Aside0.mk hr47
                                            have HC702 := Aside0.mk (show y699.length ≤ co48 from by omega)
                                            clear hr47 hC47 hroom47 hi047 hsz47
                                            have KY47 := Aside0.mk hy47
                                            clear hy47
                                            have KL47 := Aside0.mk (show ((rd x10_2 (ji28)) : Int).toNat ≤ t689.length from by omega)
                                            replace q47 := eq_true q47
                                            have q49 : ((ji34) : Int) ≤ ((t689.length : Int) : Int) := of_decide_eq_true (by first | (with_reducible assumption) | assumption)
                                            obtain ⟨i049, hi049, _, hsz49, _⟩ := info_parts info5
                                            have hroom49 : t689.length ≤ co48 := (Kd.R_reads' HO_9.out).2.1
                                            have hC49 : Kd.C (Kd.int .u8) _ Ao48 t689.length t689 := (Kd.R_reads' HO_9.out).2.2
                                            have q049 : (0 : Int) ≤ ((ji34) : Int) := of_decide_eq_true (by first | (with_reducible assumption) | assumption)
                                            have hcut49 := cut_from (P := Tryd.prog) 24 5 .i64 Tryd.underlying24 hi049 1 hsz49 Ao48 t689.length co48 (ji34) q049 q49
                                            have hr49 := Kd.C_drop (m := ((ji34) : Int).toNat) (c := co48) hC49 (by omega) hroom49
                                            obtain ⟨A49, hA49⟩ : ∃ A1, A1 = (if co48 = ((ji34) : Int).toNat then Ao48 else (Ao48 : Option Addr).map (·.add (((ji34) : Int).toNat * 1))) := ⟨_, rfl⟩
                                            obtain ⟨c49, hc49⟩ : ∃ c1, c1 = co48 - ((ji34) : Int).toNat := ⟨_, rfl⟩
                                            have hy49 : y706.length = t689.length - ((ji34) : Int).toNat := (by rw [Ny706.out, List.length_drop] <;> omega)
                                            rw [show (t689).drop ((ji34) : Int).toNat = y706 from Ny706.out.symm] at hr49
                                            replace hr49 : Kd.C (Kd.int .u8) _ A49 y706.length y706 := (by rw [hA49]; exact hr49)
                                            rw [← hy49, ← hA49, ← hc49] at hcut49
                                            have HR709 := Aside0.mk hr49
                                            have HC709 := Aside0.mk (show y706.length ≤ c49 from by rw [hy49, hc49]; exact Nat.sub_le_sub_right hroom49 _)
                                            clear hr49 hC49 hroom49 hi049 hsz49 hc49
                                            have KY49 := Aside0.mk hy49
                                            have KA49 := Aside0.mk hA49
                                            clear hy49 hA49
                                            have KL49 := Aside0.mk (show ((ji34) : Int).toNat ≤ t689.length from by omega)
                                            replace q49 := eq_true q49
                                            refine start_ (n := 11) (S := fun w' => True) (ds := []) #[false, false, false, false, false, false, false, false, false, false, false] (by kernel_rfl) rfl rfl trivial (fun hHeld => ?_); refine with_tabW tollbarlaw06_ChunkBare.tab18 tollbarlaw06_ChunkBare.bits18 (fun HT_ HW_ => ?_)
                                            generalize wr.drew = w46 at HO_9 HO_10 HB HR702 HR709 hHeld ⊢
                                            refine pure_ (i := 1) (N := some 75) (v := ?_) (a' := ?_) #[false, true, false, false, false, false, false, false, false, false, false] rfl rfl (any_of HT_.out (by kernel_rfl)) (fun _ _ _ h => h) (Or.inl ⟨by rfl, ?_⟩) ?_ ?_
                                            rotate_left
                                            · intro w'
                                              go_simp
                                              with_reducible rfl
                                            rotate_left
                                            · simp only [Act.put, List.setIfInBounds_toArray, List.set_cons_zero, List.set_cons_succ, i64_w, i32_w]
                                              rfl
                                            refine pure_ (i := 2) (N := some 76) (v := ?_) (a' := ?_) #[false, true, true, false, false, false, false, false, false, false, false] rfl rfl (any_of HT_.out (by kernel_rfl)) (fun _ _ _ h => h) (Or.inl ⟨by rfl, ?_⟩) ?_ ?_
                                            rotate_left
                                            · intro w'
                                              go_simp
                                              with_reducible rfl
                                            rotate_left
                                            · simp only [Act.put, List.setIfInBounds_toArray, List.set_cons_zero, List.set_cons_succ, i64_w, i32_w]
                                              rfl
                                            refine pure_ (i := 3) (N := some 77) (v := ?_) (a' := ?_) #[false, true, true, true, false, false, false, false, false, false, false] rfl rfl (any_of HT_.out (by kernel_rfl)) (fun _ _ _ h => h) (Or.inl ⟨by rfl, ?_⟩) ?_ ?_
                                            rotate_left
                                            · intro w'
                                              go_simp
                                              with_reducible rfl
                                            rotate_left
                                            · simp only [Act.put, List.setIfInBounds_toArray, List.set_cons_zero, List.set_cons_succ, i64_w, i32_w]
                                              rfl
                                            refine pure_ (i := 5) (N := some 79) (v := ?_) (a' := ?_) #[false, true, true, true, false, true, false, false, false, false, false] rfl rfl (any_of HT_.out (by kernel_rfl)) (fun _ _ _ h => h) (Or.inl ⟨by rfl, ?_⟩) ?_ ?_
                                            rotate_left
                                            · intro w'
                                              go_simp
                                              with_reducible rfl
                                            rotate_left
                                            · simp only [Act.put, List.setIfInBounds_toArray, List.set_cons_zero, List.set_cons_succ, i64_w, i32_w]
                                              rfl
                                            refine pure_ (i := 6) (N := some 80) (v := ?_) (a' := ?_) #[false, true, true, true, false, true, true, false, false, false, false] rfl rfl (any_of HT_.out (by kernel_rfl)) (fun _ _ _ h => h) (Or.inl ⟨by rfl, ?_⟩) ?_ ?_
                                            rotate_left
                                            · intro w'
                                              go_simp
                                              with_reducible rfl
                                            rotate_left
                                            · simp only [Act.put, List.setIfInBounds_toArray, List.set_cons_zero, List.set_cons_succ, i64_w, i32_w]
                                              rfl
                                            refine pure_ (i := 7) (N := some 81) (v := ?_) (a' := ?_) #[false, true, true, true, false, true, true, true, false, false, false] rfl rfl (any_of HT_.out (by kernel_rfl)) (fun _ _ _ h => h) (Or.inl ⟨by rfl, ?_⟩) ?_ ?_
                                            rotate_left
                                            · intro w'
                                              go_simp
                                              with_reducible rfl
                                            rotate_left
                                            · simp only [Act.put, List.setIfInBounds_toArray, List.set_cons_zero, List.set_cons_succ, i64_w, i32_w]
                                              rfl
                                            refine pure_ (i := 8) (N := some 82) (v := ?_) (a' := ?_) #[false, true, true, true, false, true, true, true, true, false, false] rfl rfl (any_of HT_.out (by kernel_rfl)) (fun _ _ _ h => h) (Or.inl ⟨by rfl, ?_⟩) ?_ ?_
                                            rotate_left
                                            · intro w'
                                              go_simp
                                              with_reducible rfl
                                            rotate_left
                                            · simp only [Act.put, List.setIfInBounds_toArray, List.set_cons_zero, List.set_cons_succ, i64_w, i32_w]
                                              rfl
                                            refine one_ (i := 0) (N := some 74) #[true, true, true, true, false, true, true, true, true, false, false] rfl rfl (one_of HT_.out (by kernel_rfl)) (by decide) (fun K hK => ?_)
                                            refine Kd.R_lit_step (Kd.int .u8) _ 5 ?hg (N := 74) ?hd (xs := ([] : List Int)) (inner := []) (ok := fun _ => True) (okp := fun _ => True) ?hr ?hp (fun _ hk => hk) trivial (Below.refl _ _) (Nat.le_refl _) (by simp) ?_; (case hd => rfl); (case hg => rfl); (case hr => first | (go_simp; done) | (go_simp; rfl)); (case hp => exact (Reps.none _ _))
                                            intro v697 w50 ho51 hb hg_ hnew_
                                            clear hg_ hnew_
                                            (first | rw [← Ny696.out] at ho51 | (simp only [Int.reduceToNat] at ho51; rw [← Ny696.out] at ho51))
                                            have n0_ := Aside0.mk (Kd.R_elder' (by (with_reducible repeat (first | apply Kd.R_alloc | apply Kd.R_drewN | apply Kd.R_drew)); exact HO_9.out) (Kd.R_base ho51) hb)
                                            have n1_ := Aside0.mk (Kd.R_below (by (with_reducible repeat (first | apply Kd.R_alloc | apply Kd.R_drewN | apply Kd.R_drew)); exact HO_10.out) hb)
                                            have n2_ := Aside0.mk (Kd.R_lower (Kd.R_new' ho51 (Kd.R_lt (by (with_reducible repeat (first | apply Kd.R_alloc | apply Kd.R_drewN | apply Kd.R_drew)); exact HO_9.out))) (below_size (by repeat (first | (with_reducible first | exact HB.out | apply below_alloc | apply pw_below_drewN | apply below_drew1) | exact HB.out))))
                                            have n3_ := Aside0.mk (Kd.C_below (by repeat (first | (with_reducible exact HR702.out) | (with_reducible refine Kd.C_alloc ?_ _) | (with_reducible refine Kd.C_drewN ?_ _) | (with_reducible refine Kd.C_drew ?_) | exact HR702.out)) hb)
                                            have n4_ := Aside0.mk (Kd.C_below (by repeat (first | (with_reducible exact HR709.out) | (with_reducible refine Kd.C_alloc ?_ _) | (with_reducible refine Kd.C_drewN ?_ _) | (with_reducible refine Kd.C_drew ?_) | exact HR709.out)) hb)
                                            have n5_ := Aside0.mk (below_step (by repeat (first | (with_reducible first | exact HB.out | apply below_alloc | apply pw_below_drewN | apply below_drew1) | exact HB.out)) hb)
                                            clear HO_9
                                            clear HO_10
                                            clear HR702
                                            clear HR709
                                            clear HB
                                            have HO_9 := n0_
                                            have HO_10 := n1_
                                            have HO698 := n2_
                                            have HR702 := n3_
                                            have HR709 := n4_
                                            have HB := n5_
                                            clear n0_ n1_ n2_ n3_ n4_ n5_
                                            clear hb ho51
                                            refine hK.out _ _ trivial (fun hHeld => ?_)
                                            clear hK K
                                            refine norm_ (a' := ?_) ?_ ?_
                                            rotate_left
                                            · show Act.put _ (some 74) _ = _
                                              simp only [Act.put, List.setIfInBounds_toArray, List.set_cons_zero, List.set_cons_succ, i64_w, i32_w]
                                              rfl
                                            refine one_ (i := 4) (N := some 78) #[true, true, true, true, true, true, true, true, true, false, false] rfl rfl (one_of HT_.out (by kernel_rfl)) (by decide) (fun K hK => ?_)
                                            refine Kd.R_append_rows_step (Kd.int .u8) (w0 := w) w.heap.size (by rfl) (.tmp 74) (.tmp 77) 24 5 (.int .u8 0) 1 rfl Tryd.underlying24 info5 rfl (by decide) (by omega) v697 y696 y699 _ _ _ (fun k_ => some k_ ≠ (.slice Ao48 t689.length co48 : Value).ownBlock) (fun _ => False) rfl rfl ?aO ?aR (fun _ _ h => h) (fun _ h => h.elim) ?aF ?aB ?aS ?aL ?_
                                            (case aR => repeat (first | exact (by repeat (first | (with_reducible exact HR702.out) | (with_reducible refine Kd.C_alloc ?_ _) | (with_reducible refine Kd.C_drewN ?_ _) | (with_reducible refine Kd.C_drew ?_) | exact HR702.out)) | (with_reducible refine Kd.C_alloc ?_ _) | (with_reducible refine Kd.C_drewN ?_ _) | (with_reducible refine Kd.C_drew ?_)))
                                            (case aB => exact (by repeat (first | (with_reducible first | exact HB.out | apply below_alloc | apply pw_below_drewN | apply below_drew1) | exact HB.out)))
                                            (case aF => exact (fun k_ hk => Kd.fresh' (Kd.R_lt (by (with_reducible repeat (first | apply Kd.R_alloc | apply Kd.R_drewN | apply Kd.R_drew)); exact HO_9.out)) k_ hk))
                                            (case aO => exact (by (with_reducible repeat (first | apply Kd.R_alloc | apply Kd.R_drewN | apply Kd.R_drew)); exact Kd.R_mono HO698.out (fun _ hk => hk.2)))
                                            (case aS => exact (below_size (by repeat (first | (with_reducible first | exact HB.out | apply below_alloc | apply pw_below_drewN | apply below_drew1) | exact HB.out))))
                                            (case aL => have := LMc33.out; omega)
                                            intro v704 w52 ho hb hg hat
                                            rw [← Ny703.out] at ho
                                            have n0_ := Aside0.mk (Kd.R_after (ok := (fun _ => True)) (by (with_reducible repeat (first | apply Kd.R_alloc | apply Kd.R_drewN | apply Kd.R_drew)); exact HO_9.out) hg hat)
                                            have n1_ := Aside0.mk (Kd.R_over' (by (with_reducible repeat (first | apply Kd.R_alloc | apply Kd.R_drewN | apply Kd.R_drew)); exact HO_10.out) (Kd.R_typed (by (with_reducible repeat (first | apply Kd.R_alloc | apply Kd.R_drewN | apply Kd.R_drew)); exact HO698.out)) (by decide) hg)
                                            have n2_ := Aside0.mk (hb)
                                            have n3_ := Aside0.mk ((show Kd.C (Kd.int .u8) w52 Ao48 y699.length y699 from by rw [Ny699.out]; exact Kd.C_take (m := ((rd x10_2 (ji28)) : Int).toNat) ((Kd.R_reads' (Kd.R_after (ok := (fun _ => True)) (by (with_reducible repeat (first | apply Kd.R_alloc | apply Kd.R_drewN | apply Kd.R_drew)); exact HO_9.out) hg hat)).2.2) KL47.out))
                                            have n4_ := Aside0.mk ((show Kd.C (Kd.int .u8) w52 A49 y706.length y706 from by rw [Ny706.out, KA49.out]; exact Kd.C_drop (m := ((ji34) : Int).toNat) (c := co48) ((Kd.R_reads' (Kd.R_after (ok := (fun _ => True)) (by (with_reducible repeat (first | apply Kd.R_alloc | apply Kd.R_drewN | apply Kd.R_drew)); exact HO_9.out) hg hat)).2.2) KL49.out ((Kd.R_reads' (Kd.R_after (ok := (fun _ => True)) (by (with_reducible repeat (first | apply Kd.R_alloc | apply Kd.R_drewN | apply Kd.R_drew)); exact HO_9.out) hg hat)).2.1)))
                                            have n5_ := Aside0.mk (ho)
                                            clear HO_9
                                            clear HO_10
                                            clear HB
                                            clear HR702
                                            clear HR709
                                            clear HO698
                                            have HO_9 := n0_
                                            have HO_10 := n1_
                                            have HB := n2_
                                            have HR702 := n3_
                                            have HR709 := n4_
                                            have HO705 := n5_
                                            clear n0_ n1_ n2_ n3_ n4_ n5_
                                            clear ho hb hg hat
                                            refine hK.out _ _ trivial (fun hHeld => ?_)
                                            clear hK K
                                            refine norm_ (a' := ?_) ?_ ?_
                                            rotate_left
                                            · show Act.put _ (some 78) _ = _
                                              simp only [Act.put, List.setIfInBounds_toArray, List.set_cons_zero, List.set_cons_succ, i64_w, i32_w]
                                              rfl
                                            refine one_ (i := 9) (N := some 83) #[true, true, true, true, true, true, true, true, true, true, false] rfl rfl (one_of HT_.out (by kernel_rfl)) (by decide) (fun K hK => ?_)
                                            refine Kd.R_append_rows_step (Kd.int .u8) (w0 := w) w.heap.size (by rfl) (.tmp 78) (.tmp 82) 24 5 (.int .u8 0) 1 rfl Tryd.underlying24 info5 rfl (by decide) (by omega) v704 y703 y706 _ _ _ (fun k_ => some k_ ≠ (.slice Ao48 t689.length co48 : Value).ownBlock) (fun _ => False) rfl rfl ?aO ?aR (fun _ _ h => h) (fun _ h => h.elim) ?aF ?aB ?aS ?aL ?_
                                            (case aR => repeat (first | exact (by repeat (first | (with_reducible exact HR709.out) | (with_reducible refine Kd.C_alloc ?_ _) | (with_reducible refine Kd.C_drewN ?_ _) | (with_reducible refine Kd.C_drew ?_) | exact HR709.out)) | (with_reducible refine Kd.C_alloc ?_ _) | (with_reducible refine Kd.C_drewN ?_ _) | (with_reducible refine Kd.C_drew ?_)))
                                            (case aB => exact (by repeat (first | (with_reducible first | exact HB.out | apply below_alloc | apply pw_below_drewN | apply below_drew1) | exact HB.out)))
                                            (case aF => exact (fun k_ hk => Kd.fresh' (Kd.R_lt (by (with_reducible repeat (first | apply Kd.R_alloc | apply Kd.R_drewN | apply Kd.R_drew)); exact HO_9.out)) k_ hk))
                                            (case aO => exact (by (with_reducible repeat (first | apply Kd.R_alloc | apply Kd.R_drewN | apply Kd.R_drew)); exact HO705.out))
                                            (case aS => exact (below_size (by repeat (first | (with_reducible first | exact HB.out | apply below_alloc | apply pw_below_drewN | apply below_drew1) | exact HB.out))))
                                            (case aL => have := LMc37.out; omega)
                                            intro v711 w53 ho hb hg hat
                                            rw [← Ny710.out] at ho
                                            have n0_ := Aside0.mk (Kd.R_after (ok := (fun _ => True)) (by (with_reducible repeat (first | apply Kd.R_alloc | apply Kd.R_drewN | apply Kd.R_drew)); exact HO_9.out) hg hat)
                                            have n1_ := Aside0.mk (Kd.R_over' (by (with_reducible repeat (first | apply Kd.R_alloc | apply Kd.R_drewN | apply Kd.R_drew)); exact HO_10.out) (Kd.R_typed (by (with_reducible repeat (first | apply Kd.R_alloc | apply Kd.R_drewN | apply Kd.R_drew)); exact HO705.out)) (by decide) hg)
                                            have n2_ := Aside0.mk (hb)
                                            have n3_ := Aside0.mk ((show Kd.C (Kd.int .u8) w53 Ao48 y699.length y699 from by rw [Ny699.out]; exact Kd.C_take (m := ((rd x10_2 (ji28)) : Int).toNat) ((Kd.R_reads' (Kd.R_after (ok := (fun _ => True)) (by (with_reducible repeat (first | apply Kd.R_alloc | apply Kd.R_drewN | apply Kd.R_drew)); exact HO_9.out) hg hat)).2.2) KL47.out))
                                            have n4_ := Aside0.mk ((show Kd.C (Kd.int .u8) w53 A49 y706.length y706 from by rw [Ny706.out, KA49.out]; exact Kd.C_drop (m := ((ji34) : Int).toNat) (c := co48) ((Kd.R_reads' (Kd.R_after (ok := (fun _ => True)) (by (with_reducible repeat (first | apply Kd.R_alloc | apply Kd.R_drewN | apply Kd.R_drew)); exact HO_9.out) hg hat)).2.2) KL49.out ((Kd.R_reads' (Kd.R_after (ok := (fun _ => True)) (by (with_reducible repeat (first | apply Kd.R_alloc | apply Kd.R_drewN | apply Kd.R_drew)); exact HO_9.out) hg hat)).2.1)))
                                            have n5_ := Aside0.mk (ho)
                                            clear HO_9
                                            clear HO_10
                                            clear HB
                                            clear HR702
                                            clear HR709
                                            clear HO705
                                            have HO_9 := n0_
                                            have HO_10 := n1_
                                            have HB := n2_
                                            have HR702 := n3_
                                            have HR709 := n4_
                                            have HO712 := n5_
                                            clear n0_ n1_ n2_ n3_ n4_ n5_
                                            clear ho hb hg hat
                                            refine hK.out _ _ trivial (fun hHeld => ?_)
                                            clear hK K
                                            refine norm_ (a' := ?_) ?_ ?_
                                            rotate_left
                                            · show Act.put _ (some 83) _ = _
                                              simp only [Act.put, List.setIfInBounds_toArray, List.set_cons_zero, List.set_cons_succ, i64_w, i32_w]
                                              rfl
                                            refine pure_ (i := 10) (N := some 15) (v := ?_) (a' := ?_) #[true, true, true, true, true, true, true, true, true, true, true] rfl rfl (any_of HT_.out (by kernel_rfl)) (fun _ _ _ h => h) (Or.inl ⟨by rfl, ?_⟩) ?_ ?_
                                            rotate_left
                                            · intro w'
                                              go_simp
                                              with_reducible rfl
                                            rotate_left
                                            · simp only [Act.put, List.setIfInBounds_toArray, List.set_cons_zero, List.set_cons_succ, i64_w, i32_w]
                                              rfl
                                            refine done_ (done_of HT_.out (by kernel_rfl)) ?_
                                            try go_wp2_with (first | ((with_reducible refine gate_dst (N := 85) rfl ?_); (try (refine gate_guard (by rfl) ?_; dsimp only)); refine Kd.R_lit (Kd.int .u8) _ 5 ?hg (N := 85) ?hd (xs := ([] : List Int)) (inner := []) (ok := fun _ => True) (okp := fun _ => True) ?hr ?hp (fun _ hk => hk) trivial (Below.refl _ _) (Nat.le_refl _) (by simp) ?_; (case hd => rfl); (case hg => rfl); (case hr => first | (go_simp; done) | (go_simp; rfl)); (case hp => exact (Reps.none _ _)); intro v714 w54 ho55 hb hg_ hnew_; clear hg_ hnew_; (first | rw [← Ny713.out] at ho55 | (simp only [Int.reduceToNat] at ho55; rw [← Ny713.out] at ho55)); have n0_ := Aside0.mk (Kd.R_elder' (by (with_reducible repeat (first | apply Kd.R_alloc | apply Kd.R_drewN | apply Kd.R_drew)); exact HO_9.out) (Kd.R_base ho55) hb); have n1_ := Aside0.mk (Kd.R_below (by (with_reducible repeat (first | apply Kd.R_alloc | apply Kd.R_drewN | apply Kd.R_drew)); exact HO_10.out) hb); have n2_ := Aside0.mk (Kd.R_elder' (by (with_reducible repeat (first | apply Kd.R_alloc | apply Kd.R_drewN | apply Kd.R_drew)); exact HO712.out) (Kd.R_base ho55) hb); have n3_ := Aside0.mk (Kd.R_lower (Kd.R_new' (Kd.R_new' ho55 (Kd.R_lt (by (with_reducible repeat (first | apply Kd.R_alloc | apply Kd.R_drewN | apply Kd.R_drew)); exact HO_9.out))) (Kd.R_lt (by (with_reducible repeat (first | apply Kd.R_alloc | apply Kd.R_drewN | apply Kd.R_drew)); exact HO712.out))) (below_size (by repeat (first | (with_reducible first | exact HB.out | apply below_alloc | apply pw_below_drewN | apply below_drew1) | exact HB.out)))); have n4_ := Aside0.mk (Kd.C_below (by repeat (first | (with_reducible exact HR702.out) | (with_reducible refine Kd.C_alloc ?_ _) | (with_reducible refine Kd.C_drewN ?_ _) | (with_reducible refine Kd.C_drew ?_) | exact HR702.out)) hb); have n5_ := Aside0.mk (Kd.C_below (by repeat (first | (with_reducible exact HR709.out) | (with_reducible refine Kd.C_alloc ?_ _) | (with_reducible refine Kd.C_drewN ?_ _) | (with_reducible refine Kd.C_drew ?_) | exact HR709.out)) hb); have n6_ := Aside0.mk (below_step (by repeat (first | (with_reducible first | exact HB.out | apply below_alloc | apply pw_below_drewN | apply below_drew1) | exact HB.out)) hb); clear HO_9; clear HO_10; clear HO712; clear HR702; clear HR709; clear HB; have HO_9 := n0_; have HO_10 := n1_; have HO712 := n2_; have HO715 := n3_; have HR702 := n4_; have HR709 := n5_; have HB := n6_; clear n0_ n1_ n2_ n3_ n4_ n5_ n6_; clear hb ho55) | ((with_reducible refine gate_builtin (b := .append) (xs := #[.tmp 85, .tmp 86]) rfl ?_); (try (refine gate_guard (by rfl) ?_; dsimp only)); at_builtin; refine Kd.R_append_rows (Kd.int .u8) (w0 := w) w.heap.size rfl (.tmp 85) (.tmp 86) 24 5 (.int .u8 0) 1 rfl Tryd.underlying24 info5 rfl (by decide) (by omega) v714 y713 t689 _ _ _ (fun k_ => some k_ ≠ (.slice Ao48 t689.length co48 : Value).ownBlock ∧ some k_ ≠ (v711 : Value).ownBlock) (fun _ => False) rfl rfl ?aO ?aR (fun _ _ h => h) (fun _ h => h.elim) ?aF ?aB ?aS ?aL ?_; (case aR => repeat (first | exact (Kd.R_reads' HO_9.out).2.2 | (with_reducible refine Kd.C_alloc ?_ _) | (with_reducible refine Kd.C_drewN ?_ _) | (with_reducible refine Kd.C_drew ?_))); (case aB => exact (by repeat (first | (with_reducible first | exact HB.out | apply below_alloc | apply pw_below_drewN | apply below_drew1) | exact HB.out))); (case aF => exact (fun k_ hk => ⟨Kd.fresh' (Kd.R_lt (by (with_reducible repeat (first | apply Kd.R_alloc | apply Kd.R_drewN | apply Kd.R_drew)); exact HO_9.out)) k_ hk, Kd.fresh' (Kd.R_lt (by (with_reducible repeat (first | apply Kd.R_alloc | apply Kd.R_drewN | apply Kd.R_drew)); exact HO712.out)) k_ hk⟩)); (case aO => exact (by (with_reducible repeat (first | apply Kd.R_alloc | apply Kd.R_drewN | apply Kd.R_drew)); exact Kd.R_mono HO715.out (fun _ hk => ⟨hk.1.2, hk.2⟩))); (case aS => exact (below_size (by repeat (first | (with_reducible first | exact HB.out | apply below_alloc | apply pw_below_drewN | apply below_drew1) | exact HB.out)))); (case aL => have := LMc39.out; omega); intro v717 w56 ho hb hg hat; rw [← Ny716.out] at ho; have n0_ := Aside0.mk (Kd.R_after (ok := (fun k_ => some k_ ≠ (v711 : Value).ownBlock)) (by (with_reducible repeat (first | apply Kd.R_alloc | apply Kd.R_drewN | apply Kd.R_drew)); exact Kd.R_mono HO_9.out (fun _ hk => ⟨hk.1.2, hk.2⟩)) hg hat); have n1_ := Aside0.mk (Kd.R_over' (by (with_reducible repeat (first | apply Kd.R_alloc | apply Kd.R_drewN | apply Kd.R_drew)); exact HO_10.out) (Kd.R_typed (by (with_reducible repeat (first | apply Kd.R_alloc | apply Kd.R_drewN | apply Kd.R_drew)); exact HO715.out)) (by decide) hg); have n2_ := Aside0.mk (Kd.R_after (ok := (fun k_ => some k_ ≠ (.slice Ao48 t689.length co48 : Value).ownBlock)) (by (with_reducible repeat (first | apply Kd.R_alloc | apply Kd.R_drewN | apply Kd.R_drew)); exact HO712.out) hg hat); have n3_ := Aside0.mk (hb); have n4_ := Aside0.mk ((show Kd.C (Kd.int .u8) w56 Ao48 y699.length y699 from by rw [Ny699.out]; exact Kd.C_take (m := ((rd x10_2 (ji28)) : Int).toNat) ((Kd.R_reads' (Kd.R_after (ok := (fun k_ => some k_ ≠ (v711 : Value).ownBlock)) (by (with_reducible repeat (first | apply Kd.R_alloc | apply Kd.R_drewN | apply Kd.R_drew)); exact Kd.R_mono HO_9.out (fun _ hk => ⟨hk.1.2, hk.2⟩)) hg hat)).2.2) KL47.out)); have n5_ := Aside0.mk ((show Kd.C (Kd.int .u8) w56 A49 y706.length y706 from by rw [Ny706.out, KA49.out]; exact Kd.C_drop (m := ((ji34) : Int).toNat) (c := co48) ((Kd.R_reads' (Kd.R_after (ok := (fun k_ => some k_ ≠ (v711 : Value).ownBlock)) (by (with_reducible repeat (first | apply Kd.R_alloc | apply Kd.R_drewN | apply Kd.R_drew)); exact Kd.R_mono HO_9.out (fun _ hk => ⟨hk.1.2, hk.2⟩)) hg hat)).2.2) KL49.out ((Kd.R_reads' (Kd.R_after (ok := (fun k_ => some k_ ≠ (v711 : Value).ownBlock)) (by (with_reducible repeat (first | apply Kd.R_alloc | apply Kd.R_drewN | apply Kd.R_drew)); exact Kd.R_mono HO_9.out (fun _ hk => ⟨hk.1.2, hk.2⟩)) hg hat)).2.1))); have n6_ := Aside0.mk (ho); clear HO_9; clear HO_10; clear HO712; clear HB; clear HR702; clear HR709; clear HO715; have HO_9 := n0_; have HO_10 := n1_; have HO712 := n2_; have HB := n3_; have HR702 := n4_; have HR709 := n5_; have HO718 := n6_; clear n0_ n1_ n2_ n3_ n4_ n5_ n6_; clear ho hb hg hat; have p41 : 0 ≤ ((ji34) : Int) := of_decide_eq_true (by first | (with_reducible assumption) | assumption); have q41 : ((ji34) : Int) < ((y716.length : Int) : Int) := of_decide_eq_true (by first | (with_reducible assumption) | assumption); obtain ⟨go41, co41, eo41, gb41, gl41, cl41, HG41⟩ := Kd.R_form HO718.out (by omega); (first | cases eo41 | (injection eo41 with ea_ en_ ec_; (first | subst ea_ | (injection ea_ with ea_; subst ea_)); subst ec_; clear en_)); have GB41 := Aside0.mk gb41; have GG41 := Aside0.mk HG41; clear gb41 gl41 HG41; obtain ⟨hx41_0, hf41_0⟩ := Kd.R_celln 0 HO718.out ((ji34) : Int) p41 q41; replace p41 := eq_true p41; replace q41 := eq_true q41; obtain ⟨hy57_, hz57_⟩ := Kd.R_celln 0 HO718.out ((ji34) : Int) (of_decide_eq_true (by first | (with_reducible assumption) | assumption)) (of_decide_eq_true (by first | (with_reducible assumption) | assumption)); have HP57 := Kd.R_putg HO718.out ((ji34) : Int) 120) | ((with_reducible refine gate_store (t := 5) (p := 91) rfl ?_); refine store_event (t := 5) (p := 91) (v := ?vo_w58) (w1 := (w56.setCell ⟨go41, ((ji34) : Int).toNat, none⟩ (.int .u8 120))) ?hg ?ho ?hn ?hr ?_; (case ho => rfl); (case hg => rfl); (case hn => rfl); (case hr => first | (go_simp; done) | (go_simp; rfl)); intro w58 hw; have hg : w56.grownBy w58 (some go41) := (by rw [hw]; exact HP57.2); have hp_ : Kd.R (Kd.int .u8) 5 w58 w.heap.size (fun k_ => some k_ ≠ (.slice Ao48 t689.length co48 : Value).ownBlock ∧ some k_ ≠ (v711 : Value).ownBlock) (.slice (some ⟨go41, 0, none⟩) y716.length co41) y719 := (by rw [hw, Ny719.out]; exact HP57.1); clear HP57; have n0_ := Aside0.mk (Kd.R_after (v := (.slice (some ⟨go41, 0, none⟩) y716.length co41)) (v1 := (.slice (some ⟨go41, 0, none⟩) y716.length co41)) (ok := (fun k_ => some k_ ≠ (v711 : Value).ownBlock)) (by (with_reducible repeat (first | apply Kd.R_alloc | apply Kd.R_drewN | apply Kd.R_drew)); exact HO_9.out) hg (.inl rfl)); have n1_ := Aside0.mk (Kd.R_over' (v := (.slice (some ⟨go41, 0, none⟩) y716.length co41)) (by (with_reducible repeat (first | apply Kd.R_alloc | apply Kd.R_drewN | apply Kd.R_drew)); exact HO_10.out) (Kd.R_typed HO718.out) (by decide) hg); have n2_ := Aside0.mk (Kd.R_after (v := (.slice (some ⟨go41, 0, none⟩) y716.length co41)) (v1 := (.slice (some ⟨go41, 0, none⟩) y716.length co41)) (ok := (fun k_ => some k_ ≠ (.slice Ao48 t689.length co48 : Value).ownBlock)) (by (with_reducible repeat (first | apply Kd.R_alloc | apply Kd.R_drewN | apply Kd.R_drew)); exact HO712.out) hg (.inl rfl)); have n3_ := Aside0.mk (hp_); have n4_ := Aside0.mk ((by rw [hw]; exact below_set (HB.out) GB41.out : Below w.heap.size w w58)); have n5_ := Aside0.mk ((show Kd.C (Kd.int .u8) w58 Ao48 y699.length y699 from by rw [Ny699.out]; exact Kd.C_take (m := ((rd x10_2 (ji28)) : Int).toNat) ((Kd.R_reads' (Kd.R_after (v := (.slice (some ⟨go41, 0, none⟩) y716.length co41)) (v1 := (.slice (some ⟨go41, 0, none⟩) y716.length co41)) (ok := (fun k_ => some k_ ≠ (v711 : Value).ownBlock)) (by (with_reducible repeat (first | apply Kd.R_alloc | apply Kd.R_drewN | apply Kd.R_drew)); exact HO_9.out) hg (.inl rfl))).2.2) KL47.out)); have n6_ := Aside0.mk ((show Kd.C (Kd.int .u8) w58 A49 y706.length y706 from by rw [Ny706.out, KA49.out]; exact Kd.C_drop (m := ((ji34) : Int).toNat) (c := co48) ((Kd.R_reads' (Kd.R_after (v := (.slice (some ⟨go41, 0, none⟩) y716.length co41)) (v1 := (.slice (some ⟨go41, 0, none⟩) y716.length co41)) (ok := (fun k_ => some k_ ≠ (v711 : Value).ownBlock)) (by (with_reducible repeat (first | apply Kd.R_alloc | apply Kd.R_drewN | apply Kd.R_drew)); exact HO_9.out) hg (.inl rfl))).2.2) KL49.out ((Kd.R_reads' (Kd.R_after (v := (.slice (some ⟨go41, 0, none⟩) y716.length co41)) (v1 := (.slice (some ⟨go41, 0, none⟩) y716.length co41)) (ok := (fun k_ => some k_ ≠ (v711 : Value).ownBlock)) (by (with_reducible repeat (first | apply Kd.R_alloc | apply Kd.R_drewN | apply Kd.R_drew)); exact HO_9.out) hg (.inl rfl))).2.1))); clear HO_9; clear HO_10; clear HO712; clear HO718; clear HB; clear HR702; clear HR709; have HO_9 := n0_; have HO_10 := n1_; have HO712 := n2_; have HO718 := n3_; have HB := n4_; have HR702 := n5_; have HR709 := n6_; clear n0_ n1_ n2_ n3_ n4_ n5_ n6_; clear hg hw hp_) | ((with_reducible refine gate_callee (f := 29) rfl ?_); refine goesL_ (some 94) rfl rfl Tryd.func29 (by kernel_rfl) rfl #[.slice (some ⟨go41, 0, none⟩) y719.length co41, .int .i64 500] rfl (by (try simp only [List.map_toArray, List.map_cons, List.map_nil]); first | done | (rw [show y719.length = y716.length from (Kd.R_reads' HO718.out).1.symm] <;> rfl) | rfl | (simp only [List.length_drop, List.length_take]; rfl)) ?_; (with_reducible refine (chunk_Decode.calls k2 _ _ y719 500 t720 t721 t722 _ ?side1 ?side2 A42.out).mono ?_); (case side1 => repeat (first | exact (Kd.R_reads' HO718.out).2.2 | (with_reducible refine Kd.C_alloc ?_ _) | (with_reducible refine Kd.C_drewN ?_ _) | (with_reducible refine Kd.C_drew ?_))); (case side2 => rw [show y719.length = y716.length from (Kd.R_reads' HO718.out).1.symm]; exact (Kd.R_reads' HO718.out).2.1); rintro e w59 ⟨v723, rfl, ho0, hb⟩; (try clear A42); refine ⟨_, rfl, ?_⟩; have n0_ := Aside0.mk (Kd.R_elder' (by (with_reducible repeat (first | apply Kd.R_alloc | apply Kd.R_drewN | apply Kd.R_drew)); exact HO_9.out) (Kd.R_base ho0) hb); have n1_ := Aside0.mk (Kd.R_below (by (with_reducible repeat (first | apply Kd.R_alloc | apply Kd.R_drewN | apply Kd.R_drew)); exact HO_10.out) hb); have n2_ := Aside0.mk (Kd.R_elder' (by (with_reducible repeat (first | apply Kd.R_alloc | apply Kd.R_drewN | apply Kd.R_drew)); exact HO712.out) (Kd.R_base ho0) hb); have n3_ := Aside0.mk (Kd.R_elder' (by (with_reducible repeat (first | apply Kd.R_alloc | apply Kd.R_drewN | apply Kd.R_drew)); exact HO718.out) (Kd.R_base ho0) hb); have n4_ := Aside0.mk (Kd.R_lower (Kd.R_new' (Kd.R_new' (Kd.R_new' ho0 (Kd.R_lt (by (with_reducible repeat (first | apply Kd.R_alloc | apply Kd.R_drewN | apply Kd.R_drew)); exact HO_9.out))) (Kd.R_lt (by (with_reducible repeat (first | apply Kd.R_alloc | apply Kd.R_drewN | apply Kd.R_drew)); exact HO712.out))) (Kd.R_lt (by (with_reducible repeat (first | apply Kd.R_alloc | apply Kd.R_drewN | apply Kd.R_drew)); exact HO718.out))) (below_size (by repeat (first | (with_reducible first | exact HB.out | apply below_alloc | apply pw_below_drewN | apply below_drew1) | exact HB.out)))); have n5_ := Aside0.mk (Kd.C_below (by repeat (first | (with_reducible exact HR702.out) | (with_reducible refine Kd.C_alloc ?_ _) | (with_reducible refine Kd.C_drewN ?_ _) | (with_reducible refine Kd.C_drew ?_) | exact HR702.out)) hb); have n6_ := Aside0.mk (Kd.C_below (by repeat (first | (with_reducible exact HR709.out) | (with_reducible refine Kd.C_alloc ?_ _) | (with_reducible refine Kd.C_drewN ?_ _) | (with_reducible refine Kd.C_drew ?_) | exact HR709.out)) hb); have n7_ := Aside0.mk (below_step (by repeat (first | (with_reducible first | exact HB.out | apply below_alloc | apply pw_below_drewN | apply below_drew1) | exact HB.out)) hb); clear HO_9; clear HO_10; clear HO712; clear HO718; clear HR702; clear HR709; clear HB; have HO_9 := n0_; have HO_10 := n1_; have HO712 := n2_; have HO718 := n3_; have HO724 := n4_; have HR702 := n5_; have HR709 := n6_; have HB := n7_; clear n0_ n1_ n2_ n3_ n4_ n5_ n6_ n7_; (try clear hb); (try clear hb2); (try clear hk); (try clear hi); (try clear ho0)))
                                            go_ret
                                            exact ⟨by first | rfl | (simp [errW_none, errW_some] <;> rfl) | (simp only [← hji28, ← hji34]; first | rfl | (simp [errW_none, errW_some] <;> rfl)) | (simp [*, errW_none, errW_some] <;> rfl), by repeat (first | (with_reducible first | exact HB.out | apply below_alloc | apply pw_below_drewN | apply below_drew1) | exact HB.out)⟩
                                          · rw [if_neg c44] at H
                                            have c44b0 : (t722 == 20) = false := beq_eq_false_iff_ne.mpr c44
                                            have c44b1 : (t722 != 20) = true := bne_iff_ne.mpr c44
                                            obtain rfl := Option.some.inj H
                                            obtain ⟨Ao60, co60, eo60⟩ := Kd.R_slice HO_10.out
                                            subst eo60
                                            have p695 : 0 ≤ ((ji28) : Int) := of_decide_eq_true (by first | (with_reducible assumption) | assumption)
                                            have q695 : (ji28) < (x10_2.length : Int) := of_decide_eq_true (by first | (with_reducible assumption) | assumption)
                                            obtain ⟨ad695, e695, hx695_0⟩ := Kd.at_int (Kd.R_reads' HO_10.out).2.2 (ji28) p695 q695
                                            cases e695
                                            replace p695 := eq_true p695
                                            replace q695 := eq_true q695
                                            try go_wp2
                                            have n0_ := Aside0.mk (Kd.R_drew HO_9.out)
                                            have n1_ := Aside0.mk (Kd.R_drew HO_10.out)
                                            have n2_ := Aside0.mk (below_drew1 HB.out)
                                            clear HO_9
                                            clear HO_10
                                            clear HB
                                            have HO_9 := n0_
                                            have HO_10 := n1_
                                            have HB := n2_
                                            clear n0_ n1_ n2_
                                            obtain ⟨Ao63, co63, eo63⟩ := Kd.R_slice HO_9.out
                                            (first | subst eo63 | (injection eo63 with f1_ f2_ f3_; have f4_ := f1_.symm; have f5_ := f3_.symm; clear f1_ f2_ f3_; subst f4_; subst f5_))
                                            have q62 : ((rd x10_2 (ji28)) : Int) ≤ ((t689.length : Int) : Int) := of_decide_eq_true (by first | (with_reducible assumption) | assumption)
                                            obtain ⟨i062, hi062, _, hsz62, _⟩ := info_parts info5
                                            have hroom62 : t689.length ≤ co63 := (Kd.R_reads' HO_9.out).2.1
                                            have hC62 : Kd.C (Kd.int .u8) _ Ao63 t689.length t689 := (Kd.R_reads' HO_9.out).2.2
                                            have hcut62 := cut_to (P := Tryd.prog) 24 5 .i64 Tryd.underlying24 hi062 Ao63 t689.length co63 (rd x10_2 (ji28)) (of_decide_eq_true (by first | (with_reducible assumption) | assumption)) q62 hroom62
                                            have hr62 := Kd.C_take (m := ((rd x10_2 (ji28)) : Int).toNat) hC62 (by omega)
                                            have hy62 : y699.length = ((rd x10_2 (ji28)) : Int).toNat := (by rw [Ny699.out, List.length_take]; omega)
                                            rw [← Ny699.out] at hr62
                                            rw [← hy62] at hcut62
                                            have HR702 := Aside0.mk hr62
                                            have HC702 := Aside0.mk (show y699.length ≤ co63 from by omega)
                                            clear hr62 hC62 hroom62 hi062 hsz62
                                            have KY62 := Aside0.mk hy62
                                            clear hy62
                                            have KL62 := Aside0.mk (show ((rd x10_2 (ji28)) : Int).toNat ≤ t689.length from by omega)
                                            replace q62 := eq_true q62
                                            have q64 : ((ji34) : Int) ≤ ((t689.length : Int) : Int) := of_decide_eq_true (by first | (with_reducible assumption) | assumption)
                                            obtain ⟨i064, hi064, _, hsz64, _⟩ := info_parts info5
                                            have hroom64 : t689.length ≤ co63 := (Kd.R_reads' HO_9.out).2.1
                                            have hC64 : Kd.C (Kd.int .u8) _ Ao63 t689.length t689 := (Kd.R_reads' HO_9.out).2.2
                                            have q064 : (0 : Int) ≤ ((ji34) : Int) := of_decide_eq_true (by first | (with_reducible assumption) | assumption)
                                            have hcut64 := cut_from (P := Tryd.prog) 24 5 .i64 Tryd.underlying24 hi064 1 hsz64 Ao63 t689.length co63 (ji34) q064 q64
                                            have hr64 := Kd.C_drop (m := ((ji34) : Int).toNat) (c := co63) hC64 (by omega) hroom64
                                            obtain ⟨A64, hA64⟩ : ∃ A1, A1 = (if co63 = ((ji34) : Int).toNat then Ao63 else (Ao63 : Option Addr).map (·.add (((ji34) : Int).toNat * 1))) := ⟨_, rfl⟩
                                            obtain ⟨c64, hc64⟩ : ∃ c1, c1 = co63 - ((ji34) : Int).toNat := ⟨_, rfl⟩
                                            have hy64 : y706.length = t689.length - ((ji34) : Int).toNat := (by rw [Ny706.out, List.length_drop] <;> omega)
                                            rw [show (t689).drop ((ji34) : Int).toNat = y706 from Ny706.out.symm] at hr64
                                            replace hr64 : Kd.C (Kd.int .u8) _ A64 y706.length y706 := (by rw [hA64]; exact hr64)
                                            rw [← hy64, ← hA64, ← hc64] at hcut64
                                            have HR709 := Aside0.mk hr64
                                            have HC709 := Aside0.mk (show y706.length ≤ c64 from by rw [hy64, hc64]; exact Nat.sub_le_sub_right hroom64 _)
                                            clear hr64 hC64 hroom64 hi064 hsz64 hc64
                                            have KY64 := Aside0.mk hy64
                                            have KA64 := Aside0.mk hA64
                                            clear hy64 hA64
                                            have KL64 := Aside0.mk (show ((ji34) : Int).toNat ≤ t689.length from by omega)
                                            replace q64 := eq_true q64
                                            refine start_ (n := 11) (S := fun w' => True) (ds := []) #[false, false, false, false, false, false, false, false, false, false, false] (by kernel_rfl) rfl rfl trivial (fun hHeld => ?_); refine with_tabW tollbarlaw06_ChunkBare.tab18 tollbarlaw06_ChunkBare.bits18 (fun HT_ HW_ => ?_)
                                            generalize wr.drew = w61 at HO_9 HO_10 HB HR702 HR709 hHeld ⊢
                                            refine pure_ (i := 1) (N := some 75) (v := ?_) (a' := ?_) #[false, true, false, false, false, false, false, false, false, false, false] rfl rfl (any_of HT_.out (by kernel_rfl)) (fun _ _ _ h => h) (Or.inl ⟨by rfl, ?_⟩) ?_ ?_
                                            rotate_left
                                            · intro w'
                                              go_simp
                                              with_reducible rfl
                                            rotate_left
                                            · simp only [Act.put, List.setIfInBounds_toArray, List.set_cons_zero, List.set_cons_succ, i64_w, i32_w]
                                              rfl
                                            refine pure_ (i := 2) (N := some 76) (v := ?_) (a' := ?_) #[false, true, true, false, false, false, false, false, false, false, false] rfl rfl (any_of HT_.out (by kernel_rfl)) (fun _ _ _ h => h) (Or.inl ⟨by rfl, ?_⟩) ?_ ?_
                                            rotate_left
                                            · intro w'
                                              go_simp
                                              with_reducible rfl
                                            rotate_left
                                            · simp only [Act.put, List.setIfInBounds_toArray, List.set_cons_zero, List.set_cons_succ, i64_w, i32_w]
                                              rfl
                                            refine pure_ (i := 3) (N := some 77) (v := ?_) (a' := ?_) #[false, true, true, true, false, false, false, false, false, false, false] rfl rfl (any_of HT_.out (by kernel_rfl)) (fun _ _ _ h => h) (Or.inl ⟨by rfl, ?_⟩) ?_ ?_
                                            rotate_left
                                            · intro w'
                                              go_simp
                                              with_reducible rfl
                                            rotate_left
                                            · simp only [Act.put, List.setIfInBounds_toArray, List.set_cons_zero, List.set_cons_succ, i64_w, i32_w]
                                              rfl
                                            refine pure_ (i := 5) (N := some 79) (v := ?_) (a' := ?_) #[false, true, true, true, false, true, false, false, false, false, false] rfl rfl (any_of HT_.out (by kernel_rfl)) (fun _ _ _ h => h) (Or.inl ⟨by rfl, ?_⟩) ?_ ?_
                                            rotate_left
                                            · intro w'
                                              go_simp
                                              with_reducible rfl
                                            rotate_left
                                            · simp only [Act.put, List.setIfInBounds_toArray, List.set_cons_zero, List.set_cons_succ, i64_w, i32_w]
                                              rfl
                                            refine pure_ (i := 6) (N := some 80) (v := ?_) (a' := ?_) #[false, true, true, true, false, true, true, false, false, false, false] rfl rfl (any_of HT_.out (by kernel_rfl)) (fun _ _ _ h => h) (Or.inl ⟨by rfl, ?_⟩) ?_ ?_
                                            rotate_left
                                            · intro w'
                                              go_simp
                                              with_reducible rfl
                                            rotate_left
                                            · simp only [Act.put, List.setIfInBounds_toArray, List.set_cons_zero, List.set_cons_succ, i64_w, i32_w]
                                              rfl
                                            refine pure_ (i := 7) (N := some 81) (v := ?_) (a' := ?_) #[false, true, true, true, false, true, true, true, false, false, false] rfl rfl (any_of HT_.out (by kernel_rfl)) (fun _ _ _ h => h) (Or.inl ⟨by rfl, ?_⟩) ?_ ?_
                                            rotate_left
                                            · intro w'
                                              go_simp
                                              with_reducible rfl
                                            rotate_left
                                            · simp only [Act.put, List.setIfInBounds_toArray, List.set_cons_zero, List.set_cons_succ, i64_w, i32_w]
                                              rfl
                                            refine pure_ (i := 8) (N := some 82) (v := ?_) (a' := ?_) #[false, true, true, true, false, true, true, true, true, false, false] rfl rfl (any_of HT_.out (by kernel_rfl)) (fun _ _ _ h => h) (Or.inl ⟨by rfl, ?_⟩) ?_ ?_
                                            rotate_left
                                            · intro w'
                                              go_simp
                                              with_reducible rfl
                                            rotate_left
                                            · simp only [Act.put, List.setIfInBounds_toArray, List.set_cons_zero, List.set_cons_succ, i64_w, i32_w]
                                              rfl
                                            refine one_ (i := 0) (N := some 74) #[true, true, true, true, false, true, true, true, true, false, false] rfl rfl (one_of HT_.out (by kernel_rfl)) (by decide) (fun K hK => ?_)
                                            refine Kd.R_lit_step (Kd.int .u8) _ 5 ?hg (N := 74) ?hd (xs := ([] : List Int)) (inner := []) (ok := fun _ => True) (okp := fun _ => True) ?hr ?hp (fun _ hk => hk) trivial (Below.refl _ _) (Nat.le_refl _) (by simp) ?_; (case hd => rfl); (case hg => rfl); (case hr => first | (go_simp; done) | (go_simp; rfl)); (case hp => exact (Reps.none _ _))
                                            intro v697 w65 ho66 hb hg_ hnew_
                                            clear hg_ hnew_
                                            (first | rw [← Ny696.out] at ho66 | (simp only [Int.reduceToNat] at ho66; rw [← Ny696.out] at ho66))
                                            have n0_ := Aside0.mk (Kd.R_elder' (by (with_reducible repeat (first | apply Kd.R_alloc | apply Kd.R_drewN | apply Kd.R_drew)); exact HO_9.out) (Kd.R_base ho66) hb)
                                            have n1_ := Aside0.mk (Kd.R_below (by (with_reducible repeat (first | apply Kd.R_alloc | apply Kd.R_drewN | apply Kd.R_drew)); exact HO_10.out) hb)
                                            have n2_ := Aside0.mk (Kd.R_lower (Kd.R_new' ho66 (Kd.R_lt (by (with_reducible repeat (first | apply Kd.R_alloc | apply Kd.R_drewN | apply Kd.R_drew)); exact HO_9.out))) (below_size (by repeat (first | (with_reducible first | exact HB.out | apply below_alloc | apply pw_below_drewN | apply below_drew1) | exact HB.out))))
                                            have n3_ := Aside0.mk (Kd.C_below (by repeat (first | (with_reducible exact HR702.out) | (with_reducible refine Kd.C_alloc ?_ _) | (with_reducible refine Kd.C_drewN ?_ _) | (with_reducible refine Kd.C_drew ?_) | exact HR702.out)) hb)
                                            have n4_ := Aside0.mk (Kd.C_below (by repeat (first | (with_reducible exact HR709.out) | (with_reducible refine Kd.C_alloc ?_ _) | (with_reducible refine Kd.C_drewN ?_ _) | (with_reducible refine Kd.C_drew ?_) | exact HR709.out)) hb)
                                            have n5_ := Aside0.mk (below_step (by repeat (first | (with_reducible first | exact HB.out | apply below_alloc | apply pw_below_drewN | apply below_drew1) | exact HB.out)) hb)
                                            clear HO_9
                                            clear HO_10
                                            clear HR702
                                            clear HR709
                                            clear HB
                                            have HO_9 := n0_
                                            have HO_10 := n1_
                                            have HO698 := n2_
                                            have HR702 := n3_
                                            have HR709 := n4_
                                            have HB := n5_
                                            clear n0_ n1_ n2_ n3_ n4_ n5_
                                            clear hb ho66
                                            refine hK.out _ _ trivial (fun hHeld => ?_)
                                            clear hK K
                                            refine norm_ (a' := ?_) ?_ ?_
                                            rotate_left
                                            · show Act.put _ (some 74) _ = _
                                              simp only [Act.put, List.setIfInBounds_toArray, List.set_cons_zero, List.set_cons_succ, i64_w, i32_w]
                                              rfl
                                            refine one_ (i := 4) (N := some 78) #[true, true, true, true, true, true, true, true, true, false, false] rfl rfl (one_of HT_.out (by kernel_rfl)) (by decide) (fun K hK => ?_)
                                            refine Kd.R_append_rows_step (Kd.int .u8) (w0 := w) w.heap.size (by rfl) (.tmp 74) (.tmp 77) 24 5 (.int .u8 0) 1 rfl Tryd.underlying24 info5 rfl (by decide) (by omega) v697 y696 y699 _ _ _ (fun k_ => some k_ ≠ (.slice Ao63 t689.length co63 : Value).ownBlock) (fun _ => False) rfl rfl ?aO ?aR (fun _ _ h => h) (fun _ h => h.elim) ?aF ?aB ?aS ?aL ?_
                                            (case aR => repeat (first | exact (by repeat (first | (with_reducible exact HR702.out) | (with_reducible refine Kd.C_alloc ?_ _) | (with_reducible refine Kd.C_drewN ?_ _) | (with_reducible refine Kd.C_drew ?_) | exact HR702.out)) | (with_reducible refine Kd.C_alloc ?_ _) | (with_reducible refine Kd.C_drewN ?_ _) | (with_reducible refine Kd.C_drew ?_)))
                                            (case aB => exact (by repeat (first | (with_reducible first | exact HB.out | apply below_alloc | apply pw_below_drewN | apply below_drew1) | exact HB.out)))
                                            (case aF => exact (fun k_ hk => Kd.fresh' (Kd.R_lt (by (with_reducible repeat (first | apply Kd.R_alloc | apply Kd.R_drewN | apply Kd.R_drew)); exact HO_9.out)) k_ hk))
                                            (case aO => exact (by (with_reducible repeat (first | apply Kd.R_alloc | apply Kd.R_drewN | apply Kd.R_drew)); exact Kd.R_mono HO698.out (fun _ hk => hk.2)))
                                            (case aS => exact (below_size (by repeat (first | (with_reducible first | exact HB.out | apply below_alloc | apply pw_below_drewN | apply below_drew1) | exact HB.out))))
                                            (case aL => have := LMc33.out; omega)
                                            intro v704 w67 ho hb hg hat
                                            rw [← Ny703.out] at ho
                                            have n0_ := Aside0.mk (Kd.R_after (ok := (fun _ => True)) (by (with_reducible repeat (first | apply Kd.R_alloc | apply Kd.R_drewN | apply Kd.R_drew)); exact HO_9.out) hg hat)
                                            have n1_ := Aside0.mk (Kd.R_over' (by (with_reducible repeat (first | apply Kd.R_alloc | apply Kd.R_drewN | apply Kd.R_drew)); exact HO_10.out) (Kd.R_typed (by (with_reducible repeat (first | apply Kd.R_alloc | apply Kd.R_drewN | apply Kd.R_drew)); exact HO698.out)) (by decide) hg)
                                            have n2_ := Aside0.mk (hb)
                                            have n3_ := Aside0.mk ((show Kd.C (Kd.int .u8) w67 Ao63 y699.length y699 from by rw [Ny699.out]; exact Kd.C_take (m := ((rd x10_2 (ji28)) : Int).toNat) ((Kd.R_reads' (Kd.R_after (ok := (fun _ => True)) (by (with_reducible repeat (first | apply Kd.R_alloc | apply Kd.R_drewN | apply Kd.R_drew)); exact HO_9.out) hg hat)).2.2) KL62.out))
                                            have n4_ := Aside0.mk ((show Kd.C (Kd.int .u8) w67 A64 y706.length y706 from by rw [Ny706.out, KA64.out]; exact Kd.C_drop (m := ((ji34) : Int).toNat) (c := co63) ((Kd.R_reads' (Kd.R_after (ok := (fun _ => True)) (by (with_reducible repeat (first | apply Kd.R_alloc | apply Kd.R_drewN | apply Kd.R_drew)); exact HO_9.out) hg hat)).2.2) KL64.out ((Kd.R_reads' (Kd.R_after (ok := (fun _ => True)) (by (with_reducible repeat (first | apply Kd.R_alloc | apply Kd.R_drewN | apply Kd.R_drew)); exact HO_9.out) hg hat)).2.1)))
                                            have n5_ := Aside0.mk (ho)
                                            clear HO_9
                                            clear HO_10
                                            clear HB
                                            clear HR702
                                            clear HR709
                                            clear HO698
                                            have HO_9 := n0_
                                            have HO_10 := n1_
                                            have HB := n2_
                                            have HR702 := n3_
                                            have HR709 := n4_
                                            have HO705 := n5_
                                            clear n0_ n1_ n2_ n3_ n4_ n5_
                                            clear ho hb hg hat
                                            refine hK.out _ _ trivial (fun hHeld => ?_)
                                            clear hK K
                                            refine norm_ (a' := ?_) ?_ ?_
                                            rotate_left
                                            · show Act.put _ (some 78) _ = _
                                              simp only [Act.put, List.setIfInBounds_toArray, List.set_cons_zero, List.set_cons_succ, i64_w, i32_w]
                                              rfl
                                            refine one_ (i := 9) (N := some 83) #[true, true, true, true, true, true, true, true, true, true, false] rfl rfl (one_of HT_.out (by kernel_rfl)) (by decide) (fun K hK => ?_)
                                            refine Kd.R_append_rows_step (Kd.int .u8) (w0 := w) w.heap.size (by rfl) (.tmp 78) (.tmp 82) 24 5 (.int .u8 0) 1 rfl Tryd.underlying24 info5 rfl (by decide) (by omega) v704 y703 y706 _ _ _ (fun k_ => some k_ ≠ (.slice Ao63 t689.length co63 : Value).ownBlock) (fun _ => False) rfl rfl ?aO ?aR (fun _ _ h => h) (fun _ h => h.elim) ?aF ?aB ?aS ?aL ?_
                                            (case aR => repeat (first | exact (by repeat (first | (with_reducible exact HR709.out) | (with_reducible refine Kd.C_alloc ?_ _) | (with_reducible refine Kd.C_drewN ?_ _) | (with_reducible refine Kd.C_drew ?_) | exact HR709.out)) | (with_reducible refine Kd.C_alloc ?_ _) | (with_reducible refine Kd.C_drewN ?_ _) | (with_reducible refine Kd.C_drew ?_)))
                                            (case aB => exact (by repeat (first | (with_reducible first | exact HB.out | apply below_alloc | apply pw_below_drewN | apply below_drew1) | exact HB.out)))
                                            (case aF => exact (fun k_ hk => Kd.fresh' (Kd.R_lt (by (with_reducible repeat (first | apply Kd.R_alloc | apply Kd.R_drewN | apply Kd.R_drew)); exact HO_9.out)) k_ hk))
                                            (case aO => exact (by (with_reducible repeat (first | apply Kd.R_alloc | apply Kd.R_drewN | apply Kd.R_drew)); exact HO705.out))
                                            (case aS => exact (below_size (by repeat (first | (with_reducible first | exact HB.out | apply below_alloc | apply pw_below_drewN | apply below_drew1) | exact HB.out))))
                                            (case aL => have := LMc37.out; omega)
                                            intro v711 w68 ho hb hg hat
                                            rw [← Ny710.out] at ho
                                            have n0_ := Aside0.mk (Kd.R_after (ok := (fun _ => True)) (by (with_reducible repeat (first | apply Kd.R_alloc | apply Kd.R_drewN | apply Kd.R_drew)); exact HO_9.out) hg hat)
                                            have n1_ := Aside0.mk (Kd.R_over' (by (with_reducible repeat (first | apply Kd.R_alloc | apply Kd.R_drewN | apply Kd.R_drew)); exact HO_10.out) (Kd.R_typed (by (with_reducible repeat (first | apply Kd.R_alloc | apply Kd.R_drewN | apply Kd.R_drew)); exact HO705.out)) (by decide) hg)
                                            have n2_ := Aside0.mk (hb)
                                            have n3_ := Aside0.mk ((show Kd.C (Kd.int .u8) w68 Ao63 y699.length y699 from by rw [Ny699.out]; exact Kd.C_take (m := ((rd x10_2 (ji28)) : Int).toNat) ((Kd.R_reads' (Kd.R_after (ok := (fun _ => True)) (by (with_reducible repeat (first | apply Kd.R_alloc | apply Kd.R_drewN | apply Kd.R_drew)); exact HO_9.out) hg hat)).2.2) KL62.out))
                                            have n4_ := Aside0.mk ((show Kd.C (Kd.int .u8) w68 A64 y706.length y706 from by rw [Ny706.out, KA64.out]; exact Kd.C_drop (m := ((ji34) : Int).toNat) (c := co63) ((Kd.R_reads' (Kd.R_after (ok := (fun _ => True)) (by (with_reducible repeat (first | apply Kd.R_alloc | apply Kd.R_drewN | apply Kd.R_drew)); exact HO_9.out) hg hat)).2.2) KL64.out ((Kd.R_reads' (Kd.R_after (ok := (fun _ => True)) (by (with_reducible repeat (first | apply Kd.R_alloc | apply Kd.R_drewN | apply Kd.R_drew)); exact HO_9.out) hg hat)).2.1)))
                                            have n5_ := Aside0.mk (ho)
                                            clear HO_9
                                            clear HO_10
                                            clear HB
                                            clear HR702
                                            clear HR709
                                            clear HO705
                                            have HO_9 := n0_
                                            have HO_10 := n1_
                                            have HB := n2_
                                            have HR702 := n3_
                                            have HR709 := n4_
                                            have HO712 := n5_
                                            clear n0_ n1_ n2_ n3_ n4_ n5_
                                            clear ho hb hg hat
                                            refine hK.out _ _ trivial (fun hHeld => ?_)
                                            clear hK K
                                            refine norm_ (a' := ?_) ?_ ?_
                                            rotate_left
                                            · show Act.put _ (some 83) _ = _
                                              simp only [Act.put, List.setIfInBounds_toArray, List.set_cons_zero, List.set_cons_succ, i64_w, i32_w]
                                              rfl
                                            refine pure_ (i := 10) (N := some 15) (v := ?_) (a' := ?_) #[true, true, true, true, true, true, true, true, true, true, true] rfl rfl (any_of HT_.out (by kernel_rfl)) (fun _ _ _ h => h) (Or.inl ⟨by rfl, ?_⟩) ?_ ?_
                                            rotate_left
                                            · intro w'
                                              go_simp
                                              with_reducible rfl
                                            rotate_left
                                            · simp only [Act.put, List.setIfInBounds_toArray, List.set_cons_zero, List.set_cons_succ, i64_w, i32_w]
                                              rfl
                                            refine done_ (done_of HT_.out (by kernel_rfl)) ?_
                                            try go_wp2_with (first | ((with_reducible refine gate_dst (N := 85) rfl ?_); (try (refine gate_guard (by rfl) ?_; dsimp only)); refine Kd.R_lit (Kd.int .u8) _ 5 ?hg (N := 85) ?hd (xs := ([] : List Int)) (inner := []) (ok := fun _ => True) (okp := fun _ => True) ?hr ?hp (fun _ hk => hk) trivial (Below.refl _ _) (Nat.le_refl _) (by simp) ?_; (case hd => rfl); (case hg => rfl); (case hr => first | (go_simp; done) | (go_simp; rfl)); (case hp => exact (Reps.none _ _)); intro v714 w69 ho70 hb hg_ hnew_; clear hg_ hnew_; (first | rw [← Ny713.out] at ho70 | (simp only [Int.reduceToNat] at ho70; rw [← Ny713.out] at ho70)); have n0_ := Aside0.mk (Kd.R_elder' (by (with_reducible repeat (first | apply Kd.R_alloc | apply Kd.R_drewN | apply Kd.R_drew)); exact HO_9.out) (Kd.R_base ho70) hb); have n1_ := Aside0.mk (Kd.R_below (by (with_reducible repeat (first | apply Kd.R_alloc | apply Kd.R_drewN | apply Kd.R_drew)); exact HO_10.out) hb); have n2_ := Aside0.mk (Kd.R_elder' (by (with_reducible repeat (first | apply Kd.R_alloc | apply Kd.R_drewN | apply Kd.R_drew)); exact HO712.out) (Kd.R_base ho70) hb); have n3_ := Aside0.mk (Kd.R_lower (Kd.R_new' (Kd.R_new' ho70 (Kd.R_lt (by (with_reducible repeat (first | apply Kd.R_alloc | apply Kd.R_drewN | apply Kd.R_drew)); exact HO_9.out))) (Kd.R_lt (by (with_reducible repeat (first | apply Kd.R_alloc | apply Kd.R_drewN | apply Kd.R_drew)); exact HO712.out))) (below_size (by repeat (first | (with_reducible first | exact HB.out | apply below_alloc | apply pw_below_drewN | apply below_drew1) | exact HB.out)))); have n4_ := Aside0.mk (Kd.C_below (by repeat (first | (with_reducible exact HR702.out) | (with_reducible refine Kd.C_alloc ?_ _) | (with_reducible refine Kd.C_drewN ?_ _) | (with_reducible refine Kd.C_drew ?_) | exact HR702.out)) hb); have n5_ := Aside0.mk (Kd.C_below (by repeat (first | (with_reducible exact HR709.out) | (with_reducible refine Kd.C_alloc ?_ _) | (with_reducible refine Kd.C_drewN ?_ _) | (with_reducible refine Kd.C_drew ?_) | exact HR709.out)) hb); have n6_ := Aside0.mk (below_step (by repeat (first | (with_reducible first | exact HB.out | apply below_alloc | apply pw_below_drewN | apply below_drew1) | exact HB.out)) hb); clear HO_9; clear HO_10; clear HO712; clear HR702; clear HR709; clear HB; have HO_9 := n0_; have HO_10 := n1_; have HO712 := n2_; have HO715 := n3_; have HR702 := n4_; have HR709 := n5_; have HB := n6_; clear n0_ n1_ n2_ n3_ n4_ n5_ n6_; clear hb ho70) | ((with_reducible refine gate_builtin (b := .append) (xs := #[.tmp 85, .tmp 86]) rfl ?_); (try (refine gate_guard (by rfl) ?_; dsimp only)); at_builtin; refine Kd.R_append_rows (Kd.int .u8) (w0 := w) w.heap.size rfl (.tmp 85) (.tmp 86) 24 5 (.int .u8 0) 1 rfl Tryd.underlying24 info5 rfl (by decide) (by omega) v714 y713 t689 _ _ _ (fun k_ => some k_ ≠ (.slice Ao63 t689.length co63 : Value).ownBlock ∧ some k_ ≠ (v711 : Value).ownBlock) (fun _ => False) rfl rfl ?aO ?aR (fun _ _ h => h) (fun _ h => h.elim) ?aF ?aB ?aS ?aL ?_; (case aR => repeat (first | exact (Kd.R_reads' HO_9.out).2.2 | (with_reducible refine Kd.C_alloc ?_ _) | (with_reducible refine Kd.C_drewN ?_ _) | (with_reducible refine Kd.C_drew ?_))); (case aB => exact (by repeat (first | (with_reducible first | exact HB.out | apply below_alloc | apply pw_below_drewN | apply below_drew1) | exact HB.out))); (case aF => exact (fun k_ hk => ⟨Kd.fresh' (Kd.R_lt (by (with_reducible repeat (first | apply Kd.R_alloc | apply Kd.R_drewN | apply Kd.R_drew)); exact HO_9.out)) k_ hk, Kd.fresh' (Kd.R_lt (by (with_reducible repeat (first | apply Kd.R_alloc | apply Kd.R_drewN | apply Kd.R_drew)); exact HO712.out)) k_ hk⟩)); (case aO => exact (by (with_reducible repeat (first | apply Kd.R_alloc | apply Kd.R_drewN | apply Kd.R_drew)); exact Kd.R_mono HO715.out (fun _ hk => ⟨hk.1.2, hk.2⟩))); (case aS => exact (below_size (by repeat (first | (with_reducible first | exact HB.out | apply below_alloc | apply pw_below_drewN | apply below_drew1) | exact HB.out)))); (case aL => have := LMc39.out; omega); intro v717 w71 ho hb hg hat; rw [← Ny716.out] at ho; have n0_ := Aside0.mk (Kd.R_after (ok := (fun k_ => some k_ ≠ (v711 : Value).ownBlock)) (by (with_reducible repeat (first | apply Kd.R_alloc | apply Kd.R_drewN | apply Kd.R_drew)); exact Kd.R_mono HO_9.out (fun _ hk => ⟨hk.1.2, hk.2⟩)) hg hat); have n1_ := Aside0.mk (Kd.R_over' (by (with_reducible repeat (first | apply Kd.R_alloc | apply Kd.R_drewN | apply Kd.R_drew)); exact HO_10.out) (Kd.R_typed (by (with_reducible repeat (first | apply Kd.R_alloc | apply Kd.R_drewN | apply Kd.R_drew)); exact HO715.out)) (by decide) hg); have n2_ := Aside0.mk (Kd.R_after (ok := (fun k_ => some k_ ≠ (.slice Ao63 t689.length co63 : Value).ownBlock)) (by (with_reducible repeat (first | apply Kd.R_alloc | apply Kd.R_drewN | apply Kd.R_drew)); exact HO712.out) hg hat); have n3_ := Aside0.mk (hb); have n4_ := Aside0.mk ((show Kd.C (Kd.int .u8) w71 Ao63 y699.length y699 from by rw [Ny699.out]; exact Kd.C_take (m := ((rd x10_2 (ji28)) : Int).toNat) ((Kd.R_reads' (Kd.R_after (ok := (fun k_ => some k_ ≠ (v711 : Value).ownBlock)) (by (with_reducible repeat (first | apply Kd.R_alloc | apply Kd.R_drewN | apply Kd.R_drew)); exact Kd.R_mono HO_9.out (fun _ hk => ⟨hk.1.2, hk.2⟩)) hg hat)).2.2) KL62.out)); have n5_ := Aside0.mk ((show Kd.C (Kd.int .u8) w71 A64 y706.length y706 from by rw [Ny706.out, KA64.out]; exact Kd.C_drop (m := ((ji34) : Int).toNat) (c := co63) ((Kd.R_reads' (Kd.R_after (ok := (fun k_ => some k_ ≠ (v711 : Value).ownBlock)) (by (with_reducible repeat (first | apply Kd.R_alloc | apply Kd.R_drewN | apply Kd.R_drew)); exact Kd.R_mono HO_9.out (fun _ hk => ⟨hk.1.2, hk.2⟩)) hg hat)).2.2) KL64.out ((Kd.R_reads' (Kd.R_after (ok := (fun k_ => some k_ ≠ (v711 : Value).ownBlock)) (by (with_reducible repeat (first | apply Kd.R_alloc | apply Kd.R_drewN | apply Kd.R_drew)); exact Kd.R_mono HO_9.out (fun _ hk => ⟨hk.1.2, hk.2⟩)) hg hat)).2.1))); have n6_ := Aside0.mk (ho); clear HO_9; clear HO_10; clear HO712; clear HB; clear HR702; clear HR709; clear HO715; have HO_9 := n0_; have HO_10 := n1_; have HO712 := n2_; have HB := n3_; have HR702 := n4_; have HR709 := n5_; have HO718 := n6_; clear n0_ n1_ n2_ n3_ n4_ n5_ n6_; clear ho hb hg hat; have p41 : 0 ≤ ((ji34) : Int) := of_decide_eq_true (by first | (with_reducible assumption) | assumption); have q41 : ((ji34) : Int) < ((y716.length : Int) : Int) := of_decide_eq_true (by first | (with_reducible assumption) | assumption); obtain ⟨go41, co41, eo41, gb41, gl41, cl41, HG41⟩ := Kd.R_form HO718.out (by omega); (first | cases eo41 | (injection eo41 with ea_ en_ ec_; (first | subst ea_ | (injection ea_ with ea_; subst ea_)); subst ec_; clear en_)); have GB41 := Aside0.mk gb41; have GG41 := Aside0.mk HG41; clear gb41 gl41 HG41; obtain ⟨hx41_0, hf41_0⟩ := Kd.R_celln 0 HO718.out ((ji34) : Int) p41 q41; replace p41 := eq_true p41; replace q41 := eq_true q41; obtain ⟨hy72_, hz72_⟩ := Kd.R_celln 0 HO718.out ((ji34) : Int) (of_decide_eq_true (by first | (with_reducible assumption) | assumption)) (of_decide_eq_true (by first | (with_reducible assumption) | assumption)); have HP72 := Kd.R_putg HO718.out ((ji34) : Int) 120) | ((with_reducible refine gate_store (t := 5) (p := 91) rfl ?_); refine store_event (t := 5) (p := 91) (v := ?vo_w73) (w1 := (w71.setCell ⟨go41, ((ji34) : Int).toNat, none⟩ (.int .u8 120))) ?hg ?ho ?hn ?hr ?_; (case ho => rfl); (case hg => rfl); (case hn => rfl); (case hr => first | (go_simp; done) | (go_simp; rfl)); intro w73 hw; have hg : w71.grownBy w73 (some go41) := (by rw [hw]; exact HP72.2); have hp_ : Kd.R (Kd.int .u8) 5 w73 w.heap.size (fun k_ => some k_ ≠ (.slice Ao63 t689.length co63 : Value).ownBlock ∧ some k_ ≠ (v711 : Value).ownBlock) (.slice (some ⟨go41, 0, none⟩) y716.length co41) y719 := (by rw [hw, Ny719.out]; exact HP72.1); clear HP72; have n0_ := Aside0.mk (Kd.R_after (v := (.slice (some ⟨go41, 0, none⟩) y716.length co41)) (v1 := (.slice (some ⟨go41, 0, none⟩) y716.length co41)) (ok := (fun k_ => some k_ ≠ (v711 : Value).ownBlock)) (by (with_reducible repeat (first | apply Kd.R_alloc | apply Kd.R_drewN | apply Kd.R_drew)); exact HO_9.out) hg (.inl rfl)); have n1_ := Aside0.mk (Kd.R_over' (v := (.slice (some ⟨go41, 0, none⟩) y716.length co41)) (by (with_reducible repeat (first | apply Kd.R_alloc | apply Kd.R_drewN | apply Kd.R_drew)); exact HO_10.out) (Kd.R_typed HO718.out) (by decide) hg); have n2_ := Aside0.mk (Kd.R_after (v := (.slice (some ⟨go41, 0, none⟩) y716.length co41)) (v1 := (.slice (some ⟨go41, 0, none⟩) y716.length co41)) (ok := (fun k_ => some k_ ≠ (.slice Ao63 t689.length co63 : Value).ownBlock)) (by (with_reducible repeat (first | apply Kd.R_alloc | apply Kd.R_drewN | apply Kd.R_drew)); exact HO712.out) hg (.inl rfl)); have n3_ := Aside0.mk (hp_); have n4_ := Aside0.mk ((by rw [hw]; exact below_set (HB.out) GB41.out : Below w.heap.size w w73)); have n5_ := Aside0.mk ((show Kd.C (Kd.int .u8) w73 Ao63 y699.length y699 from by rw [Ny699.out]; exact Kd.C_take (m := ((rd x10_2 (ji28)) : Int).toNat) ((Kd.R_reads' (Kd.R_after (v := (.slice (some ⟨go41, 0, none⟩) y716.length co41)) (v1 := (.slice (some ⟨go41, 0, none⟩) y716.length co41)) (ok := (fun k_ => some k_ ≠ (v711 : Value).ownBlock)) (by (with_reducible repeat (first | apply Kd.R_alloc | apply Kd.R_drewN | apply Kd.R_drew)); exact HO_9.out) hg (.inl rfl))).2.2) KL62.out)); have n6_ := Aside0.mk ((show Kd.C (Kd.int .u8) w73 A64 y706.length y706 from by rw [Ny706.out, KA64.out]; exact Kd.C_drop (m := ((ji34) : Int).toNat) (c := co63) ((Kd.R_reads' (Kd.R_after (v := (.slice (some ⟨go41, 0, none⟩) y716.length co41)) (v1 := (.slice (some ⟨go41, 0, none⟩) y716.length co41)) (ok := (fun k_ => some k_ ≠ (v711 : Value).ownBlock)) (by (with_reducible repeat (first | apply Kd.R_alloc | apply Kd.R_drewN | apply Kd.R_drew)); exact HO_9.out) hg (.inl rfl))).2.2) KL64.out ((Kd.R_reads' (Kd.R_after (v := (.slice (some ⟨go41, 0, none⟩) y716.length co41)) (v1 := (.slice (some ⟨go41, 0, none⟩) y716.length co41)) (ok := (fun k_ => some k_ ≠ (v711 : Value).ownBlock)) (by (with_reducible repeat (first | apply Kd.R_alloc | apply Kd.R_drewN | apply Kd.R_drew)); exact HO_9.out) hg (.inl rfl))).2.1))); clear HO_9; clear HO_10; clear HO712; clear HO718; clear HB; clear HR702; clear HR709; have HO_9 := n0_; have HO_10 := n1_; have HO712 := n2_; have HO718 := n3_; have HB := n4_; have HR702 := n5_; have HR709 := n6_; clear n0_ n1_ n2_ n3_ n4_ n5_ n6_; clear hg hw hp_) | ((with_reducible refine gate_callee (f := 29) rfl ?_); refine goesL_ (some 94) rfl rfl Tryd.func29 (by kernel_rfl) rfl #[.slice (some ⟨go41, 0, none⟩) y719.length co41, .int .i64 500] rfl (by (try simp only [List.map_toArray, List.map_cons, List.map_nil]); first | done | (rw [show y719.length = y716.length from (Kd.R_reads' HO718.out).1.symm] <;> rfl) | rfl | (simp only [List.length_drop, List.length_take]; rfl)) ?_; (with_reducible refine (chunk_Decode.calls k2 _ _ y719 500 t720 t721 t722 _ ?side1 ?side2 A42.out).mono ?_); (case side1 => repeat (first | exact (Kd.R_reads' HO718.out).2.2 | (with_reducible refine Kd.C_alloc ?_ _) | (with_reducible refine Kd.C_drewN ?_ _) | (with_reducible refine Kd.C_drew ?_))); (case side2 => rw [show y719.length = y716.length from (Kd.R_reads' HO718.out).1.symm]; exact (Kd.R_reads' HO718.out).2.1); rintro e w74 ⟨v723, rfl, ho0, hb⟩; (try clear A42); refine ⟨_, rfl, ?_⟩; have n0_ := Aside0.mk (Kd.R_elder' (by (with_reducible repeat (first | apply Kd.R_alloc | apply Kd.R_drewN | apply Kd.R_drew)); exact HO_9.out) (Kd.R_base ho0) hb); have n1_ := Aside0.mk (Kd.R_below (by (with_reducible repeat (first | apply Kd.R_alloc | apply Kd.R_drewN | apply Kd.R_drew)); exact HO_10.out) hb); have n2_ := Aside0.mk (Kd.R_elder' (by (with_reducible repeat (first | apply Kd.R_alloc | apply Kd.R_drewN | apply Kd.R_drew)); exact HO712.out) (Kd.R_base ho0) hb); have n3_ := Aside0.mk (Kd.R_elder' (by (with_reducible repeat (first | apply Kd.R_alloc | apply Kd.R_drewN | apply Kd.R_drew)); exact HO718.out) (Kd.R_base ho0) hb); have n4_ := Aside0.mk (Kd.R_lower (Kd.R_new' (Kd.R_new' (Kd.R_new' ho0 (Kd.R_lt (by (with_reducible repeat (first | apply Kd.R_alloc | apply Kd.R_drewN | apply Kd.R_drew)); exact HO_9.out))) (Kd.R_lt (by (with_reducible repeat (first | apply Kd.R_alloc | apply Kd.R_drewN | apply Kd.R_drew)); exact HO712.out))) (Kd.R_lt (by (with_reducible repeat (first | apply Kd.R_alloc | apply Kd.R_drewN | apply Kd.R_drew)); exact HO718.out))) (below_size (by repeat (first | (with_reducible first | exact HB.out | apply below_alloc | apply pw_below_drewN | apply below_drew1) | exact HB.out)))); have n5_ := Aside0.mk (Kd.C_below (by repeat (first | (with_reducible exact HR702.out) | (with_reducible refine Kd.C_alloc ?_ _) | (with_reducible refine Kd.C_drewN ?_ _) | (with_reducible refine Kd.C_drew ?_) | exact HR702.out)) hb); have n6_ := Aside0.mk (Kd.C_below (by repeat (first | (with_reducible exact HR709.out) | (with_reducible refine Kd.C_alloc ?_ _) | (with_reducible refine Kd.C_drewN ?_ _) | (with_reducible refine Kd.C_drew ?_) | exact HR709.out)) hb); have n7_ := Aside0.mk (below_step (by repeat (first | (with_reducible first | exact HB.out | apply below_alloc | apply pw_below_drewN | apply below_drew1) | exact HB.out)) hb); clear HO_9; clear HO_10; clear HO712; clear HO718; clear HR702; clear HR709; clear HB; have HO_9 := n0_; have HO_10 := n1_; have HO712 := n2_; have HO718 := n3_; have HO724 := n4_; have HR702 := n5_; have HR709 := n6_; have HB := n7_; clear n0_ n1_ n2_ n3_ n4_ n5_ n6_ n7_; (try clear hb); (try clear hb2); (try clear hk); (try clear hi); (try clear ho0)))
                                            go_ret
                                            exact ⟨by first | rfl | (simp [errW_none, errW_some] <;> rfl) | (simp only [← hji28, ← hji34]; first | rfl | (simp [errW_none, errW_some] <;> rfl)) | (simp [*, errW_none, errW_some] <;> rfl), by repeat (first | (with_reducible first | exact HB.out | apply below_alloc | apply pw_below_drewN | apply below_drew1) | exact HB.out)⟩
                                        · rw [if_neg c43] at H
                                          have c43b0 : (t721 == 0) = false := beq_eq_false_iff_ne.mpr c43
                                          have c43b1 : (t721 != 0) = true := bne_iff_ne.mpr c43
                                          exact absurd ((Option.some.inj H).trans HRT.out) (by decide)
                                      · rw [if_neg c40] at H
                                        exact absurd H (by simp)
                                    · rw [if_neg c39] at H
                                      exact absurd H (by simp)
                                  · replace c38 := Bool.eq_false_iff.mpr c38
                                    subst c38
                                    have H1 : ((chunk_Decode.f k2 y710 500).bind fun bt725 => (if bt725.2.1 = 0 then (if bt725.2.2 = 20 then (some true) else (some (bt725.2.2 == 30))) else (some false))) = some r := by rw [if_neg (show ¬ (false = true) by decide)] at H; exact H
                                    clear H
                                    have H := H1
                                    clear H1
                                    replace H := Option.bind_eq_some_iff.mp H
                                    obtain ⟨⟨t725, t726, t727⟩, A900, H⟩ := H
                                    replace H : (if t726 = 0 then (if t727 = 20 then (some true) else (some (t727 == 30))) else (some false)) = some r := H
                                    have A90 := Aside0.mk A900
                                    clear A900
                                    by_cases c91 : t726 = 0
                                    · rw [if_pos c91] at H
                                      have c91b0 : (t726 == 0) = true := beq_iff_eq.mpr c91
                                      have c91b1 : (t726 != 0) = false := bne_eq_false_iff_eq.mpr c91
                                      clear c91
                                      by_cases c92 : t727 = 20
                                      · rw [if_pos c92] at H
                                        have c92b0 : (t727 == 20) = true := beq_iff_eq.mpr c92
                                        have c92b1 : (t727 != 20) = false := bne_eq_false_iff_eq.mpr c92
                                        clear c92
                                        obtain rfl := Option.some.inj H
                                        obtain ⟨Ao93, co93, eo93⟩ := Kd.R_slice HO_10.out
                                        subst eo93
                                        have p695 : 0 ≤ ((ji28) : Int) := of_decide_eq_true (by first | (with_reducible assumption) | assumption)
                                        have q695 : (ji28) < (x10_2.length : Int) := of_decide_eq_true (by first | (with_reducible assumption) | assumption)
                                        obtain ⟨ad695, e695, hx695_0⟩ := Kd.at_int (Kd.R_reads' HO_10.out).2.2 (ji28) p695 q695
                                        cases e695
                                        replace p695 := eq_true p695
                                        replace q695 := eq_true q695
                                        try go_wp2
                                        have n0_ := Aside0.mk (Kd.R_drew HO_9.out)
                                        have n1_ := Aside0.mk (Kd.R_drew HO_10.out)
                                        have n2_ := Aside0.mk (below_drew1 HB.out)
                                        clear HO_9
                                        clear HO_10
                                        clear HB
                                        have HO_9 := n0_
                                        have HO_10 := n1_
                                        have HB := n2_
                                        clear n0_ n1_ n2_
                                        obtain ⟨Ao96, co96, eo96⟩ := Kd.R_slice HO_9.out
                                        (first | subst eo96 | (injection eo96 with f1_ f2_ f3_; have f4_ := f1_.symm; have f5_ := f3_.symm; clear f1_ f2_ f3_; subst f4_; subst f5_))
                                        have q95 : ((rd x10_2 (ji28)) : Int) ≤ ((t689.length : Int) : Int) := of_decide_eq_true (by first | (with_reducible assumption) | assumption)
                                        obtain ⟨i095, hi095, _, hsz95, _⟩ := info_parts info5
                                        have hroom95 : t689.length ≤ co96 := (Kd.R_reads' HO_9.out).2.1
                                        have hC95 : Kd.C (Kd.int .u8) _ Ao96 t689.length t689 := (Kd.R_reads' HO_9.out).2.2
                                        have hcut95 := cut_to (P := Tryd.prog) 24 5 .i64 Tryd.underlying24 hi095 Ao96 t689.length co96 (rd x10_2 (ji28)) (of_decide_eq_true (by first | (with_reducible assumption) | assumption)) q95 hroom95
                                        have hr95 := Kd.C_take (m := ((rd x10_2 (ji28)) : Int).toNat) hC95 (by omega)
                                        have hy95 : y699.length = ((rd x10_2 (ji28)) : Int).toNat := (by rw [Ny699.out, List.length_take]; omega)
                                        rw [← Ny699.out] at hr95
                                        rw [← hy95] at hcut95
                                        have HR702 := Aside0.mk hr95
                                        have HC702 := Aside0.mk (show y699.length ≤ co96 from by omega)
                                        clear hr95 hC95 hroom95 hi095 hsz95
                                        have KY95 := Aside0.mk hy95
                                        clear hy95
                                        have KL95 := Aside0.mk (show ((rd x10_2 (ji28)) : Int).toNat ≤ t689.length from by omega)
                                        replace q95 := eq_true q95
                                        have q97 : ((ji34) : Int) ≤ ((t689.length : Int) : Int) := of_decide_eq_true (by first | (with_reducible assumption) | assumption)
                                        obtain ⟨i097, hi097, _, hsz97, _⟩ := info_parts info5
                                        have hroom97 : t689.length ≤ co96 := (Kd.R_reads' HO_9.out).2.1
                                        have hC97 : Kd.C (Kd.int .u8) _ Ao96 t689.length t689 := (Kd.R_reads' HO_9.out).2.2
                                        have q097 : (0 : Int) ≤ ((ji34) : Int) := of_decide_eq_true (by first | (with_reducible assumption) | assumption)
                                        have hcut97 := cut_from (P := Tryd.prog) 24 5 .i64 Tryd.underlying24 hi097 1 hsz97 Ao96 t689.length co96 (ji34) q097 q97
                                        have hr97 := Kd.C_drop (m := ((ji34) : Int).toNat) (c := co96) hC97 (by omega) hroom97
                                        obtain ⟨A97, hA97⟩ : ∃ A1, A1 = (if co96 = ((ji34) : Int).toNat then Ao96 else (Ao96 : Option Addr).map (·.add (((ji34) : Int).toNat * 1))) := ⟨_, rfl⟩
                                        obtain ⟨c97, hc97⟩ : ∃ c1, c1 = co96 - ((ji34) : Int).toNat := ⟨_, rfl⟩
                                        have hy97 : y706.length = t689.length - ((ji34) : Int).toNat := (by rw [Ny706.out, List.length_drop] <;> omega)
                                        rw [show (t689).drop ((ji34) : Int).toNat = y706 from Ny706.out.symm] at hr97
                                        replace hr97 : Kd.C (Kd.int .u8) _ A97 y706.length y706 := (by rw [hA97]; exact hr97)
                                        rw [← hy97, ← hA97, ← hc97] at hcut97
                                        have HR709 := Aside0.mk hr97
                                        have HC709 := Aside0.mk (show y706.length ≤ c97 from by rw [hy97, hc97]; exact Nat.sub_le_sub_right hroom97 _)
                                        clear hr97 hC97 hroom97 hi097 hsz97 hc97
                                        have KY97 := Aside0.mk hy97
                                        have KA97 := Aside0.mk hA97
                                        clear hy97 hA97
                                        have KL97 := Aside0.mk (show ((ji34) : Int).toNat ≤ t689.length from by omega)
                                        replace q97 := eq_true q97
                                        refine start_ (n := 11) (S := fun w' => True) (ds := []) #[false, false, false, false, false, false, false, false, false, false, false] (by kernel_rfl) rfl rfl trivial (fun hHeld => ?_); refine with_tabW tollbarlaw06_ChunkBare.tab18 tollbarlaw06_ChunkBare.bits18 (fun HT_ HW_ => ?_)
                                        generalize wr.drew = w94 at HO_9 HO_10 HB HR702 HR709 hHeld ⊢
                                        refine pure_ (i := 1) (N := some 75) (v := ?_) (a' := ?_) #[false, true, false, false, false, false, false, false, false, false, false] rfl rfl (any_of HT_.out (by kernel_rfl)) (fun _ _ _ h => h) (Or.inl ⟨by rfl, ?_⟩) ?_ ?_
                                        rotate_left
                                        · intro w'
                                          go_simp
                                          with_reducible rfl
                                        rotate_left
                                        · simp only [Act.put, List.setIfInBounds_toArray, List.set_cons_zero, List.set_cons_succ, i64_w, i32_w]
                                          rfl
                                        refine pure_ (i := 2) (N := some 76) (v := ?_) (a' := ?_) #[false, true, true, false, false, false, false, false, false, false, false] rfl rfl (any_of HT_.out (by kernel_rfl)) (fun _ _ _ h => h) (Or.inl ⟨by rfl, ?_⟩) ?_ ?_
                                        rotate_left
                                        · intro w'
                                          go_simp
                                          with_reducible rfl
                                        rotate_left
                                        · simp only [Act.put, List.setIfInBounds_toArray, List.set_cons_zero, List.set_cons_succ, i64_w, i32_w]
                                          rfl
                                        refine pure_ (i := 3) (N := some 77) (v := ?_) (a' := ?_) #[false, true, true, true, false, false, false, false, false, false, false] rfl rfl (any_of HT_.out (by kernel_rfl)) (fun _ _ _ h => h) (Or.inl ⟨by rfl, ?_⟩) ?_ ?_
                                        rotate_left
                                        · intro w'
                                          go_simp
                                          with_reducible rfl
                                        rotate_left
                                        · simp only [Act.put, List.setIfInBounds_toArray, List.set_cons_zero, List.set_cons_succ, i64_w, i32_w]
                                          rfl
                                        refine pure_ (i := 5) (N := some 79) (v := ?_) (a' := ?_) #[false, true, true, true, false, true, false, false, false, false, false] rfl rfl (any_of HT_.out (by kernel_rfl)) (fun _ _ _ h => h) (Or.inl ⟨by rfl, ?_⟩) ?_ ?_
                                        rotate_left
                                        · intro w'
                                          go_simp
                                          with_reducible rfl
                                        rotate_left
                                        · simp only [Act.put, List.setIfInBounds_toArray, List.set_cons_zero, List.set_cons_succ, i64_w, i32_w]
                                          rfl
                                        refine pure_ (i := 6) (N := some 80) (v := ?_) (a' := ?_) #[false, true, true, true, false, true, true, false, false, false, false] rfl rfl (any_of HT_.out (by kernel_rfl)) (fun _ _ _ h => h) (Or.inl ⟨by rfl, ?_⟩) ?_ ?_
                                        rotate_left
                                        · intro w'
                                          go_simp
                                          with_reducible rfl
                                        rotate_left
                                        · simp only [Act.put, List.setIfInBounds_toArray, List.set_cons_zero, List.set_cons_succ, i64_w, i32_w]
                                          rfl
                                        refine pure_ (i := 7) (N := some 81) (v := ?_) (a' := ?_) #[false, true, true, true, false, true, true, true, false, false, false] rfl rfl (any_of HT_.out (by kernel_rfl)) (fun _ _ _ h => h) (Or.inl ⟨by rfl, ?_⟩) ?_ ?_
                                        rotate_left
                                        · intro w'
                                          go_simp
                                          with_reducible rfl
                                        rotate_left
                                        · simp only [Act.put, List.setIfInBounds_toArray, List.set_cons_zero, List.set_cons_succ, i64_w, i32_w]
                                          rfl
                                        refine pure_ (i := 8) (N := some 82) (v := ?_) (a' := ?_) #[false, true, true, true, false, true, true, true, true, false, false] rfl rfl (any_of HT_.out (by kernel_rfl)) (fun _ _ _ h => h) (Or.inl ⟨by rfl, ?_⟩) ?_ ?_
                                        rotate_left
                                        · intro w'
                                          go_simp
                                          with_reducible rfl
                                        rotate_left
                                        · simp only [Act.put, List.setIfInBounds_toArray, List.set_cons_zero, List.set_cons_succ, i64_w, i32_w]
                                          rfl
                                        refine one_ (i := 0) (N := some 74) #[true, true, true, true, false, true, true, true, true, false, false] rfl rfl (one_of HT_.out (by kernel_rfl)) (by decide) (fun K hK => ?_)
                                        refine Kd.R_lit_step (Kd.int .u8) _ 5 ?hg (N := 74) ?hd (xs := ([] : List Int)) (inner := []) (ok := fun _ => True) (okp := fun _ => True) ?hr ?hp (fun _ hk => hk) trivial (Below.refl _ _) (Nat.le_refl _) (by simp) ?_; (case hd => rfl); (case hg => rfl); (case hr => first | (go_simp; done) | (go_simp; rfl)); (case hp => exact (Reps.none _ _))
                                        intro v697 w98 ho99 hb hg_ hnew_
                                        clear hg_ hnew_
                                        (first | rw [← Ny696.out] at ho99 | (simp only [Int.reduceToNat] at ho99; rw [← Ny696.out] at ho99))
                                        have n0_ := Aside0.mk (Kd.R_elder' (by (with_reducible repeat (first | apply Kd.R_alloc | apply Kd.R_drewN | apply Kd.R_drew)); exact HO_9.out) (Kd.R_base ho99) hb)
                                        have n1_ := Aside0.mk (Kd.R_below (by (with_reducible repeat (first | apply Kd.R_alloc | apply Kd.R_drewN | apply Kd.R_drew)); exact HO_10.out) hb)
                                        have n2_ := Aside0.mk (Kd.R_lower (Kd.R_new' ho99 (Kd.R_lt (by (with_reducible repeat (first | apply Kd.R_alloc | apply Kd.R_drewN | apply Kd.R_drew)); exact HO_9.out))) (below_size (by repeat (first | (with_reducible first | exact HB.out | apply below_alloc | apply pw_below_drewN | apply below_drew1) | exact HB.out))))
                                        have n3_ := Aside0.mk (Kd.C_below (by repeat (first | (with_reducible exact HR702.out) | (with_reducible refine Kd.C_alloc ?_ _) | (with_reducible refine Kd.C_drewN ?_ _) | (with_reducible refine Kd.C_drew ?_) | exact HR702.out)) hb)
                                        have n4_ := Aside0.mk (Kd.C_below (by repeat (first | (with_reducible exact HR709.out) | (with_reducible refine Kd.C_alloc ?_ _) | (with_reducible refine Kd.C_drewN ?_ _) | (with_reducible refine Kd.C_drew ?_) | exact HR709.out)) hb)
                                        have n5_ := Aside0.mk (below_step (by repeat (first | (with_reducible first | exact HB.out | apply below_alloc | apply pw_below_drewN | apply below_drew1) | exact HB.out)) hb)
                                        clear HO_9
                                        clear HO_10
                                        clear HR702
                                        clear HR709
                                        clear HB
                                        have HO_9 := n0_
                                        have HO_10 := n1_
                                        have HO698 := n2_
                                        have HR702 := n3_
                                        have HR709 := n4_
                                        have HB := n5_
                                        clear n0_ n1_ n2_ n3_ n4_ n5_
                                        clear hb ho99
                                        refine hK.out _ _ trivial (fun hHeld => ?_)
                                        clear hK K
                                        refine norm_ (a' := ?_) ?_ ?_
                                        rotate_left
                                        · show Act.put _ (some 74) _ = _
                                          simp only [Act.put, List.setIfInBounds_toArray, List.set_cons_zero, List.set_cons_succ, i64_w, i32_w]
                                          rfl
                                        refine one_ (i := 4) (N := some 78) #[true, true, true, true, true, true, true, true, true, false, false] rfl rfl (one_of HT_.out (by kernel_rfl)) (by decide) (fun K hK => ?_)
                                        refine Kd.R_append_rows_step (Kd.int .u8) (w0 := w) w.heap.size (by rfl) (.tmp 74) (.tmp 77) 24 5 (.int .u8 0) 1 rfl Tryd.underlying24 info5 rfl (by decide) (by omega) v697 y696 y699 _ _ _ (fun k_ => some k_ ≠ (.slice Ao96 t689.length co96 : Value).ownBlock) (fun _ => False) rfl rfl ?aO ?aR (fun _ _ h => h) (fun _ h => h.elim) ?aF ?aB ?aS ?aL ?_
                                        (case aR => repeat (first | exact (by repeat (first | (with_reducible exact HR702.out) | (with_reducible refine Kd.C_alloc ?_ _) | (with_reducible refine Kd.C_drewN ?_ _) | (with_reducible refine Kd.C_drew ?_) | exact HR702.out)) | (with_reducible refine Kd.C_alloc ?_ _) | (with_reducible refine Kd.C_drewN ?_ _) | (with_reducible refine Kd.C_drew ?_)))
                                        (case aB => exact (by repeat (first | (with_reducible first | exact HB.out | apply below_alloc | apply pw_below_drewN | apply below_drew1) | exact HB.out)))
                                        (case aF => exact (fun k_ hk => Kd.fresh' (Kd.R_lt (by (with_reducible repeat (first | apply Kd.R_alloc | apply Kd.R_drewN | apply Kd.R_drew)); exact HO_9.out)) k_ hk))
                                        (case aO => exact (by (with_reducible repeat (first | apply Kd.R_alloc | apply Kd.R_drewN | apply Kd.R_drew)); exact Kd.R_mono HO698.out (fun _ hk => hk.2)))
                                        (case aS => exact (below_size (by repeat (first | (with_reducible first | exact HB.out | apply below_alloc | apply pw_below_drewN | apply below_drew1) | exact HB.out))))
                                        (case aL => have := LMc33.out; omega)
                                        intro v704 w100 ho hb hg hat
                                        rw [← Ny703.out] at ho
                                        have n0_ := Aside0.mk (Kd.R_after (ok := (fun _ => True)) (by (with_reducible repeat (first | apply Kd.R_alloc | apply Kd.R_drewN | apply Kd.R_drew)); exact HO_9.out) hg hat)
                                        have n1_ := Aside0.mk (Kd.R_over' (by (with_reducible repeat (first | apply Kd.R_alloc | apply Kd.R_drewN | apply Kd.R_drew)); exact HO_10.out) (Kd.R_typed (by (with_reducible repeat (first | apply Kd.R_alloc | apply Kd.R_drewN | apply Kd.R_drew)); exact HO698.out)) (by decide) hg)
                                        have n2_ := Aside0.mk (hb)
                                        have n3_ := Aside0.mk ((show Kd.C (Kd.int .u8) w100 Ao96 y699.length y699 from by rw [Ny699.out]; exact Kd.C_take (m := ((rd x10_2 (ji28)) : Int).toNat) ((Kd.R_reads' (Kd.R_after (ok := (fun _ => True)) (by (with_reducible repeat (first | apply Kd.R_alloc | apply Kd.R_drewN | apply Kd.R_drew)); exact HO_9.out) hg hat)).2.2) KL95.out))
                                        have n4_ := Aside0.mk ((show Kd.C (Kd.int .u8) w100 A97 y706.length y706 from by rw [Ny706.out, KA97.out]; exact Kd.C_drop (m := ((ji34) : Int).toNat) (c := co96) ((Kd.R_reads' (Kd.R_after (ok := (fun _ => True)) (by (with_reducible repeat (first | apply Kd.R_alloc | apply Kd.R_drewN | apply Kd.R_drew)); exact HO_9.out) hg hat)).2.2) KL97.out ((Kd.R_reads' (Kd.R_after (ok := (fun _ => True)) (by (with_reducible repeat (first | apply Kd.R_alloc | apply Kd.R_drewN | apply Kd.R_drew)); exact HO_9.out) hg hat)).2.1)))
                                        have n5_ := Aside0.mk (ho)
                                        clear HO_9
                                        clear HO_10
                                        clear HB
                                        clear HR702
                                        clear HR709
                                        clear HO698
                                        have HO_9 := n0_
                                        have HO_10 := n1_
                                        have HB := n2_
                                        have HR702 := n3_
                                        have HR709 := n4_
                                        have HO705 := n5_
                                        clear n0_ n1_ n2_ n3_ n4_ n5_
                                        clear ho hb hg hat
                                        refine hK.out _ _ trivial (fun hHeld => ?_)
                                        clear hK K
                                        refine norm_ (a' := ?_) ?_ ?_
                                        rotate_left
                                        · show Act.put _ (some 78) _ = _
                                          simp only [Act.put, List.setIfInBounds_toArray, List.set_cons_zero, List.set_cons_succ, i64_w, i32_w]
                                          rfl
                                        refine one_ (i := 9) (N := some 83) #[true, true, true, true, true, true, true, true, true, true, false] rfl rfl (one_of HT_.out (by kernel_rfl)) (by decide) (fun K hK => ?_)
                                        refine Kd.R_append_rows_step (Kd.int .u8) (w0 := w) w.heap.size (by rfl) (.tmp 78) (.tmp 82) 24 5 (.int .u8 0) 1 rfl Tryd.underlying24 info5 rfl (by decide) (by omega) v704 y703 y706 _ _ _ (fun k_ => some k_ ≠ (.slice Ao96 t689.length co96 : Value).ownBlock) (fun _ => False) rfl rfl ?aO ?aR (fun _ _ h => h) (fun _ h => h.elim) ?aF ?aB ?aS ?aL ?_
                                        (case aR => repeat (first | exact (by repeat (first | (with_reducible exact HR709.out) | (with_reducible refine Kd.C_alloc ?_ _) | (with_reducible refine Kd.C_drewN ?_ _) | (with_reducible refine Kd.C_drew ?_) | exact HR709.out)) | (with_reducible refine Kd.C_alloc ?_ _) | (with_reducible refine Kd.C_drewN ?_ _) | (with_reducible refine Kd.C_drew ?_)))
                                        (case aB => exact (by repeat (first | (with_reducible first | exact HB.out | apply below_alloc | apply pw_below_drewN | apply below_drew1) | exact HB.out)))
                                        (case aF => exact (fun k_ hk => Kd.fresh' (Kd.R_lt (by (with_reducible repeat (first | apply Kd.R_alloc | apply Kd.R_drewN | apply Kd.R_drew)); exact HO_9.out)) k_ hk))
                                        (case aO => exact (by (with_reducible repeat (first | apply Kd.R_alloc | apply Kd.R_drewN | apply Kd.R_drew)); exact HO705.out))
                                        (case aS => exact (below_size (by repeat (first | (with_reducible first | exact HB.out | apply below_alloc | apply pw_below_drewN | apply below_drew1) | exact HB.out))))
                                        (case aL => have := LMc37.out; omega)
                                        intro v711 w101 ho hb hg hat
                                        rw [← Ny710.out] at ho
                                        have n0_ := Aside0.mk (Kd.R_after (ok := (fun _ => True)) (by (with_reducible repeat (first | apply Kd.R_alloc | apply Kd.R_drewN | apply Kd.R_drew)); exact HO_9.out) hg hat)
                                        have n1_ := Aside0.mk (Kd.R_over' (by (with_reducible repeat (first | apply Kd.R_alloc | apply Kd.R_drewN | apply Kd.R_drew)); exact HO_10.out) (Kd.R_typed (by (with_reducible repeat (first | apply Kd.R_alloc | apply Kd.R_drewN | apply Kd.R_drew)); exact HO705.out)) (by decide) hg)
                                        have n2_ := Aside0.mk (hb)
                                        have n3_ := Aside0.mk ((show Kd.C (Kd.int .u8) w101 Ao96 y699.length y699 from by rw [Ny699.out]; exact Kd.C_take (m := ((rd x10_2 (ji28)) : Int).toNat) ((Kd.R_reads' (Kd.R_after (ok := (fun _ => True)) (by (with_reducible repeat (first | apply Kd.R_alloc | apply Kd.R_drewN | apply Kd.R_drew)); exact HO_9.out) hg hat)).2.2) KL95.out))
                                        have n4_ := Aside0.mk ((show Kd.C (Kd.int .u8) w101 A97 y706.length y706 from by rw [Ny706.out, KA97.out]; exact Kd.C_drop (m := ((ji34) : Int).toNat) (c := co96) ((Kd.R_reads' (Kd.R_after (ok := (fun _ => True)) (by (with_reducible repeat (first | apply Kd.R_alloc | apply Kd.R_drewN | apply Kd.R_drew)); exact HO_9.out) hg hat)).2.2) KL97.out ((Kd.R_reads' (Kd.R_after (ok := (fun _ => True)) (by (with_reducible repeat (first | apply Kd.R_alloc | apply Kd.R_drewN | apply Kd.R_drew)); exact HO_9.out) hg hat)).2.1)))
                                        have n5_ := Aside0.mk (ho)
                                        clear HO_9
                                        clear HO_10
                                        clear HB
                                        clear HR702
                                        clear HR709
                                        clear HO705
                                        have HO_9 := n0_
                                        have HO_10 := n1_
                                        have HB := n2_
                                        have HR702 := n3_
                                        have HR709 := n4_
                                        have HO712 := n5_
                                        clear n0_ n1_ n2_ n3_ n4_ n5_
                                        clear ho hb hg hat
                                        refine hK.out _ _ trivial (fun hHeld => ?_)
                                        clear hK K
                                        refine norm_ (a' := ?_) ?_ ?_
                                        rotate_left
                                        · show Act.put _ (some 83) _ = _
                                          simp only [Act.put, List.setIfInBounds_toArray, List.set_cons_zero, List.set_cons_succ, i64_w, i32_w]
                                          rfl
                                        refine pure_ (i := 10) (N := some 15) (v := ?_) (a' := ?_) #[true, true, true, true, true, true, true, true, true, true, true] rfl rfl (any_of HT_.out (by kernel_rfl)) (fun _ _ _ h => h) (Or.inl ⟨by rfl, ?_⟩) ?_ ?_
                                        rotate_left
                                        · intro w'
                                          go_simp
                                          with_reducible rfl
                                        rotate_left
                                        · simp only [Act.put, List.setIfInBounds_toArray, List.set_cons_zero, List.set_cons_succ, i64_w, i32_w]
                                          rfl
                                        refine done_ (done_of HT_.out (by kernel_rfl)) ?_
                                        obtain ⟨Ao102, co102, eo102⟩ := Kd.R_slice HO712.out
                                        subst eo102
                                        try go_wp2_with (first | ((with_reducible refine gate_callee (f := 29) rfl ?_); refine goesL_ (some 94) rfl rfl Tryd.func29 (by kernel_rfl) rfl #[.slice Ao102 y710.length co102, .int .i64 500] rfl (by (try simp only [List.map_toArray, List.map_cons, List.map_nil]); first | done | rfl | (simp only [List.length_drop, List.length_take]; rfl)) ?_; (with_reducible refine (chunk_Decode.calls k2 _ _ y710 500 t725 t726 t727 _ ?side1 ?side2 A90.out).mono ?_); (case side1 => repeat (first | exact (Kd.R_reads' HO712.out).2.2 | (with_reducible refine Kd.C_alloc ?_ _) | (with_reducible refine Kd.C_drewN ?_ _) | (with_reducible refine Kd.C_drew ?_))); (case side2 => exact (Kd.R_reads' HO712.out).2.1); rintro e w103 ⟨v728, rfl, ho0, hb⟩; (try clear A90); refine ⟨_, rfl, ?_⟩; have n0_ := Aside0.mk (Kd.R_elder' (by (with_reducible repeat (first | apply Kd.R_alloc | apply Kd.R_drewN | apply Kd.R_drew)); exact HO_9.out) (Kd.R_base ho0) hb); have n1_ := Aside0.mk (Kd.R_below (by (with_reducible repeat (first | apply Kd.R_alloc | apply Kd.R_drewN | apply Kd.R_drew)); exact HO_10.out) hb); have n2_ := Aside0.mk (Kd.R_elder' (by (with_reducible repeat (first | apply Kd.R_alloc | apply Kd.R_drewN | apply Kd.R_drew)); exact HO712.out) (Kd.R_base ho0) hb); have n3_ := Aside0.mk (Kd.R_lower (Kd.R_new' (Kd.R_new' ho0 (Kd.R_lt (by (with_reducible repeat (first | apply Kd.R_alloc | apply Kd.R_drewN | apply Kd.R_drew)); exact HO_9.out))) (Kd.R_lt (by (with_reducible repeat (first | apply Kd.R_alloc | apply Kd.R_drewN | apply Kd.R_drew)); exact HO712.out))) (below_size (by repeat (first | (with_reducible first | exact HB.out | apply below_alloc | apply pw_below_drewN | apply below_drew1) | exact HB.out)))); have n4_ := Aside0.mk (Kd.C_below (by repeat (first | (with_reducible exact HR702.out) | (with_reducible refine Kd.C_alloc ?_ _) | (with_reducible refine Kd.C_drewN ?_ _) | (with_reducible refine Kd.C_drew ?_) | exact HR702.out)) hb); have n5_ := Aside0.mk (Kd.C_below (by repeat (first | (with_reducible exact HR709.out) | (with_reducible refine Kd.C_alloc ?_ _) | (with_reducible refine Kd.C_drewN ?_ _) | (with_reducible refine Kd.C_drew ?_) | exact HR709.out)) hb); have n6_ := Aside0.mk (below_step (by repeat (first | (with_reducible first | exact HB.out | apply below_alloc | apply pw_below_drewN | apply below_drew1) | exact HB.out)) hb); clear HO_9; clear HO_10; clear HO712; clear HR702; clear HR709; clear HB; have HO_9 := n0_; have HO_10 := n1_; have HO712 := n2_; have HO729 := n3_; have HR702 := n4_; have HR709 := n5_; have HB := n6_; clear n0_ n1_ n2_ n3_ n4_ n5_ n6_; (try clear hb); (try clear hb2); (try clear hk); (try clear hi); (try clear ho0)))
                                        go_ret
                                        exact ⟨by first | rfl | (simp [errW_none, errW_some] <;> rfl) | (simp only [← hji28, ← hji34]; first | rfl | (simp [errW_none, errW_some] <;> rfl)) | (simp [*, errW_none, errW_some] <;> rfl), by repeat (first | (with_reducible first | exact HB.out | apply below_alloc | apply pw_below_drewN | apply below_drew1) | exact HB.out)⟩
                                      · rw [if_neg c92] at H
                                        have c92b0 : (t727 == 20) = false := beq_eq_false_iff_ne.mpr c92
                                        have c92b1 : (t727 != 20) = true := bne_iff_ne.mpr c92
                                        obtain rfl := Option.some.inj H
                                        obtain ⟨Ao104, co104, eo104⟩ := Kd.R_slice HO_10.out
                                        subst eo104
                                        have p695 : 0 ≤ ((ji28) : Int) := of_decide_eq_true (by first | (with_reducible assumption) | assumption)
                                        have q695 : (ji28) < (x10_2.length : Int) := of_decide_eq_true (by first | (with_reducible assumption) | assumption)
                                        obtain ⟨ad695, e695, hx695_0⟩ := Kd.at_int (Kd.R_reads' HO_10.out).2.2 (ji28) p695 q695
                                        cases e695
                                        replace p695 := eq_true p695
                                        replace q695 := eq_true q695
                                        try go_wp2
                                        have n0_ := Aside0.mk (Kd.R_drew HO_9.out)
                                        have n1_ := Aside0.mk (Kd.R_drew HO_10.out)
                                        have n2_ := Aside0.mk (below_drew1 HB.out)
                                        clear HO_9
                                        clear HO_10
                                        clear HB
                                        have HO_9 := n0_
                                        have HO_10 := n1_
                                        have HB := n2_
                                        clear n0_ n1_ n2_
                                        obtain ⟨Ao107, co107, eo107⟩ := Kd.R_slice HO_9.out
                                        (first | subst eo107 | (injection eo107 with f1_ f2_ f3_; have f4_ := f1_.symm; have f5_ := f3_.symm; clear f1_ f2_ f3_; subst f4_; subst f5_))
                                        have q106 : ((rd x10_2 (ji28)) : Int) ≤ ((t689.length : Int) : Int) := of_decide_eq_true (by first | (with_reducible assumption) | assumption)
                                        obtain ⟨i0106, hi0106, _, hsz106, _⟩ := info_parts info5
                                        have hroom106 : t689.length ≤ co107 := (Kd.R_reads' HO_9.out).2.1
                                        have hC106 : Kd.C (Kd.int .u8) _ Ao107 t689.length t689 := (Kd.R_reads' HO_9.out).2.2
                                        have hcut106 := cut_to (P := Tryd.prog) 24 5 .i64 Tryd.underlying24 hi0106 Ao107 t689.length co107 (rd x10_2 (ji28)) (of_decide_eq_true (by first | (with_reducible assumption) | assumption)) q106 hroom106
                                        have hr106 := Kd.C_take (m := ((rd x10_2 (ji28)) : Int).toNat) hC106 (by omega)
                                        have hy106 : y699.length = ((rd x10_2 (ji28)) : Int).toNat := (by rw [Ny699.out, List.length_take]; omega)
                                        rw [← Ny699.out] at hr106
                                        rw [← hy106] at hcut106
                                        have HR702 := Aside0.mk hr106
                                        have HC702 := Aside0.mk (show y699.length ≤ co107 from by omega)
                                        clear hr106 hC106 hroom106 hi0106 hsz106
                                        have KY106 := Aside0.mk hy106
                                        clear hy106
                                        have KL106 := Aside0.mk (show ((rd x10_2 (ji28)) : Int).toNat ≤ t689.length from by omega)
                                        replace q106 := eq_true q106
                                        have q108 : ((ji34) : Int) ≤ ((t689.length : Int) : Int) := of_decide_eq_true (by first | (with_reducible assumption) | assumption)
                                        obtain ⟨i0108, hi0108, _, hsz108, _⟩ := info_parts info5
                                        have hroom108 : t689.length ≤ co107 := (Kd.R_reads' HO_9.out).2.1
                                        have hC108 : Kd.C (Kd.int .u8) _ Ao107 t689.length t689 := (Kd.R_reads' HO_9.out).2.2
                                        have q0108 : (0 : Int) ≤ ((ji34) : Int) := of_decide_eq_true (by first | (with_reducible assumption) | assumption)
                                        have hcut108 := cut_from (P := Tryd.prog) 24 5 .i64 Tryd.underlying24 hi0108 1 hsz108 Ao107 t689.length co107 (ji34) q0108 q108
                                        have hr108 := Kd.C_drop (m := ((ji34) : Int).toNat) (c := co107) hC108 (by omega) hroom108
                                        obtain ⟨A108, hA108⟩ : ∃ A1, A1 = (if co107 = ((ji34) : Int).toNat then Ao107 else (Ao107 : Option Addr).map (·.add (((ji34) : Int).toNat * 1))) := ⟨_, rfl⟩
                                        obtain ⟨c108, hc108⟩ : ∃ c1, c1 = co107 - ((ji34) : Int).toNat := ⟨_, rfl⟩
                                        have hy108 : y706.length = t689.length - ((ji34) : Int).toNat := (by rw [Ny706.out, List.length_drop] <;> omega)
                                        rw [show (t689).drop ((ji34) : Int).toNat = y706 from Ny706.out.symm] at hr108
                                        replace hr108 : Kd.C (Kd.int .u8) _ A108 y706.length y706 := (by rw [hA108]; exact hr108)
                                        rw [← hy108, ← hA108, ← hc108] at hcut108
                                        have HR709 := Aside0.mk hr108
                                        have HC709 := Aside0.mk (show y706.length ≤ c108 from by rw [hy108, hc108]; exact Nat.sub_le_sub_right hroom108 _)
                                        clear hr108 hC108 hroom108 hi0108 hsz108 hc108
                                        have KY108 := Aside0.mk hy108
                                        have KA108 := Aside0.mk hA108
                                        clear hy108 hA108
                                        have KL108 := Aside0.mk (show ((ji34) : Int).toNat ≤ t689.length from by omega)
                                        replace q108 := eq_true q108
                                        refine start_ (n := 11) (S := fun w' => True) (ds := []) #[false, false, false, false, false, false, false, false, false, false, false] (by kernel_rfl) rfl rfl trivial (fun hHeld => ?_); refine with_tabW tollbarlaw06_ChunkBare.tab18 tollbarlaw06_ChunkBare.bits18 (fun HT_ HW_ => ?_)
                                        generalize wr.drew = w105 at HO_9 HO_10 HB HR702 HR709 hHeld ⊢
                                        refine pure_ (i := 1) (N := some 75) (v := ?_) (a' := ?_) #[false, true, false, false, false, false, false, false, false, false, false] rfl rfl (any_of HT_.out (by kernel_rfl)) (fun _ _ _ h => h) (Or.inl ⟨by rfl, ?_⟩) ?_ ?_
                                        rotate_left
                                        · intro w'
                                          go_simp
                                          with_reducible rfl
                                        rotate_left
                                        · simp only [Act.put, List.setIfInBounds_toArray, List.set_cons_zero, List.set_cons_succ, i64_w, i32_w]
                                          rfl
                                        refine pure_ (i := 2) (N := some 76) (v := ?_) (a' := ?_) #[false, true, true, false, false, false, false, false, false, false, false] rfl rfl (any_of HT_.out (by kernel_rfl)) (fun _ _ _ h => h) (Or.inl ⟨by rfl, ?_⟩) ?_ ?_
                                        rotate_left
                                        · intro w'
                                          go_simp
                                          with_reducible rfl
                                        rotate_left
                                        · simp only [Act.put, List.setIfInBounds_toArray, List.set_cons_zero, List.set_cons_succ, i64_w, i32_w]
                                          rfl
                                        refine pure_ (i := 3) (N := some 77) (v := ?_) (a' := ?_) #[false, true, true, true, false, false, false, false, false, false, false] rfl rfl (any_of HT_.out (by kernel_rfl)) (fun _ _ _ h => h) (Or.inl ⟨by rfl, ?_⟩) ?_ ?_
                                        rotate_left
                                        · intro w'
                                          go_simp
                                          with_reducible rfl
                                        rotate_left
                                        · simp only [Act.put, List.setIfInBounds_toArray, List.set_cons_zero, List.set_cons_succ, i64_w, i32_w]
                                          rfl
                                        refine pure_ (i := 5) (N := some 79) (v := ?_) (a' := ?_) #[false, true, true, true, false, true, false, false, false, false, false] rfl rfl (any_of HT_.out (by kernel_rfl)) (fun _ _ _ h => h) (Or.inl ⟨by rfl, ?_⟩) ?_ ?_
                                        rotate_left
                                        · intro w'
                                          go_simp
                                          with_reducible rfl
                                        rotate_left
                                        · simp only [Act.put, List.setIfInBounds_toArray, List.set_cons_zero, List.set_cons_succ, i64_w, i32_w]
                                          rfl
                                        refine pure_ (i := 6) (N := some 80) (v := ?_) (a' := ?_) #[false, true, true, true, false, true, true, false, false, false, false] rfl rfl (any_of HT_.out (by kernel_rfl)) (fun _ _ _ h => h) (Or.inl ⟨by rfl, ?_⟩) ?_ ?_
                                        rotate_left
                                        · intro w'
                                          go_simp
                                          with_reducible rfl
                                        rotate_left
                                        · simp only [Act.put, List.setIfInBounds_toArray, List.set_cons_zero, List.set_cons_succ, i64_w, i32_w]
                                          rfl
                                        refine pure_ (i := 7) (N := some 81) (v := ?_) (a' := ?_) #[false, true, true, true, false, true, true, true, false, false, false] rfl rfl (any_of HT_.out (by kernel_rfl)) (fun _ _ _ h => h) (Or.inl ⟨by rfl, ?_⟩) ?_ ?_
                                        rotate_left
                                        · intro w'
                                          go_simp
                                          with_reducible rfl
                                        rotate_left
                                        · simp only [Act.put, List.setIfInBounds_toArray, List.set_cons_zero, List.set_cons_succ, i64_w, i32_w]
                                          rfl
                                        refine pure_ (i := 8) (N := some 82) (v := ?_) (a' := ?_) #[false, true, true, true, false, true, true, true, true, false, false] rfl rfl (any_of HT_.out (by kernel_rfl)) (fun _ _ _ h => h) (Or.inl ⟨by rfl, ?_⟩) ?_ ?_
                                        rotate_left
                                        · intro w'
                                          go_simp
                                          with_reducible rfl
                                        rotate_left
                                        · simp only [Act.put, List.setIfInBounds_toArray, List.set_cons_zero, List.set_cons_succ, i64_w, i32_w]
                                          rfl
                                        refine one_ (i := 0) (N := some 74) #[true, true, true, true, false, true, true, true, true, false, false] rfl rfl (one_of HT_.out (by kernel_rfl)) (by decide) (fun K hK => ?_)
                                        refine Kd.R_lit_step (Kd.int .u8) _ 5 ?hg (N := 74) ?hd (xs := ([] : List Int)) (inner := []) (ok := fun _ => True) (okp := fun _ => True) ?hr ?hp (fun _ hk => hk) trivial (Below.refl _ _) (Nat.le_refl _) (by simp) ?_; (case hd => rfl); (case hg => rfl); (case hr => first | (go_simp; done) | (go_simp; rfl)); (case hp => exact (Reps.none _ _))
                                        intro v697 w109 ho110 hb hg_ hnew_
                                        clear hg_ hnew_
                                        (first | rw [← Ny696.out] at ho110 | (simp only [Int.reduceToNat] at ho110; rw [← Ny696.out] at ho110))
                                        have n0_ := Aside0.mk (Kd.R_elder' (by (with_reducible repeat (first | apply Kd.R_alloc | apply Kd.R_drewN | apply Kd.R_drew)); exact HO_9.out) (Kd.R_base ho110) hb)
                                        have n1_ := Aside0.mk (Kd.R_below (by (with_reducible repeat (first | apply Kd.R_alloc | apply Kd.R_drewN | apply Kd.R_drew)); exact HO_10.out) hb)
                                        have n2_ := Aside0.mk (Kd.R_lower (Kd.R_new' ho110 (Kd.R_lt (by (with_reducible repeat (first | apply Kd.R_alloc | apply Kd.R_drewN | apply Kd.R_drew)); exact HO_9.out))) (below_size (by repeat (first | (with_reducible first | exact HB.out | apply below_alloc | apply pw_below_drewN | apply below_drew1) | exact HB.out))))
                                        have n3_ := Aside0.mk (Kd.C_below (by repeat (first | (with_reducible exact HR702.out) | (with_reducible refine Kd.C_alloc ?_ _) | (with_reducible refine Kd.C_drewN ?_ _) | (with_reducible refine Kd.C_drew ?_) | exact HR702.out)) hb)
                                        have n4_ := Aside0.mk (Kd.C_below (by repeat (first | (with_reducible exact HR709.out) | (with_reducible refine Kd.C_alloc ?_ _) | (with_reducible refine Kd.C_drewN ?_ _) | (with_reducible refine Kd.C_drew ?_) | exact HR709.out)) hb)
                                        have n5_ := Aside0.mk (below_step (by repeat (first | (with_reducible first | exact HB.out | apply below_alloc | apply pw_below_drewN | apply below_drew1) | exact HB.out)) hb)
                                        clear HO_9
                                        clear HO_10
                                        clear HR702
                                        clear HR709
                                        clear HB
                                        have HO_9 := n0_
                                        have HO_10 := n1_
                                        have HO698 := n2_
                                        have HR702 := n3_
                                        have HR709 := n4_
                                        have HB := n5_
                                        clear n0_ n1_ n2_ n3_ n4_ n5_
                                        clear hb ho110
                                        refine hK.out _ _ trivial (fun hHeld => ?_)
                                        clear hK K
                                        refine norm_ (a' := ?_) ?_ ?_
                                        rotate_left
                                        · show Act.put _ (some 74) _ = _
                                          simp only [Act.put, List.setIfInBounds_toArray, List.set_cons_zero, List.set_cons_succ, i64_w, i32_w]
                                          rfl
                                        refine one_ (i := 4) (N := some 78) #[true, true, true, true, true, true, true, true, true, false, false] rfl rfl (one_of HT_.out (by kernel_rfl)) (by decide) (fun K hK => ?_)
                                        refine Kd.R_append_rows_step (Kd.int .u8) (w0 := w) w.heap.size (by rfl) (.tmp 74) (.tmp 77) 24 5 (.int .u8 0) 1 rfl Tryd.underlying24 info5 rfl (by decide) (by omega) v697 y696 y699 _ _ _ (fun k_ => some k_ ≠ (.slice Ao107 t689.length co107 : Value).ownBlock) (fun _ => False) rfl rfl ?aO ?aR (fun _ _ h => h) (fun _ h => h.elim) ?aF ?aB ?aS ?aL ?_
                                        (case aR => repeat (first | exact (by repeat (first | (with_reducible exact HR702.out) | (with_reducible refine Kd.C_alloc ?_ _) | (with_reducible refine Kd.C_drewN ?_ _) | (with_reducible refine Kd.C_drew ?_) | exact HR702.out)) | (with_reducible refine Kd.C_alloc ?_ _) | (with_reducible refine Kd.C_drewN ?_ _) | (with_reducible refine Kd.C_drew ?_)))
                                        (case aB => exact (by repeat (first | (with_reducible first | exact HB.out | apply below_alloc | apply pw_below_drewN | apply below_drew1) | exact HB.out)))
                                        (case aF => exact (fun k_ hk => Kd.fresh' (Kd.R_lt (by (with_reducible repeat (first | apply Kd.R_alloc | apply Kd.R_drewN | apply Kd.R_drew)); exact HO_9.out)) k_ hk))
                                        (case aO => exact (by (with_reducible repeat (first | apply Kd.R_alloc | apply Kd.R_drewN | apply Kd.R_drew)); exact Kd.R_mono HO698.out (fun _ hk => hk.2)))
                                        (case aS => exact (below_size (by repeat (first | (with_reducible first | exact HB.out | apply below_alloc | apply pw_below_drewN | apply below_drew1) | exact HB.out))))
                                        (case aL => have := LMc33.out; omega)
                                        intro v704 w111 ho hb hg hat
                                        rw [← Ny703.out] at ho
                                        have n0_ := Aside0.mk (Kd.R_after (ok := (fun _ => True)) (by (with_reducible repeat (first | apply Kd.R_alloc | apply Kd.R_drewN | apply Kd.R_drew)); exact HO_9.out) hg hat)
                                        have n1_ := Aside0.mk (Kd.R_over' (by (with_reducible repeat (first | apply Kd.R_alloc | apply Kd.R_drewN | apply Kd.R_drew)); exact HO_10.out) (Kd.R_typed (by (with_reducible repeat (first | apply Kd.R_alloc | apply Kd.R_drewN | apply Kd.R_drew)); exact HO698.out)) (by decide) hg)
                                        have n2_ := Aside0.mk (hb)
                                        have n3_ := Aside0.mk ((show Kd.C (Kd.int .u8) w111 Ao107 y699.length y699 from by rw [Ny699.out]; exact Kd.C_take (m := ((rd x10_2 (ji28)) : Int).toNat) ((Kd.R_reads' (Kd.R_after (ok := (fun _ => True)) (by (with_reducible repeat (first | apply Kd.R_alloc | apply Kd.R_drewN | apply Kd.R_drew)); exact HO_9.out) hg hat)).2.2) KL106.out))
                                        have n4_ := Aside0.mk ((show Kd.C (Kd.int .u8) w111 A108 y706.length y706 from by rw [Ny706.out, KA108.out]; exact Kd.C_drop (m := ((ji34) : Int).toNat) (c := co107) ((Kd.R_reads' (Kd.R_after (ok := (fun _ => True)) (by (with_reducible repeat (first | apply Kd.R_alloc | apply Kd.R_drewN | apply Kd.R_drew)); exact HO_9.out) hg hat)).2.2) KL108.out ((Kd.R_reads' (Kd.R_after (ok := (fun _ => True)) (by (with_reducible repeat (first | apply Kd.R_alloc | apply Kd.R_drewN | apply Kd.R_drew)); exact HO_9.out) hg hat)).2.1)))
                                        have n5_ := Aside0.mk (ho)
                                        clear HO_9
                                        clear HO_10
                                        clear HB
                                        clear HR702
                                        clear HR709
                                        clear HO698
                                        have HO_9 := n0_
                                        have HO_10 := n1_
                                        have HB := n2_
                                        have HR702 := n3_
                                        have HR709 := n4_
                                        have HO705 := n5_
                                        clear n0_ n1_ n2_ n3_ n4_ n5_
                                        clear ho hb hg hat
                                        refine hK.out _ _ trivial (fun hHeld => ?_)
                                        clear hK K
                                        refine norm_ (a' := ?_) ?_ ?_
                                        rotate_left
                                        · show Act.put _ (some 78) _ = _
                                          simp only [Act.put, List.setIfInBounds_toArray, List.set_cons_zero, List.set_cons_succ, i64_w, i32_w]
                                          rfl
                                        refine one_ (i := 9) (N := some 83) #[true, true, true, true, true, true, true, true, true, true, false] rfl rfl (one_of HT_.out (by kernel_rfl)) (by decide) (fun K hK => ?_)
                                        refine Kd.R_append_rows_step (Kd.int .u8) (w0 := w) w.heap.size (by rfl) (.tmp 78) (.tmp 82) 24 5 (.int .u8 0) 1 rfl Tryd.underlying24 info5 rfl (by decide) (by omega) v704 y703 y706 _ _ _ (fun k_ => some k_ ≠ (.slice Ao107 t689.length co107 : Value).ownBlock) (fun _ => False) rfl rfl ?aO ?aR (fun _ _ h => h) (fun _ h => h.elim) ?aF ?aB ?aS ?aL ?_
                                        (case aR => repeat (first | exact (by repeat (first | (with_reducible exact HR709.out) | (with_reducible refine Kd.C_alloc ?_ _) | (with_reducible refine Kd.C_drewN ?_ _) | (with_reducible refine Kd.C_drew ?_) | exact HR709.out)) | (with_reducible refine Kd.C_alloc ?_ _) | (with_reducible refine Kd.C_drewN ?_ _) | (with_reducible refine Kd.C_drew ?_)))
                                        (case aB => exact (by repeat (first | (with_reducible first | exact HB.out | apply below_alloc | apply pw_below_drewN | apply below_drew1) | exact HB.out)))
                                        (case aF => exact (fun k_ hk => Kd.fresh' (Kd.R_lt (by (with_reducible repeat (first | apply Kd.R_alloc | apply Kd.R_drewN | apply Kd.R_drew)); exact HO_9.out)) k_ hk))
                                        (case aO => exact (by (with_reducible repeat (first | apply Kd.R_alloc | apply Kd.R_drewN | apply Kd.R_drew)); exact HO705.out))
                                        (case aS => exact (below_size (by repeat (first | (with_reducible first | exact HB.out | apply below_alloc | apply pw_below_drewN | apply below_drew1) | exact HB.out))))
                                        (case aL => have := LMc37.out; omega)
                                        intro v711 w112 ho hb hg hat
                                        rw [← Ny710.out] at ho
                                        have n0_ := Aside0.mk (Kd.R_after (ok := (fun _ => True)) (by (with_reducible repeat (first | apply Kd.R_alloc | apply Kd.R_drewN | apply Kd.R_drew)); exact HO_9.out) hg hat)
                                        have n1_ := Aside0.mk (Kd.R_over' (by (with_reducible repeat (first | apply Kd.R_alloc | apply Kd.R_drewN | apply Kd.R_drew)); exact HO_10.out) (Kd.R_typed (by (with_reducible repeat (first | apply Kd.R_alloc | apply Kd.R_drewN | apply Kd.R_drew)); exact HO705.out)) (by decide) hg)
                                        have n2_ := Aside0.mk (hb)
                                        have n3_ := Aside0.mk ((show Kd.C (Kd.int .u8) w112 Ao107 y699.length y699 from by rw [Ny699.out]; exact Kd.C_take (m := ((rd x10_2 (ji28)) : Int).toNat) ((Kd.R_reads' (Kd.R_after (ok := (fun _ => True)) (by (with_reducible repeat (first | apply Kd.R_alloc | apply Kd.R_drewN | apply Kd.R_drew)); exact HO_9.out) hg hat)).2.2) KL106.out))
                                        have n4_ := Aside0.mk ((show Kd.C (Kd.int .u8) w112 A108 y706.length y706 from by rw [Ny706.out, KA108.out]; exact Kd.C_drop (m := ((ji34) : Int).toNat) (c := co107) ((Kd.R_reads' (Kd.R_after (ok := (fun _ => True)) (by (with_reducible repeat (first | apply Kd.R_alloc | apply Kd.R_drewN | apply Kd.R_drew)); exact HO_9.out) hg hat)).2.2) KL108.out ((Kd.R_reads' (Kd.R_after (ok := (fun _ => True)) (by (with_reducible repeat (first | apply Kd.R_alloc | apply Kd.R_drewN | apply Kd.R_drew)); exact HO_9.out) hg hat)).2.1)))
                                        have n5_ := Aside0.mk (ho)
                                        clear HO_9
                                        clear HO_10
                                        clear HB
                                        clear HR702
                                        clear HR709
                                        clear HO705
                                        have HO_9 := n0_
                                        have HO_10 := n1_
                                        have HB := n2_
                                        have HR702 := n3_
                                        have HR709 := n4_
                                        have HO712 := n5_
                                        clear n0_ n1_ n2_ n3_ n4_ n5_
                                        clear ho hb hg hat
                                        refine hK.out _ _ trivial (fun hHeld => ?_)
                                        clear hK K
                                        refine norm_ (a' := ?_) ?_ ?_
                                        rotate_left
                                        · show Act.put _ (some 83) _ = _
                                          simp only [Act.put, List.setIfInBounds_toArray, List.set_cons_zero, List.set_cons_succ, i64_w, i32_w]
                                          rfl
                                        refine pure_ (i := 10) (N := some 15) (v := ?_) (a' := ?_) #[true, true, true, true, true, true, true, true, true, true, true] rfl rfl (any_of HT_.out (by kernel_rfl)) (fun _ _ _ h => h) (Or.inl ⟨by rfl, ?_⟩) ?_ ?_
                                        rotate_left
                                        · intro w'
                                          go_simp
                                          with_reducible rfl
                                        rotate_left
                                        · simp only [Act.put, List.setIfInBounds_toArray, List.set_cons_zero, List.set_cons_succ, i64_w, i32_w]
                                          rfl
                                        refine done_ (done_of HT_.out (by kernel_rfl)) ?_
                                        obtain ⟨Ao113, co113, eo113⟩ := Kd.R_slice HO712.out
                                        subst eo113
                                        try go_wp2_with (first | ((with_reducible refine gate_callee (f := 29) rfl ?_); refine goesL_ (some 94) rfl rfl Tryd.func29 (by kernel_rfl) rfl #[.slice Ao113 y710.length co113, .int .i64 500] rfl (by (try simp only [List.map_toArray, List.map_cons, List.map_nil]); first | done | rfl | (simp only [List.length_drop, List.length_take]; rfl)) ?_; (with_reducible refine (chunk_Decode.calls k2 _ _ y710 500 t725 t726 t727 _ ?side1 ?side2 A90.out).mono ?_); (case side1 => repeat (first | exact (Kd.R_reads' HO712.out).2.2 | (with_reducible refine Kd.C_alloc ?_ _) | (with_reducible refine Kd.C_drewN ?_ _) | (with_reducible refine Kd.C_drew ?_))); (case side2 => exact (Kd.R_reads' HO712.out).2.1); rintro e w114 ⟨v728, rfl, ho0, hb⟩; (try clear A90); refine ⟨_, rfl, ?_⟩; have n0_ := Aside0.mk (Kd.R_elder' (by (with_reducible repeat (first | apply Kd.R_alloc | apply Kd.R_drewN | apply Kd.R_drew)); exact HO_9.out) (Kd.R_base ho0) hb); have n1_ := Aside0.mk (Kd.R_below (by (with_reducible repeat (first | apply Kd.R_alloc | apply Kd.R_drewN | apply Kd.R_drew)); exact HO_10.out) hb); have n2_ := Aside0.mk (Kd.R_elder' (by (with_reducible repeat (first | apply Kd.R_alloc | apply Kd.R_drewN | apply Kd.R_drew)); exact HO712.out) (Kd.R_base ho0) hb); have n3_ := Aside0.mk (Kd.R_lower (Kd.R_new' (Kd.R_new' ho0 (Kd.R_lt (by (with_reducible repeat (first | apply Kd.R_alloc | apply Kd.R_drewN | apply Kd.R_drew)); exact HO_9.out))) (Kd.R_lt (by (with_reducible repeat (first | apply Kd.R_alloc | apply Kd.R_drewN | apply Kd.R_drew)); exact HO712.out))) (below_size (by repeat (first | (with_reducible first | exact HB.out | apply below_alloc | apply pw_below_drewN | apply below_drew1) | exact HB.out)))); have n4_ := Aside0.mk (Kd.C_below (by repeat (first | (with_reducible exact HR702.out) | (with_reducible refine Kd.C_alloc ?_ _) | (with_reducible refine Kd.C_drewN ?_ _) | (with_reducible refine Kd.C_drew ?_) | exact HR702.out)) hb); have n5_ := Aside0.mk (Kd.C_below (by repeat (first | (with_reducible exact HR709.out) | (with_reducible refine Kd.C_alloc ?_ _) | (with_reducible refine Kd.C_drewN ?_ _) | (with_reducible refine Kd.C_drew ?_) | exact HR709.out)) hb); have n6_ := Aside0.mk (below_step (by repeat (first | (with_reducible first | exact HB.out | apply below_alloc | apply pw_below_drewN | apply below_drew1) | exact HB.out)) hb); clear HO_9; clear HO_10; clear HO712; clear HR702; clear HR709; clear HB; have HO_9 := n0_; have HO_10 := n1_; have HO712 := n2_; have HO729 := n3_; have HR702 := n4_; have HR709 := n5_; have HB := n6_; clear n0_ n1_ n2_ n3_ n4_ n5_ n6_; (try clear hb); (try clear hb2); (try clear hk); (try clear hi); (try clear ho0)))
                                        go_ret
                                        exact ⟨by first | rfl | (simp [errW_none, errW_some] <;> rfl) | (simp only [← hji28, ← hji34]; first | rfl | (simp [errW_none, errW_some] <;> rfl)) | (simp [*, errW_none, errW_some] <;> rfl), by repeat (first | (with_reducible first | exact HB.out | apply below_alloc | apply pw_below_drewN | apply below_drew1) | exact HB.out)⟩
                                    · rw [if_neg c91] at H
                                      have c91b0 : (t726 == 0) = false := beq_eq_false_iff_ne.mpr c91
                                      have c91b1 : (t726 != 0) = true := bne_iff_ne.mpr c91
                                      exact absurd ((Option.some.inj H).trans HRT.out) (by decide)
                                · rw [if_neg c37] at H
                                  exact absurd H (by simp)
                              · rw [if_neg c36] at H
                                exact absurd H (by simp)
                            · rw [if_neg c35] at H
                              exact absurd H (by simp)
                          · rw [if_neg c33] at H
                            exact absurd H (by simp)
                        · rw [if_neg c32] at H
                          exact absurd H (by simp)
                      · rw [if_neg c31] at H
                        exact absurd H (by simp)
                    · rw [if_neg c30] at H
                      exact absurd H (by simp)
                  · rw [if_neg c29] at H
                    exact absurd H (by simp)
  · replace c6 := Bool.eq_false_iff.mpr c6
    subst c6
    have H1 : (some false) = some r := by rw [if_neg (show ¬ (false = true) by decide)] at H; exact H
    clear H
    have H := H1
    clear H1
    exact absurd ((Option.some.inj H).trans HRT.out) (by decide)

/-- THE ONE PURE STATEMENT of tollbarlaw06_ChunkBare: yours. -/
def tollbarlaw06_ChunkBare.Pure : Prop := ∀ (l0 : List Int) (a1 : Int) (a2 : Int) (a3 : Bool), l0.length ≤ maxLen → l0.length * 1 ≤ 140737488351232 → (∀ x ∈ l0, (Lit.int .u8 x).wf = true) → (Lit.int .i64 a1).wf = true → (Lit.int .i64 a2).wf = true → ∃ k, tollbarlaw06_ChunkBare.f k l0 a1 a2 a3 = some true

end Go.Proofs.YtjgpifjfaiaidaaDoor.P

