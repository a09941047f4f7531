/- Each function below answers as its Lean twin says. No further condition. (Laid by this repo's packseat.py out of the seat's texts and of the print's words.) -/
import Derived.Test.YtjgpifjfaiaidaaDoorU0base0x0
import Derived.Test.YtjgpifjfaiaidaaDoorUchunk0x1
import Derived.Test.YtjgpifjfaiaidaaDoorUtollbarlaw060x0
import Derived.Test.YtjgpifjfaiaidaaDoorUtollbarref010x0
namespace Go.Proofs.YtjgpifjfaiaidaaDoor.P
open Go.RowKit Go.Proofs.YtjgpifjfaiaidaaDoorW.PrintWords Go.Proofs.YtjgpifjfaiaidaaDoorW.PrintLast Go.Proofs.YtjgpifjfaiaidaaDoorW.PrintMore
attribute [local go_sem] max2_int min2_int max_two min_two max_three min_three max_four min_four   -- for this text's walks alone
set_option linter.unusedVariables false
set_option linter.unusedSimpArgs false

mutual
def tollbarlaw06_ChunkBack.j0 : Nat → List Int → Int → List Int → Int → Bool → Option (Bool)
  | 0, _, _, _, _, _ => none
  | k + 1, x0, x1, x2, x3, x32 => if x32 = true then (some true) else ((chunk_Encode.f k x0 x1).bind fun t535 => ((some (([] : List Int) : List Int)).bind fun y538 => (if y538.length + t535.length < 140737488355328 then ((some (y538 ++ t535 : List Int)).bind fun y541 => (if y541.length + x2.length < 140737488355328 then ((chunk_Decode.f k (y541 ++ x2) (x0.length : Int)).bind fun bt547 => ((tollbarref01_SameBytes.f k bt547.1 x0).bind fun t552 => (if t552 = true then (if bt547.2.1 = (t535.length : Int) then (tollbarlaw06_ChunkBack.j1 k x0 x3 t535 bt547.1 (bt547.2.2 != 0)) else (tollbarlaw06_ChunkBack.j1 k x0 x3 t535 bt547.1 true)) else (tollbarlaw06_ChunkBack.j1 k x0 x3 t535 bt547.1 true)))) else (none))) else (none))))
def tollbarlaw06_ChunkBack.j1 : Nat → List Int → Int → List Int → List Int → Bool → Option (Bool)
  | 0, _, _, _, _, _ => none
  | k + 1, x0, x3, x9, x10, x61 => if x61 = true then (some false) else (tollbarlaw06_ChunkBack.l0 k x0 x3 x9 x10 (x10.length : Int) 0)
def tollbarlaw06_ChunkBack.l0 : Nat → List Int → Int → List Int → List Int → Int → Int → Option (Bool)
  | 0, _, _, _, _, _, _ => none
  | k + 1, x0, x3, x9, x10, x63, x64 => if x64 < x63 then (if 0 ≤ x64 then (if x64 < (x10.length : Int) then (tollbarlaw06_ChunkBack.l0 k x0 x3 x9 (x10.set (x64 : Int).toNat (((rd x10 x64) + 1) % 256)) x63 (wrap64 (x64 + 1))) else (none)) else (none)) else (if (x9.length : Int) = 0 then (none) else (if 0 ≤ (Int.tmod (Go.bits .and .i64 x3 1048575) (x9.length : Int)) then (if (Int.tmod (Go.bits .and .i64 x3 1048575) (x9.length : Int)) ≤ (x9.length : Int) then ((chunk_Decode.f k (x9.take ((Int.tmod (Go.bits .and .i64 x3 1048575) (x9.length : Int)) : Int).toNat) (x0.length : Int)).bind fun bt559 => (if bt559.2.1 = 0 then (tollbarlaw06_ChunkBack.j3 k x0 x9 (bt559.2.2 != 0)) else (tollbarlaw06_ChunkBack.j3 k x0 x9 true))) else (none)) else (none)))
def tollbarlaw06_ChunkBack.j3 : Nat → List Int → List Int → Bool → Option (Bool)
  | 0, _, _, _ => none
  | k + 1, x0, x9, x93 => if x93 = true then (some false) else ((chunk_Decode.f k x9 (wrap64 ((x0.length : Int) - 1))).bind fun bt564 => ((chunk_Decode.f k x9 4611686018427387904).bind fun bt569 => (if ((bt564.2.2 == 2) == (decide ((x0.length : Int) > 0))) = true then (if bt569.2.2 = 0 then ((tollbarref01_SameBytes.f k bt569.1 x0).bind fun t574 => (some t574)) else (some false)) else (some false))))
end
def tollbarlaw06_ChunkBack.f (k : Nat) (l0 : List Int) (a1 : Int) (l2 : List Int) (a3 : Int) : Option (Bool) := (tollbarlaw06_alive.f).bind fun t534 => (if t534 = true then (if (l0.length : Int) > 2000 then (tollbarlaw06_ChunkBack.j0 k l0 a1 l2 a3 true) else (tollbarlaw06_ChunkBack.j0 k l0 a1 l2 a3 (decide ((l2.length : Int) > 2000)))) else (some false))
theorem tollbarlaw06_ChunkBack.mono_l : ∀ k, (∀ y0 y1 y2 y3 y4, LeO (tollbarlaw06_ChunkBack.j0 k y0 y1 y2 y3 y4) (tollbarlaw06_ChunkBack.j0 (k + 1) y0 y1 y2 y3 y4)) ∧ (∀ y0 y1 y2 y3 y4, LeO (tollbarlaw06_ChunkBack.j1 k y0 y1 y2 y3 y4) (tollbarlaw06_ChunkBack.j1 (k + 1) y0 y1 y2 y3 y4)) ∧ (∀ y0 y1 y2 y3 y4 y5, LeO (tollbarlaw06_ChunkBack.l0 k y0 y1 y2 y3 y4 y5) (tollbarlaw06_ChunkBack.l0 (k + 1) y0 y1 y2 y3 y4 y5)) ∧ (∀ y0 y1 y2, LeO (tollbarlaw06_ChunkBack.j3 k y0 y1 y2) (tollbarlaw06_ChunkBack.j3 (k + 1) y0 y1 y2))
  | 0 => ⟨fun _ _ _ _ _ r h => by simp [tollbarlaw06_ChunkBack.j0] at h, fun _ _ _ _ _ r h => by simp [tollbarlaw06_ChunkBack.j1] at h, fun _ _ _ _ _ _ r h => by simp [tollbarlaw06_ChunkBack.l0] at h, fun _ _ _ r h => by simp [tollbarlaw06_ChunkBack.j3] at h⟩
  | k + 1 => by
    obtain ⟨ih0, ih1, ih2, ih3⟩ := tollbarlaw06_ChunkBack.mono_l k
    refine ⟨?_, ?_, ?_, ?_⟩
    · intro y0 y1 y2 y3 y4
      unfold tollbarlaw06_ChunkBack.j0
      repeat' first
      | (with_reducible exact ih0 _ _ _ _ _)
      | (with_reducible exact ih1 _ _ _ _ _)
      | (with_reducible exact ih2 _ _ _ _ _ _)
      | (with_reducible exact ih3 _ _ _)
      | (with_reducible exact chunk_Decode.mono _ _ _)
      | (with_reducible exact chunk_Encode.mono _ _ _)
      | (with_reducible exact tollbarref01_SameBytes.mono _ _ _)
      | (with_reducible exact LeO.refl _)
      | (with_reducible exact LeO.none _)
      | (with_reducible refine LeO.ite ?_ ?_)
      | (with_reducible refine LeO.bind ?_ (fun _ => ?_))
      | exact ih0 _ _ _ _ _
      | exact ih1 _ _ _ _ _
      | exact ih2 _ _ _ _ _ _
      | exact ih3 _ _ _
      | exact chunk_Decode.mono _ _ _
      | exact chunk_Encode.mono _ _ _
      | exact tollbarref01_SameBytes.mono _ _ _
      | exact LeO.none _
      | refine LeO.ite ?_ ?_
      | refine LeO.bind ?_ (fun _ => ?_)
    · intro y0 y1 y2 y3 y4
      unfold tollbarlaw06_ChunkBack.j1
      repeat' first
      | (with_reducible exact ih0 _ _ _ _ _)
      | (with_reducible exact ih1 _ _ _ _ _)
      | (with_reducible exact ih2 _ _ _ _ _ _)
      | (with_reducible exact ih3 _ _ _)
      | (with_reducible exact chunk_Decode.mono _ _ _)
      | (with_reducible exact chunk_Encode.mono _ _ _)
      | (with_reducible exact tollbarref01_SameBytes.mono _ _ _)
      | (with_reducible exact LeO.refl _)
      | (with_reducible exact LeO.none _)
      | (with_reducible refine LeO.ite ?_ ?_)
      | (with_reducible refine LeO.bind ?_ (fun _ => ?_))
      | exact ih0 _ _ _ _ _
      | exact ih1 _ _ _ _ _
      | exact ih2 _ _ _ _ _ _
      | exact ih3 _ _ _
      | exact chunk_Decode.mono _ _ _
      | exact chunk_Encode.mono _ _ _
      | exact tollbarref01_SameBytes.mono _ _ _
      | exact LeO.none _
      | refine LeO.ite ?_ ?_
      | refine LeO.bind ?_ (fun _ => ?_)
    · intro y0 y1 y2 y3 y4 y5
      unfold tollbarlaw06_ChunkBack.l0
      repeat' first
      | (with_reducible exact ih0 _ _ _ _ _)
      | (with_reducible exact ih1 _ _ _ _ _)
      | (with_reducible exact ih2 _ _ _ _ _ _)
      | (with_reducible exact ih3 _ _ _)
      | (with_reducible exact chunk_Decode.mono _ _ _)
      | (with_reducible exact chunk_Encode.mono _ _ _)
      | (with_reducible exact tollbarref01_SameBytes.mono _ _ _)
      | (with_reducible exact LeO.refl _)
      | (with_reducible exact LeO.none _)
      | (with_reducible refine LeO.ite ?_ ?_)
      | (with_reducible refine LeO.bind ?_ (fun _ => ?_))
      | exact ih0 _ _ _ _ _
      | exact ih1 _ _ _ _ _
      | exact ih2 _ _ _ _ _ _
      | exact ih3 _ _ _
      | exact chunk_Decode.mono _ _ _
      | exact chunk_Encode.mono _ _ _
      | exact tollbarref01_SameBytes.mono _ _ _
      | exact LeO.none _
      | refine LeO.ite ?_ ?_
      | refine LeO.bind ?_ (fun _ => ?_)
    · intro y0 y1 y2
      unfold tollbarlaw06_ChunkBack.j3
      repeat' first
      | (with_reducible exact ih0 _ _ _ _ _)
      | (with_reducible exact ih1 _ _ _ _ _)
      | (with_reducible exact ih2 _ _ _ _ _ _)
      | (with_reducible exact ih3 _ _ _)
      | (with_reducible exact chunk_Decode.mono _ _ _)
      | (with_reducible exact chunk_Encode.mono _ _ _)
      | (with_reducible exact tollbarref01_SameBytes.mono _ _ _)
      | (with_reducible exact LeO.refl _)
      | (with_reducible exact LeO.none _)
      | (with_reducible refine LeO.ite ?_ ?_)
      | (with_reducible refine LeO.bind ?_ (fun _ => ?_))
      | exact ih0 _ _ _ _ _
      | exact ih1 _ _ _ _ _
      | exact ih2 _ _ _ _ _ _
      | exact ih3 _ _ _
      | exact chunk_Decode.mono _ _ _
      | exact chunk_Encode.mono _ _ _
      | exact tollbarref01_SameBytes.mono _ _ _
      | exact LeO.none _
      | refine LeO.ite ?_ ?_
      | refine LeO.bind ?_ (fun _ => ?_)
theorem tollbarlaw06_ChunkBack.mono : ∀ a0 a1 a2 a3 k, LeO (tollbarlaw06_ChunkBack.f k a0 a1 a2 a3) (tollbarlaw06_ChunkBack.f (k + 1) a0 a1 a2 a3) := by
  intro a0 a1 a2 a3 k
  obtain ⟨ih0, ih1, ih2, ih3⟩ := tollbarlaw06_ChunkBack.mono_l k
  unfold tollbarlaw06_ChunkBack.f
  repeat' first
      | (with_reducible exact ih0 _ _ _ _ _)
      | (with_reducible exact ih1 _ _ _ _ _)
      | (with_reducible exact ih2 _ _ _ _ _ _)
      | (with_reducible exact ih3 _ _ _)
      | (with_reducible exact chunk_Decode.mono _ _ _)
      | (with_reducible exact chunk_Encode.mono _ _ _)
      | (with_reducible exact tollbarref01_SameBytes.mono _ _ _)
      | (with_reducible exact LeO.refl _)
      | (with_reducible exact LeO.none _)
      | (with_reducible refine LeO.ite ?_ ?_)
      | (with_reducible refine LeO.bind ?_ (fun _ => ?_))
      | exact ih0 _ _ _ _ _
      | exact ih1 _ _ _ _ _
      | exact ih2 _ _ _ _ _ _
      | exact ih3 _ _ _
      | exact chunk_Decode.mono _ _ _
      | exact chunk_Encode.mono _ _ _
      | exact tollbarref01_SameBytes.mono _ _ _
      | exact LeO.none _
      | refine LeO.ite ?_ ?_
      | refine LeO.bind ?_ (fun _ => ?_)
set_option maxHeartbeats 8000000 in
set_option maxRecDepth 100000 in
theorem tollbarlaw06_ChunkBack.calls (k : Nat) (A0 : Option Addr) (c0 : Nat) (l0 : List Int) (a1 : Int) (A2 : Option Addr) (c2 : Nat) (l2 : List Int) (a3 : Int) (r : Bool) (w : World) (hr0 : Kd.C (Kd.int .u8) w A0 l0.length l0) (hc0 : l0.length ≤ c0) (hr2 : Kd.C (Kd.int .u8) w A2 l2.length l2) (hc2 : l2.length ≤ c2) (h : tollbarlaw06_ChunkBack.f k l0 a1 l2 a3 = some r) (hr : r = true) (ht : Tabs w) :
    Calls Tryd.prog 10 #[.slice A0 l0.length c0, .int .i64 a1, .slice A2 l2.length c2, .int .i64 a3] w fun e w' => e = .returned (.bool r) ∧ Below w.heap.size w w' := by
  have HTB := Aside0.mk ht
  clear ht
  have HRT := Aside0.mk hr
  clear hr
  have HR0 := Aside0.mk hr0
  have HC0 := Aside0.mk hc0
  clear hr0 hc0
  have HR2 := Aside0.mk hr2
  have HC2 := Aside0.mk hc2
  clear hr2 hc2
  have HB := Aside0.mk (Below.refl w.heap.size w)
  have H : ((tollbarlaw06_alive.f).bind fun t534 => (if t534 = true then (if (l0.length : Int) > 2000 then (tollbarlaw06_ChunkBack.j0 k l0 a1 l2 a3 true) else (tollbarlaw06_ChunkBack.j0 k l0 a1 l2 a3 (decide ((l2.length : Int) > 2000)))) else (some false))) = some r := h
  clear h
  replace H := Option.bind_eq_some_iff.mp H
  obtain ⟨t534, A50, H⟩ := H
  replace H : (if t534 = true then (if (l0.length : Int) > 2000 then (tollbarlaw06_ChunkBack.j0 k l0 a1 l2 a3 true) else (tollbarlaw06_ChunkBack.j0 k l0 a1 l2 a3 (decide ((l2.length : Int) > 2000)))) else (some false)) = some r := H
  have A5 := Aside0.mk A50
  clear A50
  by_cases c6 : t534 = true
  · subst c6
    have H1 : (if (l0.length : Int) > 2000 then (tollbarlaw06_ChunkBack.j0 k l0 a1 l2 a3 true) else (tollbarlaw06_ChunkBack.j0 k l0 a1 l2 a3 (decide ((l2.length : Int) > 2000)))) = some r := by rw [if_pos rfl] at H; exact H
    clear H
    have H := H1
    clear H1
    have HC7 := Aside0.mk H
    clear H
    go_enter Tryd.func10, Tryd.ntmps10
    go_upto_region 3 with (first | ((with_reducible refine gate_callee (f := 28) rfl ?_); refine goesL_ (some 23) rfl rfl Tryd.func28 (by kernel_rfl) rfl #[] rfl (by (try simp only [List.map_toArray, List.map_cons, List.map_nil]); first | done | rfl | (simp only [List.length_drop, List.length_take]; rfl)) ?_; (with_reducible refine (tollbarlaw06_alive.calls  true _ A5.out ?hT).mono ?_); (case hT => exact HTB.out.below (by repeat (first | (with_reducible first | exact HB.out | apply below_alloc | apply pw_below_drewN | apply below_drew1) | exact HB.out))); rintro e w8 ⟨rfl, hb⟩; refine ⟨_, rfl, ?_⟩; have n0_ := Aside0.mk (below_step (by repeat (first | (with_reducible first | exact HB.out | apply below_alloc | apply pw_below_drewN | apply below_drew1) | exact HB.out)) hb); clear HB; have HB := n0_; clear n0_; (try clear hb); (try clear hb2); (try clear hk); (try clear hi)))
    (try simp only [Act.put, List.setIfInBounds_toArray, List.set_cons_zero, List.set_cons_succ])
    go_cut [32] (fun v32 wc => ∃ (kq : Nat) (x32_6 : Bool), v32 = .bool x32_6 ∧ Aside0 (tollbarlaw06_ChunkBack.j0 kq l0 a1 l2 a3 x32_6 = some r) ∧ Aside0 (kq ≤ k) ∧ Aside0 (Below w.heap.size w wc))
    case first =>
      have H := HC7.out
      clear HC7
      by_cases c9 : (l0.length : Int) > 2000
      · rw [if_pos c9] at H
        have c9b0 : decide (2000 < (l0.length : Int)) = true := decide_eq_true c9
        have c9b1 : decide (2000 < l0.length) = true := decide_eq_true (by omega)
        clear c9
        (first | rw [c9b0] | (simp only [i64_w, i32_w]; rw [c9b0]) | skip)
        have H' := Aside0.mk H
        clear H
        go_wp2
        go_meet
        case rel => exact ⟨_, (true), (by first | rfl | (simp; done) | (simp [*]; done)), H', ⟨by first | omega | exact Nat.le_refl _⟩, ⟨by repeat (first | (with_reducible first | exact HB.out | apply below_alloc | apply pw_below_drewN | apply below_drew1) | exact HB.out)⟩⟩
      · rw [if_neg c9] at H
        have c9b0 : decide (2000 < (l0.length : Int)) = false := decide_eq_false c9
        have c9b1 : decide (2000 < l0.length) = false := decide_eq_false (by omega)
        clear c9
        (first | rw [c9b0] | (simp only [i64_w, i32_w]; rw [c9b0]) | skip)
        have H' := Aside0.mk H
        clear H
        go_wp2
        go_meet
        case rel => exact ⟨_, (decide ((l2.length : Int) > 2000)), (by first | rfl | (simp; done) | (simp [*]; done)), H', ⟨by first | omega | exact Nat.le_refl _⟩, ⟨by repeat (first | (with_reducible first | exact HB.out | apply below_alloc | apply pw_below_drewN | apply below_drew1) | exact HB.out)⟩⟩
    case rest =>
      clear HC7
      try clear c1
      try clear c2
      try clear p2
      try clear c6
      try clear c9
      try clear c9b0
      try clear c9b1
      obtain ⟨kq, x32_6, rfl, HA, HJ6, HB⟩ := hcut
      cases kq with
      | zero => exact absurd HA.out (by simp [tollbarlaw06_ChunkBack.j0])
      | succ kj6 =>
        have H := HA.out
        clear HA
        simp only [tollbarlaw06_ChunkBack.j0] at H
        by_cases c10 : x32_6 = true
        · subst c10
          have H1 : (some true) = some r := by rw [if_pos rfl] at H; exact H
          clear H
          have H := H1
          clear H1
          obtain rfl := Option.some.inj H
          go_wp2
          go_ret
          exact ⟨by first | rfl | (simp [errW_none, errW_some] <;> rfl) | (simp [*, errW_none, errW_some] <;> rfl), by repeat (first | (with_reducible first | exact HB.out | apply below_alloc | apply pw_below_drewN | apply below_drew1) | exact HB.out)⟩
        · replace c10 := Bool.eq_false_iff.mpr c10
          subst c10
          have H1 : ((chunk_Encode.f kj6 l0 a1).bind fun t535 => ((some (([] : List Int) : List Int)).bind fun y538 => (if y538.length + t535.length < 140737488355328 then ((some (y538 ++ t535 : List Int)).bind fun y541 => (if y541.length + l2.length < 140737488355328 then ((chunk_Decode.f kj6 (y541 ++ l2) (l0.length : Int)).bind fun bt547 => ((tollbarref01_SameBytes.f kj6 bt547.1 l0).bind fun t552 => (if t552 = true then (if bt547.2.1 = (t535.length : Int) then (tollbarlaw06_ChunkBack.j1 kj6 l0 a3 t535 bt547.1 (bt547.2.2 != 0)) else (tollbarlaw06_ChunkBack.j1 kj6 l0 a3 t535 bt547.1 true)) else (tollbarlaw06_ChunkBack.j1 kj6 l0 a3 t535 bt547.1 true)))) else (none))) else (none)))) = some r := by rw [if_neg (show ¬ (false = true) by decide)] at H; exact H
          clear H
          have H := H1
          clear H1
          replace H := Option.bind_eq_some_iff.mp H
          obtain ⟨t535, A110, H⟩ := H
          replace H : ((some (([] : List Int) : List Int)).bind fun y538 => (if y538.length + t535.length < 140737488355328 then ((some (y538 ++ t535 : List Int)).bind fun y541 => (if y541.length + l2.length < 140737488355328 then ((chunk_Decode.f kj6 (y541 ++ l2) (l0.length : Int)).bind fun bt547 => ((tollbarref01_SameBytes.f kj6 bt547.1 l0).bind fun t552 => (if t552 = true then (if bt547.2.1 = (t535.length : Int) then (tollbarlaw06_ChunkBack.j1 kj6 l0 a3 t535 bt547.1 (bt547.2.2 != 0)) else (tollbarlaw06_ChunkBack.j1 kj6 l0 a3 t535 bt547.1 true)) else (tollbarlaw06_ChunkBack.j1 kj6 l0 a3 t535 bt547.1 true)))) else (none))) else (none))) = some r := H
          have A11 := Aside0.mk A110
          clear A110
          obtain ⟨y538, hy538⟩ : ∃ y_ : List Int, y_ = (([] : List Int)) := ⟨_, rfl⟩
          replace H : (if y538.length + t535.length < 140737488355328 then ((some (y538 ++ t535 : List Int)).bind fun y541 => (if y541.length + l2.length < 140737488355328 then ((chunk_Decode.f kj6 (y541 ++ l2) (l0.length : Int)).bind fun bt547 => ((tollbarref01_SameBytes.f kj6 bt547.1 l0).bind fun t552 => (if t552 = true then (if bt547.2.1 = (t535.length : Int) then (tollbarlaw06_ChunkBack.j1 kj6 l0 a3 t535 bt547.1 (bt547.2.2 != 0)) else (tollbarlaw06_ChunkBack.j1 kj6 l0 a3 t535 bt547.1 true)) else (tollbarlaw06_ChunkBack.j1 kj6 l0 a3 t535 bt547.1 true)))) else (none))) else (none)) = some r := by first | (rw [hy538]; with_reducible exact H) | (have H2_ := (Option.bind_some _ _).symm.trans H; rw [hy538]; with_reducible exact H2_) | (have H2_ := (Option.bind_some _ _).symm.trans H; with_reducible exact H2_) | with_reducible exact H | (rw [hy538]; exact H) | exact H
          have Ny538 := Aside0.mk hy538
          clear hy538
          by_cases c12 : y538.length + t535.length < 140737488355328
          · rw [if_pos c12] at H
            have LMc12 := Aside0.mk c12
            clear c12
            obtain ⟨y541, hy541⟩ : ∃ y_ : List Int, y_ = (y538 ++ t535) := ⟨_, rfl⟩
            replace H : (if y541.length + l2.length < 140737488355328 then ((chunk_Decode.f kj6 (y541 ++ l2) (l0.length : Int)).bind fun bt547 => ((tollbarref01_SameBytes.f kj6 bt547.1 l0).bind fun t552 => (if t552 = true then (if bt547.2.1 = (t535.length : Int) then (tollbarlaw06_ChunkBack.j1 kj6 l0 a3 t535 bt547.1 (bt547.2.2 != 0)) else (tollbarlaw06_ChunkBack.j1 kj6 l0 a3 t535 bt547.1 true)) else (tollbarlaw06_ChunkBack.j1 kj6 l0 a3 t535 bt547.1 true)))) else (none)) = some r := by first | (rw [hy541]; with_reducible exact H) | (have H2_ := (Option.bind_some _ _).symm.trans H; rw [hy541]; with_reducible exact H2_) | (have H2_ := (Option.bind_some _ _).symm.trans H; with_reducible exact H2_) | with_reducible exact H | (rw [hy541]; exact H) | exact H
            have Ny541 := Aside0.mk hy541
            clear hy541
            by_cases c13 : y541.length + l2.length < 140737488355328
            · rw [if_pos c13] at H
              have LMc13 := Aside0.mk c13
              clear c13
              obtain ⟨y544, hy544⟩ : ∃ y_ : List Int, y_ = (y541 ++ l2) := ⟨_, rfl⟩
              replace H : ((chunk_Decode.f kj6 y544 (l0.length : Int)).bind fun bt547 => ((tollbarref01_SameBytes.f kj6 bt547.1 l0).bind fun t552 => (if t552 = true then (if bt547.2.1 = (t535.length : Int) then (tollbarlaw06_ChunkBack.j1 kj6 l0 a3 t535 bt547.1 (bt547.2.2 != 0)) else (tollbarlaw06_ChunkBack.j1 kj6 l0 a3 t535 bt547.1 true)) else (tollbarlaw06_ChunkBack.j1 kj6 l0 a3 t535 bt547.1 true)))) = some r := by first | (rw [hy544]; with_reducible exact H) | (have H2_ := (Option.bind_some _ _).symm.trans H; rw [hy544]; with_reducible exact H2_) | (have H2_ := (Option.bind_some _ _).symm.trans H; with_reducible exact H2_) | with_reducible exact H | (rw [hy544]; exact H) | exact H
              have Ny544 := Aside0.mk hy544
              clear hy544
              replace H := Option.bind_eq_some_iff.mp H
              obtain ⟨⟨t547, t548, t549⟩, A140, H⟩ := H
              replace H : ((tollbarref01_SameBytes.f kj6 t547 l0).bind fun t552 => (if t552 = true then (if t548 = (t535.length : Int) then (tollbarlaw06_ChunkBack.j1 kj6 l0 a3 t535 t547 (t549 != 0)) else (tollbarlaw06_ChunkBack.j1 kj6 l0 a3 t535 t547 true)) else (tollbarlaw06_ChunkBack.j1 kj6 l0 a3 t535 t547 true))) = some r := H
              have A14 := Aside0.mk A140
              clear A140
              have HC15 := Aside0.mk H
              clear H
              go_upto_region 7 with (first | ((with_reducible refine gate_callee (f := 32) rfl ?_); refine goesL_ (some 35) rfl rfl Tryd.func32 (by kernel_rfl) rfl #[.slice A0 l0.length c0, .int .i64 a1] rfl (by (try simp only [List.map_toArray, List.map_cons, List.map_nil]); first | done | rfl | (simp only [List.length_drop, List.length_take]; rfl)) ?_; (with_reducible refine (chunk_Encode.calls kj6 (fun k_ => k_ < w.heap.size) _ _ l0 a1 t535 _ ?side1 A11.out ?hT).mono ?_); (case hT => exact HTB.out.below (by repeat (first | (with_reducible first | exact HB.out | apply below_alloc | apply pw_below_drewN | apply below_drew1) | exact HB.out))); (case side1 => exact Kd.V_mk HC0.out (Kd.F_below (Kd.C_F (Kd.heap_int .u8) HR0.out) (by repeat (first | (with_reducible first | exact HB.out | apply below_alloc | apply pw_below_drewN | apply below_drew1) | exact HB.out)))); rintro e w16 ⟨v536, rfl, ho0, hb⟩; refine ⟨_, rfl, ?_⟩; have n0_ := Aside0.mk (Kd.R_lower (Kd.R_mono (ok' := fun k_ => True) ho0 (fun _ hk_ => trivial)) (below_size (by repeat (first | (with_reducible first | exact HB.out | apply below_alloc | apply pw_below_drewN | apply below_drew1) | exact HB.out)))); have n1_ := Aside0.mk (below_step (by repeat (first | (with_reducible first | exact HB.out | apply below_alloc | apply pw_below_drewN | apply below_drew1) | exact HB.out)) hb); clear HB; have HO537 := n0_; have HB := n1_; clear n0_ n1_; (try clear hb); (try clear hb2); (try clear hk); (try clear hi); (try clear ho0)) | ((with_reducible refine gate_dst (N := 37) rfl ?_); (try (refine gate_guard (by rfl) ?_; dsimp only)); refine Kd.R_lit (Kd.int .u8) _ 5 ?hg (N := 37) ?hd (xs := ([] : List Int)) (inner := []) (ok := fun _ => True) (okp := fun _ => True) ?hr ?hp (fun _ hk => hk) trivial (Below.refl _ _) (Nat.le_refl _) (by simp) ?_; (case hd => rfl); (case hg => rfl); (case hr => first | (go_simp; done) | (go_simp; rfl)); (case hp => exact (Reps.none _ _)); intro v539 w17 ho18 hb hg_ hnew_; clear hg_ hnew_; (first | rw [← Ny538.out] at ho18 | (simp only [Int.reduceToNat] at ho18; rw [← Ny538.out] at ho18)); have n0_ := Aside0.mk (Kd.R_elder' (by (with_reducible repeat (first | apply Kd.R_alloc | apply Kd.R_drewN | apply Kd.R_drew)); exact HO537.out) (Kd.R_base ho18) hb); have n1_ := Aside0.mk (Kd.R_lower (Kd.R_new' ho18 (Kd.R_lt (by (with_reducible repeat (first | apply Kd.R_alloc | apply Kd.R_drewN | apply Kd.R_drew)); exact HO537.out))) (below_size (by repeat (first | (with_reducible first | exact HB.out | apply below_alloc | apply pw_below_drewN | apply below_drew1) | exact HB.out)))); have n2_ := Aside0.mk (below_step (by repeat (first | (with_reducible first | exact HB.out | apply below_alloc | apply pw_below_drewN | apply below_drew1) | exact HB.out)) hb); clear HO537; clear HB; have HO537 := n0_; have HO540 := n1_; have HB := n2_; clear n0_ n1_ n2_; clear hb ho18; obtain ⟨Ao20, co20, eo20⟩ := Kd.R_slice HO537.out; subst eo20) | ((with_reducible refine gate_builtin (b := .append) (xs := #[.tmp 37, .tmp 38]) rfl ?_); (try (refine gate_guard (by rfl) ?_; dsimp only)); at_builtin; refine Kd.R_append_rows (Kd.int .u8) (w0 := w) w.heap.size rfl (.tmp 37) (.tmp 38) 24 5 (.int .u8 0) 1 rfl Tryd.underlying24 info5 rfl (by decide) (by omega) v539 y538 t535 _ _ _ (fun k_ => some k_ ≠ (.slice Ao20 t535.length co20 : Value).ownBlock) (fun _ => False) rfl rfl ?aO ?aR (fun _ _ h => h) (fun _ h => h.elim) ?aF ?aB ?aS ?aL ?_; (case aR => repeat (first | exact (Kd.R_reads' HO537.out).2.2 | (with_reducible refine Kd.C_alloc ?_ _) | (with_reducible refine Kd.C_drewN ?_ _) | (with_reducible refine Kd.C_drew ?_))); (case aB => exact (by repeat (first | (with_reducible first | exact HB.out | apply below_alloc | apply pw_below_drewN | apply below_drew1) | exact HB.out))); (case aF => exact (fun k_ hk => Kd.fresh' (Kd.R_lt (by (with_reducible repeat (first | apply Kd.R_alloc | apply Kd.R_drewN | apply Kd.R_drew)); exact HO537.out)) k_ hk)); (case aO => exact (by (with_reducible repeat (first | apply Kd.R_alloc | apply Kd.R_drewN | apply Kd.R_drew)); exact Kd.R_mono HO540.out (fun _ hk => hk.2))); (case aS => exact (below_size (by repeat (first | (with_reducible first | exact HB.out | apply below_alloc | apply pw_below_drewN | apply below_drew1) | exact HB.out)))); (case aL => have := LMc12.out; omega); intro v542 w19 ho hb hg hat; rw [← Ny541.out] at ho; have n0_ := Aside0.mk (Kd.R_after (ok := (fun _ => True)) (by (with_reducible repeat (first | apply Kd.R_alloc | apply Kd.R_drewN | apply Kd.R_drew)); exact HO537.out) hg hat); have n1_ := Aside0.mk (hb); have n2_ := Aside0.mk (ho); clear HO537; clear HB; clear HO540; have HO537 := n0_; have HB := n1_; have HO543 := n2_; clear n0_ n1_ n2_; clear ho hb hg hat) | ((with_reducible refine gate_builtin (b := .append) (xs := #[.tmp 39, .tmp 40]) rfl ?_); (try (refine gate_guard (by rfl) ?_; dsimp only)); at_builtin; refine Kd.R_append_rows (Kd.int .u8) (w0 := w) w.heap.size rfl (.tmp 39) (.tmp 40) 24 5 (.int .u8 0) 1 rfl Tryd.underlying24 info5 rfl (by decide) (by omega) v542 y541 l2 _ _ _ (fun k_ => some k_ ≠ (.slice Ao20 t535.length co20 : Value).ownBlock) (fun _ => False) rfl rfl ?aO ?aR (fun _ _ h => h) (fun _ h => h.elim) ?aF ?aB ?aS ?aL ?_; (case aR => repeat (first | exact (Kd.C_below HR2.out HB.out) | (with_reducible refine Kd.C_alloc ?_ _) | (with_reducible refine Kd.C_drewN ?_ _) | (with_reducible refine Kd.C_drew ?_))); (case aB => exact (by repeat (first | (with_reducible first | exact HB.out | apply below_alloc | apply pw_below_drewN | apply below_drew1) | exact HB.out))); (case aF => exact (fun k_ hk => Kd.fresh' (Kd.R_lt (by (with_reducible repeat (first | apply Kd.R_alloc | apply Kd.R_drewN | apply Kd.R_drew)); exact HO537.out)) k_ hk)); (case aO => exact (by (with_reducible repeat (first | apply Kd.R_alloc | apply Kd.R_drewN | apply Kd.R_drew)); exact HO543.out)); (case aS => exact (below_size (by repeat (first | (with_reducible first | exact HB.out | apply below_alloc | apply pw_below_drewN | apply below_drew1) | exact HB.out)))); (case aL => have := LMc13.out; omega); intro v545 w21 ho hb hg hat; rw [← Ny544.out] at ho; have n0_ := Aside0.mk (Kd.R_after (ok := (fun _ => True)) (by (with_reducible repeat (first | apply Kd.R_alloc | apply Kd.R_drewN | apply Kd.R_drew)); exact HO537.out) hg hat); have n1_ := Aside0.mk (hb); have n2_ := Aside0.mk (ho); clear HO537; clear HB; clear HO543; have HO537 := n0_; have HB := n1_; have HO546 := n2_; clear n0_ n1_ n2_; clear ho hb hg hat; obtain ⟨Ao22, co22, eo22⟩ := Kd.R_slice HO546.out; subst eo22) | ((with_reducible refine gate_callee (f := 29) rfl ?_); refine goesL_ (some 44) rfl rfl Tryd.func29 (by kernel_rfl) rfl #[.slice Ao22 y544.length co22, .int .i64 (l0.length : Int)] rfl (by (try simp only [List.map_toArray, List.map_cons, List.map_nil]); first | done | rfl | (simp only [List.length_drop, List.length_take]; rfl)) ?_; (with_reducible refine (chunk_Decode.calls kj6 _ _ y544 (l0.length : Int) t547 t548 t549 _ ?side1 ?side2 A14.out).mono ?_); (case side1 => repeat (first | exact (Kd.R_reads' HO546.out).2.2 | (with_reducible refine Kd.C_alloc ?_ _) | (with_reducible refine Kd.C_drewN ?_ _) | (with_reducible refine Kd.C_drew ?_))); (case side2 => exact (Kd.R_reads' HO546.out).2.1); rintro e w23 ⟨v550, rfl, ho0, hb⟩; refine ⟨_, rfl, ?_⟩; have n0_ := Aside0.mk (Kd.R_elder' (by (with_reducible repeat (first | apply Kd.R_alloc | apply Kd.R_drewN | apply Kd.R_drew)); exact HO537.out) (Kd.R_base ho0) hb); have n1_ := Aside0.mk (Kd.R_elder' (by (with_reducible repeat (first | apply Kd.R_alloc | apply Kd.R_drewN | apply Kd.R_drew)); exact HO546.out) (Kd.R_base ho0) hb); have n2_ := Aside0.mk (Kd.R_lower (Kd.R_new' (Kd.R_new' ho0 (Kd.R_lt (by (with_reducible repeat (first | apply Kd.R_alloc | apply Kd.R_drewN | apply Kd.R_drew)); exact HO537.out))) (Kd.R_lt (by (with_reducible repeat (first | apply Kd.R_alloc | apply Kd.R_drewN | apply Kd.R_drew)); exact HO546.out))) (below_size (by repeat (first | (with_reducible first | exact HB.out | apply below_alloc | apply pw_below_drewN | apply below_drew1) | exact HB.out)))); have n3_ := Aside0.mk (below_step (by repeat (first | (with_reducible first | exact HB.out | apply below_alloc | apply pw_below_drewN | apply below_drew1) | exact HB.out)) hb); clear HO537; clear HO546; clear HB; have HO537 := n0_; have HO546 := n1_; have HO551 := n2_; have HB := n3_; clear n0_ n1_ n2_ n3_; (try clear hb); (try clear hb2); (try clear hk); (try clear hi); (try clear ho0)))
              (try simp only [Act.put, List.setIfInBounds_toArray, List.set_cons_zero, List.set_cons_succ])
              go_cut [61] (fun v61 wc => ∃ (kq : Nat) (x61_14 : Bool), v61 = .bool x61_14 ∧ Aside0 (tollbarlaw06_ChunkBack.j1 kq l0 a3 t535 t547 x61_14 = some r) ∧ Aside0 (kq ≤ kj6) ∧ Aside0 (Kd.R (Kd.int .u8) 5 wc w.heap.size (fun k_ => some k_ ≠ (v550 : Value).ownBlock) (.slice Ao20 t535.length co20) t535) ∧ Aside0 (Kd.R (Kd.int .u8) 5 wc w.heap.size (fun k_ => some k_ ≠ ((.slice Ao20 t535.length co20) : Value).ownBlock) v550 t547) ∧ Aside0 (Below w.heap.size w wc))
              case first =>
                have H := HC15.out
                clear HC15
                replace H := Option.bind_eq_some_iff.mp H
                obtain ⟨t552, A240, H⟩ := H
                replace H : (if t552 = true then (if t548 = (t535.length : Int) then (tollbarlaw06_ChunkBack.j1 kj6 l0 a3 t535 t547 (t549 != 0)) else (tollbarlaw06_ChunkBack.j1 kj6 l0 a3 t535 t547 true)) else (tollbarlaw06_ChunkBack.j1 kj6 l0 a3 t535 t547 true)) = some r := H
                have A24 := Aside0.mk A240
                clear A240
                by_cases c25 : t552 = true
                · subst c25
                  have H1 : (if t548 = (t535.length : Int) then (tollbarlaw06_ChunkBack.j1 kj6 l0 a3 t535 t547 (t549 != 0)) else (tollbarlaw06_ChunkBack.j1 kj6 l0 a3 t535 t547 true)) = some r := by rw [if_pos rfl] at H; exact H
                  clear H
                  have H := H1
                  clear H1
                  by_cases c26 : t548 = (t535.length : Int)
                  · rw [if_pos c26] at H
                    have c26b0 : (t548 == (t535.length : Int)) = true := beq_iff_eq.mpr c26
                    have c26b1 : (t548 != (t535.length : Int)) = false := bne_eq_false_iff_eq.mpr c26
                    clear c26
                    (first | rw [c26b0] | (simp only [i64_w, i32_w]; rw [c26b0]) | skip)
                    have H' := Aside0.mk H
                    clear H
                    obtain ⟨Ao27, co27, eo27⟩ := Kd.R_slice HO551.out
                    subst eo27
                    go_wp2_with (first | ((with_reducible refine gate_callee (f := 31) rfl ?_); refine goesL_ (some 50) rfl rfl Tryd.func31 (by kernel_rfl) rfl #[.slice Ao27 t547.length co27, .slice A0 l0.length c0] rfl (by (try simp only [List.map_toArray, List.map_cons, List.map_nil]); first | done | rfl | (simp only [List.length_drop, List.length_take]; rfl)) ?_; (with_reducible refine (tollbarref01_SameBytes.calls kj6 _ _ t547 _ _ l0 true _ ?side1 ?side2 ?side3 ?side4 A24.out).mono ?_); (case side1 => repeat (first | exact (Kd.R_reads' HO551.out).2.2 | (with_reducible refine Kd.C_alloc ?_ _) | (with_reducible refine Kd.C_drewN ?_ _) | (with_reducible refine Kd.C_drew ?_))); (case side2 => exact (Kd.R_reads' HO551.out).2.1); (case side3 => repeat (first | exact (Kd.C_below HR0.out HB.out) | (with_reducible refine Kd.C_alloc ?_ _) | (with_reducible refine Kd.C_drewN ?_ _) | (with_reducible refine Kd.C_drew ?_))); (case side4 => exact HC0.out); rintro e w' ⟨rfl, ⟨nd, rfl⟩⟩; (try clear A24); refine ⟨_, rfl, ?_⟩))
                    go_meet
                    case rel => exact ⟨_, ((t549 != 0)), (by first | rfl | (simp; done) | (simp [*]; done)), H', ⟨by have := HJ6.out; first | omega | exact Nat.le_refl _⟩, ⟨by (with_reducible repeat (first | apply Kd.R_alloc | apply Kd.R_drewN | apply Kd.R_drew)); exact Kd.R_mono HO537.out (fun _ hk => hk.2)⟩, ⟨by (with_reducible repeat (first | apply Kd.R_alloc | apply Kd.R_drewN | apply Kd.R_drew)); exact Kd.R_mono HO551.out (fun _ hk => hk.1.2)⟩, ⟨by repeat (first | (with_reducible first | exact HB.out | apply below_alloc | apply pw_below_drewN | apply below_drew1) | exact HB.out)⟩⟩
                  · rw [if_neg c26] at H
                    have c26b0 : (t548 == (t535.length : Int)) = false := beq_eq_false_iff_ne.mpr c26
                    have c26b1 : (t548 != (t535.length : Int)) = true := bne_iff_ne.mpr c26
                    (first | rw [c26b0] | (simp only [i64_w, i32_w]; rw [c26b0]) | skip)
                    have H' := Aside0.mk H
                    clear H
                    obtain ⟨Ao28, co28, eo28⟩ := Kd.R_slice HO551.out
                    subst eo28
                    go_wp2_with (first | ((with_reducible refine gate_callee (f := 31) rfl ?_); refine goesL_ (some 50) rfl rfl Tryd.func31 (by kernel_rfl) rfl #[.slice Ao28 t547.length co28, .slice A0 l0.length c0] rfl (by (try simp only [List.map_toArray, List.map_cons, List.map_nil]); first | done | rfl | (simp only [List.length_drop, List.length_take]; rfl)) ?_; (with_reducible refine (tollbarref01_SameBytes.calls kj6 _ _ t547 _ _ l0 true _ ?side1 ?side2 ?side3 ?side4 A24.out).mono ?_); (case side1 => repeat (first | exact (Kd.R_reads' HO551.out).2.2 | (with_reducible refine Kd.C_alloc ?_ _) | (with_reducible refine Kd.C_drewN ?_ _) | (with_reducible refine Kd.C_drew ?_))); (case side2 => exact (Kd.R_reads' HO551.out).2.1); (case side3 => repeat (first | exact (Kd.C_below HR0.out HB.out) | (with_reducible refine Kd.C_alloc ?_ _) | (with_reducible refine Kd.C_drewN ?_ _) | (with_reducible refine Kd.C_drew ?_))); (case side4 => exact HC0.out); rintro e w' ⟨rfl, ⟨nd, rfl⟩⟩; (try clear A24); refine ⟨_, rfl, ?_⟩))
                    go_meet
                    case rel => exact ⟨_, (true), (by first | rfl | (simp; done) | (simp [*]; done)), H', ⟨by have := HJ6.out; first | omega | exact Nat.le_refl _⟩, ⟨by (with_reducible repeat (first | apply Kd.R_alloc | apply Kd.R_drewN | apply Kd.R_drew)); exact Kd.R_mono HO537.out (fun _ hk => hk.2)⟩, ⟨by (with_reducible repeat (first | apply Kd.R_alloc | apply Kd.R_drewN | apply Kd.R_drew)); exact Kd.R_mono HO551.out (fun _ hk => hk.1.2)⟩, ⟨by repeat (first | (with_reducible first | exact HB.out | apply below_alloc | apply pw_below_drewN | apply below_drew1) | exact HB.out)⟩⟩
                · replace c25 := Bool.eq_false_iff.mpr c25
                  subst c25
                  have H1 : (tollbarlaw06_ChunkBack.j1 kj6 l0 a3 t535 t547 true) = some r := by rw [if_neg (show ¬ (false = true) by decide)] at H; exact H
                  clear H
                  have H := H1
                  clear H1
                  have H' := Aside0.mk H
                  clear H
                  obtain ⟨Ao29, co29, eo29⟩ := Kd.R_slice HO551.out
                  subst eo29
                  go_wp2_with (first | ((with_reducible refine gate_callee (f := 31) rfl ?_); refine goesL_ (some 50) rfl rfl Tryd.func31 (by kernel_rfl) rfl #[.slice Ao29 t547.length co29, .slice A0 l0.length c0] rfl (by (try simp only [List.map_toArray, List.map_cons, List.map_nil]); first | done | rfl | (simp only [List.length_drop, List.length_take]; rfl)) ?_; (with_reducible refine (tollbarref01_SameBytes.calls kj6 _ _ t547 _ _ l0 false _ ?side1 ?side2 ?side3 ?side4 A24.out).mono ?_); (case side1 => repeat (first | exact (Kd.R_reads' HO551.out).2.2 | (with_reducible refine Kd.C_alloc ?_ _) | (with_reducible refine Kd.C_drewN ?_ _) | (with_reducible refine Kd.C_drew ?_))); (case side2 => exact (Kd.R_reads' HO551.out).2.1); (case side3 => repeat (first | exact (Kd.C_below HR0.out HB.out) | (with_reducible refine Kd.C_alloc ?_ _) | (with_reducible refine Kd.C_drewN ?_ _) | (with_reducible refine Kd.C_drew ?_))); (case side4 => exact HC0.out); rintro e w' ⟨rfl, ⟨nd, rfl⟩⟩; (try clear A24); refine ⟨_, rfl, ?_⟩))
                  go_meet
                  case rel => exact ⟨_, (true), (by first | rfl | (simp; done) | (simp [*]; done)), H', ⟨by have := HJ6.out; first | omega | exact Nat.le_refl _⟩, ⟨by (with_reducible repeat (first | apply Kd.R_alloc | apply Kd.R_drewN | apply Kd.R_drew)); exact Kd.R_mono HO537.out (fun _ hk => hk.2)⟩, ⟨by (with_reducible repeat (first | apply Kd.R_alloc | apply Kd.R_drewN | apply Kd.R_drew)); exact Kd.R_mono HO551.out (fun _ hk => hk.1.2)⟩, ⟨by repeat (first | (with_reducible first | exact HB.out | apply below_alloc | apply pw_below_drewN | apply below_drew1) | exact HB.out)⟩⟩
              case rest =>
                clear HC15
                try clear c1
                try clear c2
                try clear p2
                try clear c3
                try clear c6
                try clear c9
                try clear c9b0
                try clear c9b1
                try clear c10
                try clear c12
                try clear c13
                try clear c25
                try clear c26
                try clear c26b0
                try clear c26b1
                try clear c28
                try clear c29
                try clear p2
                obtain ⟨kq, x61_14, rfl, HA, HJ14, HO_9, HO_10, HB⟩ := hcut
                cases kq with
                | zero => exact absurd HA.out (by simp [tollbarlaw06_ChunkBack.j1])
                | succ kj14 =>
                  have H := HA.out
                  clear HA
                  simp only [tollbarlaw06_ChunkBack.j1] at H
                  by_cases c30 : x61_14 = true
                  · subst c30
                    have H1 : (some false) = some r := by rw [if_pos rfl] at H; exact H
                    clear H
                    have H := H1
                    clear H1
                    exact absurd ((Option.some.inj H).trans HRT.out) (by decide)
                  · replace c30 := Bool.eq_false_iff.mpr c30
                    subst c30
                    have H1 : (tollbarlaw06_ChunkBack.l0 kj14 l0 a3 t535 t547 (t547.length : Int) 0) = some r := by rw [if_neg (show ¬ (false = true) by decide)] at H; exact H
                    clear H
                    have H := H1
                    clear H1
                    have H' := Aside0.mk H
                    clear H
                    obtain ⟨Ao31, co31, eo31⟩ := Kd.R_slice HO_10.out
                    subst eo31
                    go_wp2
                    go_loopg [64] kj14 (fun kq v64 w' => ∃ (x10_3 : List Int) (x64_3 : Int), v64 = .int .i64 x64_3 ∧ Aside0 (tollbarlaw06_ChunkBack.l0 kq l0 a3 t535 x10_3 (t547.length : Int) x64_3 = some r) ∧ Aside0 (kq ≤ kj14) ∧ Aside0 (Kd.R (Kd.int .u8) 5 w' w.heap.size (fun k_ => some k_ ≠ ((.slice Ao31 t547.length co31) : Value).ownBlock) (.slice Ao20 t535.length co20) t535) ∧ Aside0 (Kd.R (Kd.int .u8) 5 w' w.heap.size (fun k_ => some k_ ≠ ((.slice Ao20 t535.length co20) : Value).ownBlock) (.slice Ao31 t547.length co31) x10_3) ∧ Aside0 (Below w.heap.size w w'))
                    case atStart => exact ⟨(t547), (0), (by first | rfl | (simp; done) | (simp [*]; done)), H', ⟨Nat.le_refl _⟩, ⟨by (with_reducible repeat (first | apply Kd.R_alloc | apply Kd.R_drewN | apply Kd.R_drew)); exact HO_9.out⟩, ⟨by (with_reducible repeat (first | apply Kd.R_alloc | apply Kd.R_drewN | apply Kd.R_drew)); exact HO_10.out⟩, ⟨by repeat (first | (with_reducible first | exact HB.out | apply below_alloc | apply pw_below_drewN | apply below_drew1) | exact HB.out)⟩⟩
                    case round =>
                      clear H'
                      try clear c1
                      try clear c2
                      try clear p2
                      try clear c3
                      try clear c6
                      try clear c9
                      try clear c9b0
                      try clear c9b1
                      try clear c10
                      try clear c12
                      try clear c13
                      try clear c25
                      try clear c26
                      try clear c26b0
                      try clear c26b1
                      try clear c28
                      try clear c29
                      try clear c30
                      try clear c31
                      try clear p2
                      obtain ⟨x10_3, x64_3, rfl, HA, HK3, HO_9, HO_10, HB⟩ := hrel
                      have hl10_3 := (Kd.R_reads' HO_10.out).1
                      rw [hl10_3] at HO_10
                      (try simp only [hl10_3])
                      (try simp only [hl10_3] at HO_9)
                      cases gk with
                      | zero => exact absurd HA.out (by simp [tollbarlaw06_ChunkBack.l0])
                      | succ k3 =>
                        have H := HA.out
                        clear HA
                        simp only [tollbarlaw06_ChunkBack.l0] at H
                        by_cases c32 : x64_3 < (t547.length : Int)
                        · rw [if_pos c32] at H
                          have c32b0 : decide (x64_3 < (t547.length : Int)) = true := decide_eq_true c32
                          clear c32
                          by_cases c33 : 0 ≤ x64_3
                          · rw [if_pos c33] at H
                            have c33b0 : decide (0 ≤ x64_3) = true := decide_eq_true c33
                            clear c33
                            by_cases c34 : x64_3 < (x10_3.length : Int)
                            · rw [if_pos c34] at H
                              have c34b0 : decide (x64_3 < (x10_3.length : Int)) = true := decide_eq_true c34
                              clear c34
                              obtain ⟨y554, hy554⟩ : ∃ y_ : List Int, y_ = (x10_3.set (x64_3 : Int).toNat (((rd x10_3 x64_3) + 1) % 256)) := ⟨_, rfl⟩
                              replace H : (tollbarlaw06_ChunkBack.l0 k3 l0 a3 t535 y554 (t547.length : Int) (wrap64 (x64_3 + 1))) = some r := by first | (rw [hy554]; with_reducible exact H) | (have H2_ := (Option.bind_some _ _).symm.trans H; rw [hy554]; with_reducible exact H2_) | (have H2_ := (Option.bind_some _ _).symm.trans H; with_reducible exact H2_) | with_reducible exact H | (rw [hy554]; exact H) | exact H
                              have Ny554 := Aside0.mk hy554
                              clear hy554
                              have H' := Aside0.mk H
                              clear H
                              have p553 : 0 ≤ (x64_3 : Int) := of_decide_eq_true (by first | (with_reducible assumption) | assumption)
                              have q553 : x64_3 < (x10_3.length : Int) := of_decide_eq_true (by first | (with_reducible assumption) | assumption)
                              obtain ⟨ad553, e553, hx553_0⟩ := Kd.at_int (Kd.R_reads' HO_10.out).2.2 x64_3 p553 q553
                              cases e553
                              replace p553 := eq_true p553
                              replace q553 := eq_true q553
                              have p35 : 0 ≤ (x64_3 : Int) := of_decide_eq_true (by first | (with_reducible assumption) | assumption)
                              have q35 : (x64_3 : Int) < ((x10_3.length : Int) : Int) := of_decide_eq_true (by first | (with_reducible assumption) | assumption)
                              obtain ⟨go35, co35, eo35, gb35, gl35, cl35, HG35⟩ := Kd.R_form HO_10.out (by omega)
                              (first | cases eo35 | (injection eo35 with ea_ en_ ec_; (first | subst ea_ | (injection ea_ with ea_; subst ea_)); subst ec_; clear en_))
                              have GB35 := Aside0.mk gb35
                              have GG35 := Aside0.mk HG35
                              clear gb35 gl35 HG35
                              (first | simp only [add_plain] at hx553_0 | skip)
                              obtain ⟨hx35_0, hf35_0⟩ := Kd.R_celln 0 HO_10.out (x64_3 : Int) p35 q35
                              replace p35 := eq_true p35
                              replace q35 := eq_true q35
                              have HP36 := Kd.R_putg HO_10.out (x64_3 : Int) (((rd x10_3 x64_3) + 1) % 256)
                              go_wp2_with (first | ((with_reducible refine gate_store (t := 5) (p := 72) rfl ?_); refine store_event (t := 5) (p := 72) (v := ?vo_w37) (w1 := (wr.setCell ⟨go35, (x64_3 : Int).toNat, none⟩ (.int .u8 (((rd x10_3 x64_3) + 1) % 256)))) ?hg ?ho ?hn ?hr ?_; (case ho => rfl); (case hg => rfl); (case hn => rfl); (case hr => first | (go_simp; done) | (go_simp; rfl)); intro w37 hw; have hg : wr.grownBy w37 (some go35) := (by rw [hw]; exact HP36.2); have hp_ : Kd.R (Kd.int .u8) 5 w37 w.heap.size (fun k_ => some k_ ≠ (.slice Ao20 t535.length co20 : Value).ownBlock) (.slice (some ⟨go35, 0, none⟩) x10_3.length co31) y554 := (by rw [hw, Ny554.out]; exact HP36.1); clear HP36; have n0_ := Aside0.mk (Kd.R_after (v := (.slice (some ⟨go35, 0, none⟩) x10_3.length co31)) (v1 := (.slice (some ⟨go35, 0, none⟩) x10_3.length co31)) (ok := (fun _ => True)) (by (with_reducible repeat (first | apply Kd.R_alloc | apply Kd.R_drewN | apply Kd.R_drew)); exact Kd.R_mono HO_9.out (fun _ hk => ⟨trivial, hk⟩)) hg (.inl rfl)); have n1_ := Aside0.mk (hp_); have n2_ := Aside0.mk ((by rw [hw]; exact below_set (HB.out) GB35.out : Below w.heap.size w w37)); clear HO_9; clear HO_10; clear HB; have HO_9 := n0_; have HO_10 := n1_; have HB := n2_; clear n0_ n1_ n2_; clear hg hw hp_))
                              (try simp only [← hl10_3])
                              go_roundg k3
                              case measure => have := HJ6.out; have := HJ14.out; have := HK3.out; omega
                              case rel => exact ⟨(y554), (wrap64 (x64_3 + 1)), (by first | rfl | (simp; done) | (simp [*]; done)), H', ⟨by have := HJ6.out; have := HJ14.out; have := HK3.out; omega⟩, ⟨by (try simp only [hl10_3]); (with_reducible repeat (first | apply Kd.R_alloc | apply Kd.R_drewN | apply Kd.R_drew)); exact Kd.R_mono HO_9.out (fun _ hk => hk.2)⟩, ⟨by (try simp only [hl10_3]); (with_reducible repeat (first | apply Kd.R_alloc | apply Kd.R_drewN | apply Kd.R_drew)); exact HO_10.out⟩, ⟨by repeat (first | (with_reducible first | exact HB.out | apply below_alloc | apply pw_below_drewN | apply below_drew1) | exact HB.out)⟩⟩
                            · rw [if_neg c34] at H
                              exact absurd H (by simp)
                          · rw [if_neg c33] at H
                            exact absurd H (by simp)
                        · rw [if_neg c32] at H
                          have c32b0 : decide (x64_3 < (t547.length : Int)) = false := decide_eq_false c32
                          have c32b9 : decide (x64_3 < (x10_3.length : Int)) = false := by rw [← hl10_3]; exact c32b0
                          clear c32
                          by_cases c38 : (t535.length : Int) = 0
                          · rw [if_pos c38] at H
                            exact absurd H (by simp)
                          · rw [if_neg c38] at H
                            have c38b0 : ((t535.length : Int) == 0) = false := beq_eq_false_iff_ne.mpr c38
                            have c38b1 : ((t535.length : Int) != 0) = true := bne_iff_ne.mpr c38
                            have c38b2 : ¬ (t535 = []) := fun h_ => c38 (by rw [h_]; rfl)
                            obtain ⟨ji39, hji39⟩ : ∃ j_ : Int, (Int.tmod (Go.bits .and .i64 a3 1048575) (t535.length : Int)) = j_ := ⟨_, rfl⟩
                            replace H : (if 0 ≤ (ji39) then (if (ji39) ≤ (t535.length : Int) then ((chunk_Decode.f k3 (t535.take ((ji39) : Int).toNat) (l0.length : Int)).bind fun bt559 => (if bt559.2.1 = 0 then (tollbarlaw06_ChunkBack.j3 k3 l0 t535 (bt559.2.2 != 0)) else (tollbarlaw06_ChunkBack.j3 k3 l0 t535 true))) else (none)) else (none)) = some r := by first | (rw [hji39] at H; exact H) | (simp only [hji39] at H ⊢; exact H)
                            by_cases c40 : 0 ≤ (ji39)
                            · rw [if_pos c40] at H
                              have c40b0 := eq_true c40
                              have c40b1 : decide (0 ≤ (ji39)) = true := decide_eq_true c40
                              clear c40
                              by_cases c41 : (ji39) ≤ (t535.length : Int)
                              · rw [if_pos c41] at H
                                have c41b0 := eq_true c41
                                have c41b1 : decide ((ji39) ≤ (t535.length : Int)) = true := decide_eq_true c41
                                clear c41
                                obtain ⟨y555, hy555⟩ : ∃ y_ : List Int, y_ = (t535.take ((ji39) : Int).toNat) := ⟨_, rfl⟩
                                replace H : ((chunk_Decode.f k3 y555 (l0.length : Int)).bind fun bt559 => (if bt559.2.1 = 0 then (tollbarlaw06_ChunkBack.j3 k3 l0 t535 (bt559.2.2 != 0)) else (tollbarlaw06_ChunkBack.j3 k3 l0 t535 true))) = some r := by first | (rw [hy555]; with_reducible exact H) | (have H2_ := (Option.bind_some _ _).symm.trans H; rw [hy555]; with_reducible exact H2_) | (have H2_ := (Option.bind_some _ _).symm.trans H; with_reducible exact H2_) | with_reducible exact H | (rw [hy555]; exact H) | exact H
                                have Ny555 := Aside0.mk hy555
                                clear hy555
                                replace H := Option.bind_eq_some_iff.mp H
                                obtain ⟨⟨t559, t560, t561⟩, A420, H⟩ := H
                                replace H : (if t560 = 0 then (tollbarlaw06_ChunkBack.j3 k3 l0 t535 (t561 != 0)) else (tollbarlaw06_ChunkBack.j3 k3 l0 t535 true)) = some r := H
                                have A42 := Aside0.mk A420
                                clear A420
                                have HC43 := Aside0.mk H
                                clear H
                                have q44 : ((ji39) : Int) ≤ ((t535.length : Int) : Int) := of_decide_eq_true (by first | (with_reducible assumption) | assumption)
                                obtain ⟨i044, hi044, _, hsz44, _⟩ := info_parts info5
                                have hroom44 : t535.length ≤ co20 := (Kd.R_reads' HO_9.out).2.1
                                have hC44 : Kd.C (Kd.int .u8) _ Ao20 t535.length t535 := (Kd.R_reads' HO_9.out).2.2
                                have hcut44 := cut_to (P := Tryd.prog) 24 5 .i64 Tryd.underlying24 hi044 Ao20 t535.length co20 (ji39) (of_decide_eq_true (by first | (with_reducible assumption) | assumption)) q44 hroom44
                                have hr44 := Kd.C_take (m := ((ji39) : Int).toNat) hC44 (by omega)
                                have hy44 : y555.length = ((ji39) : Int).toNat := (by rw [Ny555.out, List.length_take]; omega)
                                rw [← Ny555.out] at hr44
                                rw [← hy44] at hcut44
                                have HR558 := Aside0.mk hr44
                                have HC558 := Aside0.mk (show y555.length ≤ co20 from by omega)
                                clear hr44 hC44 hroom44 hi044 hsz44
                                have KY44 := Aside0.mk hy44
                                clear hy44
                                have KL44 := Aside0.mk (show ((ji39) : Int).toNat ≤ t535.length from by omega)
                                replace q44 := eq_true q44
                                go_upto_region 15 with (first | ((with_reducible refine gate_callee (f := 29) rfl ?_); refine goesL_ (some 84) rfl rfl Tryd.func29 (by kernel_rfl) rfl #[.slice Ao20 y555.length co20, .int .i64 (l0.length : Int)] rfl (by (try simp only [List.map_toArray, List.map_cons, List.map_nil]); first | done | rfl | (simp only [List.length_drop, List.length_take]; rfl)) ?_; (with_reducible refine (chunk_Decode.calls k3 _ _ y555 (l0.length : Int) t559 t560 t561 _ ?side1 ?side2 A42.out).mono ?_); (case side1 => repeat (first | exact (by repeat (first | (with_reducible exact HR558.out) | (with_reducible refine Kd.C_alloc ?_ _) | (with_reducible refine Kd.C_drewN ?_ _) | (with_reducible refine Kd.C_drew ?_) | exact HR558.out)) | (with_reducible refine Kd.C_alloc ?_ _) | (with_reducible refine Kd.C_drewN ?_ _) | (with_reducible refine Kd.C_drew ?_))); (case side2 => exact HC558.out); rintro e w45 ⟨v562, rfl, ho0, hb⟩; refine ⟨_, rfl, ?_⟩; have n0_ := Aside0.mk (Kd.R_elder' (by (with_reducible repeat (first | apply Kd.R_alloc | apply Kd.R_drewN | apply Kd.R_drew)); exact HO_9.out) (Kd.R_base ho0) hb); have n1_ := Aside0.mk (Kd.R_elder' (by (with_reducible repeat (first | apply Kd.R_alloc | apply Kd.R_drewN | apply Kd.R_drew)); exact HO_10.out) (Kd.R_base ho0) hb); have n2_ := Aside0.mk (Kd.R_lower (Kd.R_new' (Kd.R_new' ho0 (Kd.R_lt (by (with_reducible repeat (first | apply Kd.R_alloc | apply Kd.R_drewN | apply Kd.R_drew)); exact HO_9.out))) (Kd.R_lt (by (with_reducible repeat (first | apply Kd.R_alloc | apply Kd.R_drewN | apply Kd.R_drew)); exact HO_10.out))) (below_size (by repeat (first | (with_reducible first | exact HB.out | apply below_alloc | apply pw_below_drewN | apply below_drew1) | exact HB.out)))); have n3_ := Aside0.mk (Kd.C_below (by repeat (first | (with_reducible exact HR558.out) | (with_reducible refine Kd.C_alloc ?_ _) | (with_reducible refine Kd.C_drewN ?_ _) | (with_reducible refine Kd.C_drew ?_) | exact HR558.out)) hb); have n4_ := Aside0.mk (below_step (by repeat (first | (with_reducible first | exact HB.out | apply below_alloc | apply pw_below_drewN | apply below_drew1) | exact HB.out)) hb); clear HO_9; clear HO_10; clear HR558; clear HB; have HO_9 := n0_; have HO_10 := n1_; have HO563 := n2_; have HR558 := n3_; have HB := n4_; clear n0_ n1_ n2_ n3_ n4_; (try clear hb); (try clear hb2); (try clear hk); (try clear hi); (try clear ho0)))
                                (try simp only [Act.put, List.setIfInBounds_toArray, List.set_cons_zero, List.set_cons_succ])
                                go_cut [93] (fun v93 wc => ∃ (kq : Nat) (x93_42 : Bool), v93 = .bool x93_42 ∧ Aside0 (tollbarlaw06_ChunkBack.j3 kq l0 t535 x93_42 = some r) ∧ Aside0 (kq ≤ k3) ∧ Aside0 (Kd.R (Kd.int .u8) 5 wc w.heap.size (fun _ => True) (.slice Ao20 t535.length co20) t535) ∧ Aside0 (Kd.C (Kd.int .u8) wc Ao20 y555.length y555) ∧ Aside0 (Below w.heap.size w wc))
                                case first =>
                                  have H := HC43.out
                                  clear HC43
                                  by_cases c46 : t560 = 0
                                  · rw [if_pos c46] at H
                                    have c46b0 : (t560 == 0) = true := beq_iff_eq.mpr c46
                                    have c46b1 : (t560 != 0) = false := bne_eq_false_iff_eq.mpr c46
                                    clear c46
                                    (first | rw [c46b0] | (simp only [i64_w, i32_w]; rw [c46b0]) | skip)
                                    have H' := Aside0.mk H
                                    clear H
                                    go_wp2
                                    go_meet
                                    case rel => exact ⟨_, ((t561 != 0)), (by first | rfl | (simp; done) | (simp [*]; done)), H', ⟨by have := HJ6.out; have := HJ14.out; have := HK3.out; first | omega | exact Nat.le_refl _⟩, ⟨by (try simp only [hl10_3]); (with_reducible repeat (first | apply Kd.R_alloc | apply Kd.R_drewN | apply Kd.R_drew)); exact Kd.R_mono HO_9.out (fun _ hk => trivial)⟩, ⟨by repeat (first | (with_reducible exact HR558.out) | (with_reducible refine Kd.C_alloc ?_ _) | (with_reducible refine Kd.C_drewN ?_ _) | (with_reducible refine Kd.C_drew ?_) | exact HR558.out)⟩, ⟨by repeat (first | (with_reducible first | exact HB.out | apply below_alloc | apply pw_below_drewN | apply below_drew1) | exact HB.out)⟩⟩
                                  · rw [if_neg c46] at H
                                    have c46b0 : (t560 == 0) = false := beq_eq_false_iff_ne.mpr c46
                                    have c46b1 : (t560 != 0) = true := bne_iff_ne.mpr c46
                                    (first | rw [c46b0] | (simp only [i64_w, i32_w]; rw [c46b0]) | skip)
                                    have H' := Aside0.mk H
                                    clear H
                                    go_wp2
                                    go_meet
                                    case rel => exact ⟨_, (true), (by first | rfl | (simp; done) | (simp [*]; done)), H', ⟨by have := HJ6.out; have := HJ14.out; have := HK3.out; first | omega | exact Nat.le_refl _⟩, ⟨by (try simp only [hl10_3]); (with_reducible repeat (first | apply Kd.R_alloc | apply Kd.R_drewN | apply Kd.R_drew)); exact Kd.R_mono HO_9.out (fun _ hk => trivial)⟩, ⟨by repeat (first | (with_reducible exact HR558.out) | (with_reducible refine Kd.C_alloc ?_ _) | (with_reducible refine Kd.C_drewN ?_ _) | (with_reducible refine Kd.C_drew ?_) | exact HR558.out)⟩, ⟨by repeat (first | (with_reducible first | exact HB.out | apply below_alloc | apply pw_below_drewN | apply below_drew1) | exact HB.out)⟩⟩
                                case rest =>
                                  clear HC43
                                  try clear c1
                                  try clear c2
                                  try clear p2
                                  try clear c3
                                  try clear p3
                                  try clear q3
                                  try clear hx3
                                  try clear c4
                                  try clear q4
                                  try clear p5
                                  try clear q5
                                  try clear hx5
                                  try clear c6
                                  try clear p6
                                  try clear c9
                                  try clear c9b0
                                  try clear c9b1
                                  try clear c10
                                  try clear c12
                                  try clear c13
                                  try clear c25
                                  try clear c26
                                  try clear c26b0
                                  try clear c26b1
                                  try clear c28
                                  try clear c29
                                  try clear c30
                                  try clear c31
                                  try clear c32
                                  try clear c32b0
                                  try clear c33
                                  try clear c33b0
                                  try clear c34
                                  try clear c34b0
                                  try clear p35
                                  try clear q35
                                  try clear hx35
                                  try clear hf35
                                  try clear c38
                                  try clear c38b0
                                  try clear c38b1
                                  try clear c38b2
                                  try clear c40
                                  try clear c40b0
                                  try clear c40b1
                                  try clear c41
                                  try clear c41b0
                                  try clear c41b1
                                  try clear q44
                                  try clear c46
                                  try clear c46b0
                                  try clear c46b1
                                  try clear hx35_0
                                  try clear hx553_0
                                  try clear p2
                                  try clear p35
                                  try clear p553
                                  try clear q35
                                  try clear q44
                                  try clear q553
                                  obtain ⟨kq, x93_42, rfl, HA, HJ42, HO_9, HR558, HB⟩ := hcut
                                  cases kq with
                                  | zero => exact absurd HA.out (by simp [tollbarlaw06_ChunkBack.j3])
                                  | succ kj42 =>
                                    have H := HA.out
                                    clear HA
                                    simp only [tollbarlaw06_ChunkBack.j3] at H
                                    by_cases c47 : x93_42 = true
                                    · subst c47
                                      have H1 : (some false) = some r := by rw [if_pos rfl] at H; exact H
                                      clear H
                                      have H := H1
                                      clear H1
                                      exact absurd ((Option.some.inj H).trans HRT.out) (by decide)
                                    · replace c47 := Bool.eq_false_iff.mpr c47
                                      subst c47
                                      have H1 : ((chunk_Decode.f kj42 t535 (wrap64 ((l0.length : Int) - 1))).bind fun bt564 => ((chunk_Decode.f kj42 t535 4611686018427387904).bind fun bt569 => (if ((bt564.2.2 == 2) == (decide ((l0.length : Int) > 0))) = true then (if bt569.2.2 = 0 then ((tollbarref01_SameBytes.f kj42 bt569.1 l0).bind fun t574 => (some t574)) else (some false)) else (some false)))) = some r := by rw [if_neg (show ¬ (false = true) by decide)] at H; exact H
                                      clear H
                                      have H := H1
                                      clear H1
                                      replace H := Option.bind_eq_some_iff.mp H
                                      obtain ⟨⟨t564, t565, t566⟩, A480, H⟩ := H
                                      replace H : ((chunk_Decode.f kj42 t535 4611686018427387904).bind fun bt569 => (if ((t566 == 2) == (decide ((l0.length : Int) > 0))) = true then (if bt569.2.2 = 0 then ((tollbarref01_SameBytes.f kj42 bt569.1 l0).bind fun t574 => (some t574)) else (some false)) else (some false))) = some r := H
                                      have A48 := Aside0.mk A480
                                      clear A480
                                      replace H := Option.bind_eq_some_iff.mp H
                                      obtain ⟨⟨t569, t570, t571⟩, A490, H⟩ := H
                                      replace H : (if ((t566 == 2) == (decide ((l0.length : Int) > 0))) = true then (if t571 = 0 then ((tollbarref01_SameBytes.f kj42 t569 l0).bind fun t574 => (some t574)) else (some false)) else (some false)) = some r := H
                                      have A49 := Aside0.mk A490
                                      clear A490
                                      by_cases c50 : ((t566 == 2) == (decide ((l0.length : Int) > 0))) = true
                                      · rw [if_pos c50] at H
                                        have c50b0 : ((t566 == 2) == (decide ((l0.length : Int) > 0))) = true := c50
                                        have c50b7 : ((t566 == 2) = decide (0 < l0.length)) = True := eq_true ((beq_iff_eq.1 c50).trans (decide_eq_decide.2 (by omega)))
                                        (try (have c50b1 : decide ((t566 == 2) = (decide ((l0.length : Int) > 0))) = true := by simpa using c50))
                                        (try (have c50b2 : ((t566 == 2) == (decide ((l0.length : Int) > 0))) = true := by simpa using c50))
                                        clear c50
                                        by_cases c51 : t571 = 0
                                        · rw [if_pos c51] at H
                                          have c51b0 : (t571 == 0) = true := beq_iff_eq.mpr c51
                                          have c51b1 : (t571 != 0) = false := bne_eq_false_iff_eq.mpr c51
                                          clear c51
                                          replace H := Option.bind_eq_some_iff.mp H
                                          obtain ⟨t574, A520, H⟩ := H
                                          replace H : (some t574) = some r := H
                                          have A52 := Aside0.mk A520
                                          clear A520
                                          obtain rfl := Option.some.inj H
                                          go_wp2_with (first | ((with_reducible refine gate_callee (f := 29) rfl ?_); refine goesL_ (some 99) rfl rfl Tryd.func29 (by kernel_rfl) rfl #[.slice Ao20 t535.length co20, .int .i64 (wrap64 ((l0.length : Int) - 1))] rfl (by (try simp only [List.map_toArray, List.map_cons, List.map_nil]); first | done | rfl | (simp only [List.length_drop, List.length_take]; rfl)) ?_; (with_reducible refine (chunk_Decode.calls kj42 _ _ t535 (wrap64 ((l0.length : Int) - 1)) t564 t565 t566 _ ?side1 ?side2 A48.out).mono ?_); (case side1 => repeat (first | exact (Kd.R_reads' HO_9.out).2.2 | (with_reducible refine Kd.C_alloc ?_ _) | (with_reducible refine Kd.C_drewN ?_ _) | (with_reducible refine Kd.C_drew ?_))); (case side2 => exact (Kd.R_reads' HO_9.out).2.1); rintro e w53 ⟨v567, rfl, ho0, hb⟩; (try clear A48); refine ⟨_, rfl, ?_⟩; have n0_ := Aside0.mk (Kd.R_elder' (by (with_reducible repeat (first | apply Kd.R_alloc | apply Kd.R_drewN | apply Kd.R_drew)); exact HO_9.out) (Kd.R_base ho0) hb); have n1_ := Aside0.mk (Kd.R_lower (Kd.R_new' ho0 (Kd.R_lt (by (with_reducible repeat (first | apply Kd.R_alloc | apply Kd.R_drewN | apply Kd.R_drew)); exact HO_9.out))) (below_size (by repeat (first | (with_reducible first | exact HB.out | apply below_alloc | apply pw_below_drewN | apply below_drew1) | exact HB.out)))); have n2_ := Aside0.mk (Kd.C_below (by repeat (first | (with_reducible exact HR558.out) | (with_reducible refine Kd.C_alloc ?_ _) | (with_reducible refine Kd.C_drewN ?_ _) | (with_reducible refine Kd.C_drew ?_) | exact HR558.out)) hb); have n3_ := Aside0.mk (below_step (by repeat (first | (with_reducible first | exact HB.out | apply below_alloc | apply pw_below_drewN | apply below_drew1) | exact HB.out)) hb); clear HO_9; clear HR558; clear HB; have HO_9 := n0_; have HO568 := n1_; have HR558 := n2_; have HB := n3_; clear n0_ n1_ n2_ n3_; (try clear hb); (try clear hb2); (try clear hk); (try clear hi); (try clear ho0)) | ((with_reducible refine gate_callee (f := 29) rfl ?_); refine goesL_ (some 105) rfl rfl Tryd.func29 (by kernel_rfl) rfl #[.slice Ao20 t535.length co20, .int .i64 4611686018427387904] rfl (by (try simp only [List.map_toArray, List.map_cons, List.map_nil]); first | done | rfl | (simp only [List.length_drop, List.length_take]; rfl)) ?_; (with_reducible refine (chunk_Decode.calls kj42 _ _ t535 4611686018427387904 t569 t570 t571 _ ?side1 ?side2 A49.out).mono ?_); (case side1 => repeat (first | exact (Kd.R_reads' HO_9.out).2.2 | (with_reducible refine Kd.C_alloc ?_ _) | (with_reducible refine Kd.C_drewN ?_ _) | (with_reducible refine Kd.C_drew ?_))); (case side2 => exact (Kd.R_reads' HO_9.out).2.1); rintro e w54 ⟨v572, rfl, ho0, hb⟩; (try clear A49); refine ⟨_, rfl, ?_⟩; have n0_ := Aside0.mk (Kd.R_elder' (by (with_reducible repeat (first | apply Kd.R_alloc | apply Kd.R_drewN | apply Kd.R_drew)); exact HO_9.out) (Kd.R_base ho0) hb); have n1_ := Aside0.mk (Kd.R_elder' (by (with_reducible repeat (first | apply Kd.R_alloc | apply Kd.R_drewN | apply Kd.R_drew)); exact HO568.out) (Kd.R_base ho0) hb); have n2_ := Aside0.mk (Kd.R_lower (Kd.R_new' (Kd.R_new' ho0 (Kd.R_lt (by (with_reducible repeat (first | apply Kd.R_alloc | apply Kd.R_drewN | apply Kd.R_drew)); exact HO_9.out))) (Kd.R_lt (by (with_reducible repeat (first | apply Kd.R_alloc | apply Kd.R_drewN | apply Kd.R_drew)); exact HO568.out))) (below_size (by repeat (first | (with_reducible first | exact HB.out | apply below_alloc | apply pw_below_drewN | apply below_drew1) | exact HB.out)))); have n3_ := Aside0.mk (Kd.C_below (by repeat (first | (with_reducible exact HR558.out) | (with_reducible refine Kd.C_alloc ?_ _) | (with_reducible refine Kd.C_drewN ?_ _) | (with_reducible refine Kd.C_drew ?_) | exact HR558.out)) hb); have n4_ := Aside0.mk (below_step (by repeat (first | (with_reducible first | exact HB.out | apply below_alloc | apply pw_below_drewN | apply below_drew1) | exact HB.out)) hb); clear HO_9; clear HO568; clear HR558; clear HB; have HO_9 := n0_; have HO568 := n1_; have HO573 := n2_; have HR558 := n3_; have HB := n4_; clear n0_ n1_ n2_ n3_ n4_; (try clear hb); (try clear hb2); (try clear hk); (try clear hi); (try clear ho0); obtain ⟨Ao55, co55, eo55⟩ := Kd.R_slice HO573.out; subst eo55) | (go_at_call 31; (with_reducible refine (tollbarref01_SameBytes.calls kj42 _ _ t569 _ _ l0 t574 _ ?side1 ?side2 ?side3 ?side4 A52.out).mono ?_); (case side1 => repeat (first | exact (Kd.R_reads' HO573.out).2.2 | (with_reducible refine Kd.C_alloc ?_ _) | (with_reducible refine Kd.C_drewN ?_ _) | (with_reducible refine Kd.C_drew ?_))); (case side2 => exact (Kd.R_reads' HO573.out).2.1); (case side3 => repeat (first | exact (Kd.C_below HR0.out HB.out) | (with_reducible refine Kd.C_alloc ?_ _) | (with_reducible refine Kd.C_drewN ?_ _) | (with_reducible refine Kd.C_drew ?_))); (case side4 => exact HC0.out); rintro e w' ⟨rfl, ⟨nd, rfl⟩⟩; (try clear A52)))
                                          go_ret
                                          exact ⟨by first | rfl | (simp [errW_none, errW_some] <;> rfl) | (simp only [← hji39]; first | rfl | (simp [errW_none, errW_some] <;> rfl)) | (simp [*, errW_none, errW_some] <;> rfl), by repeat (first | (with_reducible first | exact HB.out | apply below_alloc | apply pw_below_drewN | apply below_drew1) | exact HB.out)⟩
                                        · rw [if_neg c51] at H
                                          have c51b0 : (t571 == 0) = false := beq_eq_false_iff_ne.mpr c51
                                          have c51b1 : (t571 != 0) = true := bne_iff_ne.mpr c51
                                          exact absurd ((Option.some.inj H).trans HRT.out) (by decide)
                                      · rw [if_neg c50] at H
                                        have c50b0 : ((t566 == 2) == (decide ((l0.length : Int) > 0))) = false := by simpa using c50
                                        (try (have c50b1 : decide ((t566 == 2) = (decide ((l0.length : Int) > 0))) = false := by simpa using c50))
                                        (try (have c50b2 : ((t566 == 2) == (decide ((l0.length : Int) > 0))) = false := by simpa using c50))
                                        (try (have c50b3 : ¬ ((t566 == 2) = (decide ((l0.length : Int) > 0))) := by simpa using c50))
                                        clear c50
                                        exact absurd ((Option.some.inj H).trans HRT.out) (by decide)
                              · rw [if_neg c41] at H
                                exact absurd H (by simp)
                            · rw [if_neg c40] at H
                              exact absurd H (by simp)
            · rw [if_neg c13] at H
              exact absurd H (by simp)
          · rw [if_neg c12] at H
            exact absurd H (by simp)
  · replace c6 := Bool.eq_false_iff.mpr c6
    subst c6
    have H1 : (some false) = some r := by rw [if_neg (show ¬ (false = true) by decide)] at H; exact H
    clear H
    have H := H1
    clear H1
    exact absurd ((Option.some.inj H).trans HRT.out) (by decide)

/-- THE ONE PURE STATEMENT of tollbarlaw06_ChunkBack: yours. -/
def tollbarlaw06_ChunkBack.Pure : Prop := ∀ (l0 : List Int) (a1 : Int) (l2 : List Int) (a3 : Int), l0.length ≤ maxLen → l0.length * 1 ≤ 140737488351232 → (∀ x ∈ l0, (Lit.int .u8 x).wf = true) → (Lit.int .i64 a1).wf = true → l2.length ≤ maxLen → l2.length * 1 ≤ 140737488351232 → (∀ x ∈ l2, (Lit.int .u8 x).wf = true) → (Lit.int .i64 a3).wf = true → ∃ k, tollbarlaw06_ChunkBack.f k l0 a1 l2 a3 = some true

end Go.Proofs.YtjgpifjfaiaidaaDoor.P

