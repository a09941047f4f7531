/- Each function below answers as its Lean twin says. No further condition. (Laid by this repo's packseat.py out of the seat's texts and of the print's words.) -/
import Derived.Test.YtjgpifjfaiaidaaDoorU0base0x0
import Derived.Test.YtjgpifjfaiaidaaDoorUchunk0x1
import Derived.Test.YtjgpifjfaiaidaaDoorUtollbarlaw060x0
import Derived.Test.YtjgpifjfaiaidaaDoorUtollbarref010x0
namespace Go.Proofs.YtjgpifjfaiaidaaDoor.P
open Go.RowKit Go.Proofs.YtjgpifjfaiaidaaDoorW.PrintWords Go.Proofs.YtjgpifjfaiaidaaDoorW.PrintLast Go.Proofs.YtjgpifjfaiaidaaDoorW.PrintMore
attribute [local go_sem] max2_int min2_int max_two min_two max_three min_three max_four min_four   -- for this text's walks alone
set_option linter.unusedVariables false
set_option linter.unusedSimpArgs false

mutual
def tollbarlaw06_ChunkTrails.l0 : Nat → List Int → Int → Bool → Int → List Int → Int → Option (Bool)
  | 0, _, _, _, _, _, _ => none
  | k + 1, x0, x1, x2, x3, x9, x10 => if x10 < x1 then (if x2 = true then (if x1 = 0 then (none) else (if x10 = (Int.tmod (Go.bits .and .i64 x3 1023) x1) then (if x9.length + 10 < 140737488355328 then (tollbarlaw06_ChunkTrails.l0 k x0 x1 x2 x3 (x9 ++ bytesOf (⟨#[110, 111, 32, 102, 105, 101, 108, 100, 13, 10]⟩ : ByteArray)) (wrap64 (x10 + 1))) else (none)) else (if x9.length + 13 < 140737488355328 then (tollbarlaw06_ChunkTrails.l0 k x0 x1 x2 x3 (x9 ++ bytesOf (⟨#[78, 97, 109, 101, 58, 32, 118, 97, 108, 117, 101, 13, 10]⟩ : ByteArray)) (wrap64 (x10 + 1))) else (none)))) else (if x9.length + 13 < 140737488355328 then (tollbarlaw06_ChunkTrails.l0 k x0 x1 x2 x3 (x9 ++ bytesOf (⟨#[78, 97, 109, 101, 58, 32, 118, 97, 108, 117, 101, 13, 10]⟩ : ByteArray)) (wrap64 (x10 + 1))) else (none))) else ((some (([13, 10] : List Int) : List Int)).bind fun y676 => (if x9.length + y676.length < 140737488355328 then ((some (x9 ++ y676 : List Int)).bind fun y679 => ((chunk_Decode.f k y679 500).bind fun bt682 => (if x2 = true then (if x1 > 0 then (if (mx x1 1) = 0 then (none) else (tollbarlaw06_ChunkTrails.j1 k x0 x1 y679 bt682.1 bt682.2.1 bt682.2.2 (decide ((Int.tmod (Go.bits .and .i64 x3 1023) (mx x1 1)) ≤ 40)))) else (tollbarlaw06_ChunkTrails.j1 k x0 x1 y679 bt682.1 bt682.2.1 bt682.2.2 false)) else (tollbarlaw06_ChunkTrails.j1 k x0 x1 y679 bt682.1 bt682.2.1 bt682.2.2 false)))) else (none)))
def tollbarlaw06_ChunkTrails.j1 : Nat → List Int → Int → List Int → List Int → Int → Int → Bool → Option (Bool)
  | 0, _, _, _, _, _, _, _ => none
  | k + 1, x0, x1, x9, x11, x12, x13, x14 => if x14 = true then (if x13 = 20 then (some (x12 == 0)) else (some false)) else (if x1 > 40 then (if x13 = 3 then (some (x12 == 0)) else (some false)) else (if x13 = 0 then (if x12 = (x9.length : Int) then ((tollbarref01_SameBytes.f k x11 x0).bind fun t687 => (some t687)) else (some false)) else (some false)))
end
def tollbarlaw06_ChunkTrails.f (k : Nat) (l0 : List Int) (a1 : Int) (a2 : Bool) (a3 : Int) : Option (Bool) := (tollbarlaw06_alive.f).bind fun t660 => (if t660 = true then (if (l0.length : Int) > 500 then (some true) else ((chunk_Encode.f k l0 100).bind fun t661 => (if 0 ≤ (wrap64 ((t661.length : Int) - 2)) then (if (wrap64 ((t661.length : Int) - 2)) ≤ (t661.length : Int) then (tollbarlaw06_ChunkTrails.l0 k l0 (Go.bits .and .i64 a1 63) a2 a3 (t661.take ((wrap64 ((t661.length : Int) - 2)) : Int).toNat) 0) else (none)) else (none)))) else (some false))
theorem tollbarlaw06_ChunkTrails.mono_l : ∀ k, (∀ y0 y1 y2 y3 y4 y5, LeO (tollbarlaw06_ChunkTrails.l0 k y0 y1 y2 y3 y4 y5) (tollbarlaw06_ChunkTrails.l0 (k + 1) y0 y1 y2 y3 y4 y5)) ∧ (∀ y0 y1 y2 y3 y4 y5 y6, LeO (tollbarlaw06_ChunkTrails.j1 k y0 y1 y2 y3 y4 y5 y6) (tollbarlaw06_ChunkTrails.j1 (k + 1) y0 y1 y2 y3 y4 y5 y6))
  | 0 => ⟨fun _ _ _ _ _ _ r h => by simp [tollbarlaw06_ChunkTrails.l0] at h, fun _ _ _ _ _ _ _ r h => by simp [tollbarlaw06_ChunkTrails.j1] at h⟩
  | k + 1 => by
    obtain ⟨ih0, ih1⟩ := tollbarlaw06_ChunkTrails.mono_l k
    refine ⟨?_, ?_⟩
    · intro y0 y1 y2 y3 y4 y5
      unfold tollbarlaw06_ChunkTrails.l0
      repeat' first
      | (with_reducible exact ih0 _ _ _ _ _ _)
      | (with_reducible exact ih1 _ _ _ _ _ _ _)
      | (with_reducible exact chunk_Decode.mono _ _ _)
      | (with_reducible exact chunk_Encode.mono _ _ _)
      | (with_reducible exact tollbarref01_SameBytes.mono _ _ _)
      | (with_reducible exact LeO.refl _)
      | (with_reducible exact LeO.none _)
      | (with_reducible refine LeO.ite ?_ ?_)
      | (with_reducible refine LeO.bind ?_ (fun _ => ?_))
      | exact ih0 _ _ _ _ _ _
      | exact ih1 _ _ _ _ _ _ _
      | exact chunk_Decode.mono _ _ _
      | exact chunk_Encode.mono _ _ _
      | exact tollbarref01_SameBytes.mono _ _ _
      | exact LeO.none _
      | refine LeO.ite ?_ ?_
      | refine LeO.bind ?_ (fun _ => ?_)
    · intro y0 y1 y2 y3 y4 y5 y6
      unfold tollbarlaw06_ChunkTrails.j1
      repeat' first
      | (with_reducible exact ih0 _ _ _ _ _ _)
      | (with_reducible exact ih1 _ _ _ _ _ _ _)
      | (with_reducible exact chunk_Decode.mono _ _ _)
      | (with_reducible exact chunk_Encode.mono _ _ _)
      | (with_reducible exact tollbarref01_SameBytes.mono _ _ _)
      | (with_reducible exact LeO.refl _)
      | (with_reducible exact LeO.none _)
      | (with_reducible refine LeO.ite ?_ ?_)
      | (with_reducible refine LeO.bind ?_ (fun _ => ?_))
      | exact ih0 _ _ _ _ _ _
      | exact ih1 _ _ _ _ _ _ _
      | exact chunk_Decode.mono _ _ _
      | exact chunk_Encode.mono _ _ _
      | exact tollbarref01_SameBytes.mono _ _ _
      | exact LeO.none _
      | refine LeO.ite ?_ ?_
      | refine LeO.bind ?_ (fun _ => ?_)
theorem tollbarlaw06_ChunkTrails.mono : ∀ a0 a1 a2 a3 k, LeO (tollbarlaw06_ChunkTrails.f k a0 a1 a2 a3) (tollbarlaw06_ChunkTrails.f (k + 1) a0 a1 a2 a3) := by
  intro a0 a1 a2 a3 k
  obtain ⟨ih0, ih1⟩ := tollbarlaw06_ChunkTrails.mono_l k
  unfold tollbarlaw06_ChunkTrails.f
  repeat' first
      | (with_reducible exact ih0 _ _ _ _ _ _)
      | (with_reducible exact ih1 _ _ _ _ _ _ _)
      | (with_reducible exact chunk_Decode.mono _ _ _)
      | (with_reducible exact chunk_Encode.mono _ _ _)
      | (with_reducible exact tollbarref01_SameBytes.mono _ _ _)
      | (with_reducible exact LeO.refl _)
      | (with_reducible exact LeO.none _)
      | (with_reducible refine LeO.ite ?_ ?_)
      | (with_reducible refine LeO.bind ?_ (fun _ => ?_))
      | exact ih0 _ _ _ _ _ _
      | exact ih1 _ _ _ _ _ _ _
      | exact chunk_Decode.mono _ _ _
      | exact chunk_Encode.mono _ _ _
      | exact tollbarref01_SameBytes.mono _ _ _
      | exact LeO.none _
      | refine LeO.ite ?_ ?_
      | refine LeO.bind ?_ (fun _ => ?_)
set_option maxHeartbeats 8000000 in
set_option maxRecDepth 100000 in
theorem tollbarlaw06_ChunkTrails.calls (k : Nat) (A0 : Option Addr) (c0 : Nat) (l0 : List Int) (a1 : Int) (a2 : Bool) (a3 : Int) (r : Bool) (w : World) (hr0 : Kd.C (Kd.int .u8) w A0 l0.length l0) (hc0 : l0.length ≤ c0) (h : tollbarlaw06_ChunkTrails.f k l0 a1 a2 a3 = some r) (hr : r = true) (ht : Tabs w) :
    Calls Tryd.prog 13 #[.slice A0 l0.length c0, .int .i64 a1, .bool a2, .int .i64 a3] w fun e w' => e = .returned (.bool r) ∧ Below w.heap.size w w' := by
  have HTB := Aside0.mk ht
  clear ht
  have HRT := Aside0.mk hr
  clear hr
  have HR0 := Aside0.mk hr0
  have HC0 := Aside0.mk hc0
  clear hr0 hc0
  have HB := Aside0.mk (Below.refl w.heap.size w)
  have H : ((tollbarlaw06_alive.f).bind fun t660 => (if t660 = true then (if (l0.length : Int) > 500 then (some true) else ((chunk_Encode.f k l0 100).bind fun t661 => (if 0 ≤ (wrap64 ((t661.length : Int) - 2)) then (if (wrap64 ((t661.length : Int) - 2)) ≤ (t661.length : Int) then (tollbarlaw06_ChunkTrails.l0 k l0 (Go.bits .and .i64 a1 63) a2 a3 (t661.take ((wrap64 ((t661.length : Int) - 2)) : Int).toNat) 0) else (none)) else (none)))) else (some false))) = some r := h
  clear h
  replace H := Option.bind_eq_some_iff.mp H
  obtain ⟨t660, A50, H⟩ := H
  replace H : (if t660 = true then (if (l0.length : Int) > 500 then (some true) else ((chunk_Encode.f k l0 100).bind fun t661 => (if 0 ≤ (wrap64 ((t661.length : Int) - 2)) then (if (wrap64 ((t661.length : Int) - 2)) ≤ (t661.length : Int) then (tollbarlaw06_ChunkTrails.l0 k l0 (Go.bits .and .i64 a1 63) a2 a3 (t661.take ((wrap64 ((t661.length : Int) - 2)) : Int).toNat) 0) else (none)) else (none)))) else (some false)) = some r := H
  have A5 := Aside0.mk A50
  clear A50
  by_cases c6 : t660 = true
  · subst c6
    have H1 : (if (l0.length : Int) > 500 then (some true) else ((chunk_Encode.f k l0 100).bind fun t661 => (if 0 ≤ (wrap64 ((t661.length : Int) - 2)) then (if (wrap64 ((t661.length : Int) - 2)) ≤ (t661.length : Int) then (tollbarlaw06_ChunkTrails.l0 k l0 (Go.bits .and .i64 a1 63) a2 a3 (t661.take ((wrap64 ((t661.length : Int) - 2)) : Int).toNat) 0) else (none)) else (none)))) = some r := by rw [if_pos rfl] at H; exact H
    clear H
    have H := H1
    clear H1
    by_cases c7 : (l0.length : Int) > 500
    · rw [if_pos c7] at H
      have c7b0 : decide (500 < (l0.length : Int)) = true := decide_eq_true c7
      have c7b1 : decide (500 < l0.length) = true := decide_eq_true (by omega)
      clear c7
      obtain rfl := Option.some.inj H
      go_enter Tryd.func13, Tryd.ntmps13
      go_wp2_with (first | ((with_reducible refine gate_callee (f := 28) rfl ?_); refine goesL_ (some 15) rfl rfl Tryd.func28 (by kernel_rfl) rfl #[] rfl (by (try simp only [List.map_toArray, List.map_cons, List.map_nil]); first | done | rfl | (simp only [List.length_drop, List.length_take]; rfl)) ?_; (with_reducible refine (tollbarlaw06_alive.calls  true _ A5.out ?hT).mono ?_); (case hT => exact HTB.out.below (by repeat (first | (with_reducible first | exact HB.out | apply below_alloc | apply pw_below_drewN | apply below_drew1) | exact HB.out))); rintro e w8 ⟨rfl, hb⟩; (try clear A5); refine ⟨_, rfl, ?_⟩; have n0_ := Aside0.mk (below_step (by repeat (first | (with_reducible first | exact HB.out | apply below_alloc | apply pw_below_drewN | apply below_drew1) | exact HB.out)) hb); clear HB; have HB := n0_; clear n0_; (try clear hb); (try clear hb2); (try clear hk); (try clear hi)))
      go_ret
      exact ⟨by first | rfl | (simp [errW_none, errW_some] <;> rfl) | (simp [*, errW_none, errW_some] <;> rfl), by repeat (first | (with_reducible first | exact HB.out | apply below_alloc | apply pw_below_drewN | apply below_drew1) | exact HB.out)⟩
    · rw [if_neg c7] at H
      have c7b0 : decide (500 < (l0.length : Int)) = false := decide_eq_false c7
      have c7b1 : decide (500 < l0.length) = false := decide_eq_false (by omega)
      clear c7
      replace H := Option.bind_eq_some_iff.mp H
      obtain ⟨t661, A90, H⟩ := H
      replace H : (if 0 ≤ (wrap64 ((t661.length : Int) - 2)) then (if (wrap64 ((t661.length : Int) - 2)) ≤ (t661.length : Int) then (tollbarlaw06_ChunkTrails.l0 k l0 (Go.bits .and .i64 a1 63) a2 a3 (t661.take ((wrap64 ((t661.length : Int) - 2)) : Int).toNat) 0) else (none)) else (none)) = some r := H
      have A9 := Aside0.mk A90
      clear A90
      obtain ⟨ji10, hji10⟩ : ∃ j_ : Int, (wrap64 ((t661.length : Int) - 2)) = j_ := ⟨_, rfl⟩
      replace H : (if 0 ≤ (ji10) then (if (ji10) ≤ (t661.length : Int) then (tollbarlaw06_ChunkTrails.l0 k l0 (Go.bits .and .i64 a1 63) a2 a3 (t661.take ((ji10) : Int).toNat) 0) else (none)) else (none)) = some r := by first | (rw [hji10] at H; exact H) | (simp only [hji10] at H ⊢; exact H)
      (try rw [hji10] at A5)
      (try rw [hji10] at A9)
      have hji10w : (IntKind.i64.wrap ((t661.length : Int) - 2)) = ji10 := (i64_w _).trans hji10
      by_cases c11 : 0 ≤ (ji10)
      · rw [if_pos c11] at H
        have c11b0 := eq_true c11
        have c11b1 : decide (0 ≤ (ji10)) = true := decide_eq_true c11
        clear c11
        by_cases c12 : (ji10) ≤ (t661.length : Int)
        · rw [if_pos c12] at H
          have c12b0 := eq_true c12
          have c12b1 : decide ((ji10) ≤ (t661.length : Int)) = true := decide_eq_true c12
          clear c12
          obtain ⟨y664, hy664⟩ : ∃ y_ : List Int, y_ = (t661.take ((ji10) : Int).toNat) := ⟨_, rfl⟩
          replace H : (tollbarlaw06_ChunkTrails.l0 k l0 (Go.bits .and .i64 a1 63) a2 a3 y664 0) = some r := by first | (rw [hy664]; with_reducible exact H) | (have H2_ := (Option.bind_some _ _).symm.trans H; rw [hy664]; with_reducible exact H2_) | (have H2_ := (Option.bind_some _ _).symm.trans H; with_reducible exact H2_) | with_reducible exact H | (rw [hy664]; exact H) | exact H
          have Ny664 := Aside0.mk hy664
          clear hy664
          have H' := Aside0.mk H
          clear H
          go_enter Tryd.func13, Tryd.ntmps13
          go_wp2_with (first | ((with_reducible refine gate_callee (f := 28) rfl ?_); refine goesL_ (some 15) rfl rfl Tryd.func28 (by kernel_rfl) rfl #[] rfl (by (try simp only [List.map_toArray, List.map_cons, List.map_nil]); first | done | rfl | (simp only [List.length_drop, List.length_take]; rfl)) ?_; (with_reducible refine (tollbarlaw06_alive.calls  true _ A5.out ?hT).mono ?_); (case hT => exact HTB.out.below (by repeat (first | (with_reducible first | exact HB.out | apply below_alloc | apply pw_below_drewN | apply below_drew1) | exact HB.out))); rintro e w13 ⟨rfl, hb⟩; (try clear A5); refine ⟨_, rfl, ?_⟩; have n0_ := Aside0.mk (below_step (by repeat (first | (with_reducible first | exact HB.out | apply below_alloc | apply pw_below_drewN | apply below_drew1) | exact HB.out)) hb); clear HB; have HB := n0_; clear n0_; (try clear hb); (try clear hb2); (try clear hk); (try clear hi)) | ((with_reducible refine gate_callee (f := 32) rfl ?_); refine goesL_ (some 23) rfl rfl Tryd.func32 (by kernel_rfl) rfl #[.slice A0 l0.length c0, .int .i64 100] rfl (by (try simp only [List.map_toArray, List.map_cons, List.map_nil]); first | done | rfl | (simp only [List.length_drop, List.length_take]; rfl)) ?_; (with_reducible refine (chunk_Encode.calls k (fun k_ => k_ < w.heap.size) _ _ l0 100 t661 _ ?side1 A9.out ?hT).mono ?_); (case hT => exact HTB.out.below (by repeat (first | (with_reducible first | exact HB.out | apply below_alloc | apply pw_below_drewN | apply below_drew1) | exact HB.out))); (case side1 => exact Kd.V_mk HC0.out (Kd.F_below (Kd.C_F (Kd.heap_int .u8) HR0.out) (by repeat (first | (with_reducible first | exact HB.out | apply below_alloc | apply pw_below_drewN | apply below_drew1) | exact HB.out)))); rintro e w14 ⟨v662, rfl, ho0, hb⟩; (try clear A9); refine ⟨_, rfl, ?_⟩; have n0_ := Aside0.mk (Kd.R_lower (Kd.R_mono (ok' := fun k_ => True) ho0 (fun _ hk_ => trivial)) (below_size (by repeat (first | (with_reducible first | exact HB.out | apply below_alloc | apply pw_below_drewN | apply below_drew1) | exact HB.out)))); have n1_ := Aside0.mk (below_step (by repeat (first | (with_reducible first | exact HB.out | apply below_alloc | apply pw_below_drewN | apply below_drew1) | exact HB.out)) hb); clear HB; have HO663 := n0_; have HB := n1_; clear n0_ n1_; (try clear hb); (try clear hb2); (try clear hk); (try clear hi); (try clear ho0); obtain ⟨Ao15, co15, eo15⟩ := Kd.R_slice HO663.out; subst eo15; have q16 : ((ji10) : Int) ≤ ((t661.length : Int) : Int) := of_decide_eq_true (by first | (with_reducible assumption) | assumption); obtain ⟨i016, hi016, _, hsz16, _⟩ := info_parts info5; have hcut16 := cut_to (P := Tryd.prog) 24 5 .i64 Tryd.underlying24 hi016 Ao15 t661.length co15 (ji10) (of_decide_eq_true (by first | (with_reducible assumption) | assumption)) q16 (Kd.R_reads' HO663.out).2.1; have hr16 := Kd.R_take (m := ((ji10) : Int).toNat) HO663.out (by omega); have hy16 : y664.length = ((ji10) : Int).toNat := (by rw [Ny664.out, List.length_take]; omega); rw [← Ny664.out] at hr16; rw [← hy16] at hr16 hcut16; clear hy16 hi016 hsz16 HO663; have HO666 := Aside0.mk hr16; clear hr16; replace q16 := eq_true q16))
          go_loopg [9, 10] k (fun kq v9 v10 w' => ∃ (x9_1 : List Int) (x10_1 : Int), v10 = .int .i64 x10_1 ∧ Aside0 (tollbarlaw06_ChunkTrails.l0 kq l0 (Go.bits .and .i64 a1 63) a2 a3 x9_1 x10_1 = some r) ∧ Aside0 (kq ≤ k) ∧ Aside0 (Kd.R (Kd.int .u8) 5 w' w.heap.size (fun _ => True) v9 x9_1) ∧ Aside0 (Below w.heap.size w w'))
          case atStart => exact ⟨(y664), (0), (by first | rfl | (simp; done) | (simp [*]; done)), H', ⟨Nat.le_refl _⟩, ⟨by (with_reducible repeat (first | apply Kd.R_alloc | apply Kd.R_drewN | apply Kd.R_drew)); exact HO666.out⟩, ⟨by repeat (first | (with_reducible first | exact HB.out | apply below_alloc | apply pw_below_drewN | apply below_drew1) | exact HB.out)⟩⟩
          case round =>
            clear H'
            try clear c1
            try clear q1
            try clear c2
            try clear p2
            try clear c3
            try clear c6
            try clear p6
            try clear c7
            try clear c7b0
            try clear c7b1
            try clear c11
            try clear c11b0
            try clear c11b1
            try clear c12
            try clear c12b0
            try clear c12b1
            try clear c13
            try clear q16
            try clear q16
            obtain ⟨x9_1, x10_1, rfl, HA, HK1, HO_9, HB⟩ := hrel
            cases gk with
            | zero => exact absurd HA.out (by simp [tollbarlaw06_ChunkTrails.l0])
            | succ k1 =>
              have H := HA.out
              clear HA
              simp only [tollbarlaw06_ChunkTrails.l0] at H
              by_cases c17 : x10_1 < (Go.bits .and .i64 a1 63)
              · rw [if_pos c17] at H
                have c17b0 : decide (x10_1 < (Go.bits .and .i64 a1 63)) = true := decide_eq_true c17
                clear c17
                by_cases c18 : a2 = true
                · subst c18
                  have H1 : (if (Go.bits .and .i64 a1 63) = 0 then (none) else (if x10_1 = (Int.tmod (Go.bits .and .i64 a3 1023) (Go.bits .and .i64 a1 63)) then (if x9_1.length + 10 < 140737488355328 then (tollbarlaw06_ChunkTrails.l0 k1 l0 (Go.bits .and .i64 a1 63) true a3 (x9_1 ++ bytesOf (⟨#[110, 111, 32, 102, 105, 101, 108, 100, 13, 10]⟩ : ByteArray)) (wrap64 (x10_1 + 1))) else (none)) else (if x9_1.length + 13 < 140737488355328 then (tollbarlaw06_ChunkTrails.l0 k1 l0 (Go.bits .and .i64 a1 63) true a3 (x9_1 ++ bytesOf (⟨#[78, 97, 109, 101, 58, 32, 118, 97, 108, 117, 101, 13, 10]⟩ : ByteArray)) (wrap64 (x10_1 + 1))) else (none)))) = some r := by rw [if_pos rfl] at H; exact H
                  clear H
                  have H := H1
                  clear H1
                  by_cases c19 : (Go.bits .and .i64 a1 63) = 0
                  · rw [if_pos c19] at H
                    exact absurd H (by simp)
                  · rw [if_neg c19] at H
                    have c19b0 : ((Go.bits .and .i64 a1 63) == 0) = false := beq_eq_false_iff_ne.mpr c19
                    have c19b1 : ((Go.bits .and .i64 a1 63) != 0) = true := bne_iff_ne.mpr c19
                    by_cases c20 : x10_1 = (Int.tmod (Go.bits .and .i64 a3 1023) (Go.bits .and .i64 a1 63))
                    · rw [if_pos c20] at H
                      have c20b0 : (x10_1 == (Int.tmod (Go.bits .and .i64 a3 1023) (Go.bits .and .i64 a1 63))) = true := beq_iff_eq.mpr c20
                      have c20b1 : (x10_1 != (Int.tmod (Go.bits .and .i64 a3 1023) (Go.bits .and .i64 a1 63))) = false := bne_eq_false_iff_eq.mpr c20
                      clear c20
                      by_cases c21 : x9_1.length + 10 < 140737488355328
                      · rw [if_pos c21] at H
                        have LMc21 := Aside0.mk c21
                        clear c21
                        obtain ⟨y667, hy667⟩ : ∃ y_ : List Int, y_ = (x9_1 ++ bytesOf (⟨#[110, 111, 32, 102, 105, 101, 108, 100, 13, 10]⟩ : ByteArray)) := ⟨_, rfl⟩
                        replace H : (tollbarlaw06_ChunkTrails.l0 k1 l0 (Go.bits .and .i64 a1 63) true a3 y667 (wrap64 (x10_1 + 1))) = some r := by first | (rw [hy667]; with_reducible exact H) | (have H2_ := (Option.bind_some _ _).symm.trans H; rw [hy667]; with_reducible exact H2_) | (have H2_ := (Option.bind_some _ _).symm.trans H; with_reducible exact H2_) | with_reducible exact H | (rw [hy667]; exact H) | exact H
                        have Ny667 := Aside0.mk hy667
                        clear hy667
                        have H' := Aside0.mk H
                        clear H
                        go_wp2_with (first | (at_builtin; refine Kd.R_append_str (w0 := w) w.heap.size rfl (.tmp 43) _ 24 9 5 rfl Tryd.underlying24 Tryd.underlying9 info5 u9 x9_1 (⟨#[110, 111, 32, 102, 105, 101, 108, 100, 13, 10]⟩ : ByteArray) (fun _ => True) rfl rfl ?aF ?aO ?aB ?aS ?aL ?_; (case aB => exact (by repeat (first | (with_reducible first | exact HB.out | apply below_alloc | apply pw_below_drewN | apply below_drew1) | exact HB.out))); (case aF => exact (fun _ _ => trivial)); (case aO => exact (by (with_reducible repeat (first | apply Kd.R_alloc | apply Kd.R_drewN | apply Kd.R_drew)); exact HO_9.out)); (case aS => exact (below_size (by repeat (first | (with_reducible first | exact HB.out | apply below_alloc | apply pw_below_drewN | apply below_drew1) | exact HB.out)))); (case aL => have hl_ : (⟨#[110, 111, 32, 102, 105, 101, 108, 100, 13, 10]⟩ : ByteArray).size = 10 := rfl; have := LMc21.out; omega); intro v668 w22 ho hb hg hat; rw [← Ny667.out] at ho; have n0_ := Aside0.mk (hb); have n1_ := Aside0.mk (ho); clear HB; clear HO_9; have HB := n0_; have HO669 := n1_; clear n0_ n1_; clear ho hb hg hat))
                        go_roundg k1
                        case measure => have := HK1.out; omega
                        case rel => exact ⟨(y667), (wrap64 (x10_1 + 1)), (by first | rfl | (simp; done) | (simp [*]; done)), H', ⟨by have := HK1.out; omega⟩, ⟨by (with_reducible repeat (first | apply Kd.R_alloc | apply Kd.R_drewN | apply Kd.R_drew)); exact HO669.out⟩, ⟨by repeat (first | (with_reducible first | exact HB.out | apply below_alloc | apply pw_below_drewN | apply below_drew1) | exact HB.out)⟩⟩
                      · rw [if_neg c21] at H
                        exact absurd H (by simp)
                    · rw [if_neg c20] at H
                      have c20b0 : (x10_1 == (Int.tmod (Go.bits .and .i64 a3 1023) (Go.bits .and .i64 a1 63))) = false := beq_eq_false_iff_ne.mpr c20
                      have c20b1 : (x10_1 != (Int.tmod (Go.bits .and .i64 a3 1023) (Go.bits .and .i64 a1 63))) = true := bne_iff_ne.mpr c20
                      by_cases c23 : x9_1.length + 13 < 140737488355328
                      · rw [if_pos c23] at H
                        have LMc23 := Aside0.mk c23
                        clear c23
                        obtain ⟨y670, hy670⟩ : ∃ y_ : List Int, y_ = (x9_1 ++ bytesOf (⟨#[78, 97, 109, 101, 58, 32, 118, 97, 108, 117, 101, 13, 10]⟩ : ByteArray)) := ⟨_, rfl⟩
                        replace H : (tollbarlaw06_ChunkTrails.l0 k1 l0 (Go.bits .and .i64 a1 63) true a3 y670 (wrap64 (x10_1 + 1))) = some r := by first | (rw [hy670]; with_reducible exact H) | (have H2_ := (Option.bind_some _ _).symm.trans H; rw [hy670]; with_reducible exact H2_) | (have H2_ := (Option.bind_some _ _).symm.trans H; with_reducible exact H2_) | with_reducible exact H | (rw [hy670]; exact H) | exact H
                        have Ny670 := Aside0.mk hy670
                        clear hy670
                        have H' := Aside0.mk H
                        clear H
                        go_wp2_with (first | (at_builtin; refine Kd.R_append_str (w0 := w) w.heap.size rfl (.tmp 45) _ 24 9 5 rfl Tryd.underlying24 Tryd.underlying9 info5 u9 x9_1 (⟨#[78, 97, 109, 101, 58, 32, 118, 97, 108, 117, 101, 13, 10]⟩ : ByteArray) (fun _ => True) rfl rfl ?aF ?aO ?aB ?aS ?aL ?_; (case aB => exact (by repeat (first | (with_reducible first | exact HB.out | apply below_alloc | apply pw_below_drewN | apply below_drew1) | exact HB.out))); (case aF => exact (fun _ _ => trivial)); (case aO => exact (by (with_reducible repeat (first | apply Kd.R_alloc | apply Kd.R_drewN | apply Kd.R_drew)); exact HO_9.out)); (case aS => exact (below_size (by repeat (first | (with_reducible first | exact HB.out | apply below_alloc | apply pw_below_drewN | apply below_drew1) | exact HB.out)))); (case aL => have hl_ : (⟨#[78, 97, 109, 101, 58, 32, 118, 97, 108, 117, 101, 13, 10]⟩ : ByteArray).size = 13 := rfl; have := LMc23.out; omega); intro v671 w24 ho hb hg hat; rw [← Ny670.out] at ho; have n0_ := Aside0.mk (hb); have n1_ := Aside0.mk (ho); clear HB; clear HO_9; have HB := n0_; have HO672 := n1_; clear n0_ n1_; clear ho hb hg hat))
                        go_roundg k1
                        case measure => have := HK1.out; omega
                        case rel => exact ⟨(y670), (wrap64 (x10_1 + 1)), (by first | rfl | (simp; done) | (simp [*]; done)), H', ⟨by have := HK1.out; omega⟩, ⟨by (with_reducible repeat (first | apply Kd.R_alloc | apply Kd.R_drewN | apply Kd.R_drew)); exact HO672.out⟩, ⟨by repeat (first | (with_reducible first | exact HB.out | apply below_alloc | apply pw_below_drewN | apply below_drew1) | exact HB.out)⟩⟩
                      · rw [if_neg c23] at H
                        exact absurd H (by simp)
                · replace c18 := Bool.eq_false_iff.mpr c18
                  subst c18
                  have H1 : (if x9_1.length + 13 < 140737488355328 then (tollbarlaw06_ChunkTrails.l0 k1 l0 (Go.bits .and .i64 a1 63) false a3 (x9_1 ++ bytesOf (⟨#[78, 97, 109, 101, 58, 32, 118, 97, 108, 117, 101, 13, 10]⟩ : ByteArray)) (wrap64 (x10_1 + 1))) else (none)) = some r := by rw [if_neg (show ¬ (false = true) by decide)] at H; exact H
                  clear H
                  have H := H1
                  clear H1
                  by_cases c25 : x9_1.length + 13 < 140737488355328
                  · rw [if_pos c25] at H
                    have LMc25 := Aside0.mk c25
                    clear c25
                    obtain ⟨y673, hy673⟩ : ∃ y_ : List Int, y_ = (x9_1 ++ bytesOf (⟨#[78, 97, 109, 101, 58, 32, 118, 97, 108, 117, 101, 13, 10]⟩ : ByteArray)) := ⟨_, rfl⟩
                    replace H : (tollbarlaw06_ChunkTrails.l0 k1 l0 (Go.bits .and .i64 a1 63) false a3 y673 (wrap64 (x10_1 + 1))) = some r := by first | (rw [hy673]; with_reducible exact H) | (have H2_ := (Option.bind_some _ _).symm.trans H; rw [hy673]; with_reducible exact H2_) | (have H2_ := (Option.bind_some _ _).symm.trans H; with_reducible exact H2_) | with_reducible exact H | (rw [hy673]; exact H) | exact H
                    have Ny673 := Aside0.mk hy673
                    clear hy673
                    have H' := Aside0.mk H
                    clear H
                    go_wp2_with (first | (at_builtin; refine Kd.R_append_str (w0 := w) w.heap.size rfl (.tmp 45) _ 24 9 5 rfl Tryd.underlying24 Tryd.underlying9 info5 u9 x9_1 (⟨#[78, 97, 109, 101, 58, 32, 118, 97, 108, 117, 101, 13, 10]⟩ : ByteArray) (fun _ => True) rfl rfl ?aF ?aO ?aB ?aS ?aL ?_; (case aB => exact (by repeat (first | (with_reducible first | exact HB.out | apply below_alloc | apply pw_below_drewN | apply below_drew1) | exact HB.out))); (case aF => exact (fun _ _ => trivial)); (case aO => exact (by (with_reducible repeat (first | apply Kd.R_alloc | apply Kd.R_drewN | apply Kd.R_drew)); exact HO_9.out)); (case aS => exact (below_size (by repeat (first | (with_reducible first | exact HB.out | apply below_alloc | apply pw_below_drewN | apply below_drew1) | exact HB.out)))); (case aL => have hl_ : (⟨#[78, 97, 109, 101, 58, 32, 118, 97, 108, 117, 101, 13, 10]⟩ : ByteArray).size = 13 := rfl; have := LMc25.out; omega); intro v674 w26 ho hb hg hat; rw [← Ny673.out] at ho; have n0_ := Aside0.mk (hb); have n1_ := Aside0.mk (ho); clear HB; clear HO_9; have HB := n0_; have HO675 := n1_; clear n0_ n1_; clear ho hb hg hat))
                    go_roundg k1
                    case measure => have := HK1.out; omega
                    case rel => exact ⟨(y673), (wrap64 (x10_1 + 1)), (by first | rfl | (simp; done) | (simp [*]; done)), H', ⟨by have := HK1.out; omega⟩, ⟨by (with_reducible repeat (first | apply Kd.R_alloc | apply Kd.R_drewN | apply Kd.R_drew)); exact HO675.out⟩, ⟨by repeat (first | (with_reducible first | exact HB.out | apply below_alloc | apply pw_below_drewN | apply below_drew1) | exact HB.out)⟩⟩
                  · rw [if_neg c25] at H
                    exact absurd H (by simp)
              · rw [if_neg c17] at H
                have c17b0 : decide (x10_1 < (Go.bits .and .i64 a1 63)) = false := decide_eq_false c17
                clear c17
                obtain ⟨y676, hy676⟩ : ∃ y_ : List Int, y_ = (([13, 10] : List Int)) := ⟨_, rfl⟩
                replace H : (if x9_1.length + y676.length < 140737488355328 then ((some (x9_1 ++ y676 : List Int)).bind fun y679 => ((chunk_Decode.f k1 y679 500).bind fun bt682 => (if a2 = true then (if (Go.bits .and .i64 a1 63) > 0 then (if (mx (Go.bits .and .i64 a1 63) 1) = 0 then (none) else (tollbarlaw06_ChunkTrails.j1 k1 l0 (Go.bits .and .i64 a1 63) y679 bt682.1 bt682.2.1 bt682.2.2 (decide ((Int.tmod (Go.bits .and .i64 a3 1023) (mx (Go.bits .and .i64 a1 63) 1)) ≤ 40)))) else (tollbarlaw06_ChunkTrails.j1 k1 l0 (Go.bits .and .i64 a1 63) y679 bt682.1 bt682.2.1 bt682.2.2 false)) else (tollbarlaw06_ChunkTrails.j1 k1 l0 (Go.bits .and .i64 a1 63) y679 bt682.1 bt682.2.1 bt682.2.2 false)))) else (none)) = some r := by first | (rw [hy676]; with_reducible exact H) | (have H2_ := (Option.bind_some _ _).symm.trans H; rw [hy676]; with_reducible exact H2_) | (have H2_ := (Option.bind_some _ _).symm.trans H; with_reducible exact H2_) | with_reducible exact H | (rw [hy676]; exact H) | exact H
                have Ny676 := Aside0.mk hy676
                clear hy676
                by_cases c27 : x9_1.length + y676.length < 140737488355328
                · rw [if_pos c27] at H
                  have LMc27 := Aside0.mk c27
                  clear c27
                  obtain ⟨y679, hy679⟩ : ∃ y_ : List Int, y_ = (x9_1 ++ y676) := ⟨_, rfl⟩
                  replace H : ((chunk_Decode.f k1 y679 500).bind fun bt682 => (if a2 = true then (if (Go.bits .and .i64 a1 63) > 0 then (if (mx (Go.bits .and .i64 a1 63) 1) = 0 then (none) else (tollbarlaw06_ChunkTrails.j1 k1 l0 (Go.bits .and .i64 a1 63) y679 bt682.1 bt682.2.1 bt682.2.2 (decide ((Int.tmod (Go.bits .and .i64 a3 1023) (mx (Go.bits .and .i64 a1 63) 1)) ≤ 40)))) else (tollbarlaw06_ChunkTrails.j1 k1 l0 (Go.bits .and .i64 a1 63) y679 bt682.1 bt682.2.1 bt682.2.2 false)) else (tollbarlaw06_ChunkTrails.j1 k1 l0 (Go.bits .and .i64 a1 63) y679 bt682.1 bt682.2.1 bt682.2.2 false))) = some r := by first | (rw [hy679]; with_reducible exact H) | (have H2_ := (Option.bind_some _ _).symm.trans H; rw [hy679]; with_reducible exact H2_) | (have H2_ := (Option.bind_some _ _).symm.trans H; with_reducible exact H2_) | with_reducible exact H | (rw [hy679]; exact H) | exact H
                  have Ny679 := Aside0.mk hy679
                  clear hy679
                  replace H := Option.bind_eq_some_iff.mp H
                  obtain ⟨⟨t682, t683, t684⟩, A280, H⟩ := H
                  replace H : (if a2 = true then (if (Go.bits .and .i64 a1 63) > 0 then (if (mx (Go.bits .and .i64 a1 63) 1) = 0 then (none) else (tollbarlaw06_ChunkTrails.j1 k1 l0 (Go.bits .and .i64 a1 63) y679 t682 t683 t684 (decide ((Int.tmod (Go.bits .and .i64 a3 1023) (mx (Go.bits .and .i64 a1 63) 1)) ≤ 40)))) else (tollbarlaw06_ChunkTrails.j1 k1 l0 (Go.bits .and .i64 a1 63) y679 t682 t683 t684 false)) else (tollbarlaw06_ChunkTrails.j1 k1 l0 (Go.bits .and .i64 a1 63) y679 t682 t683 t684 false)) = some r := H
                  have A28 := Aside0.mk A280
                  clear A280
                  have HC29 := Aside0.mk H
                  clear H
                  go_upto_region 16 with (first | ((with_reducible refine gate_dst (N := 48) rfl ?_); (try (refine gate_guard (by rfl) ?_; dsimp only)); refine Kd.R_lit (Kd.int .u8) _ 5 ?hg (N := 48) ?hd (xs := ([13, 10] : List Int)) (inner := [.int .u8 13, .int .u8 10]) (ok := fun _ => True) (okp := fun _ => True) ?hr ?hp (fun _ hk => hk) trivial (Below.refl _ _) (Nat.le_refl _) (by simp) ?_; (case hd => rfl); (case hg => rfl); (case hr => first | (go_simp; done) | (go_simp; rfl)); (case hp => exact (Reps.one (show Kd.M (Kd.int .u8) _ _ _ 13 [.int .u8 13] from rfl) (Reps.one (show Kd.M (Kd.int .u8) _ _ _ 10 [.int .u8 10] from rfl) (Reps.none _ _)))); intro v677 w30 ho31 hb hg_ hnew_; clear hg_ hnew_; (first | rw [← Ny676.out] at ho31 | (simp only [Int.reduceToNat] at ho31; rw [← Ny676.out] at ho31)); have n0_ := Aside0.mk (Kd.R_elder' (by (with_reducible repeat (first | apply Kd.R_alloc | apply Kd.R_drewN | apply Kd.R_drew)); exact HO_9.out) (Kd.R_base ho31) hb); have n1_ := Aside0.mk (Kd.R_lower (Kd.R_new' ho31 (Kd.R_lt (by (with_reducible repeat (first | apply Kd.R_alloc | apply Kd.R_drewN | apply Kd.R_drew)); exact HO_9.out))) (below_size (by repeat (first | (with_reducible first | exact HB.out | apply below_alloc | apply pw_below_drewN | apply below_drew1) | exact HB.out)))); have n2_ := Aside0.mk (below_step (by repeat (first | (with_reducible first | exact HB.out | apply below_alloc | apply pw_below_drewN | apply below_drew1) | exact HB.out)) hb); clear HO_9; clear HB; have HO_9 := n0_; have HO678 := n1_; have HB := n2_; clear n0_ n1_ n2_; clear hb ho31; obtain ⟨Ao33, co33, eo33⟩ := Kd.R_slice HO678.out; subst eo33) | ((with_reducible refine gate_builtin (b := .append) (xs := #[.tmp 47, .tmp 48]) rfl ?_); (try (refine gate_guard (by rfl) ?_; dsimp only)); at_builtin; refine Kd.R_append_rows (Kd.int .u8) (w0 := w) w.heap.size rfl (.tmp 47) (.tmp 48) 24 5 (.int .u8 0) 1 rfl Tryd.underlying24 info5 rfl (by decide) (by omega) u9 x9_1 y676 _ _ _ (fun k_ => some k_ ≠ (.slice Ao33 y676.length co33 : Value).ownBlock) (fun _ => False) rfl rfl ?aO ?aR (fun _ _ h => h) (fun _ h => h.elim) ?aF ?aB ?aS ?aL ?_; (case aR => repeat (first | exact (Kd.R_reads' HO678.out).2.2 | (with_reducible refine Kd.C_alloc ?_ _) | (with_reducible refine Kd.C_drewN ?_ _) | (with_reducible refine Kd.C_drew ?_))); (case aB => exact (by repeat (first | (with_reducible first | exact HB.out | apply below_alloc | apply pw_below_drewN | apply below_drew1) | exact HB.out))); (case aF => exact (fun k_ hk => Kd.fresh' (Kd.R_lt (by (with_reducible repeat (first | apply Kd.R_alloc | apply Kd.R_drewN | apply Kd.R_drew)); exact HO678.out)) k_ hk)); (case aO => exact (by (with_reducible repeat (first | apply Kd.R_alloc | apply Kd.R_drewN | apply Kd.R_drew)); exact Kd.R_mono HO_9.out (fun _ hk => hk.2))); (case aS => exact (below_size (by repeat (first | (with_reducible first | exact HB.out | apply below_alloc | apply pw_below_drewN | apply below_drew1) | exact HB.out)))); (case aL => have := LMc27.out; omega); intro v680 w32 ho hb hg hat; rw [← Ny679.out] at ho; have n0_ := Aside0.mk (Kd.R_after (ok := (fun _ => True)) (by (with_reducible repeat (first | apply Kd.R_alloc | apply Kd.R_drewN | apply Kd.R_drew)); exact HO678.out) hg hat); have n1_ := Aside0.mk (hb); have n2_ := Aside0.mk (ho); clear HO678; clear HB; clear HO_9; have HO678 := n0_; have HB := n1_; have HO681 := n2_; clear n0_ n1_ n2_; clear ho hb hg hat; obtain ⟨Ao34, co34, eo34⟩ := Kd.R_slice HO681.out; subst eo34) | ((with_reducible refine gate_callee (f := 29) rfl ?_); refine goesL_ (some 52) rfl rfl Tryd.func29 (by kernel_rfl) rfl #[.slice Ao34 y679.length co34, .int .i64 500] rfl (by (try simp only [List.map_toArray, List.map_cons, List.map_nil]); first | done | rfl | (simp only [List.length_drop, List.length_take]; rfl)) ?_; (with_reducible refine (chunk_Decode.calls k1 _ _ y679 500 t682 t683 t684 _ ?side1 ?side2 A28.out).mono ?_); (case side1 => repeat (first | exact (Kd.R_reads' HO681.out).2.2 | (with_reducible refine Kd.C_alloc ?_ _) | (with_reducible refine Kd.C_drewN ?_ _) | (with_reducible refine Kd.C_drew ?_))); (case side2 => exact (Kd.R_reads' HO681.out).2.1); rintro e w35 ⟨v685, rfl, ho0, hb⟩; refine ⟨_, rfl, ?_⟩; have n0_ := Aside0.mk (Kd.R_elder' (by (with_reducible repeat (first | apply Kd.R_alloc | apply Kd.R_drewN | apply Kd.R_drew)); exact HO678.out) (Kd.R_base ho0) hb); have n1_ := Aside0.mk (Kd.R_elder' (by (with_reducible repeat (first | apply Kd.R_alloc | apply Kd.R_drewN | apply Kd.R_drew)); exact HO681.out) (Kd.R_base ho0) hb); have n2_ := Aside0.mk (Kd.R_lower (Kd.R_new' (Kd.R_new' ho0 (Kd.R_lt (by (with_reducible repeat (first | apply Kd.R_alloc | apply Kd.R_drewN | apply Kd.R_drew)); exact HO678.out))) (Kd.R_lt (by (with_reducible repeat (first | apply Kd.R_alloc | apply Kd.R_drewN | apply Kd.R_drew)); exact HO681.out))) (below_size (by repeat (first | (with_reducible first | exact HB.out | apply below_alloc | apply pw_below_drewN | apply below_drew1) | exact HB.out)))); have n3_ := Aside0.mk (below_step (by repeat (first | (with_reducible first | exact HB.out | apply below_alloc | apply pw_below_drewN | apply below_drew1) | exact HB.out)) hb); clear HO678; clear HO681; clear HB; have HO678 := n0_; have HO681 := n1_; have HO686 := n2_; have HB := n3_; clear n0_ n1_ n2_ n3_; (try clear hb); (try clear hb2); (try clear hk); (try clear hi); (try clear ho0)))
                  (try simp only [Act.put, List.setIfInBounds_toArray, List.set_cons_zero, List.set_cons_succ])
                  go_cut [14] (fun v14 wc => ∃ (kq : Nat) (x14_28 : Bool), v14 = .bool x14_28 ∧ Aside0 (tollbarlaw06_ChunkTrails.j1 kq l0 (Go.bits .and .i64 a1 63) y679 t682 t683 t684 x14_28 = some r) ∧ Aside0 (kq ≤ k1) ∧ Aside0 (Kd.R (Kd.int .u8) 5 wc w.heap.size (fun k_ => some k_ ≠ (v685 : Value).ownBlock) (.slice Ao34 y679.length co34) y679) ∧ Aside0 (Kd.R (Kd.int .u8) 5 wc w.heap.size (fun k_ => some k_ ≠ ((.slice Ao34 y679.length co34) : Value).ownBlock) v685 t682) ∧ Aside0 (Below w.heap.size w wc))
                  case first =>
                    have H := HC29.out
                    clear HC29
                    by_cases c36 : a2 = true
                    · subst c36
                      have H1 : (if (Go.bits .and .i64 a1 63) > 0 then (if (mx (Go.bits .and .i64 a1 63) 1) = 0 then (none) else (tollbarlaw06_ChunkTrails.j1 k1 l0 (Go.bits .and .i64 a1 63) y679 t682 t683 t684 (decide ((Int.tmod (Go.bits .and .i64 a3 1023) (mx (Go.bits .and .i64 a1 63) 1)) ≤ 40)))) else (tollbarlaw06_ChunkTrails.j1 k1 l0 (Go.bits .and .i64 a1 63) y679 t682 t683 t684 false)) = some r := by rw [if_pos rfl] at H; exact H
                      clear H
                      have H := H1
                      clear H1
                      by_cases c37 : (Go.bits .and .i64 a1 63) > 0
                      · rw [if_pos c37] at H
                        have c37b0 : decide (0 < (Go.bits .and .i64 a1 63)) = true := decide_eq_true c37
                        clear c37
                        (first | rw [c37b0] | (simp only [i64_w, i32_w]; rw [c37b0]) | skip)
                        obtain ⟨ji38, hji38⟩ : ∃ j_ : Int, (mx (Go.bits .and .i64 a1 63) 1) = j_ := ⟨_, rfl⟩
                        replace H : (if (ji38) = 0 then (none) else (tollbarlaw06_ChunkTrails.j1 k1 l0 (Go.bits .and .i64 a1 63) y679 t682 t683 t684 (decide ((Int.tmod (Go.bits .and .i64 a3 1023) (ji38)) ≤ 40)))) = some r := by first | (rw [hji38] at H; exact H) | (simp only [hji38] at H ⊢; exact H)
                        have hji38_ : (if (Go.bits .and .i64 a1 63) < 1 then 1 else (Go.bits .and .i64 a1 63)) = ji38 := hji38
                        by_cases c39 : (ji38) = 0
                        · rw [if_pos c39] at H
                          exact absurd H (by simp)
                        · rw [if_neg c39] at H
                          have c39b0 : ((ji38) == 0) = false := beq_eq_false_iff_ne.mpr c39
                          have c39b1 : ((ji38) != 0) = true := bne_iff_ne.mpr c39
                          have H' := Aside0.mk H
                          clear H
                          go_wp2
                          go_meet
                          case rel => exact ⟨_, (decide ((Int.tmod (Go.bits .and .i64 a3 1023) (ji38)) ≤ 40)), (by first | rfl | (simp; done) | (simp only [← hji38] <;> (first | rfl | simp)) | (simp [*]; done)), H', ⟨by have := HK1.out; first | omega | exact Nat.le_refl _⟩, ⟨by (with_reducible repeat (first | apply Kd.R_alloc | apply Kd.R_drewN | apply Kd.R_drew)); exact Kd.R_mono HO681.out (fun _ hk => hk.2)⟩, ⟨by (with_reducible repeat (first | apply Kd.R_alloc | apply Kd.R_drewN | apply Kd.R_drew)); exact Kd.R_mono HO686.out (fun _ hk => hk.2)⟩, ⟨by repeat (first | (with_reducible first | exact HB.out | apply below_alloc | apply pw_below_drewN | apply below_drew1) | exact HB.out)⟩⟩
                      · rw [if_neg c37] at H
                        have c37b0 : decide (0 < (Go.bits .and .i64 a1 63)) = false := decide_eq_false c37
                        clear c37
                        (first | rw [c37b0] | (simp only [i64_w, i32_w]; rw [c37b0]) | skip)
                        have H' := Aside0.mk H
                        clear H
                        go_wp2
                        go_meet
                        case rel => exact ⟨_, (false), (by first | rfl | (simp; done) | (simp [*]; done)), H', ⟨by have := HK1.out; first | omega | exact Nat.le_refl _⟩, ⟨by (with_reducible repeat (first | apply Kd.R_alloc | apply Kd.R_drewN | apply Kd.R_drew)); exact Kd.R_mono HO681.out (fun _ hk => hk.2)⟩, ⟨by (with_reducible repeat (first | apply Kd.R_alloc | apply Kd.R_drewN | apply Kd.R_drew)); exact Kd.R_mono HO686.out (fun _ hk => hk.2)⟩, ⟨by repeat (first | (with_reducible first | exact HB.out | apply below_alloc | apply pw_below_drewN | apply below_drew1) | exact HB.out)⟩⟩
                    · replace c36 := Bool.eq_false_iff.mpr c36
                      subst c36
                      have H1 : (tollbarlaw06_ChunkTrails.j1 k1 l0 (Go.bits .and .i64 a1 63) y679 t682 t683 t684 false) = some r := by rw [if_neg (show ¬ (false = true) by decide)] at H; exact H
                      clear H
                      have H := H1
                      clear H1
                      have H' := Aside0.mk H
                      clear H
                      go_wp2
                      go_meet
                      case rel => exact ⟨_, (false), (by first | rfl | (simp; done) | (simp [*]; done)), H', ⟨by have := HK1.out; first | omega | exact Nat.le_refl _⟩, ⟨by (with_reducible repeat (first | apply Kd.R_alloc | apply Kd.R_drewN | apply Kd.R_drew)); exact Kd.R_mono HO681.out (fun _ hk => hk.2)⟩, ⟨by (with_reducible repeat (first | apply Kd.R_alloc | apply Kd.R_drewN | apply Kd.R_drew)); exact Kd.R_mono HO686.out (fun _ hk => hk.2)⟩, ⟨by repeat (first | (with_reducible first | exact HB.out | apply below_alloc | apply pw_below_drewN | apply below_drew1) | exact HB.out)⟩⟩
                  case rest =>
                    clear HC29
                    try clear c1
                    try clear q1
                    try clear c2
                    try clear p2
                    try clear c3
                    try clear c6
                    try clear p6
                    try clear c7
                    try clear c7b0
                    try clear c7b1
                    try clear c11
                    try clear c11b0
                    try clear c11b1
                    try clear c12
                    try clear c12b0
                    try clear c12b1
                    try clear c13
                    try clear q16
                    try clear c17
                    try clear c17b0
                    try clear c18
                    try clear c19
                    try clear c19b0
                    try clear c19b1
                    try clear c20
                    try clear c20b0
                    try clear c20b1
                    try clear c21
                    try clear c23
                    try clear c25
                    try clear c27
                    try clear c28
                    try clear c29
                    try clear c32
                    try clear c36
                    try clear c37
                    try clear c37b0
                    try clear c39
                    try clear c39b0
                    try clear c39b1
                    try clear p2
                    try clear p6
                    try clear q1
                    try clear q16
                    obtain ⟨kq, x14_28, rfl, HA, HJ28, HO_9, HO_11, HB⟩ := hcut
                    cases kq with
                    | zero => exact absurd HA.out (by simp [tollbarlaw06_ChunkTrails.j1])
                    | succ kj28 =>
                      have H := HA.out
                      clear HA
                      simp only [tollbarlaw06_ChunkTrails.j1] at H
                      by_cases c40 : x14_28 = true
                      · subst c40
                        have H1 : (if t684 = 20 then (some (t683 == 0)) else (some false)) = some r := by rw [if_pos rfl] at H; exact H
                        clear H
                        have H := H1
                        clear H1
                        by_cases c41 : t684 = 20
                        · rw [if_pos c41] at H
                          have c41b0 : (t684 == 20) = true := beq_iff_eq.mpr c41
                          have c41b1 : (t684 != 20) = false := bne_eq_false_iff_eq.mpr c41
                          clear c41
                          obtain rfl := Option.some.inj H
                          go_wp2
                          go_ret
                          exact ⟨by first | rfl | (simp [errW_none, errW_some] <;> rfl) | (simp only [← hji10]; first | rfl | (simp [errW_none, errW_some] <;> rfl)) | (simp [*, errW_none, errW_some] <;> rfl), by repeat (first | (with_reducible first | exact HB.out | apply below_alloc | apply pw_below_drewN | apply below_drew1) | exact HB.out)⟩
                        · rw [if_neg c41] at H
                          have c41b0 : (t684 == 20) = false := beq_eq_false_iff_ne.mpr c41
                          have c41b1 : (t684 != 20) = true := bne_iff_ne.mpr c41
                          exact absurd ((Option.some.inj H).trans HRT.out) (by decide)
                      · replace c40 := Bool.eq_false_iff.mpr c40
                        subst c40
                        have H1 : (if (Go.bits .and .i64 a1 63) > 40 then (if t684 = 3 then (some (t683 == 0)) else (some false)) else (if t684 = 0 then (if t683 = (y679.length : Int) then ((tollbarref01_SameBytes.f kj28 t682 l0).bind fun t687 => (some t687)) else (some false)) else (some false))) = some r := by rw [if_neg (show ¬ (false = true) by decide)] at H; exact H
                        clear H
                        have H := H1
                        clear H1
                        by_cases c42 : (Go.bits .and .i64 a1 63) > 40
                        · rw [if_pos c42] at H
                          have c42b0 : decide (40 < (Go.bits .and .i64 a1 63)) = true := decide_eq_true c42
                          clear c42
                          by_cases c43 : t684 = 3
                          · rw [if_pos c43] at H
                            have c43b0 : (t684 == 3) = true := beq_iff_eq.mpr c43
                            have c43b1 : (t684 != 3) = false := bne_eq_false_iff_eq.mpr c43
                            clear c43
                            obtain rfl := Option.some.inj H
                            go_wp2
                            go_ret
                            exact ⟨by first | rfl | (simp [errW_none, errW_some] <;> rfl) | (simp only [← hji10]; first | rfl | (simp [errW_none, errW_some] <;> rfl)) | (simp [*, errW_none, errW_some] <;> rfl), by repeat (first | (with_reducible first | exact HB.out | apply below_alloc | apply pw_below_drewN | apply below_drew1) | exact HB.out)⟩
                          · rw [if_neg c43] at H
                            have c43b0 : (t684 == 3) = false := beq_eq_false_iff_ne.mpr c43
                            have c43b1 : (t684 != 3) = true := bne_iff_ne.mpr c43
                            exact absurd ((Option.some.inj H).trans HRT.out) (by decide)
                        · rw [if_neg c42] at H
                          have c42b0 : decide (40 < (Go.bits .and .i64 a1 63)) = false := decide_eq_false c42
                          clear c42
                          by_cases c44 : t684 = 0
                          · rw [if_pos c44] at H
                            have c44b0 : (t684 == 0) = true := beq_iff_eq.mpr c44
                            have c44b1 : (t684 != 0) = false := bne_eq_false_iff_eq.mpr c44
                            clear c44
                            by_cases c45 : t683 = (y679.length : Int)
                            · rw [if_pos c45] at H
                              have c45b0 : (t683 == (y679.length : Int)) = true := beq_iff_eq.mpr c45
                              have c45b1 : (t683 != (y679.length : Int)) = false := bne_eq_false_iff_eq.mpr c45
                              clear c45
                              replace H := Option.bind_eq_some_iff.mp H
                              obtain ⟨t687, A460, H⟩ := H
                              replace H : (some t687) = some r := H
                              have A46 := Aside0.mk A460
                              clear A460
                              obtain rfl := Option.some.inj H
                              obtain ⟨Ao47, co47, eo47⟩ := Kd.R_slice HO_11.out
                              subst eo47
                              go_wp2_with (first | (go_at_call 31; (with_reducible refine (tollbarref01_SameBytes.calls kj28 _ _ t682 _ _ l0 t687 _ ?side1 ?side2 ?side3 ?side4 A46.out).mono ?_); (case side1 => repeat (first | exact (Kd.R_reads' HO_11.out).2.2 | (with_reducible refine Kd.C_alloc ?_ _) | (with_reducible refine Kd.C_drewN ?_ _) | (with_reducible refine Kd.C_drew ?_))); (case side2 => exact (Kd.R_reads' HO_11.out).2.1); (case side3 => repeat (first | exact (Kd.C_below HR0.out HB.out) | (with_reducible refine Kd.C_alloc ?_ _) | (with_reducible refine Kd.C_drewN ?_ _) | (with_reducible refine Kd.C_drew ?_))); (case side4 => exact HC0.out); rintro e w' ⟨rfl, ⟨nd, rfl⟩⟩; (try clear A46)))
                              go_ret
                              exact ⟨by first | rfl | (simp [errW_none, errW_some] <;> rfl) | (simp only [← hji10]; first | rfl | (simp [errW_none, errW_some] <;> rfl)) | (simp [*, errW_none, errW_some] <;> rfl), by repeat (first | (with_reducible first | exact HB.out | apply below_alloc | apply pw_below_drewN | apply below_drew1) | exact HB.out)⟩
                            · rw [if_neg c45] at H
                              have c45b0 : (t683 == (y679.length : Int)) = false := beq_eq_false_iff_ne.mpr c45
                              have c45b1 : (t683 != (y679.length : Int)) = true := bne_iff_ne.mpr c45
                              exact absurd ((Option.some.inj H).trans HRT.out) (by decide)
                          · rw [if_neg c44] at H
                            have c44b0 : (t684 == 0) = false := beq_eq_false_iff_ne.mpr c44
                            have c44b1 : (t684 != 0) = true := bne_iff_ne.mpr c44
                            exact absurd ((Option.some.inj H).trans HRT.out) (by decide)
                · rw [if_neg c27] at H
                  exact absurd H (by simp)
        · rw [if_neg c12] at H
          exact absurd H (by simp)
      · rw [if_neg c11] at H
        exact absurd H (by simp)
  · replace c6 := Bool.eq_false_iff.mpr c6
    subst c6
    have H1 : (some false) = some r := by rw [if_neg (show ¬ (false = true) by decide)] at H; exact H
    clear H
    have H := H1
    clear H1
    exact absurd ((Option.some.inj H).trans HRT.out) (by decide)

/-- THE ONE PURE STATEMENT of tollbarlaw06_ChunkTrails: yours. -/
def tollbarlaw06_ChunkTrails.Pure : Prop := ∀ (l0 : List Int) (a1 : Int) (a2 : Bool) (a3 : Int), l0.length ≤ maxLen → l0.length * 1 ≤ 140737488351232 → (∀ x ∈ l0, (Lit.int .u8 x).wf = true) → (Lit.int .i64 a1).wf = true → (Lit.int .i64 a3).wf = true → ∃ k, tollbarlaw06_ChunkTrails.f k l0 a1 a2 a3 = some true

end Go.Proofs.YtjgpifjfaiaidaaDoor.P

