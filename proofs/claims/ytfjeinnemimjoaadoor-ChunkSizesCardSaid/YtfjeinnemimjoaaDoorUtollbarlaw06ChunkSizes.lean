/- Each function below answers as its Lean twin says. No further condition. (Laid by this repo's packseat.py out of the seat's texts and of the print's words.) -/
import Derived.Test.YtfjeinnemimjoaaDoorU0base0x0
import Derived.Test.YtfjeinnemimjoaaDoorUchunk1x1
import Derived.Test.YtfjeinnemimjoaaDoorUtollbarlaw060x0
import Derived.Test.YtfjeinnemimjoaaDoorUtollbarref010x0
namespace Go.Proofs.YtfjeinnemimjoaaDoor.P
open Go.RowKit Go.Proofs.YtfjeinnemimjoaaDoorW.PrintWords Go.Proofs.YtfjeinnemimjoaaDoorW.PrintLast Go.Proofs.YtfjeinnemimjoaaDoorW.PrintMore
attribute [local go_sem] max2_int min2_int max_two min_two max_three min_three max_four min_four   -- for this text's walks alone
set_option linter.unusedVariables false
set_option linter.unusedSimpArgs false

mutual
def tollbarlaw06_ChunkSizes.j0 : Nat → List (List Int) → Int → Bool → ByteArray → Bool → Option (Bool)
  | 0, _, _, _, _, _ => none
  | k + 1, x0, x1, x2, x3, x31 => if x31 = true then (some true) else (tollbarlaw06_ChunkSizes.l0 k x1 x2 x3 (([] : List Int)) (([] : List Int)) x0 (x0.length : Int) 0)
def tollbarlaw06_ChunkSizes.l0 : Nat → Int → Bool → ByteArray → List Int → List Int → List (List Int) → Int → Int → Option (Bool)
  | 0, _, _, _, _, _, _, _, _ => none
  | k + 1, x1, x2, x3, x9, x10, x34, x35, x36 => if x36 < x35 then (if 0 ≤ x36 then (if x36 < (x34.length : Int) then (if ((rd_L5 x34 x36).length : Int) = 0 then (tollbarlaw06_ChunkSizes.j2 k x1 x2 x3 x9 x10 (rd_L5 x34 x36) x34 x35 x36 true) else (tollbarlaw06_ChunkSizes.j2 k x1 x2 x3 x9 x10 (rd_L5 x34 x36) x34 x35 x36 (decide (((rd_L5 x34 x36).length : Int) > 255)))) else (none)) else (none)) else (if x9.length + 5 < 140737488355328 then ((some (x9 ++ bytesOf (⟨#[48, 13, 10, 13, 10]⟩ : ByteArray) : List Int)).bind fun y213 => ((chunk_Decode.f k y213 1048576).bind fun bt216 => (if bt216.2.2 = 0 then ((tollbarref01_SameBytes.f k bt216.1 x10).bind fun t221 => (if t221 = true then (some (bt216.2.1 == (y213.length : Int))) else (some false))) else (some false)))) else (none))
def tollbarlaw06_ChunkSizes.j2 : Nat → Int → Bool → ByteArray → List Int → List Int → List Int → List (List Int) → Int → Int → Bool → Option (Bool)
  | 0, _, _, _, _, _, _, _, _, _, _ => none
  | k + 1, x1, x2, x3, x9, x10, x12, x34, x35, x36, x47 => if x47 = true then (some true) else (tollbarlaw06_ChunkSizes.l1 k x1 x2 x3 x9 x10 x12 0 x34 x35 x36)
def tollbarlaw06_ChunkSizes.l1 : Nat → Int → Bool → ByteArray → List Int → List Int → List Int → Int → List (List Int) → Int → Int → Option (Bool)
  | 0, _, _, _, _, _, _, _, _, _, _ => none
  | k + 1, x1, x2, x3, x9, x10, x12, x13, x34, x35, x36 => if x13 < (Go.bits .and .i64 x1 7) then (if x9.length < 140737488355328 then (tollbarlaw06_ChunkSizes.l1 k x1 x2 x3 (x9 ++ [48]) x10 x12 (wrap64 (x13 + 1)) x34 x35 x36) else (none)) else (if x2 = true then (if 0 ≤ (wrap64 ((x12.length : Int) / 16)) then (if (wrap64 ((x12.length : Int) / 16)) < 16 then (if 0 ≤ ((x12.length : Int) % 16) then (if ((x12.length : Int) % 16) < 16 then ((some (([bt (⟨#[48, 49, 50, 51, 52, 53, 54, 55, 56, 57, 65, 66, 67, 68, 69, 70]⟩ : ByteArray) (wrap64 ((x12.length : Int) / 16)), bt (⟨#[48, 49, 50, 51, 52, 53, 54, 55, 56, 57, 65, 66, 67, 68, 69, 70]⟩ : ByteArray) ((x12.length : Int) % 16)] : List Int) : List Int)).bind fun y226 => (if x9.length + y226.length < 140737488355328 then ((some (x9 ++ y226 : List Int)).bind fun y229 => (if 2 + x3.size ≤ 9223372036854775807 then (if ((⟨#[32, 59]⟩ : ByteArray) ++ x3).size + 2 ≤ 9223372036854775807 then (if y229.length + (((⟨#[32, 59]⟩ : ByteArray) ++ x3) ++ (⟨#[13, 10]⟩ : ByteArray)).size < 140737488355328 then ((some (y229 ++ bytesOf (((⟨#[32, 59]⟩ : ByteArray) ++ x3) ++ (⟨#[13, 10]⟩ : ByteArray)) : List Int)).bind fun y232 => (if y232.length + x12.length < 140737488355328 then ((some (y232 ++ x12 : List Int)).bind fun y235 => ((some (([13, 10] : List Int) : List Int)).bind fun y238 => (if y235.length + y238.length < 140737488355328 then (if x10.length + x12.length < 140737488355328 then (tollbarlaw06_ChunkSizes.l0 k x1 x2 x3 (y235 ++ y238) (x10 ++ x12) x34 x35 (wrap64 (x36 + 1))) else (none)) else (none)))) else (none))) else (none)) else (none)) else (none))) else (none))) else (none)) else (none)) else (none)) else (none)) else (if 0 ≤ (wrap64 ((x12.length : Int) / 16)) then (if (wrap64 ((x12.length : Int) / 16)) < 16 then (if 0 ≤ ((x12.length : Int) % 16) then (if ((x12.length : Int) % 16) < 16 then ((some (([bt (⟨#[48, 49, 50, 51, 52, 53, 54, 55, 56, 57, 97, 98, 99, 100, 101, 102]⟩ : ByteArray) (wrap64 ((x12.length : Int) / 16)), bt (⟨#[48, 49, 50, 51, 52, 53, 54, 55, 56, 57, 97, 98, 99, 100, 101, 102]⟩ : ByteArray) ((x12.length : Int) % 16)] : List Int) : List Int)).bind fun y247 => (if x9.length + y247.length < 140737488355328 then ((some (x9 ++ y247 : List Int)).bind fun y250 => (if 2 + x3.size ≤ 9223372036854775807 then (if ((⟨#[32, 59]⟩ : ByteArray) ++ x3).size + 2 ≤ 9223372036854775807 then (if y250.length + (((⟨#[32, 59]⟩ : ByteArray) ++ x3) ++ (⟨#[13, 10]⟩ : ByteArray)).size < 140737488355328 then ((some (y250 ++ bytesOf (((⟨#[32, 59]⟩ : ByteArray) ++ x3) ++ (⟨#[13, 10]⟩ : ByteArray)) : List Int)).bind fun y253 => (if y253.length + x12.length < 140737488355328 then ((some (y253 ++ x12 : List Int)).bind fun y256 => ((some (([13, 10] : List Int) : List Int)).bind fun y259 => (if y256.length + y259.length < 140737488355328 then (if x10.length + x12.length < 140737488355328 then (tollbarlaw06_ChunkSizes.l0 k x1 x2 x3 (y256 ++ y259) (x10 ++ x12) x34 x35 (wrap64 (x36 + 1))) else (none)) else (none)))) else (none))) else (none)) else (none)) else (none))) else (none))) else (none)) else (none)) else (none)) else (none)))
end
def tollbarlaw06_ChunkSizes.f (k : Nat) (l0 : List (List Int)) (a1 : Int) (a2 : Bool) (a3 : ByteArray) : Option (Bool) := (tollbarlaw06_alive.f).bind fun t205 => (if t205 = true then (if (l0.length : Int) > 10 then (tollbarlaw06_ChunkSizes.j0 k l0 a1 a2 a3 true) else (if (a3.size : Int) > 50 then (tollbarlaw06_ChunkSizes.j0 k l0 a1 a2 a3 true) else ((tollbarlaw06_bad.f k a3).bind fun t206 => (tollbarlaw06_ChunkSizes.j0 k l0 a1 a2 a3 t206)))) else (some false))
theorem tollbarlaw06_ChunkSizes.mono_l : ∀ k, (∀ y0 y1 y2 y3 y4, LeO (tollbarlaw06_ChunkSizes.j0 k y0 y1 y2 y3 y4) (tollbarlaw06_ChunkSizes.j0 (k + 1) y0 y1 y2 y3 y4)) ∧ (∀ y0 y1 y2 y3 y4 y5 y6 y7, LeO (tollbarlaw06_ChunkSizes.l0 k y0 y1 y2 y3 y4 y5 y6 y7) (tollbarlaw06_ChunkSizes.l0 (k + 1) y0 y1 y2 y3 y4 y5 y6 y7)) ∧ (∀ y0 y1 y2 y3 y4 y5 y6 y7 y8 y9, LeO (tollbarlaw06_ChunkSizes.j2 k y0 y1 y2 y3 y4 y5 y6 y7 y8 y9) (tollbarlaw06_ChunkSizes.j2 (k + 1) y0 y1 y2 y3 y4 y5 y6 y7 y8 y9)) ∧ (∀ y0 y1 y2 y3 y4 y5 y6 y7 y8 y9, LeO (tollbarlaw06_ChunkSizes.l1 k y0 y1 y2 y3 y4 y5 y6 y7 y8 y9) (tollbarlaw06_ChunkSizes.l1 (k + 1) y0 y1 y2 y3 y4 y5 y6 y7 y8 y9))
  | 0 => ⟨fun _ _ _ _ _ r h => by simp [tollbarlaw06_ChunkSizes.j0] at h, fun _ _ _ _ _ _ _ _ r h => by simp [tollbarlaw06_ChunkSizes.l0] at h, fun _ _ _ _ _ _ _ _ _ _ r h => by simp [tollbarlaw06_ChunkSizes.j2] at h, fun _ _ _ _ _ _ _ _ _ _ r h => by simp [tollbarlaw06_ChunkSizes.l1] at h⟩
  | k + 1 => by
    obtain ⟨ih0, ih1, ih2, ih3⟩ := tollbarlaw06_ChunkSizes.mono_l k
    refine ⟨?_, ?_, ?_, ?_⟩
    · intro y0 y1 y2 y3 y4
      unfold tollbarlaw06_ChunkSizes.j0
      repeat' first
      | (with_reducible exact ih0 _ _ _ _ _)
      | (with_reducible exact ih1 _ _ _ _ _ _ _ _)
      | (with_reducible exact ih2 _ _ _ _ _ _ _ _ _ _)
      | (with_reducible exact ih3 _ _ _ _ _ _ _ _ _ _)
      | (with_reducible exact chunk_Decode.mono _ _ _)
      | (with_reducible exact tollbarlaw06_bad.mono _ _)
      | (with_reducible exact tollbarref01_SameBytes.mono _ _ _)
      | (with_reducible exact LeO.refl _)
      | (with_reducible exact LeO.none _)
      | (with_reducible refine LeO.ite ?_ ?_)
      | (with_reducible refine LeO.bind ?_ (fun _ => ?_))
      | exact ih0 _ _ _ _ _
      | exact ih1 _ _ _ _ _ _ _ _
      | exact ih2 _ _ _ _ _ _ _ _ _ _
      | exact ih3 _ _ _ _ _ _ _ _ _ _
      | exact chunk_Decode.mono _ _ _
      | exact tollbarlaw06_bad.mono _ _
      | exact tollbarref01_SameBytes.mono _ _ _
      | exact LeO.none _
      | refine LeO.ite ?_ ?_
      | refine LeO.bind ?_ (fun _ => ?_)
    · intro y0 y1 y2 y3 y4 y5 y6 y7
      unfold tollbarlaw06_ChunkSizes.l0
      repeat' first
      | (with_reducible exact ih0 _ _ _ _ _)
      | (with_reducible exact ih1 _ _ _ _ _ _ _ _)
      | (with_reducible exact ih2 _ _ _ _ _ _ _ _ _ _)
      | (with_reducible exact ih3 _ _ _ _ _ _ _ _ _ _)
      | (with_reducible exact chunk_Decode.mono _ _ _)
      | (with_reducible exact tollbarlaw06_bad.mono _ _)
      | (with_reducible exact tollbarref01_SameBytes.mono _ _ _)
      | (with_reducible exact LeO.refl _)
      | (with_reducible exact LeO.none _)
      | (with_reducible refine LeO.ite ?_ ?_)
      | (with_reducible refine LeO.bind ?_ (fun _ => ?_))
      | exact ih0 _ _ _ _ _
      | exact ih1 _ _ _ _ _ _ _ _
      | exact ih2 _ _ _ _ _ _ _ _ _ _
      | exact ih3 _ _ _ _ _ _ _ _ _ _
      | exact chunk_Decode.mono _ _ _
      | exact tollbarlaw06_bad.mono _ _
      | exact tollbarref01_SameBytes.mono _ _ _
      | exact LeO.none _
      | refine LeO.ite ?_ ?_
      | refine LeO.bind ?_ (fun _ => ?_)
    · intro y0 y1 y2 y3 y4 y5 y6 y7 y8 y9
      unfold tollbarlaw06_ChunkSizes.j2
      repeat' first
      | (with_reducible exact ih0 _ _ _ _ _)
      | (with_reducible exact ih1 _ _ _ _ _ _ _ _)
      | (with_reducible exact ih2 _ _ _ _ _ _ _ _ _ _)
      | (with_reducible exact ih3 _ _ _ _ _ _ _ _ _ _)
      | (with_reducible exact chunk_Decode.mono _ _ _)
      | (with_reducible exact tollbarlaw06_bad.mono _ _)
      | (with_reducible exact tollbarref01_SameBytes.mono _ _ _)
      | (with_reducible exact LeO.refl _)
      | (with_reducible exact LeO.none _)
      | (with_reducible refine LeO.ite ?_ ?_)
      | (with_reducible refine LeO.bind ?_ (fun _ => ?_))
      | exact ih0 _ _ _ _ _
      | exact ih1 _ _ _ _ _ _ _ _
      | exact ih2 _ _ _ _ _ _ _ _ _ _
      | exact ih3 _ _ _ _ _ _ _ _ _ _
      | exact chunk_Decode.mono _ _ _
      | exact tollbarlaw06_bad.mono _ _
      | exact tollbarref01_SameBytes.mono _ _ _
      | exact LeO.none _
      | refine LeO.ite ?_ ?_
      | refine LeO.bind ?_ (fun _ => ?_)
    · intro y0 y1 y2 y3 y4 y5 y6 y7 y8 y9
      unfold tollbarlaw06_ChunkSizes.l1
      repeat' first
      | (with_reducible exact ih0 _ _ _ _ _)
      | (with_reducible exact ih1 _ _ _ _ _ _ _ _)
      | (with_reducible exact ih2 _ _ _ _ _ _ _ _ _ _)
      | (with_reducible exact ih3 _ _ _ _ _ _ _ _ _ _)
      | (with_reducible exact chunk_Decode.mono _ _ _)
      | (with_reducible exact tollbarlaw06_bad.mono _ _)
      | (with_reducible exact tollbarref01_SameBytes.mono _ _ _)
      | (with_reducible exact LeO.refl _)
      | (with_reducible exact LeO.none _)
      | (with_reducible refine LeO.ite ?_ ?_)
      | (with_reducible refine LeO.bind ?_ (fun _ => ?_))
      | exact ih0 _ _ _ _ _
      | exact ih1 _ _ _ _ _ _ _ _
      | exact ih2 _ _ _ _ _ _ _ _ _ _
      | exact ih3 _ _ _ _ _ _ _ _ _ _
      | exact chunk_Decode.mono _ _ _
      | exact tollbarlaw06_bad.mono _ _
      | exact tollbarref01_SameBytes.mono _ _ _
      | exact LeO.none _
      | refine LeO.ite ?_ ?_
      | refine LeO.bind ?_ (fun _ => ?_)
theorem tollbarlaw06_ChunkSizes.mono : ∀ a0 a1 a2 a3 k, LeO (tollbarlaw06_ChunkSizes.f k a0 a1 a2 a3) (tollbarlaw06_ChunkSizes.f (k + 1) a0 a1 a2 a3) := by
  intro a0 a1 a2 a3 k
  obtain ⟨ih0, ih1, ih2, ih3⟩ := tollbarlaw06_ChunkSizes.mono_l k
  unfold tollbarlaw06_ChunkSizes.f
  repeat' first
      | (with_reducible exact ih0 _ _ _ _ _)
      | (with_reducible exact ih1 _ _ _ _ _ _ _ _)
      | (with_reducible exact ih2 _ _ _ _ _ _ _ _ _ _)
      | (with_reducible exact ih3 _ _ _ _ _ _ _ _ _ _)
      | (with_reducible exact chunk_Decode.mono _ _ _)
      | (with_reducible exact tollbarlaw06_bad.mono _ _)
      | (with_reducible exact tollbarref01_SameBytes.mono _ _ _)
      | (with_reducible exact LeO.refl _)
      | (with_reducible exact LeO.none _)
      | (with_reducible refine LeO.ite ?_ ?_)
      | (with_reducible refine LeO.bind ?_ (fun _ => ?_))
      | exact ih0 _ _ _ _ _
      | exact ih1 _ _ _ _ _ _ _ _
      | exact ih2 _ _ _ _ _ _ _ _ _ _
      | exact ih3 _ _ _ _ _ _ _ _ _ _
      | exact chunk_Decode.mono _ _ _
      | exact tollbarlaw06_bad.mono _ _
      | exact tollbarref01_SameBytes.mono _ _ _
      | exact LeO.none _
      | refine LeO.ite ?_ ?_
      | refine LeO.bind ?_ (fun _ => ?_)
def tollbarlaw06_ChunkSizes.T19 : Bool × List (List Nat × List Nat) := (true, [([], []), ([], []), ([], []), ([2], [2]), ([3], [3]), ([1, 4], [1, 4]), ([], []), ([], []), ([7], [7]), ([8], [8]), ([6, 9], [6, 9]), ([5, 10], [5, 10]), ([0, 11], [0, 11]), ([12, 12, 0, 1, 2, 3, 4, 5, 6, 7, 8, 9, 10, 11, 12], [0, 12])])
def tollbarlaw06_ChunkSizes.B19 : List Nat := [0, 0, 0, 4, 12, 30, 0, 0, 128, 384, 960, 2046, 4095, 8191]
theorem tollbarlaw06_ChunkSizes.tab19 : rtab .any (opsOf Tryd.f3 19) = tollbarlaw06_ChunkSizes.T19 := by kernel_rfl
theorem tollbarlaw06_ChunkSizes.bits19 : waitsOk tollbarlaw06_ChunkSizes.T19.2 tollbarlaw06_ChunkSizes.B19 = true := by kernel_rfl
set_option maxHeartbeats 8000000 in
set_option maxRecDepth 100000 in
theorem tollbarlaw06_ChunkSizes.calls (k : Nat) (A0 : Option Addr) (c0 : Nat) (l0 : List (List Int)) (a1 : Int) (a2 : Bool) (a3 : ByteArray) (r : Bool) (w : World) (hr0 : Kd.C (Kd.slice 5 (Kd.int .u8)) w A0 l0.length l0) (hc0 : l0.length ≤ c0) (h : tollbarlaw06_ChunkSizes.f k l0 a1 a2 a3 = some r) (hr : r = true) (ht : Tabs w) :
    Calls Tryd.prog 3 #[.slice A0 l0.length c0, .int .i64 a1, .bool a2, .string a3] w fun e w' => e = .returned (.bool r) ∧ Below w.heap.size w w' := by
  have HTB := Aside0.mk ht
  clear ht
  have HRT := Aside0.mk hr
  clear hr
  have HR0 := Aside0.mk hr0
  have HC0 := Aside0.mk hc0
  clear hr0 hc0
  have HB := Aside0.mk (Below.refl w.heap.size w)
  have H : ((tollbarlaw06_alive.f).bind fun t205 => (if t205 = true then (if (l0.length : Int) > 10 then (tollbarlaw06_ChunkSizes.j0 k l0 a1 a2 a3 true) else (if (a3.size : Int) > 50 then (tollbarlaw06_ChunkSizes.j0 k l0 a1 a2 a3 true) else ((tollbarlaw06_bad.f k a3).bind fun t206 => (tollbarlaw06_ChunkSizes.j0 k l0 a1 a2 a3 t206)))) else (some false))) = some r := h
  clear h
  replace H := Option.bind_eq_some_iff.mp H
  obtain ⟨t205, A50, H⟩ := H
  replace H : (if t205 = true then (if (l0.length : Int) > 10 then (tollbarlaw06_ChunkSizes.j0 k l0 a1 a2 a3 true) else (if (a3.size : Int) > 50 then (tollbarlaw06_ChunkSizes.j0 k l0 a1 a2 a3 true) else ((tollbarlaw06_bad.f k a3).bind fun t206 => (tollbarlaw06_ChunkSizes.j0 k l0 a1 a2 a3 t206)))) else (some false)) = some r := H
  have A5 := Aside0.mk A50
  clear A50
  by_cases c6 : t205 = true
  · subst c6
    have H1 : (if (l0.length : Int) > 10 then (tollbarlaw06_ChunkSizes.j0 k l0 a1 a2 a3 true) else (if (a3.size : Int) > 50 then (tollbarlaw06_ChunkSizes.j0 k l0 a1 a2 a3 true) else ((tollbarlaw06_bad.f k a3).bind fun t206 => (tollbarlaw06_ChunkSizes.j0 k l0 a1 a2 a3 t206)))) = some r := by rw [if_pos rfl] at H; exact H
    clear H
    have H := H1
    clear H1
    have HC7 := Aside0.mk H
    clear H
    go_enter Tryd.func3, Tryd.ntmps3
    go_upto_region 3 with (first | ((with_reducible refine gate_callee (f := 6) rfl ?_); refine goesL_ (some 18) rfl rfl Tryd.func6 (by kernel_rfl) rfl #[] rfl (by (try simp only [List.map_toArray, List.map_cons, List.map_nil]); first | done | rfl | (simp only [List.length_drop, List.length_take]; rfl)) ?_; (with_reducible refine (tollbarlaw06_alive.calls  true _ A5.out ?hT).mono ?_); (case hT => exact HTB.out.below (by repeat (first | (with_reducible first | exact HB.out | apply below_alloc | apply pw_below_drewN | apply below_drew1) | exact HB.out))); rintro e w8 ⟨rfl, hb⟩; refine ⟨_, rfl, ?_⟩; have n0_ := Aside0.mk (below_step (by repeat (first | (with_reducible first | exact HB.out | apply below_alloc | apply pw_below_drewN | apply below_drew1) | exact HB.out)) hb); clear HB; have HB := n0_; clear n0_; (try clear hb); (try clear hb2); (try clear hk); (try clear hi)))
    (try simp only [Act.put, List.setIfInBounds_toArray, List.set_cons_zero, List.set_cons_succ])
    go_cut [31] (fun v31 wc => ∃ (kq : Nat) (x31_6 : Bool), v31 = .bool x31_6 ∧ Aside0 (tollbarlaw06_ChunkSizes.j0 kq l0 a1 a2 a3 x31_6 = some r) ∧ Aside0 (kq ≤ k) ∧ Aside0 (Below w.heap.size w wc))
    case first =>
      have H := HC7.out
      clear HC7
      by_cases c9 : (l0.length : Int) > 10
      · rw [if_pos c9] at H
        have c9b0 : decide (10 < (l0.length : Int)) = true := decide_eq_true c9
        have c9b1 : decide (10 < l0.length) = true := decide_eq_true (by omega)
        clear c9
        (first | rw [c9b0] | (simp only [i64_w, i32_w]; rw [c9b0]) | skip)
        have H' := Aside0.mk H
        clear H
        go_wp2
        go_meet
        case rel => exact ⟨_, (true), (by first | rfl | (simp; done) | (simp [*]; done)), H', ⟨by first | omega | exact Nat.le_refl _⟩, ⟨by repeat (first | (with_reducible first | exact HB.out | apply below_alloc | apply pw_below_drewN | apply below_drew1) | exact HB.out)⟩⟩
      · rw [if_neg c9] at H
        have c9b0 : decide (10 < (l0.length : Int)) = false := decide_eq_false c9
        have c9b1 : decide (10 < l0.length) = false := decide_eq_false (by omega)
        clear c9
        (first | rw [c9b0] | (simp only [i64_w, i32_w]; rw [c9b0]) | skip)
        by_cases c10 : (a3.size : Int) > 50
        · rw [if_pos c10] at H
          have c10b0 : decide (50 < (a3.size : Int)) = true := decide_eq_true c10
          have c10b1 : decide (50 < a3.size) = true := decide_eq_true (by omega)
          clear c10
          have H' := Aside0.mk H
          clear H
          go_wp2
          go_meet
          case rel => exact ⟨_, (true), (by first | rfl | (simp; done) | (simp [*]; done)), H', ⟨by first | omega | exact Nat.le_refl _⟩, ⟨by repeat (first | (with_reducible first | exact HB.out | apply below_alloc | apply pw_below_drewN | apply below_drew1) | exact HB.out)⟩⟩
        · rw [if_neg c10] at H
          have c10b0 : decide (50 < (a3.size : Int)) = false := decide_eq_false c10
          have c10b1 : decide (50 < a3.size) = false := decide_eq_false (by omega)
          clear c10
          replace H := Option.bind_eq_some_iff.mp H
          obtain ⟨t206, A110, H⟩ := H
          replace H : (tollbarlaw06_ChunkSizes.j0 k l0 a1 a2 a3 t206) = some r := H
          have A11 := Aside0.mk A110
          clear A110
          have H' := Aside0.mk H
          clear H
          go_wp2_with (first | (go_at_call 7; (with_reducible refine (tollbarlaw06_bad.calls k a3 t206 _ A11.out).mono ?_); rintro e w' ⟨rfl, ⟨nd, rfl⟩⟩; (try clear A11)))
          go_meet
          case rel => exact ⟨_, (t206), (by first | rfl | (simp; done) | (simp [*]; done)), H', ⟨by first | omega | exact Nat.le_refl _⟩, ⟨by repeat (first | (with_reducible first | exact HB.out | apply below_alloc | apply pw_below_drewN | apply below_drew1) | exact HB.out)⟩⟩
    case rest =>
      clear HC7
      try clear c1
      try clear p2
      try clear c3
      try clear c6
      try clear c9
      try clear c9b0
      try clear c9b1
      try clear c10
      try clear c10b0
      try clear c10b1
      obtain ⟨kq, x31_6, rfl, HA, HJ6, HB⟩ := hcut
      cases kq with
      | zero => exact absurd HA.out (by simp [tollbarlaw06_ChunkSizes.j0])
      | succ kj6 =>
        have H := HA.out
        clear HA
        simp only [tollbarlaw06_ChunkSizes.j0] at H
        by_cases c12 : x31_6 = true
        · subst c12
          have H1 : (some true) = some r := by rw [if_pos rfl] at H; exact H
          clear H
          have H := H1
          clear H1
          obtain rfl := Option.some.inj H
          go_wp2
          go_ret
          exact ⟨by first | rfl | (simp [errW_none, errW_some] <;> rfl) | (simp [*, errW_none, errW_some] <;> rfl), by repeat (first | (with_reducible first | exact HB.out | apply below_alloc | apply pw_below_drewN | apply below_drew1) | exact HB.out)⟩
        · replace c12 := Bool.eq_false_iff.mpr c12
          subst c12
          have H1 : (tollbarlaw06_ChunkSizes.l0 kj6 a1 a2 a3 (([] : List Int)) (([] : List Int)) l0 (l0.length : Int) 0) = some r := by rw [if_neg (show ¬ (false = true) by decide)] at H; exact H
          clear H
          have H := H1
          clear H1
          obtain ⟨y207, hy207⟩ : ∃ y_ : List Int, y_ = (([] : List Int)) := ⟨_, rfl⟩
          replace H : (tollbarlaw06_ChunkSizes.l0 kj6 a1 a2 a3 y207 (([] : List Int)) l0 (l0.length : Int) 0) = some r := by first | (rw [hy207]; with_reducible exact H) | (have H2_ := (Option.bind_some _ _).symm.trans H; rw [hy207]; with_reducible exact H2_) | (have H2_ := (Option.bind_some _ _).symm.trans H; with_reducible exact H2_) | with_reducible exact H | (rw [hy207]; exact H) | exact H
          have Ny207 := Aside0.mk hy207
          clear hy207
          obtain ⟨y210, hy210⟩ : ∃ y_ : List Int, y_ = (([] : List Int)) := ⟨_, rfl⟩
          replace H : (tollbarlaw06_ChunkSizes.l0 kj6 a1 a2 a3 y207 y210 l0 (l0.length : Int) 0) = some r := by first | (rw [hy210]; with_reducible exact H) | (have H2_ := (Option.bind_some _ _).symm.trans H; rw [hy210]; with_reducible exact H2_) | (have H2_ := (Option.bind_some _ _).symm.trans H; with_reducible exact H2_) | with_reducible exact H | (rw [hy210]; exact H) | exact H
          have Ny210 := Aside0.mk hy210
          clear hy210
          have H' := Aside0.mk H
          clear H
          go_wp2_with (first | ((with_reducible refine gate_dst (N := 32) rfl ?_); (try (refine gate_guard (by rfl) ?_; dsimp only)); refine Kd.R_lit (Kd.int .u8) _ 5 ?hg (N := 32) ?hd (xs := ([] : List Int)) (inner := []) (ok := fun _ => True) (okp := fun _ => True) ?hr ?hp (fun _ hk => hk) trivial (Below.refl _ _) (Nat.le_refl _) (by simp) ?_; (case hd => rfl); (case hg => rfl); (case hr => first | (go_simp; done) | (go_simp; rfl)); (case hp => exact (Reps.none _ _)); intro v208 w13 ho14 hb hg_ hnew_; clear hg_ hnew_; (first | rw [← Ny207.out] at ho14 | (simp only [Int.reduceToNat] at ho14; rw [← Ny207.out] at ho14)); have n0_ := Aside0.mk (Kd.R_lower ho14 (below_size (by repeat (first | (with_reducible first | exact HB.out | apply below_alloc | apply pw_below_drewN | apply below_drew1) | exact HB.out)))); have n1_ := Aside0.mk (below_step (by repeat (first | (with_reducible first | exact HB.out | apply below_alloc | apply pw_below_drewN | apply below_drew1) | exact HB.out)) hb); clear HB; have HO209 := n0_; have HB := n1_; clear n0_ n1_; clear hb ho14) | ((with_reducible refine gate_dst (N := 33) rfl ?_); (try (refine gate_guard (by rfl) ?_; dsimp only)); refine Kd.R_lit (Kd.int .u8) _ 5 ?hg (N := 33) ?hd (xs := ([] : List Int)) (inner := []) (ok := fun _ => True) (okp := fun _ => True) ?hr ?hp (fun _ hk => hk) trivial (Below.refl _ _) (Nat.le_refl _) (by simp) ?_; (case hd => rfl); (case hg => rfl); (case hr => first | (go_simp; done) | (go_simp; rfl)); (case hp => exact (Reps.none _ _)); intro v211 w15 ho16 hb hg_ hnew_; clear hg_ hnew_; (first | rw [← Ny210.out] at ho16 | (simp only [Int.reduceToNat] at ho16; rw [← Ny210.out] at ho16)); have n0_ := Aside0.mk (Kd.R_elder' (by (with_reducible repeat (first | apply Kd.R_alloc | apply Kd.R_drewN | apply Kd.R_drew)); exact HO209.out) (Kd.R_base ho16) hb); have n1_ := Aside0.mk (Kd.R_lower (Kd.R_new' ho16 (Kd.R_lt (by (with_reducible repeat (first | apply Kd.R_alloc | apply Kd.R_drewN | apply Kd.R_drew)); exact HO209.out))) (below_size (by repeat (first | (with_reducible first | exact HB.out | apply below_alloc | apply pw_below_drewN | apply below_drew1) | exact HB.out)))); have n2_ := Aside0.mk (below_step (by repeat (first | (with_reducible first | exact HB.out | apply below_alloc | apply pw_below_drewN | apply below_drew1) | exact HB.out)) hb); clear HO209; clear HB; have HO209 := n0_; have HO212 := n1_; have HB := n2_; clear n0_ n1_ n2_; clear hb ho16))
          go_loopg [9, 10, 36] kj6 (fun kq v9 v10 v36 w' => ∃ (x9_2 : List Int) (x10_2 : List Int) (x36_2 : Int), v36 = .int .i64 x36_2 ∧ Aside0 (tollbarlaw06_ChunkSizes.l0 kq a1 a2 a3 x9_2 x10_2 l0 (l0.length : Int) x36_2 = some r) ∧ Aside0 (kq ≤ kj6) ∧ Aside0 (Kd.R (Kd.int .u8) 5 w' w.heap.size (fun k_ => some k_ ≠ (v10 : Value).ownBlock) v9 x9_2) ∧ Aside0 (Kd.R (Kd.int .u8) 5 w' w.heap.size (fun k_ => some k_ ≠ (v9 : Value).ownBlock) v10 x10_2) ∧ Aside0 (Below w.heap.size w w'))
          case atStart => exact ⟨(y207), (y210), (0), (by first | rfl | (simp; done) | (simp [*]; done)), H', ⟨Nat.le_refl _⟩, ⟨by (with_reducible repeat (first | apply Kd.R_alloc | apply Kd.R_drewN | apply Kd.R_drew)); exact Kd.R_mono HO209.out (fun _ hk => hk.2)⟩, ⟨by (with_reducible repeat (first | apply Kd.R_alloc | apply Kd.R_drewN | apply Kd.R_drew)); exact Kd.R_mono HO212.out (fun _ hk => hk.2)⟩, ⟨by repeat (first | (with_reducible first | exact HB.out | apply below_alloc | apply pw_below_drewN | apply below_drew1) | exact HB.out)⟩⟩
          case round =>
            clear H'
            try clear c1
            try clear p2
            try clear c3
            try clear c6
            try clear c9
            try clear c9b0
            try clear c9b1
            try clear c10
            try clear c10b0
            try clear c10b1
            try clear c12
            try clear p2
            obtain ⟨x9_2, x10_2, x36_2, rfl, HA, HK2, HO_9, HO_10, HB⟩ := hrel
            cases gk with
            | zero => exact absurd HA.out (by simp [tollbarlaw06_ChunkSizes.l0])
            | succ k2 =>
              have H := HA.out
              clear HA
              simp only [tollbarlaw06_ChunkSizes.l0] at H
              by_cases c17 : x36_2 < (l0.length : Int)
              · rw [if_pos c17] at H
                have c17b0 : decide (x36_2 < (l0.length : Int)) = true := decide_eq_true c17
                clear c17
                by_cases c18 : 0 ≤ x36_2
                · rw [if_pos c18] at H
                  have c18b0 : decide (0 ≤ x36_2) = true := decide_eq_true c18
                  clear c18
                  by_cases c19 : x36_2 < (l0.length : Int)
                  · rw [if_pos c19] at H
                    have c19b0 : decide (x36_2 < (l0.length : Int)) = true := decide_eq_true c19
                    clear c19
                    have HC20 := Aside0.mk H
                    clear H
                    have p222 : 0 ≤ (x36_2 : Int) := of_decide_eq_true (by first | (with_reducible assumption) | assumption)
                    have q222 : x36_2 < (l0.length : Int) := of_decide_eq_true (by first | (with_reducible assumption) | assumption)
                    obtain ⟨ad222, A222_0, c222_0, e222, hx222_0, hl222_0, hi222_0⟩ := at_L5 HR0.out x36_2 p222 q222
                    cases e222
                    replace hx222_0 := (HB.out.cell (World.block_lt_of_cell? w _ hx222_0)).trans hx222_0
                    have HR222_0 := Aside0.mk hi222_0
                    have HC222_0 := Aside0.mk hl222_0
                    clear hi222_0 hl222_0
                    replace p222 := eq_true p222
                    replace q222 := eq_true q222
                    go_upto_region 10 with (fail)
                    go_cut [47] (fun v47 wc => ∃ (kq : Nat) (x47_19 : Bool), v47 = .bool x47_19 ∧ Aside0 (tollbarlaw06_ChunkSizes.j2 kq a1 a2 a3 x9_2 x10_2 (rd_L5 l0 x36_2) l0 (l0.length : Int) x36_2 x47_19 = some r) ∧ Aside0 (kq ≤ k2) ∧ Aside0 (Kd.R (Kd.int .u8) 5 wc w.heap.size (fun k_ => some k_ ≠ (u10 : Value).ownBlock) u9 x9_2) ∧ Aside0 (Kd.R (Kd.int .u8) 5 wc w.heap.size (fun k_ => some k_ ≠ (u9 : Value).ownBlock) u10 x10_2) ∧ Aside0 (Below w.heap.size w wc))
                    case first =>
                      have H := HC20.out
                      clear HC20
                      by_cases c21 : ((rd_L5 l0 x36_2).length : Int) = 0
                      · rw [if_pos c21] at H
                        have c21b0 : (((rd_L5 l0 x36_2).length : Int) == 0) = true := beq_iff_eq.mpr c21
                        have c21b1 : (((rd_L5 l0 x36_2).length : Int) != 0) = false := bne_eq_false_iff_eq.mpr c21
                        clear c21
                        (first | rw [c21b0] | (simp only [i64_w, i32_w]; rw [c21b0]) | skip)
                        have H' := Aside0.mk H
                        clear H
                        go_wp2
                        go_meet
                        case rel => exact ⟨_, (true), (by first | rfl | (simp; done) | (simp [*]; done)), H', ⟨by have := HJ6.out; have := HK2.out; first | omega | exact Nat.le_refl _⟩, ⟨by (with_reducible repeat (first | apply Kd.R_alloc | apply Kd.R_drewN | apply Kd.R_drew)); exact HO_9.out⟩, ⟨by (with_reducible repeat (first | apply Kd.R_alloc | apply Kd.R_drewN | apply Kd.R_drew)); exact HO_10.out⟩, ⟨by repeat (first | (with_reducible first | exact HB.out | apply below_alloc | apply pw_below_drewN | apply below_drew1) | exact HB.out)⟩⟩
                      · rw [if_neg c21] at H
                        have c21b0 : (((rd_L5 l0 x36_2).length : Int) == 0) = false := beq_eq_false_iff_ne.mpr c21
                        have c21b1 : (((rd_L5 l0 x36_2).length : Int) != 0) = true := bne_iff_ne.mpr c21
                        have c21b2 : ¬ ((rd_L5 l0 x36_2) = []) := fun h_ => c21 (by rw [h_]; rfl)
                        (first | rw [c21b0] | (simp only [i64_w, i32_w]; rw [c21b0]) | skip)
                        have H' := Aside0.mk H
                        clear H
                        go_wp2
                        go_meet
                        case rel => exact ⟨_, (decide (((rd_L5 l0 x36_2).length : Int) > 255)), (by first | rfl | (simp; done) | (simp [*]; done)), H', ⟨by have := HJ6.out; have := HK2.out; first | omega | exact Nat.le_refl _⟩, ⟨by (with_reducible repeat (first | apply Kd.R_alloc | apply Kd.R_drewN | apply Kd.R_drew)); exact HO_9.out⟩, ⟨by (with_reducible repeat (first | apply Kd.R_alloc | apply Kd.R_drewN | apply Kd.R_drew)); exact HO_10.out⟩, ⟨by repeat (first | (with_reducible first | exact HB.out | apply below_alloc | apply pw_below_drewN | apply below_drew1) | exact HB.out)⟩⟩
                    case rest =>
                      clear HC20
                      try clear c1
                      try clear c2
                      try clear p2
                      try clear q2
                      try clear hx2
                      try clear c3
                      try clear c6
                      try clear c9
                      try clear c9b0
                      try clear c9b1
                      try clear c10
                      try clear c10b0
                      try clear c10b1
                      try clear c12
                      try clear c17
                      try clear c17b0
                      try clear c18
                      try clear c18b0
                      try clear c19
                      try clear c19b0
                      try clear c21
                      try clear c21b0
                      try clear c21b1
                      try clear c21b2
                      try clear hx222_0
                      try clear p2
                      try clear p222
                      try clear q222
                      obtain ⟨kq, x47_19, rfl, HA, HJ19, HO_9, HO_10, HB⟩ := hcut
                      cases kq with
                      | zero => exact absurd HA.out (by simp [tollbarlaw06_ChunkSizes.j2])
                      | succ kj19 =>
                        have H := HA.out
                        clear HA
                        simp only [tollbarlaw06_ChunkSizes.j2] at H
                        by_cases c22 : x47_19 = true
                        · subst c22
                          have H1 : (some true) = some r := by rw [if_pos rfl] at H; exact H
                          clear H
                          have H := H1
                          clear H1
                          obtain rfl := Option.some.inj H
                          go_wp2
                          go_ret
                          exact ⟨by first | rfl | (simp [errW_none, errW_some] <;> rfl) | (simp [*, errW_none, errW_some] <;> rfl), by repeat (first | (with_reducible first | exact HB.out | apply below_alloc | apply pw_below_drewN | apply below_drew1) | exact HB.out)⟩
                        · replace c22 := Bool.eq_false_iff.mpr c22
                          subst c22
                          have H1 : (tollbarlaw06_ChunkSizes.l1 kj19 a1 a2 a3 x9_2 x10_2 (rd_L5 l0 x36_2) 0 l0 (l0.length : Int) x36_2) = some r := by rw [if_neg (show ¬ (false = true) by decide)] at H; exact H
                          clear H
                          have H := H1
                          clear H1
                          have H' := Aside0.mk H
                          clear H
                          go_wp2
                          go_loopg [9, 13] kj19 (fun kq v9 v13 w' => ∃ (x9_4 : List Int) (x13_4 : Int), v13 = .int .i64 x13_4 ∧ Aside0 (tollbarlaw06_ChunkSizes.l1 kq a1 a2 a3 x9_4 x10_2 (rd_L5 l0 x36_2) x13_4 l0 (l0.length : Int) x36_2 = some r) ∧ Aside0 (kq ≤ kj19) ∧ Aside0 (Kd.R (Kd.int .u8) 5 w' w.heap.size (fun k_ => some k_ ≠ (u10 : Value).ownBlock) v9 x9_4) ∧ Aside0 (Kd.R (Kd.int .u8) 5 w' w.heap.size (fun k_ => some k_ ≠ (v9 : Value).ownBlock) u10 x10_2) ∧ Aside0 (Below w.heap.size w w'))
                          case atStart => exact ⟨(x9_2), (0), (by first | rfl | (simp; done) | (simp [*]; done)), H', ⟨Nat.le_refl _⟩, ⟨by (with_reducible repeat (first | apply Kd.R_alloc | apply Kd.R_drewN | apply Kd.R_drew)); exact HO_9.out⟩, ⟨by (with_reducible repeat (first | apply Kd.R_alloc | apply Kd.R_drewN | apply Kd.R_drew)); exact HO_10.out⟩, ⟨by repeat (first | (with_reducible first | exact HB.out | apply below_alloc | apply pw_below_drewN | apply below_drew1) | exact HB.out)⟩⟩
                          case round =>
                            clear H'
                            try clear c1
                            try clear c2
                            try clear p2
                            try clear q2
                            try clear hx2
                            try clear c3
                            try clear c6
                            try clear c9
                            try clear c9b0
                            try clear c9b1
                            try clear c10
                            try clear c10b0
                            try clear c10b1
                            try clear c12
                            try clear c17
                            try clear c17b0
                            try clear c18
                            try clear c18b0
                            try clear c19
                            try clear c19b0
                            try clear c21
                            try clear c21b0
                            try clear c21b1
                            try clear c21b2
                            try clear c22
                            try clear p22
                            try clear q22
                            try clear hx22
                            try clear hx222_0
                            try clear p2
                            try clear p222
                            try clear q2
                            try clear q222
                            obtain ⟨x9_4, x13_4, rfl, HA, HK4, HO_9, HO_10, HB⟩ := hrel
                            cases gk with
                            | zero => exact absurd HA.out (by simp [tollbarlaw06_ChunkSizes.l1])
                            | succ k4 =>
                              have H := HA.out
                              clear HA
                              simp only [tollbarlaw06_ChunkSizes.l1] at H
                              by_cases c23 : x13_4 < (Go.bits .and .i64 a1 7)
                              · rw [if_pos c23] at H
                                have c23b0 : decide (x13_4 < (Go.bits .and .i64 a1 7)) = true := decide_eq_true c23
                                clear c23
                                by_cases c24 : x9_4.length < 140737488355328
                                · rw [if_pos c24] at H
                                  have LMc24 := Aside0.mk c24
                                  clear c24
                                  obtain ⟨y223, hy223⟩ : ∃ y_ : List Int, y_ = (x9_4 ++ [48]) := ⟨_, rfl⟩
                                  replace H : (tollbarlaw06_ChunkSizes.l1 k4 a1 a2 a3 y223 x10_2 (rd_L5 l0 x36_2) (wrap64 (x13_4 + 1)) l0 (l0.length : Int) x36_2) = some r := by first | (rw [hy223]; with_reducible exact H) | (have H2_ := (Option.bind_some _ _).symm.trans H; rw [hy223]; with_reducible exact H2_) | (have H2_ := (Option.bind_some _ _).symm.trans H; with_reducible exact H2_) | with_reducible exact H | (rw [hy223]; exact H) | exact H
                                  have Ny223 := Aside0.mk hy223
                                  clear hy223
                                  have H' := Aside0.mk H
                                  clear H
                                  go_wp2_with (first | ((with_reducible refine gate_builtin (b := .append) (xs := #[.tmp 54, .tmp 55]) rfl ?_); (try (refine gate_guard (by rfl) ?_; dsimp only)); at_builtin; refine Kd.R_append (Kd.int .u8) (w0 := w) w.heap.size rfl (.tmp 54) (.tmp 55) 25 5 (.int .u8 0) 1 rfl Tryd.underlying25 info5 rfl (by decide) (by omega) u9 x9_4 48 [.int .u8 48] (fun k_ => some k_ ≠ (u10 : Value).ownBlock) (fun _ => False) rfl rfl ?aP (fun _ hk => hk.elim) ?aF ?aO ?aB ?aS ?aL ?_; (case aP => exact rfl); (case aB => exact (by repeat (first | (with_reducible first | exact HB.out | apply below_alloc | apply pw_below_drewN | apply below_drew1) | exact HB.out))); (case aF => exact (fun k_ hk => Kd.fresh' (Kd.R_lt (by (with_reducible repeat (first | apply Kd.R_alloc | apply Kd.R_drewN | apply Kd.R_drew)); exact HO_10.out)) k_ hk)); (case aO => exact (by (with_reducible repeat (first | apply Kd.R_alloc | apply Kd.R_drewN | apply Kd.R_drew)); exact HO_9.out)); (case aS => exact (below_size (by repeat (first | (with_reducible first | exact HB.out | apply below_alloc | apply pw_below_drewN | apply below_drew1) | exact HB.out)))); (case aL => have := LMc24.out; omega); intro v224 w25 ho hb hg hat; rw [← Ny223.out] at ho; have n0_ := Aside0.mk (Kd.R_after (ok := (fun _ => True)) (by (with_reducible repeat (first | apply Kd.R_alloc | apply Kd.R_drewN | apply Kd.R_drew)); exact Kd.R_mono HO_10.out (fun _ hk => ⟨trivial, hk⟩)) hg hat); have n1_ := Aside0.mk (hb); have n2_ := Aside0.mk (ho); clear HO_10; clear HB; clear HO_9; have HO_10 := n0_; have HB := n1_; have HO225 := n2_; clear n0_ n1_ n2_; clear ho hb hg hat))
                                  go_roundg k4
                                  case measure => have := HJ6.out; have := HK2.out; have := HJ19.out; have := HK4.out; omega
                                  case rel => exact ⟨(y223), (wrap64 (x13_4 + 1)), (by first | rfl | (simp; done) | (simp [*]; done)), H', ⟨by have := HJ6.out; have := HK2.out; have := HJ19.out; have := HK4.out; omega⟩, ⟨by (with_reducible repeat (first | apply Kd.R_alloc | apply Kd.R_drewN | apply Kd.R_drew)); exact HO225.out⟩, ⟨by (with_reducible repeat (first | apply Kd.R_alloc | apply Kd.R_drewN | apply Kd.R_drew)); exact Kd.R_mono HO_10.out (fun _ hk => hk.2)⟩, ⟨by repeat (first | (with_reducible first | exact HB.out | apply below_alloc | apply pw_below_drewN | apply below_drew1) | exact HB.out)⟩⟩
                                · rw [if_neg c24] at H
                                  exact absurd H (by simp)
                              · rw [if_neg c23] at H
                                have c23b0 : decide (x13_4 < (Go.bits .and .i64 a1 7)) = false := decide_eq_false c23
                                clear c23
                                by_cases c26 : a2 = true
                                · subst c26
                                  have H1 : (if 0 ≤ (wrap64 (((rd_L5 l0 x36_2).length : Int) / 16)) then (if (wrap64 (((rd_L5 l0 x36_2).length : Int) / 16)) < 16 then (if 0 ≤ (((rd_L5 l0 x36_2).length : Int) % 16) then (if (((rd_L5 l0 x36_2).length : Int) % 16) < 16 then ((some (([bt (⟨#[48, 49, 50, 51, 52, 53, 54, 55, 56, 57, 65, 66, 67, 68, 69, 70]⟩ : ByteArray) (wrap64 (((rd_L5 l0 x36_2).length : Int) / 16)), bt (⟨#[48, 49, 50, 51, 52, 53, 54, 55, 56, 57, 65, 66, 67, 68, 69, 70]⟩ : ByteArray) (((rd_L5 l0 x36_2).length : Int) % 16)] : List Int) : List Int)).bind fun y226 => (if x9_4.length + y226.length < 140737488355328 then ((some (x9_4 ++ y226 : List Int)).bind fun y229 => (if 2 + a3.size ≤ 9223372036854775807 then (if ((⟨#[32, 59]⟩ : ByteArray) ++ a3).size + 2 ≤ 9223372036854775807 then (if y229.length + (((⟨#[32, 59]⟩ : ByteArray) ++ a3) ++ (⟨#[13, 10]⟩ : ByteArray)).size < 140737488355328 then ((some (y229 ++ bytesOf (((⟨#[32, 59]⟩ : ByteArray) ++ a3) ++ (⟨#[13, 10]⟩ : ByteArray)) : List Int)).bind fun y232 => (if y232.length + (rd_L5 l0 x36_2).length < 140737488355328 then ((some (y232 ++ (rd_L5 l0 x36_2) : List Int)).bind fun y235 => ((some (([13, 10] : List Int) : List Int)).bind fun y238 => (if y235.length + y238.length < 140737488355328 then (if x10_2.length + (rd_L5 l0 x36_2).length < 140737488355328 then (tollbarlaw06_ChunkSizes.l0 k4 a1 true a3 (y235 ++ y238) (x10_2 ++ (rd_L5 l0 x36_2)) l0 (l0.length : Int) (wrap64 (x36_2 + 1))) else (none)) else (none)))) else (none))) else (none)) else (none)) else (none))) else (none))) else (none)) else (none)) else (none)) else (none)) = some r := by rw [if_pos rfl] at H; exact H
                                  clear H
                                  have H := H1
                                  clear H1
                                  obtain ⟨ji27, hji27⟩ : ∃ j_ : Int, (wrap64 (((rd_L5 l0 x36_2).length : Int) / 16)) = j_ := ⟨_, rfl⟩
                                  replace H : (if 0 ≤ (ji27) then (if (ji27) < 16 then (if 0 ≤ (((rd_L5 l0 x36_2).length : Int) % 16) then (if (((rd_L5 l0 x36_2).length : Int) % 16) < 16 then ((some (([bt (⟨#[48, 49, 50, 51, 52, 53, 54, 55, 56, 57, 65, 66, 67, 68, 69, 70]⟩ : ByteArray) (ji27), bt (⟨#[48, 49, 50, 51, 52, 53, 54, 55, 56, 57, 65, 66, 67, 68, 69, 70]⟩ : ByteArray) (((rd_L5 l0 x36_2).length : Int) % 16)] : List Int) : List Int)).bind fun y226 => (if x9_4.length + y226.length < 140737488355328 then ((some (x9_4 ++ y226 : List Int)).bind fun y229 => (if 2 + a3.size ≤ 9223372036854775807 then (if ((⟨#[32, 59]⟩ : ByteArray) ++ a3).size + 2 ≤ 9223372036854775807 then (if y229.length + (((⟨#[32, 59]⟩ : ByteArray) ++ a3) ++ (⟨#[13, 10]⟩ : ByteArray)).size < 140737488355328 then ((some (y229 ++ bytesOf (((⟨#[32, 59]⟩ : ByteArray) ++ a3) ++ (⟨#[13, 10]⟩ : ByteArray)) : List Int)).bind fun y232 => (if y232.length + (rd_L5 l0 x36_2).length < 140737488355328 then ((some (y232 ++ (rd_L5 l0 x36_2) : List Int)).bind fun y235 => ((some (([13, 10] : List Int) : List Int)).bind fun y238 => (if y235.length + y238.length < 140737488355328 then (if x10_2.length + (rd_L5 l0 x36_2).length < 140737488355328 then (tollbarlaw06_ChunkSizes.l0 k4 a1 true a3 (y235 ++ y238) (x10_2 ++ (rd_L5 l0 x36_2)) l0 (l0.length : Int) (wrap64 (x36_2 + 1))) else (none)) else (none)))) else (none))) else (none)) else (none)) else (none))) else (none))) else (none)) else (none)) else (none)) else (none)) = some r := by first | (rw [hji27] at H; exact H) | (simp only [hji27] at H ⊢; exact H)
                                  have hji27w : (IntKind.i64.wrap (((rd_L5 l0 x36_2).length : Int) / 16)) = ji27 := (i64_w _).trans hji27
                                  by_cases c28 : 0 ≤ (ji27)
                                  · rw [if_pos c28] at H
                                    have c28b0 : decide (0 ≤ (ji27)) = true := decide_eq_true c28
                                    clear c28
                                    by_cases c29 : (ji27) < 16
                                    · rw [if_pos c29] at H
                                      have c29b0 : decide ((ji27) < 16) = true := decide_eq_true c29
                                      clear c29
                                      obtain ⟨ji31, hji31⟩ : ∃ j_ : Int, (((rd_L5 l0 x36_2).length : Int) % 16) = j_ := ⟨_, rfl⟩
                                      have tmji31 : Int.tmod ((rd_L5 l0 x36_2).length : Int) 16 = ji31 := by rw [← hji31]; exact Int.tmod_eq_emod_of_nonneg (Int.natCast_nonneg _)
                                      replace H : (if 0 ≤ (ji31) then (if (ji31) < 16 then ((some (([bt (⟨#[48, 49, 50, 51, 52, 53, 54, 55, 56, 57, 65, 66, 67, 68, 69, 70]⟩ : ByteArray) (ji27), bt (⟨#[48, 49, 50, 51, 52, 53, 54, 55, 56, 57, 65, 66, 67, 68, 69, 70]⟩ : ByteArray) (ji31)] : List Int) : List Int)).bind fun y226 => (if x9_4.length + y226.length < 140737488355328 then ((some (x9_4 ++ y226 : List Int)).bind fun y229 => (if 2 + a3.size ≤ 9223372036854775807 then (if ((⟨#[32, 59]⟩ : ByteArray) ++ a3).size + 2 ≤ 9223372036854775807 then (if y229.length + (((⟨#[32, 59]⟩ : ByteArray) ++ a3) ++ (⟨#[13, 10]⟩ : ByteArray)).size < 140737488355328 then ((some (y229 ++ bytesOf (((⟨#[32, 59]⟩ : ByteArray) ++ a3) ++ (⟨#[13, 10]⟩ : ByteArray)) : List Int)).bind fun y232 => (if y232.length + (rd_L5 l0 x36_2).length < 140737488355328 then ((some (y232 ++ (rd_L5 l0 x36_2) : List Int)).bind fun y235 => ((some (([13, 10] : List Int) : List Int)).bind fun y238 => (if y235.length + y238.length < 140737488355328 then (if x10_2.length + (rd_L5 l0 x36_2).length < 140737488355328 then (tollbarlaw06_ChunkSizes.l0 k4 a1 true a3 (y235 ++ y238) (x10_2 ++ (rd_L5 l0 x36_2)) l0 (l0.length : Int) (wrap64 (x36_2 + 1))) else (none)) else (none)))) else (none))) else (none)) else (none)) else (none))) else (none))) else (none)) else (none)) = some r := by first | (rw [hji31] at H; exact H) | (simp only [hji31] at H ⊢; exact H)
                                      by_cases c32 : 0 ≤ (ji31)
                                      · rw [if_pos c32] at H
                                        have c32b0 : decide (0 ≤ (ji31)) = true := decide_eq_true c32
                                        clear c32
                                        by_cases c33 : (ji31) < 16
                                        · rw [if_pos c33] at H
                                          have c33b0 : decide ((ji31) < 16) = true := decide_eq_true c33
                                          clear c33
                                          obtain ⟨y226, hy226⟩ : ∃ y_ : List Int, y_ = (([bt (⟨#[48, 49, 50, 51, 52, 53, 54, 55, 56, 57, 65, 66, 67, 68, 69, 70]⟩ : ByteArray) (ji27), bt (⟨#[48, 49, 50, 51, 52, 53, 54, 55, 56, 57, 65, 66, 67, 68, 69, 70]⟩ : ByteArray) (ji31)] : List Int)) := ⟨_, rfl⟩
                                          replace H : (if x9_4.length + y226.length < 140737488355328 then ((some (x9_4 ++ y226 : List Int)).bind fun y229 => (if 2 + a3.size ≤ 9223372036854775807 then (if ((⟨#[32, 59]⟩ : ByteArray) ++ a3).size + 2 ≤ 9223372036854775807 then (if y229.length + (((⟨#[32, 59]⟩ : ByteArray) ++ a3) ++ (⟨#[13, 10]⟩ : ByteArray)).size < 140737488355328 then ((some (y229 ++ bytesOf (((⟨#[32, 59]⟩ : ByteArray) ++ a3) ++ (⟨#[13, 10]⟩ : ByteArray)) : List Int)).bind fun y232 => (if y232.length + (rd_L5 l0 x36_2).length < 140737488355328 then ((some (y232 ++ (rd_L5 l0 x36_2) : List Int)).bind fun y235 => ((some (([13, 10] : List Int) : List Int)).bind fun y238 => (if y235.length + y238.length < 140737488355328 then (if x10_2.length + (rd_L5 l0 x36_2).length < 140737488355328 then (tollbarlaw06_ChunkSizes.l0 k4 a1 true a3 (y235 ++ y238) (x10_2 ++ (rd_L5 l0 x36_2)) l0 (l0.length : Int) (wrap64 (x36_2 + 1))) else (none)) else (none)))) else (none))) else (none)) else (none)) else (none))) else (none)) = some r := by first | (rw [hy226]; with_reducible exact H) | (have H2_ := (Option.bind_some _ _).symm.trans H; rw [hy226]; with_reducible exact H2_) | (have H2_ := (Option.bind_some _ _).symm.trans H; with_reducible exact H2_) | with_reducible exact H | (rw [hy226]; exact H) | exact H
                                          have Ny226 := Aside0.mk hy226
                                          clear hy226
                                          by_cases c35 : x9_4.length + y226.length < 140737488355328
                                          · rw [if_pos c35] at H
                                            have LMc35 := Aside0.mk c35
                                            clear c35
                                            obtain ⟨y229, hy229⟩ : ∃ y_ : List Int, y_ = (x9_4 ++ y226) := ⟨_, rfl⟩
                                            replace H : (if 2 + a3.size ≤ 9223372036854775807 then (if ((⟨#[32, 59]⟩ : ByteArray) ++ a3).size + 2 ≤ 9223372036854775807 then (if y229.length + (((⟨#[32, 59]⟩ : ByteArray) ++ a3) ++ (⟨#[13, 10]⟩ : ByteArray)).size < 140737488355328 then ((some (y229 ++ bytesOf (((⟨#[32, 59]⟩ : ByteArray) ++ a3) ++ (⟨#[13, 10]⟩ : ByteArray)) : List Int)).bind fun y232 => (if y232.length + (rd_L5 l0 x36_2).length < 140737488355328 then ((some (y232 ++ (rd_L5 l0 x36_2) : List Int)).bind fun y235 => ((some (([13, 10] : List Int) : List Int)).bind fun y238 => (if y235.length + y238.length < 140737488355328 then (if x10_2.length + (rd_L5 l0 x36_2).length < 140737488355328 then (tollbarlaw06_ChunkSizes.l0 k4 a1 true a3 (y235 ++ y238) (x10_2 ++ (rd_L5 l0 x36_2)) l0 (l0.length : Int) (wrap64 (x36_2 + 1))) else (none)) else (none)))) else (none))) else (none)) else (none)) else (none)) = some r := by first | (rw [hy229]; with_reducible exact H) | (have H2_ := (Option.bind_some _ _).symm.trans H; rw [hy229]; with_reducible exact H2_) | (have H2_ := (Option.bind_some _ _).symm.trans H; with_reducible exact H2_) | with_reducible exact H | (rw [hy229]; exact H) | exact H
                                            have Ny229 := Aside0.mk hy229
                                            clear hy229
                                            by_cases c36 : 2 + a3.size ≤ 9223372036854775807
                                            · rw [if_pos c36] at H
                                              have c36b0 := eq_true c36
                                              have c36b1 : decide (2 + a3.size ≤ 9223372036854775807) = true := decide_eq_true c36
                                              try have c36b2 : (9223372036854775807 < 2 + a3.size) = False := eq_false (Nat.not_lt.2 c36)
                                              by_cases c37 : ((⟨#[32, 59]⟩ : ByteArray) ++ a3).size + 2 ≤ 9223372036854775807
                                              · rw [if_pos c37] at H
                                                have c37b0 := eq_true c37
                                                have c37b1 : decide (((⟨#[32, 59]⟩ : ByteArray) ++ a3).size + 2 ≤ 9223372036854775807) = true := decide_eq_true c37
                                                try have c37b2 : (9223372036854775807 < ((⟨#[32, 59]⟩ : ByteArray) ++ a3).size + 2) = False := eq_false (Nat.not_lt.2 c37)
                                                try (have c37b3 := c37b0; simp only [ByteArray.size_append] at c37b3; have c37b4 := c37b2; simp only [ByteArray.size_append] at c37b4)
                                                try have c37b5 : (9223372036854775807 < 2 + a3.size + 2) = False := eq_false (by have q_ := c37; simp only [ByteArray.size_append] at q_; have e0_ : (⟨#[32, 59]⟩ : ByteArray).size = 2 := rfl; omega)
                                                try have c37b6 : (2 + a3.size + 2 ≤ 9223372036854775807) = True := eq_true (by have q_ := c37; simp only [ByteArray.size_append] at q_; have e0_ : (⟨#[32, 59]⟩ : ByteArray).size = 2 := rfl; omega)
                                                by_cases c38 : y229.length + (((⟨#[32, 59]⟩ : ByteArray) ++ a3) ++ (⟨#[13, 10]⟩ : ByteArray)).size < 140737488355328
                                                · rw [if_pos c38] at H
                                                  have LMc38 := Aside0.mk c38
                                                  clear c38
                                                  obtain ⟨y232, hy232⟩ : ∃ y_ : List Int, y_ = (y229 ++ bytesOf (((⟨#[32, 59]⟩ : ByteArray) ++ a3) ++ (⟨#[13, 10]⟩ : ByteArray))) := ⟨_, rfl⟩
                                                  replace H : (if y232.length + (rd_L5 l0 x36_2).length < 140737488355328 then ((some (y232 ++ (rd_L5 l0 x36_2) : List Int)).bind fun y235 => ((some (([13, 10] : List Int) : List Int)).bind fun y238 => (if y235.length + y238.length < 140737488355328 then (if x10_2.length + (rd_L5 l0 x36_2).length < 140737488355328 then (tollbarlaw06_ChunkSizes.l0 k4 a1 true a3 (y235 ++ y238) (x10_2 ++ (rd_L5 l0 x36_2)) l0 (l0.length : Int) (wrap64 (x36_2 + 1))) else (none)) else (none)))) else (none)) = some r := by first | (rw [hy232]; with_reducible exact H) | (have H2_ := (Option.bind_some _ _).symm.trans H; rw [hy232]; with_reducible exact H2_) | (have H2_ := (Option.bind_some _ _).symm.trans H; with_reducible exact H2_) | with_reducible exact H | (rw [hy232]; exact H) | exact H
                                                  have Ny232 := Aside0.mk hy232
                                                  clear hy232
                                                  by_cases c39 : y232.length + (rd_L5 l0 x36_2).length < 140737488355328
                                                  · rw [if_pos c39] at H
                                                    have LMc39 := Aside0.mk c39
                                                    clear c39
                                                    obtain ⟨y235, hy235⟩ : ∃ y_ : List Int, y_ = (y232 ++ (rd_L5 l0 x36_2)) := ⟨_, rfl⟩
                                                    replace H : ((some (([13, 10] : List Int) : List Int)).bind fun y238 => (if y235.length + y238.length < 140737488355328 then (if x10_2.length + (rd_L5 l0 x36_2).length < 140737488355328 then (tollbarlaw06_ChunkSizes.l0 k4 a1 true a3 (y235 ++ y238) (x10_2 ++ (rd_L5 l0 x36_2)) l0 (l0.length : Int) (wrap64 (x36_2 + 1))) else (none)) else (none))) = some r := by first | (rw [hy235]; with_reducible exact H) | (have H2_ := (Option.bind_some _ _).symm.trans H; rw [hy235]; with_reducible exact H2_) | (have H2_ := (Option.bind_some _ _).symm.trans H; with_reducible exact H2_) | with_reducible exact H | (rw [hy235]; exact H) | exact H
                                                    have Ny235 := Aside0.mk hy235
                                                    clear hy235
                                                    obtain ⟨y238, hy238⟩ : ∃ y_ : List Int, y_ = (([13, 10] : List Int)) := ⟨_, rfl⟩
                                                    replace H : (if y235.length + y238.length < 140737488355328 then (if x10_2.length + (rd_L5 l0 x36_2).length < 140737488355328 then (tollbarlaw06_ChunkSizes.l0 k4 a1 true a3 (y235 ++ y238) (x10_2 ++ (rd_L5 l0 x36_2)) l0 (l0.length : Int) (wrap64 (x36_2 + 1))) else (none)) else (none)) = some r := by first | (rw [hy238]; with_reducible exact H) | (have H2_ := (Option.bind_some _ _).symm.trans H; rw [hy238]; with_reducible exact H2_) | (have H2_ := (Option.bind_some _ _).symm.trans H; with_reducible exact H2_) | with_reducible exact H | (rw [hy238]; exact H) | exact H
                                                    have Ny238 := Aside0.mk hy238
                                                    clear hy238
                                                    by_cases c40 : y235.length + y238.length < 140737488355328
                                                    · rw [if_pos c40] at H
                                                      have LMc40 := Aside0.mk c40
                                                      clear c40
                                                      obtain ⟨y241, hy241⟩ : ∃ y_ : List Int, y_ = (y235 ++ y238) := ⟨_, rfl⟩
                                                      replace H : (if x10_2.length + (rd_L5 l0 x36_2).length < 140737488355328 then (tollbarlaw06_ChunkSizes.l0 k4 a1 true a3 y241 (x10_2 ++ (rd_L5 l0 x36_2)) l0 (l0.length : Int) (wrap64 (x36_2 + 1))) else (none)) = some r := by first | (rw [hy241]; with_reducible exact H) | (have H2_ := (Option.bind_some _ _).symm.trans H; rw [hy241]; with_reducible exact H2_) | (have H2_ := (Option.bind_some _ _).symm.trans H; with_reducible exact H2_) | with_reducible exact H | (rw [hy241]; exact H) | exact H
                                                      have Ny241 := Aside0.mk hy241
                                                      clear hy241
                                                      by_cases c41 : x10_2.length + (rd_L5 l0 x36_2).length < 140737488355328
                                                      · rw [if_pos c41] at H
                                                        have LMc41 := Aside0.mk c41
                                                        clear c41
                                                        obtain ⟨y244, hy244⟩ : ∃ y_ : List Int, y_ = (x10_2 ++ (rd_L5 l0 x36_2)) := ⟨_, rfl⟩
                                                        replace H : (tollbarlaw06_ChunkSizes.l0 k4 a1 true a3 y241 y244 l0 (l0.length : Int) (wrap64 (x36_2 + 1))) = some r := by first | (rw [hy244]; with_reducible exact H) | (have H2_ := (Option.bind_some _ _).symm.trans H; rw [hy244]; with_reducible exact H2_) | (have H2_ := (Option.bind_some _ _).symm.trans H; with_reducible exact H2_) | with_reducible exact H | (rw [hy244]; exact H) | exact H
                                                        have Ny244 := Aside0.mk hy244
                                                        clear hy244
                                                        have H' := Aside0.mk H
                                                        clear H
                                                        try go_wp2
                                                        have n0_ := Aside0.mk (Kd.R_drew HO_9.out)
                                                        have n1_ := Aside0.mk (Kd.R_drew HO_10.out)
                                                        have n2_ := Aside0.mk (below_drew1 HB.out)
                                                        clear HO_9
                                                        clear HO_10
                                                        clear HB
                                                        have HO_9 := n0_
                                                        have HO_10 := n1_
                                                        have HB := n2_
                                                        clear n0_ n1_ n2_
                                                        have p30 : 0 ≤ ((ji27) : Int) := of_decide_eq_true (by first | (with_reducible assumption) | assumption)
                                                        have q30 : (ji27) < (16 : Int) := of_decide_eq_true (by first | (with_reducible assumption) | assumption)
                                                        have hx30 := bt_at (⟨#[48, 49, 50, 51, 52, 53, 54, 55, 56, 57, 65, 66, 67, 68, 69, 70]⟩ : ByteArray) (ji27)
                                                        replace p30 := eq_true p30
                                                        replace q30 := eq_true q30
                                                        have p34 : 0 ≤ ((ji31) : Int) := of_decide_eq_true (by first | (with_reducible assumption) | assumption)
                                                        have q34 : (ji31) < (16 : Int) := of_decide_eq_true (by first | (with_reducible assumption) | assumption)
                                                        have hx34 := bt_at (⟨#[48, 49, 50, 51, 52, 53, 54, 55, 56, 57, 65, 66, 67, 68, 69, 70]⟩ : ByteArray) (ji31)
                                                        replace p34 := eq_true p34
                                                        replace q34 := eq_true q34
                                                        refine start_ (n := 14) (S := fun w' => True) (ds := []) #[false, false, false, false, false, false, false, false, false, false, false, false, false, false] (by kernel_rfl) rfl rfl trivial (fun hHeld => ?_); refine with_tabW tollbarlaw06_ChunkSizes.tab19 tollbarlaw06_ChunkSizes.bits19 (fun HT_ HW_ => ?_)
                                                        generalize wr.drew = w42 at HO_9 HO_10 HB hHeld ⊢
                                                        refine pure_ (i := 0) (N := some 58) (v := ?_) (a' := ?_) #[true, false, false, false, false, false, false, false, false, false, false, false, false, false] rfl rfl (any_of HT_.out (by kernel_rfl)) (fun _ _ _ h => h) (Or.inl ⟨by rfl, ?_⟩) ?_ ?_
                                                        rotate_left
                                                        · intro w'
                                                          go_simp
                                                          with_reducible rfl
                                                        rotate_left
                                                        · simp only [Act.put, List.setIfInBounds_toArray, List.set_cons_zero, List.set_cons_succ, i64_w, i32_w]
                                                          rfl
                                                        refine pure_ (i := 1) (N := some 59) (v := ?_) (a' := ?_) #[true, true, false, false, false, false, false, false, false, false, false, false, false, false] rfl rfl (any_of HT_.out (by kernel_rfl)) (fun _ _ _ h => h) (Or.inl ⟨by rfl, ?_⟩) ?_ ?_
                                                        rotate_left
                                                        · intro w'
                                                          go_simp
                                                          with_reducible rfl
                                                        rotate_left
                                                        · simp only [Act.put, List.setIfInBounds_toArray, List.set_cons_zero, List.set_cons_succ, i64_w, i32_w]
                                                          rfl
                                                        refine pure_ (i := 2) (N := some 60) (v := ?_) (a' := ?_) #[true, true, true, false, false, false, false, false, false, false, false, false, false, false] rfl rfl (any_of HT_.out (by kernel_rfl)) (fun _ _ _ h => h) (Or.inl ⟨by rfl, ?_⟩) ?_ ?_
                                                        rotate_left
                                                        · intro w'
                                                          go_simp
                                                          with_reducible rfl
                                                        rotate_left
                                                        · simp only [Act.put, List.setIfInBounds_toArray, List.set_cons_zero, List.set_cons_succ, i64_w, i32_w]
                                                          rfl
                                                        refine pure_ (i := 3) (N := some 61) (v := ?_) (a' := ?_) #[true, true, true, true, false, false, false, false, false, false, false, false, false, false] rfl rfl (any_of HT_.out (by kernel_rfl)) (fun _ _ _ h => h) (Or.inl ⟨by rfl, ?_⟩) ?_ ?_
                                                        rotate_left
                                                        · intro w'
                                                          go_simp
                                                          with_reducible rfl
                                                        rotate_left
                                                        · simp only [Act.put, List.setIfInBounds_toArray, List.set_cons_zero, List.set_cons_succ, i64_w, i32_w]
                                                          rfl
                                                        refine pure_ (i := 4) (N := some 62) (v := ?_) (a' := ?_) #[true, true, true, true, true, false, false, false, false, false, false, false, false, false] rfl rfl (any_of HT_.out (by kernel_rfl)) (fun _ _ _ h => h) (Or.inl ⟨by rfl, ?_⟩) ?_ ?_
                                                        rotate_left
                                                        · intro w'
                                                          go_simp
                                                          with_reducible rfl
                                                        rotate_left
                                                        · simp only [Act.put, List.setIfInBounds_toArray, List.set_cons_zero, List.set_cons_succ, i64_w, i32_w]
                                                          rfl
                                                        refine pure_ (i := 6) (N := some 64) (v := ?_) (a' := ?_) #[true, true, true, true, true, false, true, false, false, false, false, false, false, false] rfl rfl (any_of HT_.out (by kernel_rfl)) (fun _ _ _ h => h) (Or.inl ⟨by rfl, ?_⟩) ?_ ?_
                                                        rotate_left
                                                        · intro w'
                                                          go_simp
                                                          with_reducible rfl
                                                        rotate_left
                                                        · simp only [Act.put, List.setIfInBounds_toArray, List.set_cons_zero, List.set_cons_succ, i64_w, i32_w]
                                                          rfl
                                                        refine pure_ (i := 7) (N := some 65) (v := ?_) (a' := ?_) #[true, true, true, true, true, false, true, true, false, false, false, false, false, false] rfl rfl (any_of HT_.out (by kernel_rfl)) (fun _ _ _ h => h) (Or.inl ⟨by rfl, ?_⟩) ?_ ?_
                                                        rotate_left
                                                        · intro w'
                                                          go_simp
                                                          with_reducible rfl
                                                        rotate_left
                                                        · simp only [Act.put, List.setIfInBounds_toArray, List.set_cons_zero, List.set_cons_succ, i64_w, i32_w]
                                                          rfl
                                                        refine pure_ (i := 8) (N := some 66) (v := ?_) (a' := ?_) #[true, true, true, true, true, false, true, true, true, false, false, false, false, false] rfl rfl (any_of HT_.out (by kernel_rfl)) (fun _ _ _ h => h) (Or.inl ⟨by rfl, ?_⟩) ?_ ?_
                                                        rotate_left
                                                        · intro w'
                                                          go_simp
                                                          with_reducible rfl
                                                        rotate_left
                                                        · simp only [Act.put, List.setIfInBounds_toArray, List.set_cons_zero, List.set_cons_succ, i64_w, i32_w]
                                                          rfl
                                                        refine pure_ (i := 9) (N := some 67) (v := ?_) (a' := ?_) #[true, true, true, true, true, false, true, true, true, true, false, false, false, false] rfl rfl (any_of HT_.out (by kernel_rfl)) (fun _ _ _ h => h) (Or.inl ⟨by rfl, ?_⟩) ?_ ?_
                                                        rotate_left
                                                        · intro w'
                                                          go_simp
                                                          with_reducible rfl
                                                        rotate_left
                                                        · simp only [Act.put, List.setIfInBounds_toArray, List.set_cons_zero, List.set_cons_succ, i64_w, i32_w]
                                                          rfl
                                                        refine take_ (i := 5) (N := some 63) (v := ?_) (a' := ?_) #[true, true, true, true, true, true, true, true, true, true, false, false, false, false] rfl rfl (take_ofW HT_.out HW_.out (by kernel_rfl)) (fun _ _ _ h => h) (Or.inl ⟨by rfl, ?_⟩) hHeld ?_ ?_
                                                        rotate_left
                                                        · intro w' _
                                                          go_simp
                                                          with_reducible rfl
                                                        rotate_left
                                                        · simp only [Act.put, List.setIfInBounds_toArray, List.set_cons_zero, List.set_cons_succ, i64_w, i32_w]
                                                          rfl
                                                        refine take_ (i := 10) (N := some 68) (v := ?_) (a' := ?_) #[true, true, true, true, true, true, true, true, true, true, true, false, false, false] rfl rfl (take_ofW HT_.out HW_.out (by kernel_rfl)) (fun _ _ _ h => h) (Or.inl ⟨by rfl, ?_⟩) hHeld ?_ ?_
                                                        rotate_left
                                                        · intro w' _
                                                          go_simp
                                                          with_reducible rfl
                                                        rotate_left
                                                        · simp only [Act.put, List.setIfInBounds_toArray, List.set_cons_zero, List.set_cons_succ, i64_w, i32_w]
                                                          rfl
                                                        refine one_ (i := 11) (N := some 69) #[true, true, true, true, true, true, true, true, true, true, true, true, false, false] rfl rfl (one_of HT_.out (by kernel_rfl)) (by decide) (fun K hK => ?_)
                                                        refine Kd.R_lit_step (Kd.int .u8) _ 5 ?hg (N := 69) ?hd (xs := ([bt (⟨#[48, 49, 50, 51, 52, 53, 54, 55, 56, 57, 65, 66, 67, 68, 69, 70]⟩ : ByteArray) (ji27), bt (⟨#[48, 49, 50, 51, 52, 53, 54, 55, 56, 57, 65, 66, 67, 68, 69, 70]⟩ : ByteArray) (ji31)] : List Int)) (inner := [.int .u8 (bt (⟨#[48, 49, 50, 51, 52, 53, 54, 55, 56, 57, 65, 66, 67, 68, 69, 70]⟩ : ByteArray) (ji27)), .int .u8 (bt (⟨#[48, 49, 50, 51, 52, 53, 54, 55, 56, 57, 65, 66, 67, 68, 69, 70]⟩ : ByteArray) (ji31))]) (ok := fun _ => True) (okp := fun _ => True) ?hr ?hp (fun _ hk => hk) trivial (Below.refl _ _) (Nat.le_refl _) (by simp) ?_; (case hd => rfl); (case hg => rfl); (case hr => first | (go_simp; done) | (go_simp; rfl)); (case hp => exact (Reps.one (show Kd.M (Kd.int .u8) _ _ _ (bt (⟨#[48, 49, 50, 51, 52, 53, 54, 55, 56, 57, 65, 66, 67, 68, 69, 70]⟩ : ByteArray) (ji27)) [.int .u8 (bt (⟨#[48, 49, 50, 51, 52, 53, 54, 55, 56, 57, 65, 66, 67, 68, 69, 70]⟩ : ByteArray) (ji27))] from rfl) (Reps.one (show Kd.M (Kd.int .u8) _ _ _ (bt (⟨#[48, 49, 50, 51, 52, 53, 54, 55, 56, 57, 65, 66, 67, 68, 69, 70]⟩ : ByteArray) (ji31)) [.int .u8 (bt (⟨#[48, 49, 50, 51, 52, 53, 54, 55, 56, 57, 65, 66, 67, 68, 69, 70]⟩ : ByteArray) (ji31))] from rfl) (Reps.none _ _))))
                                                        intro v227 w43 ho44 hb hg_ hnew_
                                                        clear hg_ hnew_
                                                        (first | rw [← Ny226.out] at ho44 | (simp only [Int.reduceToNat] at ho44; rw [← Ny226.out] at ho44))
                                                        have n0_ := Aside0.mk (Kd.R_elder' (by (with_reducible repeat (first | apply Kd.R_alloc | apply Kd.R_drewN | apply Kd.R_drew)); exact HO_9.out) (Kd.R_base ho44) hb)
                                                        have n1_ := Aside0.mk (Kd.R_elder' (by (with_reducible repeat (first | apply Kd.R_alloc | apply Kd.R_drewN | apply Kd.R_drew)); exact HO_10.out) (Kd.R_base ho44) hb)
                                                        have n2_ := Aside0.mk (Kd.R_lower (Kd.R_new' (Kd.R_new' ho44 (Kd.R_lt (by (with_reducible repeat (first | apply Kd.R_alloc | apply Kd.R_drewN | apply Kd.R_drew)); exact HO_9.out))) (Kd.R_lt (by (with_reducible repeat (first | apply Kd.R_alloc | apply Kd.R_drewN | apply Kd.R_drew)); exact HO_10.out))) (below_size (by repeat (first | (with_reducible first | exact HB.out | apply below_alloc | apply pw_below_drewN | apply below_drew1) | exact HB.out))))
                                                        have n3_ := Aside0.mk (below_step (by repeat (first | (with_reducible first | exact HB.out | apply below_alloc | apply pw_below_drewN | apply below_drew1) | exact HB.out)) hb)
                                                        clear HO_9
                                                        clear HO_10
                                                        clear HB
                                                        have HO_9 := n0_
                                                        have HO_10 := n1_
                                                        have HO228 := n2_
                                                        have HB := n3_
                                                        clear n0_ n1_ n2_ n3_
                                                        clear hb ho44
                                                        obtain ⟨Ao46, co46, eo46⟩ := Kd.R_slice HO228.out
                                                        (first | subst eo46 | (injection eo46 with f1_ f2_ f3_; have f4_ := f1_.symm; have f5_ := f3_.symm; clear f1_ f2_ f3_; subst f4_; subst f5_))
                                                        refine hK.out _ _ trivial (fun hHeld => ?_)
                                                        clear hK K
                                                        refine norm_ (a' := ?_) ?_ ?_
                                                        rotate_left
                                                        · show Act.put _ (some 69) _ = _
                                                          simp only [Act.put, List.setIfInBounds_toArray, List.set_cons_zero, List.set_cons_succ, i64_w, i32_w]
                                                          rfl
                                                        refine one_ (i := 12) (N := some 70) #[true, true, true, true, true, true, true, true, true, true, true, true, true, false] rfl rfl (one_of HT_.out (by kernel_rfl)) (by decide) (fun K hK => ?_)
                                                        refine Kd.R_append_rows_step (Kd.int .u8) (w0 := w) w.heap.size (by rfl) (.tmp 58) (.tmp 69) 25 5 (.int .u8 0) 1 rfl Tryd.underlying25 info5 rfl (by decide) (by omega) u9 x9_4 y226 _ _ _ (fun k_ => some k_ ≠ (u10 : Value).ownBlock ∧ some k_ ≠ (.slice Ao46 y226.length co46 : Value).ownBlock) (fun _ => False) rfl rfl ?aO ?aR (fun _ _ h => h) (fun _ h => h.elim) ?aF ?aB ?aS ?aL ?_
                                                        (case aR => repeat (first | exact (Kd.R_reads' HO228.out).2.2 | (with_reducible refine Kd.C_alloc ?_ _) | (with_reducible refine Kd.C_drewN ?_ _) | (with_reducible refine Kd.C_drew ?_)))
                                                        (case aB => exact (by repeat (first | (with_reducible first | exact HB.out | apply below_alloc | apply pw_below_drewN | apply below_drew1) | exact HB.out)))
                                                        (case aF => exact (fun k_ hk => ⟨Kd.fresh' (Kd.R_lt (by (with_reducible repeat (first | apply Kd.R_alloc | apply Kd.R_drewN | apply Kd.R_drew)); exact HO_10.out)) k_ hk, Kd.fresh' (Kd.R_lt (by (with_reducible repeat (first | apply Kd.R_alloc | apply Kd.R_drewN | apply Kd.R_drew)); exact HO228.out)) k_ hk⟩))
                                                        (case aO => exact (by (with_reducible repeat (first | apply Kd.R_alloc | apply Kd.R_drewN | apply Kd.R_drew)); exact HO_9.out))
                                                        (case aS => exact (below_size (by repeat (first | (with_reducible first | exact HB.out | apply below_alloc | apply pw_below_drewN | apply below_drew1) | exact HB.out))))
                                                        (case aL => have := LMc35.out; omega)
                                                        intro v230 w45 ho hb hg hat
                                                        rw [← Ny229.out] at ho
                                                        have n0_ := Aside0.mk (Kd.R_after (ok := (fun k_ => some k_ ≠ (.slice Ao46 y226.length co46 : Value).ownBlock)) (by (with_reducible repeat (first | apply Kd.R_alloc | apply Kd.R_drewN | apply Kd.R_drew)); exact Kd.R_mono HO_10.out (fun _ hk => ⟨hk.2, hk.1⟩)) hg hat)
                                                        have n1_ := Aside0.mk (Kd.R_after (ok := (fun k_ => some k_ ≠ (u10 : Value).ownBlock)) (by (with_reducible repeat (first | apply Kd.R_alloc | apply Kd.R_drewN | apply Kd.R_drew)); exact Kd.R_mono HO228.out (fun _ hk => ⟨hk.2, hk.1.2⟩)) hg hat)
                                                        have n2_ := Aside0.mk (hb)
                                                        have n3_ := Aside0.mk (ho)
                                                        clear HO_10
                                                        clear HO228
                                                        clear HB
                                                        clear HO_9
                                                        have HO_10 := n0_
                                                        have HO228 := n1_
                                                        have HB := n2_
                                                        have HO231 := n3_
                                                        clear n0_ n1_ n2_ n3_
                                                        clear ho hb hg hat
                                                        refine hK.out _ _ trivial (fun hHeld => ?_)
                                                        clear hK K
                                                        refine norm_ (a' := ?_) ?_ ?_
                                                        rotate_left
                                                        · show Act.put _ (some 70) _ = _
                                                          simp only [Act.put, List.setIfInBounds_toArray, List.set_cons_zero, List.set_cons_succ, i64_w, i32_w]
                                                          rfl
                                                        refine pure_ (i := 13) (N := some 9) (v := ?_) (a' := ?_) #[true, true, true, true, true, true, true, true, true, true, true, true, true, true] rfl rfl (any_of HT_.out (by kernel_rfl)) (fun _ _ _ h => h) (Or.inl ⟨by rfl, ?_⟩) ?_ ?_
                                                        rotate_left
                                                        · intro w'
                                                          go_simp
                                                          with_reducible rfl
                                                        rotate_left
                                                        · simp only [Act.put, List.setIfInBounds_toArray, List.set_cons_zero, List.set_cons_succ, i64_w, i32_w]
                                                          rfl
                                                        refine done_ (done_of HT_.out (by kernel_rfl)) ?_
                                                        try go_wp2_with (first | (at_builtin; refine Kd.R_append_str (w0 := w) w.heap.size rfl (.tmp 71) _ 25 9 5 rfl Tryd.underlying25 Tryd.underlying9 info5 v230 y229 (((⟨#[32, 59]⟩ : ByteArray) ++ a3) ++ (⟨#[13, 10]⟩ : ByteArray)) (fun k_ => some k_ ≠ (u10 : Value).ownBlock ∧ some k_ ≠ (.slice Ao46 y226.length co46 : Value).ownBlock) rfl rfl ?aF ?aO ?aB ?aS ?aL ?_; (case aB => exact (by repeat (first | (with_reducible first | exact HB.out | apply below_alloc | apply pw_below_drewN | apply below_drew1) | exact HB.out))); (case aF => exact (fun k_ hk => ⟨Kd.fresh' (Kd.R_lt (by (with_reducible repeat (first | apply Kd.R_alloc | apply Kd.R_drewN | apply Kd.R_drew)); exact HO_10.out)) k_ hk, Kd.fresh' (Kd.R_lt (by (with_reducible repeat (first | apply Kd.R_alloc | apply Kd.R_drewN | apply Kd.R_drew)); exact HO228.out)) k_ hk⟩)); (case aO => exact (by (with_reducible repeat (first | apply Kd.R_alloc | apply Kd.R_drewN | apply Kd.R_drew)); exact HO231.out)); (case aS => exact (below_size (by repeat (first | (with_reducible first | exact HB.out | apply below_alloc | apply pw_below_drewN | apply below_drew1) | exact HB.out)))); (case aL => have := LMc38.out; omega); intro v233 w47 ho hb hg hat; rw [← Ny232.out] at ho; have n0_ := Aside0.mk (Kd.R_after (ok := (fun k_ => some k_ ≠ (.slice Ao46 y226.length co46 : Value).ownBlock)) (by (with_reducible repeat (first | apply Kd.R_alloc | apply Kd.R_drewN | apply Kd.R_drew)); exact HO_10.out) hg hat); have n1_ := Aside0.mk (Kd.R_after (ok := (fun k_ => some k_ ≠ (u10 : Value).ownBlock)) (by (with_reducible repeat (first | apply Kd.R_alloc | apply Kd.R_drewN | apply Kd.R_drew)); exact HO228.out) hg hat); have n2_ := Aside0.mk (hb); have n3_ := Aside0.mk (ho); clear HO_10; clear HO228; clear HB; clear HO231; have HO_10 := n0_; have HO228 := n1_; have HB := n2_; have HO234 := n3_; clear n0_ n1_ n2_ n3_; clear ho hb hg hat) | ((with_reducible refine gate_builtin (b := .append) (xs := #[.tmp 76, .tmp 77]) rfl ?_); (try (refine gate_guard (by rfl) ?_; dsimp only)); at_builtin; refine Kd.R_append_rows (Kd.int .u8) (w0 := w) w.heap.size rfl (.tmp 76) (.tmp 77) 25 5 (.int .u8 0) 1 rfl Tryd.underlying25 info5 rfl (by decide) (by omega) v233 y232 (rd_L5 l0 x36_2) _ _ _ (fun k_ => some k_ ≠ (u10 : Value).ownBlock ∧ some k_ ≠ (.slice Ao46 y226.length co46 : Value).ownBlock) (fun _ => False) rfl rfl ?aO ?aR (fun _ _ h => h) (fun _ h => h.elim) ?aF ?aB ?aS ?aL ?_; (case aR => repeat (first | exact (Kd.C_below HR222_0.out HB.out) | (with_reducible refine Kd.C_alloc ?_ _) | (with_reducible refine Kd.C_drewN ?_ _) | (with_reducible refine Kd.C_drew ?_))); (case aB => exact (by repeat (first | (with_reducible first | exact HB.out | apply below_alloc | apply pw_below_drewN | apply below_drew1) | exact HB.out))); (case aF => exact (fun k_ hk => ⟨Kd.fresh' (Kd.R_lt (by (with_reducible repeat (first | apply Kd.R_alloc | apply Kd.R_drewN | apply Kd.R_drew)); exact HO_10.out)) k_ hk, Kd.fresh' (Kd.R_lt (by (with_reducible repeat (first | apply Kd.R_alloc | apply Kd.R_drewN | apply Kd.R_drew)); exact HO228.out)) k_ hk⟩)); (case aO => exact (by (with_reducible repeat (first | apply Kd.R_alloc | apply Kd.R_drewN | apply Kd.R_drew)); exact HO234.out)); (case aS => exact (below_size (by repeat (first | (with_reducible first | exact HB.out | apply below_alloc | apply pw_below_drewN | apply below_drew1) | exact HB.out)))); (case aL => have := LMc39.out; omega); intro v236 w48 ho hb hg hat; rw [← Ny235.out] at ho; have n0_ := Aside0.mk (Kd.R_after (ok := (fun k_ => some k_ ≠ (.slice Ao46 y226.length co46 : Value).ownBlock)) (by (with_reducible repeat (first | apply Kd.R_alloc | apply Kd.R_drewN | apply Kd.R_drew)); exact HO_10.out) hg hat); have n1_ := Aside0.mk (Kd.R_after (ok := (fun k_ => some k_ ≠ (u10 : Value).ownBlock)) (by (with_reducible repeat (first | apply Kd.R_alloc | apply Kd.R_drewN | apply Kd.R_drew)); exact HO228.out) hg hat); have n2_ := Aside0.mk (hb); have n3_ := Aside0.mk (ho); clear HO_10; clear HO228; clear HB; clear HO234; have HO_10 := n0_; have HO228 := n1_; have HB := n2_; have HO237 := n3_; clear n0_ n1_ n2_ n3_; clear ho hb hg hat) | ((with_reducible refine gate_dst (N := 79) rfl ?_); (try (refine gate_guard (by rfl) ?_; dsimp only)); refine Kd.R_lit (Kd.int .u8) _ 5 ?hg (N := 79) ?hd (xs := ([13, 10] : List Int)) (inner := [.int .u8 13, .int .u8 10]) (ok := fun _ => True) (okp := fun _ => True) ?hr ?hp (fun _ hk => hk) trivial (Below.refl _ _) (Nat.le_refl _) (by simp) ?_; (case hd => rfl); (case hg => rfl); (case hr => first | (go_simp; done) | (go_simp; rfl)); (case hp => exact (Reps.one (show Kd.M (Kd.int .u8) _ _ _ 13 [.int .u8 13] from rfl) (Reps.one (show Kd.M (Kd.int .u8) _ _ _ 10 [.int .u8 10] from rfl) (Reps.none _ _)))); intro v239 w49 ho50 hb hg_ hnew_; clear hg_ hnew_; (first | rw [← Ny238.out] at ho50 | (simp only [Int.reduceToNat] at ho50; rw [← Ny238.out] at ho50)); have n0_ := Aside0.mk (Kd.R_elder' (by (with_reducible repeat (first | apply Kd.R_alloc | apply Kd.R_drewN | apply Kd.R_drew)); exact HO_10.out) (Kd.R_base ho50) hb); have n1_ := Aside0.mk (Kd.R_elder' (by (with_reducible repeat (first | apply Kd.R_alloc | apply Kd.R_drewN | apply Kd.R_drew)); exact HO228.out) (Kd.R_base ho50) hb); have n2_ := Aside0.mk (Kd.R_elder' (by (with_reducible repeat (first | apply Kd.R_alloc | apply Kd.R_drewN | apply Kd.R_drew)); exact HO237.out) (Kd.R_base ho50) hb); have n3_ := Aside0.mk (Kd.R_lower (Kd.R_new' (Kd.R_new' (Kd.R_new' ho50 (Kd.R_lt (by (with_reducible repeat (first | apply Kd.R_alloc | apply Kd.R_drewN | apply Kd.R_drew)); exact HO_10.out))) (Kd.R_lt (by (with_reducible repeat (first | apply Kd.R_alloc | apply Kd.R_drewN | apply Kd.R_drew)); exact HO228.out))) (Kd.R_lt (by (with_reducible repeat (first | apply Kd.R_alloc | apply Kd.R_drewN | apply Kd.R_drew)); exact HO237.out))) (below_size (by repeat (first | (with_reducible first | exact HB.out | apply below_alloc | apply pw_below_drewN | apply below_drew1) | exact HB.out)))); have n4_ := Aside0.mk (below_step (by repeat (first | (with_reducible first | exact HB.out | apply below_alloc | apply pw_below_drewN | apply below_drew1) | exact HB.out)) hb); clear HO_10; clear HO228; clear HO237; clear HB; have HO_10 := n0_; have HO228 := n1_; have HO237 := n2_; have HO240 := n3_; have HB := n4_; clear n0_ n1_ n2_ n3_ n4_; clear hb ho50; obtain ⟨Ao52, co52, eo52⟩ := Kd.R_slice HO240.out; subst eo52) | ((with_reducible refine gate_builtin (b := .append) (xs := #[.tmp 78, .tmp 79]) rfl ?_); (try (refine gate_guard (by rfl) ?_; dsimp only)); at_builtin; refine Kd.R_append_rows (Kd.int .u8) (w0 := w) w.heap.size rfl (.tmp 78) (.tmp 79) 25 5 (.int .u8 0) 1 rfl Tryd.underlying25 info5 rfl (by decide) (by omega) v236 y235 y238 _ _ _ (fun k_ => some k_ ≠ (u10 : Value).ownBlock ∧ some k_ ≠ (.slice Ao46 y226.length co46 : Value).ownBlock ∧ some k_ ≠ (.slice Ao52 y238.length co52 : Value).ownBlock) (fun _ => False) rfl rfl ?aO ?aR (fun _ _ h => h) (fun _ h => h.elim) ?aF ?aB ?aS ?aL ?_; (case aR => repeat (first | exact (Kd.R_reads' HO240.out).2.2 | (with_reducible refine Kd.C_alloc ?_ _) | (with_reducible refine Kd.C_drewN ?_ _) | (with_reducible refine Kd.C_drew ?_))); (case aB => exact (by repeat (first | (with_reducible first | exact HB.out | apply below_alloc | apply pw_below_drewN | apply below_drew1) | exact HB.out))); (case aF => exact (fun k_ hk => ⟨Kd.fresh' (Kd.R_lt (by (with_reducible repeat (first | apply Kd.R_alloc | apply Kd.R_drewN | apply Kd.R_drew)); exact HO_10.out)) k_ hk, Kd.fresh' (Kd.R_lt (by (with_reducible repeat (first | apply Kd.R_alloc | apply Kd.R_drewN | apply Kd.R_drew)); exact HO228.out)) k_ hk, Kd.fresh' (Kd.R_lt (by (with_reducible repeat (first | apply Kd.R_alloc | apply Kd.R_drewN | apply Kd.R_drew)); exact HO240.out)) k_ hk⟩)); (case aO => exact (by (with_reducible repeat (first | apply Kd.R_alloc | apply Kd.R_drewN | apply Kd.R_drew)); exact Kd.R_mono HO237.out (fun _ hk => ⟨hk.1.1, ⟨hk.1.2, hk.2⟩⟩))); (case aS => exact (below_size (by repeat (first | (with_reducible first | exact HB.out | apply below_alloc | apply pw_below_drewN | apply below_drew1) | exact HB.out)))); (case aL => have := LMc40.out; omega); intro v242 w51 ho hb hg hat; rw [← Ny241.out] at ho; have n0_ := Aside0.mk (Kd.R_after (ok := (fun k_ => some k_ ≠ (.slice Ao46 y226.length co46 : Value).ownBlock ∧ some k_ ≠ (.slice Ao52 y238.length co52 : Value).ownBlock)) (by (with_reducible repeat (first | apply Kd.R_alloc | apply Kd.R_drewN | apply Kd.R_drew)); exact Kd.R_mono HO_10.out (fun _ hk => ⟨⟨hk.1.1, hk.2⟩, hk.1.2⟩)) hg hat); have n1_ := Aside0.mk (Kd.R_after (ok := (fun k_ => some k_ ≠ (u10 : Value).ownBlock ∧ some k_ ≠ (.slice Ao52 y238.length co52 : Value).ownBlock)) (by (with_reducible repeat (first | apply Kd.R_alloc | apply Kd.R_drewN | apply Kd.R_drew)); exact Kd.R_mono HO228.out (fun _ hk => ⟨⟨hk.1.1, hk.2⟩, hk.1.2⟩)) hg hat); have n2_ := Aside0.mk (Kd.R_after (ok := (fun k_ => some k_ ≠ (u10 : Value).ownBlock ∧ some k_ ≠ (.slice Ao46 y226.length co46 : Value).ownBlock)) (by (with_reducible repeat (first | apply Kd.R_alloc | apply Kd.R_drewN | apply Kd.R_drew)); exact Kd.R_mono HO240.out (fun _ hk => ⟨⟨hk.1.1.2, hk.1.2⟩, hk.2⟩)) hg hat); have n3_ := Aside0.mk (hb); have n4_ := Aside0.mk (ho); clear HO_10; clear HO228; clear HO240; clear HB; clear HO237; have HO_10 := n0_; have HO228 := n1_; have HO240 := n2_; have HB := n3_; have HO243 := n4_; clear n0_ n1_ n2_ n3_ n4_; clear ho hb hg hat) | ((with_reducible refine gate_builtin (b := .append) (xs := #[.tmp 81, .tmp 82]) rfl ?_); (try (refine gate_guard (by rfl) ?_; dsimp only)); at_builtin; refine Kd.R_append_rows (Kd.int .u8) (w0 := w) w.heap.size rfl (.tmp 81) (.tmp 82) 25 5 (.int .u8 0) 1 rfl Tryd.underlying25 info5 rfl (by decide) (by omega) u10 x10_2 (rd_L5 l0 x36_2) _ _ _ (fun k_ => some k_ ≠ (.slice Ao46 y226.length co46 : Value).ownBlock ∧ some k_ ≠ (.slice Ao52 y238.length co52 : Value).ownBlock ∧ some k_ ≠ (v242 : Value).ownBlock) (fun _ => False) rfl rfl ?aO ?aR (fun _ _ h => h) (fun _ h => h.elim) ?aF ?aB ?aS ?aL ?_; (case aR => repeat (first | exact (Kd.C_below HR222_0.out HB.out) | (with_reducible refine Kd.C_alloc ?_ _) | (with_reducible refine Kd.C_drewN ?_ _) | (with_reducible refine Kd.C_drew ?_))); (case aB => exact (by repeat (first | (with_reducible first | exact HB.out | apply below_alloc | apply pw_below_drewN | apply below_drew1) | exact HB.out))); (case aF => exact (fun k_ hk => ⟨Kd.fresh' (Kd.R_lt (by (with_reducible repeat (first | apply Kd.R_alloc | apply Kd.R_drewN | apply Kd.R_drew)); exact HO228.out)) k_ hk, Kd.fresh' (Kd.R_lt (by (with_reducible repeat (first | apply Kd.R_alloc | apply Kd.R_drewN | apply Kd.R_drew)); exact HO240.out)) k_ hk, Kd.fresh' (Kd.R_lt (by (with_reducible repeat (first | apply Kd.R_alloc | apply Kd.R_drewN | apply Kd.R_drew)); exact HO243.out)) k_ hk⟩)); (case aO => exact (by (with_reducible repeat (first | apply Kd.R_alloc | apply Kd.R_drewN | apply Kd.R_drew)); exact Kd.R_mono HO_10.out (fun _ hk => ⟨hk.1.1, ⟨hk.1.2, hk.2⟩⟩))); (case aS => exact (below_size (by repeat (first | (with_reducible first | exact HB.out | apply below_alloc | apply pw_below_drewN | apply below_drew1) | exact HB.out)))); (case aL => have := LMc41.out; omega); intro v245 w53 ho hb hg hat; rw [← Ny244.out] at ho; have n0_ := Aside0.mk (Kd.R_after (ok := (fun k_ => some k_ ≠ (.slice Ao52 y238.length co52 : Value).ownBlock ∧ some k_ ≠ (v242 : Value).ownBlock)) (by (with_reducible repeat (first | apply Kd.R_alloc | apply Kd.R_drewN | apply Kd.R_drew)); exact Kd.R_mono HO228.out (fun _ hk => ⟨⟨hk.1.2, hk.2⟩, hk.1.1⟩)) hg hat); have n1_ := Aside0.mk (Kd.R_after (ok := (fun k_ => some k_ ≠ (.slice Ao46 y226.length co46 : Value).ownBlock ∧ some k_ ≠ (v242 : Value).ownBlock)) (by (with_reducible repeat (first | apply Kd.R_alloc | apply Kd.R_drewN | apply Kd.R_drew)); exact Kd.R_mono HO240.out (fun _ hk => ⟨⟨hk.1.2, hk.2⟩, hk.1.1⟩)) hg hat); have n2_ := Aside0.mk (Kd.R_after (ok := (fun k_ => some k_ ≠ (.slice Ao46 y226.length co46 : Value).ownBlock ∧ some k_ ≠ (.slice Ao52 y238.length co52 : Value).ownBlock)) (by (with_reducible repeat (first | apply Kd.R_alloc | apply Kd.R_drewN | apply Kd.R_drew)); exact Kd.R_mono HO243.out (fun _ hk => ⟨⟨hk.2.1, hk.2.2⟩, hk.1⟩)) hg hat); have n3_ := Aside0.mk (hb); have n4_ := Aside0.mk (ho); clear HO228; clear HO240; clear HO243; clear HB; clear HO_10; have HO228 := n0_; have HO240 := n1_; have HO243 := n2_; have HB := n3_; have HO246 := n4_; clear n0_ n1_ n2_ n3_ n4_; clear ho hb hg hat))
                                                        go_roundg k4
                                                        case measure => have := HJ6.out; have := HK2.out; have := HJ19.out; have := HK4.out; omega
                                                        case rel => exact ⟨(y241), (y244), (wrap64 (x36_2 + 1)), (by first | rfl | (simp; done) | (simp [*]; done)), H', ⟨by have := HJ6.out; have := HK2.out; have := HJ19.out; have := HK4.out; omega⟩, ⟨by (with_reducible repeat (first | apply Kd.R_alloc | apply Kd.R_drewN | apply Kd.R_drew)); exact Kd.R_mono HO243.out (fun _ hk => hk.2)⟩, ⟨by (with_reducible repeat (first | apply Kd.R_alloc | apply Kd.R_drewN | apply Kd.R_drew)); exact Kd.R_mono HO246.out (fun _ hk => hk.2.2)⟩, ⟨by repeat (first | (with_reducible first | exact HB.out | apply below_alloc | apply pw_below_drewN | apply below_drew1) | exact HB.out)⟩⟩
                                                      · rw [if_neg c41] at H
                                                        exact absurd H (by simp)
                                                    · rw [if_neg c40] at H
                                                      exact absurd H (by simp)
                                                  · rw [if_neg c39] at H
                                                    exact absurd H (by simp)
                                                · rw [if_neg c38] at H
                                                  exact absurd H (by simp)
                                              · rw [if_neg c37] at H
                                                exact absurd H (by simp)
                                            · rw [if_neg c36] at H
                                              exact absurd H (by simp)
                                          · rw [if_neg c35] at H
                                            exact absurd H (by simp)
                                        · rw [if_neg c33] at H
                                          exact absurd H (by simp)
                                      · rw [if_neg c32] at H
                                        exact absurd H (by simp)
                                    · rw [if_neg c29] at H
                                      exact absurd H (by simp)
                                  · rw [if_neg c28] at H
                                    exact absurd H (by simp)
                                · replace c26 := Bool.eq_false_iff.mpr c26
                                  subst c26
                                  have H1 : (if 0 ≤ (wrap64 (((rd_L5 l0 x36_2).length : Int) / 16)) then (if (wrap64 (((rd_L5 l0 x36_2).length : Int) / 16)) < 16 then (if 0 ≤ (((rd_L5 l0 x36_2).length : Int) % 16) then (if (((rd_L5 l0 x36_2).length : Int) % 16) < 16 then ((some (([bt (⟨#[48, 49, 50, 51, 52, 53, 54, 55, 56, 57, 97, 98, 99, 100, 101, 102]⟩ : ByteArray) (wrap64 (((rd_L5 l0 x36_2).length : Int) / 16)), bt (⟨#[48, 49, 50, 51, 52, 53, 54, 55, 56, 57, 97, 98, 99, 100, 101, 102]⟩ : ByteArray) (((rd_L5 l0 x36_2).length : Int) % 16)] : List Int) : List Int)).bind fun y247 => (if x9_4.length + y247.length < 140737488355328 then ((some (x9_4 ++ y247 : List Int)).bind fun y250 => (if 2 + a3.size ≤ 9223372036854775807 then (if ((⟨#[32, 59]⟩ : ByteArray) ++ a3).size + 2 ≤ 9223372036854775807 then (if y250.length + (((⟨#[32, 59]⟩ : ByteArray) ++ a3) ++ (⟨#[13, 10]⟩ : ByteArray)).size < 140737488355328 then ((some (y250 ++ bytesOf (((⟨#[32, 59]⟩ : ByteArray) ++ a3) ++ (⟨#[13, 10]⟩ : ByteArray)) : List Int)).bind fun y253 => (if y253.length + (rd_L5 l0 x36_2).length < 140737488355328 then ((some (y253 ++ (rd_L5 l0 x36_2) : List Int)).bind fun y256 => ((some (([13, 10] : List Int) : List Int)).bind fun y259 => (if y256.length + y259.length < 140737488355328 then (if x10_2.length + (rd_L5 l0 x36_2).length < 140737488355328 then (tollbarlaw06_ChunkSizes.l0 k4 a1 false a3 (y256 ++ y259) (x10_2 ++ (rd_L5 l0 x36_2)) l0 (l0.length : Int) (wrap64 (x36_2 + 1))) else (none)) else (none)))) else (none))) else (none)) else (none)) else (none))) else (none))) else (none)) else (none)) else (none)) else (none)) = some r := by rw [if_neg (show ¬ (false = true) by decide)] at H; exact H
                                  clear H
                                  have H := H1
                                  clear H1
                                  obtain ⟨ji54, hji54⟩ : ∃ j_ : Int, (wrap64 (((rd_L5 l0 x36_2).length : Int) / 16)) = j_ := ⟨_, rfl⟩
                                  replace H : (if 0 ≤ (ji54) then (if (ji54) < 16 then (if 0 ≤ (((rd_L5 l0 x36_2).length : Int) % 16) then (if (((rd_L5 l0 x36_2).length : Int) % 16) < 16 then ((some (([bt (⟨#[48, 49, 50, 51, 52, 53, 54, 55, 56, 57, 97, 98, 99, 100, 101, 102]⟩ : ByteArray) (ji54), bt (⟨#[48, 49, 50, 51, 52, 53, 54, 55, 56, 57, 97, 98, 99, 100, 101, 102]⟩ : ByteArray) (((rd_L5 l0 x36_2).length : Int) % 16)] : List Int) : List Int)).bind fun y247 => (if x9_4.length + y247.length < 140737488355328 then ((some (x9_4 ++ y247 : List Int)).bind fun y250 => (if 2 + a3.size ≤ 9223372036854775807 then (if ((⟨#[32, 59]⟩ : ByteArray) ++ a3).size + 2 ≤ 9223372036854775807 then (if y250.length + (((⟨#[32, 59]⟩ : ByteArray) ++ a3) ++ (⟨#[13, 10]⟩ : ByteArray)).size < 140737488355328 then ((some (y250 ++ bytesOf (((⟨#[32, 59]⟩ : ByteArray) ++ a3) ++ (⟨#[13, 10]⟩ : ByteArray)) : List Int)).bind fun y253 => (if y253.length + (rd_L5 l0 x36_2).length < 140737488355328 then ((some (y253 ++ (rd_L5 l0 x36_2) : List Int)).bind fun y256 => ((some (([13, 10] : List Int) : List Int)).bind fun y259 => (if y256.length + y259.length < 140737488355328 then (if x10_2.length + (rd_L5 l0 x36_2).length < 140737488355328 then (tollbarlaw06_ChunkSizes.l0 k4 a1 false a3 (y256 ++ y259) (x10_2 ++ (rd_L5 l0 x36_2)) l0 (l0.length : Int) (wrap64 (x36_2 + 1))) else (none)) else (none)))) else (none))) else (none)) else (none)) else (none))) else (none))) else (none)) else (none)) else (none)) else (none)) = some r := by first | (rw [hji54] at H; exact H) | (simp only [hji54] at H ⊢; exact H)
                                  have hji54w : (IntKind.i64.wrap (((rd_L5 l0 x36_2).length : Int) / 16)) = ji54 := (i64_w _).trans hji54
                                  by_cases c55 : 0 ≤ (ji54)
                                  · rw [if_pos c55] at H
                                    have c55b0 : decide (0 ≤ (ji54)) = true := decide_eq_true c55
                                    clear c55
                                    by_cases c56 : (ji54) < 16
                                    · rw [if_pos c56] at H
                                      have c56b0 : decide ((ji54) < 16) = true := decide_eq_true c56
                                      clear c56
                                      obtain ⟨ji58, hji58⟩ : ∃ j_ : Int, (((rd_L5 l0 x36_2).length : Int) % 16) = j_ := ⟨_, rfl⟩
                                      have tmji58 : Int.tmod ((rd_L5 l0 x36_2).length : Int) 16 = ji58 := by rw [← hji58]; exact Int.tmod_eq_emod_of_nonneg (Int.natCast_nonneg _)
                                      replace H : (if 0 ≤ (ji58) then (if (ji58) < 16 then ((some (([bt (⟨#[48, 49, 50, 51, 52, 53, 54, 55, 56, 57, 97, 98, 99, 100, 101, 102]⟩ : ByteArray) (ji54), bt (⟨#[48, 49, 50, 51, 52, 53, 54, 55, 56, 57, 97, 98, 99, 100, 101, 102]⟩ : ByteArray) (ji58)] : List Int) : List Int)).bind fun y247 => (if x9_4.length + y247.length < 140737488355328 then ((some (x9_4 ++ y247 : List Int)).bind fun y250 => (if 2 + a3.size ≤ 9223372036854775807 then (if ((⟨#[32, 59]⟩ : ByteArray) ++ a3).size + 2 ≤ 9223372036854775807 then (if y250.length + (((⟨#[32, 59]⟩ : ByteArray) ++ a3) ++ (⟨#[13, 10]⟩ : ByteArray)).size < 140737488355328 then ((some (y250 ++ bytesOf (((⟨#[32, 59]⟩ : ByteArray) ++ a3) ++ (⟨#[13, 10]⟩ : ByteArray)) : List Int)).bind fun y253 => (if y253.length + (rd_L5 l0 x36_2).length < 140737488355328 then ((some (y253 ++ (rd_L5 l0 x36_2) : List Int)).bind fun y256 => ((some (([13, 10] : List Int) : List Int)).bind fun y259 => (if y256.length + y259.length < 140737488355328 then (if x10_2.length + (rd_L5 l0 x36_2).length < 140737488355328 then (tollbarlaw06_ChunkSizes.l0 k4 a1 false a3 (y256 ++ y259) (x10_2 ++ (rd_L5 l0 x36_2)) l0 (l0.length : Int) (wrap64 (x36_2 + 1))) else (none)) else (none)))) else (none))) else (none)) else (none)) else (none))) else (none))) else (none)) else (none)) = some r := by first | (rw [hji58] at H; exact H) | (simp only [hji58] at H ⊢; exact H)
                                      by_cases c59 : 0 ≤ (ji58)
                                      · rw [if_pos c59] at H
                                        have c59b0 : decide (0 ≤ (ji58)) = true := decide_eq_true c59
                                        clear c59
                                        by_cases c60 : (ji58) < 16
                                        · rw [if_pos c60] at H
                                          have c60b0 : decide ((ji58) < 16) = true := decide_eq_true c60
                                          clear c60
                                          obtain ⟨y247, hy247⟩ : ∃ y_ : List Int, y_ = (([bt (⟨#[48, 49, 50, 51, 52, 53, 54, 55, 56, 57, 97, 98, 99, 100, 101, 102]⟩ : ByteArray) (ji54), bt (⟨#[48, 49, 50, 51, 52, 53, 54, 55, 56, 57, 97, 98, 99, 100, 101, 102]⟩ : ByteArray) (ji58)] : List Int)) := ⟨_, rfl⟩
                                          replace H : (if x9_4.length + y247.length < 140737488355328 then ((some (x9_4 ++ y247 : List Int)).bind fun y250 => (if 2 + a3.size ≤ 9223372036854775807 then (if ((⟨#[32, 59]⟩ : ByteArray) ++ a3).size + 2 ≤ 9223372036854775807 then (if y250.length + (((⟨#[32, 59]⟩ : ByteArray) ++ a3) ++ (⟨#[13, 10]⟩ : ByteArray)).size < 140737488355328 then ((some (y250 ++ bytesOf (((⟨#[32, 59]⟩ : ByteArray) ++ a3) ++ (⟨#[13, 10]⟩ : ByteArray)) : List Int)).bind fun y253 => (if y253.length + (rd_L5 l0 x36_2).length < 140737488355328 then ((some (y253 ++ (rd_L5 l0 x36_2) : List Int)).bind fun y256 => ((some (([13, 10] : List Int) : List Int)).bind fun y259 => (if y256.length + y259.length < 140737488355328 then (if x10_2.length + (rd_L5 l0 x36_2).length < 140737488355328 then (tollbarlaw06_ChunkSizes.l0 k4 a1 false a3 (y256 ++ y259) (x10_2 ++ (rd_L5 l0 x36_2)) l0 (l0.length : Int) (wrap64 (x36_2 + 1))) else (none)) else (none)))) else (none))) else (none)) else (none)) else (none))) else (none)) = some r := by first | (rw [hy247]; with_reducible exact H) | (have H2_ := (Option.bind_some _ _).symm.trans H; rw [hy247]; with_reducible exact H2_) | (have H2_ := (Option.bind_some _ _).symm.trans H; with_reducible exact H2_) | with_reducible exact H | (rw [hy247]; exact H) | exact H
                                          have Ny247 := Aside0.mk hy247
                                          clear hy247
                                          by_cases c62 : x9_4.length + y247.length < 140737488355328
                                          · rw [if_pos c62] at H
                                            have LMc62 := Aside0.mk c62
                                            clear c62
                                            obtain ⟨y250, hy250⟩ : ∃ y_ : List Int, y_ = (x9_4 ++ y247) := ⟨_, rfl⟩
                                            replace H : (if 2 + a3.size ≤ 9223372036854775807 then (if ((⟨#[32, 59]⟩ : ByteArray) ++ a3).size + 2 ≤ 9223372036854775807 then (if y250.length + (((⟨#[32, 59]⟩ : ByteArray) ++ a3) ++ (⟨#[13, 10]⟩ : ByteArray)).size < 140737488355328 then ((some (y250 ++ bytesOf (((⟨#[32, 59]⟩ : ByteArray) ++ a3) ++ (⟨#[13, 10]⟩ : ByteArray)) : List Int)).bind fun y253 => (if y253.length + (rd_L5 l0 x36_2).length < 140737488355328 then ((some (y253 ++ (rd_L5 l0 x36_2) : List Int)).bind fun y256 => ((some (([13, 10] : List Int) : List Int)).bind fun y259 => (if y256.length + y259.length < 140737488355328 then (if x10_2.length + (rd_L5 l0 x36_2).length < 140737488355328 then (tollbarlaw06_ChunkSizes.l0 k4 a1 false a3 (y256 ++ y259) (x10_2 ++ (rd_L5 l0 x36_2)) l0 (l0.length : Int) (wrap64 (x36_2 + 1))) else (none)) else (none)))) else (none))) else (none)) else (none)) else (none)) = some r := by first | (rw [hy250]; with_reducible exact H) | (have H2_ := (Option.bind_some _ _).symm.trans H; rw [hy250]; with_reducible exact H2_) | (have H2_ := (Option.bind_some _ _).symm.trans H; with_reducible exact H2_) | with_reducible exact H | (rw [hy250]; exact H) | exact H
                                            have Ny250 := Aside0.mk hy250
                                            clear hy250
                                            by_cases c63 : 2 + a3.size ≤ 9223372036854775807
                                            · rw [if_pos c63] at H
                                              have c63b0 := eq_true c63
                                              have c63b1 : decide (2 + a3.size ≤ 9223372036854775807) = true := decide_eq_true c63
                                              try have c63b2 : (9223372036854775807 < 2 + a3.size) = False := eq_false (Nat.not_lt.2 c63)
                                              by_cases c64 : ((⟨#[32, 59]⟩ : ByteArray) ++ a3).size + 2 ≤ 9223372036854775807
                                              · rw [if_pos c64] at H
                                                have c64b0 := eq_true c64
                                                have c64b1 : decide (((⟨#[32, 59]⟩ : ByteArray) ++ a3).size + 2 ≤ 9223372036854775807) = true := decide_eq_true c64
                                                try have c64b2 : (9223372036854775807 < ((⟨#[32, 59]⟩ : ByteArray) ++ a3).size + 2) = False := eq_false (Nat.not_lt.2 c64)
                                                try (have c64b3 := c64b0; simp only [ByteArray.size_append] at c64b3; have c64b4 := c64b2; simp only [ByteArray.size_append] at c64b4)
                                                try have c64b5 : (9223372036854775807 < 2 + a3.size + 2) = False := eq_false (by have q_ := c64; simp only [ByteArray.size_append] at q_; have e0_ : (⟨#[32, 59]⟩ : ByteArray).size = 2 := rfl; omega)
                                                try have c64b6 : (2 + a3.size + 2 ≤ 9223372036854775807) = True := eq_true (by have q_ := c64; simp only [ByteArray.size_append] at q_; have e0_ : (⟨#[32, 59]⟩ : ByteArray).size = 2 := rfl; omega)
                                                by_cases c65 : y250.length + (((⟨#[32, 59]⟩ : ByteArray) ++ a3) ++ (⟨#[13, 10]⟩ : ByteArray)).size < 140737488355328
                                                · rw [if_pos c65] at H
                                                  have LMc65 := Aside0.mk c65
                                                  clear c65
                                                  obtain ⟨y253, hy253⟩ : ∃ y_ : List Int, y_ = (y250 ++ bytesOf (((⟨#[32, 59]⟩ : ByteArray) ++ a3) ++ (⟨#[13, 10]⟩ : ByteArray))) := ⟨_, rfl⟩
                                                  replace H : (if y253.length + (rd_L5 l0 x36_2).length < 140737488355328 then ((some (y253 ++ (rd_L5 l0 x36_2) : List Int)).bind fun y256 => ((some (([13, 10] : List Int) : List Int)).bind fun y259 => (if y256.length + y259.length < 140737488355328 then (if x10_2.length + (rd_L5 l0 x36_2).length < 140737488355328 then (tollbarlaw06_ChunkSizes.l0 k4 a1 false a3 (y256 ++ y259) (x10_2 ++ (rd_L5 l0 x36_2)) l0 (l0.length : Int) (wrap64 (x36_2 + 1))) else (none)) else (none)))) else (none)) = some r := by first | (rw [hy253]; with_reducible exact H) | (have H2_ := (Option.bind_some _ _).symm.trans H; rw [hy253]; with_reducible exact H2_) | (have H2_ := (Option.bind_some _ _).symm.trans H; with_reducible exact H2_) | with_reducible exact H | (rw [hy253]; exact H) | exact H
                                                  have Ny253 := Aside0.mk hy253
                                                  clear hy253
                                                  by_cases c66 : y253.length + (rd_L5 l0 x36_2).length < 140737488355328
                                                  · rw [if_pos c66] at H
                                                    have LMc66 := Aside0.mk c66
                                                    clear c66
                                                    obtain ⟨y256, hy256⟩ : ∃ y_ : List Int, y_ = (y253 ++ (rd_L5 l0 x36_2)) := ⟨_, rfl⟩
                                                    replace H : ((some (([13, 10] : List Int) : List Int)).bind fun y259 => (if y256.length + y259.length < 140737488355328 then (if x10_2.length + (rd_L5 l0 x36_2).length < 140737488355328 then (tollbarlaw06_ChunkSizes.l0 k4 a1 false a3 (y256 ++ y259) (x10_2 ++ (rd_L5 l0 x36_2)) l0 (l0.length : Int) (wrap64 (x36_2 + 1))) else (none)) else (none))) = some r := by first | (rw [hy256]; with_reducible exact H) | (have H2_ := (Option.bind_some _ _).symm.trans H; rw [hy256]; with_reducible exact H2_) | (have H2_ := (Option.bind_some _ _).symm.trans H; with_reducible exact H2_) | with_reducible exact H | (rw [hy256]; exact H) | exact H
                                                    have Ny256 := Aside0.mk hy256
                                                    clear hy256
                                                    obtain ⟨y259, hy259⟩ : ∃ y_ : List Int, y_ = (([13, 10] : List Int)) := ⟨_, rfl⟩
                                                    replace H : (if y256.length + y259.length < 140737488355328 then (if x10_2.length + (rd_L5 l0 x36_2).length < 140737488355328 then (tollbarlaw06_ChunkSizes.l0 k4 a1 false a3 (y256 ++ y259) (x10_2 ++ (rd_L5 l0 x36_2)) l0 (l0.length : Int) (wrap64 (x36_2 + 1))) else (none)) else (none)) = some r := by first | (rw [hy259]; with_reducible exact H) | (have H2_ := (Option.bind_some _ _).symm.trans H; rw [hy259]; with_reducible exact H2_) | (have H2_ := (Option.bind_some _ _).symm.trans H; with_reducible exact H2_) | with_reducible exact H | (rw [hy259]; exact H) | exact H
                                                    have Ny259 := Aside0.mk hy259
                                                    clear hy259
                                                    by_cases c67 : y256.length + y259.length < 140737488355328
                                                    · rw [if_pos c67] at H
                                                      have LMc67 := Aside0.mk c67
                                                      clear c67
                                                      obtain ⟨y262, hy262⟩ : ∃ y_ : List Int, y_ = (y256 ++ y259) := ⟨_, rfl⟩
                                                      replace H : (if x10_2.length + (rd_L5 l0 x36_2).length < 140737488355328 then (tollbarlaw06_ChunkSizes.l0 k4 a1 false a3 y262 (x10_2 ++ (rd_L5 l0 x36_2)) l0 (l0.length : Int) (wrap64 (x36_2 + 1))) else (none)) = some r := by first | (rw [hy262]; with_reducible exact H) | (have H2_ := (Option.bind_some _ _).symm.trans H; rw [hy262]; with_reducible exact H2_) | (have H2_ := (Option.bind_some _ _).symm.trans H; with_reducible exact H2_) | with_reducible exact H | (rw [hy262]; exact H) | exact H
                                                      have Ny262 := Aside0.mk hy262
                                                      clear hy262
                                                      by_cases c68 : x10_2.length + (rd_L5 l0 x36_2).length < 140737488355328
                                                      · rw [if_pos c68] at H
                                                        have LMc68 := Aside0.mk c68
                                                        clear c68
                                                        obtain ⟨y265, hy265⟩ : ∃ y_ : List Int, y_ = (x10_2 ++ (rd_L5 l0 x36_2)) := ⟨_, rfl⟩
                                                        replace H : (tollbarlaw06_ChunkSizes.l0 k4 a1 false a3 y262 y265 l0 (l0.length : Int) (wrap64 (x36_2 + 1))) = some r := by first | (rw [hy265]; with_reducible exact H) | (have H2_ := (Option.bind_some _ _).symm.trans H; rw [hy265]; with_reducible exact H2_) | (have H2_ := (Option.bind_some _ _).symm.trans H; with_reducible exact H2_) | with_reducible exact H | (rw [hy265]; exact H) | exact H
                                                        have Ny265 := Aside0.mk hy265
                                                        clear hy265
                                                        have H' := Aside0.mk H
                                                        clear H
                                                        try go_wp2
                                                        have n0_ := Aside0.mk (Kd.R_drew HO_9.out)
                                                        have n1_ := Aside0.mk (Kd.R_drew HO_10.out)
                                                        have n2_ := Aside0.mk (below_drew1 HB.out)
                                                        clear HO_9
                                                        clear HO_10
                                                        clear HB
                                                        have HO_9 := n0_
                                                        have HO_10 := n1_
                                                        have HB := n2_
                                                        clear n0_ n1_ n2_
                                                        have p57 : 0 ≤ ((ji54) : Int) := of_decide_eq_true (by first | (with_reducible assumption) | assumption)
                                                        have q57 : (ji54) < (16 : Int) := of_decide_eq_true (by first | (with_reducible assumption) | assumption)
                                                        have hx57 := bt_at (⟨#[48, 49, 50, 51, 52, 53, 54, 55, 56, 57, 97, 98, 99, 100, 101, 102]⟩ : ByteArray) (ji54)
                                                        replace p57 := eq_true p57
                                                        replace q57 := eq_true q57
                                                        have p61 : 0 ≤ ((ji58) : Int) := of_decide_eq_true (by first | (with_reducible assumption) | assumption)
                                                        have q61 : (ji58) < (16 : Int) := of_decide_eq_true (by first | (with_reducible assumption) | assumption)
                                                        have hx61 := bt_at (⟨#[48, 49, 50, 51, 52, 53, 54, 55, 56, 57, 97, 98, 99, 100, 101, 102]⟩ : ByteArray) (ji58)
                                                        replace p61 := eq_true p61
                                                        replace q61 := eq_true q61
                                                        refine start_ (n := 14) (S := fun w' => True) (ds := []) #[false, false, false, false, false, false, false, false, false, false, false, false, false, false] (by kernel_rfl) rfl rfl trivial (fun hHeld => ?_); refine with_tabW tollbarlaw06_ChunkSizes.tab19 tollbarlaw06_ChunkSizes.bits19 (fun HT_ HW_ => ?_)
                                                        generalize wr.drew = w69 at HO_9 HO_10 HB hHeld ⊢
                                                        refine pure_ (i := 0) (N := some 58) (v := ?_) (a' := ?_) #[true, false, false, false, false, false, false, false, false, false, false, false, false, false] rfl rfl (any_of HT_.out (by kernel_rfl)) (fun _ _ _ h => h) (Or.inl ⟨by rfl, ?_⟩) ?_ ?_
                                                        rotate_left
                                                        · intro w'
                                                          go_simp
                                                          with_reducible rfl
                                                        rotate_left
                                                        · simp only [Act.put, List.setIfInBounds_toArray, List.set_cons_zero, List.set_cons_succ, i64_w, i32_w]
                                                          rfl
                                                        refine pure_ (i := 1) (N := some 59) (v := ?_) (a' := ?_) #[true, true, false, false, false, false, false, false, false, false, false, false, false, false] rfl rfl (any_of HT_.out (by kernel_rfl)) (fun _ _ _ h => h) (Or.inl ⟨by rfl, ?_⟩) ?_ ?_
                                                        rotate_left
                                                        · intro w'
                                                          go_simp
                                                          with_reducible rfl
                                                        rotate_left
                                                        · simp only [Act.put, List.setIfInBounds_toArray, List.set_cons_zero, List.set_cons_succ, i64_w, i32_w]
                                                          rfl
                                                        refine pure_ (i := 2) (N := some 60) (v := ?_) (a' := ?_) #[true, true, true, false, false, false, false, false, false, false, false, false, false, false] rfl rfl (any_of HT_.out (by kernel_rfl)) (fun _ _ _ h => h) (Or.inl ⟨by rfl, ?_⟩) ?_ ?_
                                                        rotate_left
                                                        · intro w'
                                                          go_simp
                                                          with_reducible rfl
                                                        rotate_left
                                                        · simp only [Act.put, List.setIfInBounds_toArray, List.set_cons_zero, List.set_cons_succ, i64_w, i32_w]
                                                          rfl
                                                        refine pure_ (i := 3) (N := some 61) (v := ?_) (a' := ?_) #[true, true, true, true, false, false, false, false, false, false, false, false, false, false] rfl rfl (any_of HT_.out (by kernel_rfl)) (fun _ _ _ h => h) (Or.inl ⟨by rfl, ?_⟩) ?_ ?_
                                                        rotate_left
                                                        · intro w'
                                                          go_simp
                                                          with_reducible rfl
                                                        rotate_left
                                                        · simp only [Act.put, List.setIfInBounds_toArray, List.set_cons_zero, List.set_cons_succ, i64_w, i32_w]
                                                          rfl
                                                        refine pure_ (i := 4) (N := some 62) (v := ?_) (a' := ?_) #[true, true, true, true, true, false, false, false, false, false, false, false, false, false] rfl rfl (any_of HT_.out (by kernel_rfl)) (fun _ _ _ h => h) (Or.inl ⟨by rfl, ?_⟩) ?_ ?_
                                                        rotate_left
                                                        · intro w'
                                                          go_simp
                                                          with_reducible rfl
                                                        rotate_left
                                                        · simp only [Act.put, List.setIfInBounds_toArray, List.set_cons_zero, List.set_cons_succ, i64_w, i32_w]
                                                          rfl
                                                        refine pure_ (i := 6) (N := some 64) (v := ?_) (a' := ?_) #[true, true, true, true, true, false, true, false, false, false, false, false, false, false] rfl rfl (any_of HT_.out (by kernel_rfl)) (fun _ _ _ h => h) (Or.inl ⟨by rfl, ?_⟩) ?_ ?_
                                                        rotate_left
                                                        · intro w'
                                                          go_simp
                                                          with_reducible rfl
                                                        rotate_left
                                                        · simp only [Act.put, List.setIfInBounds_toArray, List.set_cons_zero, List.set_cons_succ, i64_w, i32_w]
                                                          rfl
                                                        refine pure_ (i := 7) (N := some 65) (v := ?_) (a' := ?_) #[true, true, true, true, true, false, true, true, false, false, false, false, false, false] rfl rfl (any_of HT_.out (by kernel_rfl)) (fun _ _ _ h => h) (Or.inl ⟨by rfl, ?_⟩) ?_ ?_
                                                        rotate_left
                                                        · intro w'
                                                          go_simp
                                                          with_reducible rfl
                                                        rotate_left
                                                        · simp only [Act.put, List.setIfInBounds_toArray, List.set_cons_zero, List.set_cons_succ, i64_w, i32_w]
                                                          rfl
                                                        refine pure_ (i := 8) (N := some 66) (v := ?_) (a' := ?_) #[true, true, true, true, true, false, true, true, true, false, false, false, false, false] rfl rfl (any_of HT_.out (by kernel_rfl)) (fun _ _ _ h => h) (Or.inl ⟨by rfl, ?_⟩) ?_ ?_
                                                        rotate_left
                                                        · intro w'
                                                          go_simp
                                                          with_reducible rfl
                                                        rotate_left
                                                        · simp only [Act.put, List.setIfInBounds_toArray, List.set_cons_zero, List.set_cons_succ, i64_w, i32_w]
                                                          rfl
                                                        refine pure_ (i := 9) (N := some 67) (v := ?_) (a' := ?_) #[true, true, true, true, true, false, true, true, true, true, false, false, false, false] rfl rfl (any_of HT_.out (by kernel_rfl)) (fun _ _ _ h => h) (Or.inl ⟨by rfl, ?_⟩) ?_ ?_
                                                        rotate_left
                                                        · intro w'
                                                          go_simp
                                                          with_reducible rfl
                                                        rotate_left
                                                        · simp only [Act.put, List.setIfInBounds_toArray, List.set_cons_zero, List.set_cons_succ, i64_w, i32_w]
                                                          rfl
                                                        refine take_ (i := 5) (N := some 63) (v := ?_) (a' := ?_) #[true, true, true, true, true, true, true, true, true, true, false, false, false, false] rfl rfl (take_ofW HT_.out HW_.out (by kernel_rfl)) (fun _ _ _ h => h) (Or.inl ⟨by rfl, ?_⟩) hHeld ?_ ?_
                                                        rotate_left
                                                        · intro w' _
                                                          go_simp
                                                          with_reducible rfl
                                                        rotate_left
                                                        · simp only [Act.put, List.setIfInBounds_toArray, List.set_cons_zero, List.set_cons_succ, i64_w, i32_w]
                                                          rfl
                                                        refine take_ (i := 10) (N := some 68) (v := ?_) (a' := ?_) #[true, true, true, true, true, true, true, true, true, true, true, false, false, false] rfl rfl (take_ofW HT_.out HW_.out (by kernel_rfl)) (fun _ _ _ h => h) (Or.inl ⟨by rfl, ?_⟩) hHeld ?_ ?_
                                                        rotate_left
                                                        · intro w' _
                                                          go_simp
                                                          with_reducible rfl
                                                        rotate_left
                                                        · simp only [Act.put, List.setIfInBounds_toArray, List.set_cons_zero, List.set_cons_succ, i64_w, i32_w]
                                                          rfl
                                                        refine one_ (i := 11) (N := some 69) #[true, true, true, true, true, true, true, true, true, true, true, true, false, false] rfl rfl (one_of HT_.out (by kernel_rfl)) (by decide) (fun K hK => ?_)
                                                        refine Kd.R_lit_step (Kd.int .u8) _ 5 ?hg (N := 69) ?hd (xs := ([bt (⟨#[48, 49, 50, 51, 52, 53, 54, 55, 56, 57, 97, 98, 99, 100, 101, 102]⟩ : ByteArray) (ji54), bt (⟨#[48, 49, 50, 51, 52, 53, 54, 55, 56, 57, 97, 98, 99, 100, 101, 102]⟩ : ByteArray) (ji58)] : List Int)) (inner := [.int .u8 (bt (⟨#[48, 49, 50, 51, 52, 53, 54, 55, 56, 57, 97, 98, 99, 100, 101, 102]⟩ : ByteArray) (ji54)), .int .u8 (bt (⟨#[48, 49, 50, 51, 52, 53, 54, 55, 56, 57, 97, 98, 99, 100, 101, 102]⟩ : ByteArray) (ji58))]) (ok := fun _ => True) (okp := fun _ => True) ?hr ?hp (fun _ hk => hk) trivial (Below.refl _ _) (Nat.le_refl _) (by simp) ?_; (case hd => rfl); (case hg => rfl); (case hr => first | (go_simp; done) | (go_simp; rfl)); (case hp => exact (Reps.one (show Kd.M (Kd.int .u8) _ _ _ (bt (⟨#[48, 49, 50, 51, 52, 53, 54, 55, 56, 57, 97, 98, 99, 100, 101, 102]⟩ : ByteArray) (ji54)) [.int .u8 (bt (⟨#[48, 49, 50, 51, 52, 53, 54, 55, 56, 57, 97, 98, 99, 100, 101, 102]⟩ : ByteArray) (ji54))] from rfl) (Reps.one (show Kd.M (Kd.int .u8) _ _ _ (bt (⟨#[48, 49, 50, 51, 52, 53, 54, 55, 56, 57, 97, 98, 99, 100, 101, 102]⟩ : ByteArray) (ji58)) [.int .u8 (bt (⟨#[48, 49, 50, 51, 52, 53, 54, 55, 56, 57, 97, 98, 99, 100, 101, 102]⟩ : ByteArray) (ji58))] from rfl) (Reps.none _ _))))
                                                        intro v248 w70 ho71 hb hg_ hnew_
                                                        clear hg_ hnew_
                                                        (first | rw [← Ny247.out] at ho71 | (simp only [Int.reduceToNat] at ho71; rw [← Ny247.out] at ho71))
                                                        have n0_ := Aside0.mk (Kd.R_elder' (by (with_reducible repeat (first | apply Kd.R_alloc | apply Kd.R_drewN | apply Kd.R_drew)); exact HO_9.out) (Kd.R_base ho71) hb)
                                                        have n1_ := Aside0.mk (Kd.R_elder' (by (with_reducible repeat (first | apply Kd.R_alloc | apply Kd.R_drewN | apply Kd.R_drew)); exact HO_10.out) (Kd.R_base ho71) hb)
                                                        have n2_ := Aside0.mk (Kd.R_lower (Kd.R_new' (Kd.R_new' ho71 (Kd.R_lt (by (with_reducible repeat (first | apply Kd.R_alloc | apply Kd.R_drewN | apply Kd.R_drew)); exact HO_9.out))) (Kd.R_lt (by (with_reducible repeat (first | apply Kd.R_alloc | apply Kd.R_drewN | apply Kd.R_drew)); exact HO_10.out))) (below_size (by repeat (first | (with_reducible first | exact HB.out | apply below_alloc | apply pw_below_drewN | apply below_drew1) | exact HB.out))))
                                                        have n3_ := Aside0.mk (below_step (by repeat (first | (with_reducible first | exact HB.out | apply below_alloc | apply pw_below_drewN | apply below_drew1) | exact HB.out)) hb)
                                                        clear HO_9
                                                        clear HO_10
                                                        clear HB
                                                        have HO_9 := n0_
                                                        have HO_10 := n1_
                                                        have HO249 := n2_
                                                        have HB := n3_
                                                        clear n0_ n1_ n2_ n3_
                                                        clear hb ho71
                                                        obtain ⟨Ao73, co73, eo73⟩ := Kd.R_slice HO249.out
                                                        (first | subst eo73 | (injection eo73 with f1_ f2_ f3_; have f4_ := f1_.symm; have f5_ := f3_.symm; clear f1_ f2_ f3_; subst f4_; subst f5_))
                                                        refine hK.out _ _ trivial (fun hHeld => ?_)
                                                        clear hK K
                                                        refine norm_ (a' := ?_) ?_ ?_
                                                        rotate_left
                                                        · show Act.put _ (some 69) _ = _
                                                          simp only [Act.put, List.setIfInBounds_toArray, List.set_cons_zero, List.set_cons_succ, i64_w, i32_w]
                                                          rfl
                                                        refine one_ (i := 12) (N := some 70) #[true, true, true, true, true, true, true, true, true, true, true, true, true, false] rfl rfl (one_of HT_.out (by kernel_rfl)) (by decide) (fun K hK => ?_)
                                                        refine Kd.R_append_rows_step (Kd.int .u8) (w0 := w) w.heap.size (by rfl) (.tmp 58) (.tmp 69) 25 5 (.int .u8 0) 1 rfl Tryd.underlying25 info5 rfl (by decide) (by omega) u9 x9_4 y247 _ _ _ (fun k_ => some k_ ≠ (u10 : Value).ownBlock ∧ some k_ ≠ (.slice Ao73 y247.length co73 : Value).ownBlock) (fun _ => False) rfl rfl ?aO ?aR (fun _ _ h => h) (fun _ h => h.elim) ?aF ?aB ?aS ?aL ?_
                                                        (case aR => repeat (first | exact (Kd.R_reads' HO249.out).2.2 | (with_reducible refine Kd.C_alloc ?_ _) | (with_reducible refine Kd.C_drewN ?_ _) | (with_reducible refine Kd.C_drew ?_)))
                                                        (case aB => exact (by repeat (first | (with_reducible first | exact HB.out | apply below_alloc | apply pw_below_drewN | apply below_drew1) | exact HB.out)))
                                                        (case aF => exact (fun k_ hk => ⟨Kd.fresh' (Kd.R_lt (by (with_reducible repeat (first | apply Kd.R_alloc | apply Kd.R_drewN | apply Kd.R_drew)); exact HO_10.out)) k_ hk, Kd.fresh' (Kd.R_lt (by (with_reducible repeat (first | apply Kd.R_alloc | apply Kd.R_drewN | apply Kd.R_drew)); exact HO249.out)) k_ hk⟩))
                                                        (case aO => exact (by (with_reducible repeat (first | apply Kd.R_alloc | apply Kd.R_drewN | apply Kd.R_drew)); exact HO_9.out))
                                                        (case aS => exact (below_size (by repeat (first | (with_reducible first | exact HB.out | apply below_alloc | apply pw_below_drewN | apply below_drew1) | exact HB.out))))
                                                        (case aL => have := LMc62.out; omega)
                                                        intro v251 w72 ho hb hg hat
                                                        rw [← Ny250.out] at ho
                                                        have n0_ := Aside0.mk (Kd.R_after (ok := (fun k_ => some k_ ≠ (.slice Ao73 y247.length co73 : Value).ownBlock)) (by (with_reducible repeat (first | apply Kd.R_alloc | apply Kd.R_drewN | apply Kd.R_drew)); exact Kd.R_mono HO_10.out (fun _ hk => ⟨hk.2, hk.1⟩)) hg hat)
                                                        have n1_ := Aside0.mk (Kd.R_after (ok := (fun k_ => some k_ ≠ (u10 : Value).ownBlock)) (by (with_reducible repeat (first | apply Kd.R_alloc | apply Kd.R_drewN | apply Kd.R_drew)); exact Kd.R_mono HO249.out (fun _ hk => ⟨hk.2, hk.1.2⟩)) hg hat)
                                                        have n2_ := Aside0.mk (hb)
                                                        have n3_ := Aside0.mk (ho)
                                                        clear HO_10
                                                        clear HO249
                                                        clear HB
                                                        clear HO_9
                                                        have HO_10 := n0_
                                                        have HO249 := n1_
                                                        have HB := n2_
                                                        have HO252 := n3_
                                                        clear n0_ n1_ n2_ n3_
                                                        clear ho hb hg hat
                                                        refine hK.out _ _ trivial (fun hHeld => ?_)
                                                        clear hK K
                                                        refine norm_ (a' := ?_) ?_ ?_
                                                        rotate_left
                                                        · show Act.put _ (some 70) _ = _
                                                          simp only [Act.put, List.setIfInBounds_toArray, List.set_cons_zero, List.set_cons_succ, i64_w, i32_w]
                                                          rfl
                                                        refine pure_ (i := 13) (N := some 9) (v := ?_) (a' := ?_) #[true, true, true, true, true, true, true, true, true, true, true, true, true, true] rfl rfl (any_of HT_.out (by kernel_rfl)) (fun _ _ _ h => h) (Or.inl ⟨by rfl, ?_⟩) ?_ ?_
                                                        rotate_left
                                                        · intro w'
                                                          go_simp
                                                          with_reducible rfl
                                                        rotate_left
                                                        · simp only [Act.put, List.setIfInBounds_toArray, List.set_cons_zero, List.set_cons_succ, i64_w, i32_w]
                                                          rfl
                                                        refine done_ (done_of HT_.out (by kernel_rfl)) ?_
                                                        try go_wp2_with (first | (at_builtin; refine Kd.R_append_str (w0 := w) w.heap.size rfl (.tmp 71) _ 25 9 5 rfl Tryd.underlying25 Tryd.underlying9 info5 v251 y250 (((⟨#[32, 59]⟩ : ByteArray) ++ a3) ++ (⟨#[13, 10]⟩ : ByteArray)) (fun k_ => some k_ ≠ (u10 : Value).ownBlock ∧ some k_ ≠ (.slice Ao73 y247.length co73 : Value).ownBlock) rfl rfl ?aF ?aO ?aB ?aS ?aL ?_; (case aB => exact (by repeat (first | (with_reducible first | exact HB.out | apply below_alloc | apply pw_below_drewN | apply below_drew1) | exact HB.out))); (case aF => exact (fun k_ hk => ⟨Kd.fresh' (Kd.R_lt (by (with_reducible repeat (first | apply Kd.R_alloc | apply Kd.R_drewN | apply Kd.R_drew)); exact HO_10.out)) k_ hk, Kd.fresh' (Kd.R_lt (by (with_reducible repeat (first | apply Kd.R_alloc | apply Kd.R_drewN | apply Kd.R_drew)); exact HO249.out)) k_ hk⟩)); (case aO => exact (by (with_reducible repeat (first | apply Kd.R_alloc | apply Kd.R_drewN | apply Kd.R_drew)); exact HO252.out)); (case aS => exact (below_size (by repeat (first | (with_reducible first | exact HB.out | apply below_alloc | apply pw_below_drewN | apply below_drew1) | exact HB.out)))); (case aL => have := LMc65.out; omega); intro v254 w74 ho hb hg hat; rw [← Ny253.out] at ho; have n0_ := Aside0.mk (Kd.R_after (ok := (fun k_ => some k_ ≠ (.slice Ao73 y247.length co73 : Value).ownBlock)) (by (with_reducible repeat (first | apply Kd.R_alloc | apply Kd.R_drewN | apply Kd.R_drew)); exact HO_10.out) hg hat); have n1_ := Aside0.mk (Kd.R_after (ok := (fun k_ => some k_ ≠ (u10 : Value).ownBlock)) (by (with_reducible repeat (first | apply Kd.R_alloc | apply Kd.R_drewN | apply Kd.R_drew)); exact HO249.out) hg hat); have n2_ := Aside0.mk (hb); have n3_ := Aside0.mk (ho); clear HO_10; clear HO249; clear HB; clear HO252; have HO_10 := n0_; have HO249 := n1_; have HB := n2_; have HO255 := n3_; clear n0_ n1_ n2_ n3_; clear ho hb hg hat) | ((with_reducible refine gate_builtin (b := .append) (xs := #[.tmp 76, .tmp 77]) rfl ?_); (try (refine gate_guard (by rfl) ?_; dsimp only)); at_builtin; refine Kd.R_append_rows (Kd.int .u8) (w0 := w) w.heap.size rfl (.tmp 76) (.tmp 77) 25 5 (.int .u8 0) 1 rfl Tryd.underlying25 info5 rfl (by decide) (by omega) v254 y253 (rd_L5 l0 x36_2) _ _ _ (fun k_ => some k_ ≠ (u10 : Value).ownBlock ∧ some k_ ≠ (.slice Ao73 y247.length co73 : Value).ownBlock) (fun _ => False) rfl rfl ?aO ?aR (fun _ _ h => h) (fun _ h => h.elim) ?aF ?aB ?aS ?aL ?_; (case aR => repeat (first | exact (Kd.C_below HR222_0.out HB.out) | (with_reducible refine Kd.C_alloc ?_ _) | (with_reducible refine Kd.C_drewN ?_ _) | (with_reducible refine Kd.C_drew ?_))); (case aB => exact (by repeat (first | (with_reducible first | exact HB.out | apply below_alloc | apply pw_below_drewN | apply below_drew1) | exact HB.out))); (case aF => exact (fun k_ hk => ⟨Kd.fresh' (Kd.R_lt (by (with_reducible repeat (first | apply Kd.R_alloc | apply Kd.R_drewN | apply Kd.R_drew)); exact HO_10.out)) k_ hk, Kd.fresh' (Kd.R_lt (by (with_reducible repeat (first | apply Kd.R_alloc | apply Kd.R_drewN | apply Kd.R_drew)); exact HO249.out)) k_ hk⟩)); (case aO => exact (by (with_reducible repeat (first | apply Kd.R_alloc | apply Kd.R_drewN | apply Kd.R_drew)); exact HO255.out)); (case aS => exact (below_size (by repeat (first | (with_reducible first | exact HB.out | apply below_alloc | apply pw_below_drewN | apply below_drew1) | exact HB.out)))); (case aL => have := LMc66.out; omega); intro v257 w75 ho hb hg hat; rw [← Ny256.out] at ho; have n0_ := Aside0.mk (Kd.R_after (ok := (fun k_ => some k_ ≠ (.slice Ao73 y247.length co73 : Value).ownBlock)) (by (with_reducible repeat (first | apply Kd.R_alloc | apply Kd.R_drewN | apply Kd.R_drew)); exact HO_10.out) hg hat); have n1_ := Aside0.mk (Kd.R_after (ok := (fun k_ => some k_ ≠ (u10 : Value).ownBlock)) (by (with_reducible repeat (first | apply Kd.R_alloc | apply Kd.R_drewN | apply Kd.R_drew)); exact HO249.out) hg hat); have n2_ := Aside0.mk (hb); have n3_ := Aside0.mk (ho); clear HO_10; clear HO249; clear HB; clear HO255; have HO_10 := n0_; have HO249 := n1_; have HB := n2_; have HO258 := n3_; clear n0_ n1_ n2_ n3_; clear ho hb hg hat) | ((with_reducible refine gate_dst (N := 79) rfl ?_); (try (refine gate_guard (by rfl) ?_; dsimp only)); refine Kd.R_lit (Kd.int .u8) _ 5 ?hg (N := 79) ?hd (xs := ([13, 10] : List Int)) (inner := [.int .u8 13, .int .u8 10]) (ok := fun _ => True) (okp := fun _ => True) ?hr ?hp (fun _ hk => hk) trivial (Below.refl _ _) (Nat.le_refl _) (by simp) ?_; (case hd => rfl); (case hg => rfl); (case hr => first | (go_simp; done) | (go_simp; rfl)); (case hp => exact (Reps.one (show Kd.M (Kd.int .u8) _ _ _ 13 [.int .u8 13] from rfl) (Reps.one (show Kd.M (Kd.int .u8) _ _ _ 10 [.int .u8 10] from rfl) (Reps.none _ _)))); intro v260 w76 ho77 hb hg_ hnew_; clear hg_ hnew_; (first | rw [← Ny259.out] at ho77 | (simp only [Int.reduceToNat] at ho77; rw [← Ny259.out] at ho77)); have n0_ := Aside0.mk (Kd.R_elder' (by (with_reducible repeat (first | apply Kd.R_alloc | apply Kd.R_drewN | apply Kd.R_drew)); exact HO_10.out) (Kd.R_base ho77) hb); have n1_ := Aside0.mk (Kd.R_elder' (by (with_reducible repeat (first | apply Kd.R_alloc | apply Kd.R_drewN | apply Kd.R_drew)); exact HO249.out) (Kd.R_base ho77) hb); have n2_ := Aside0.mk (Kd.R_elder' (by (with_reducible repeat (first | apply Kd.R_alloc | apply Kd.R_drewN | apply Kd.R_drew)); exact HO258.out) (Kd.R_base ho77) hb); have n3_ := Aside0.mk (Kd.R_lower (Kd.R_new' (Kd.R_new' (Kd.R_new' ho77 (Kd.R_lt (by (with_reducible repeat (first | apply Kd.R_alloc | apply Kd.R_drewN | apply Kd.R_drew)); exact HO_10.out))) (Kd.R_lt (by (with_reducible repeat (first | apply Kd.R_alloc | apply Kd.R_drewN | apply Kd.R_drew)); exact HO249.out))) (Kd.R_lt (by (with_reducible repeat (first | apply Kd.R_alloc | apply Kd.R_drewN | apply Kd.R_drew)); exact HO258.out))) (below_size (by repeat (first | (with_reducible first | exact HB.out | apply below_alloc | apply pw_below_drewN | apply below_drew1) | exact HB.out)))); have n4_ := Aside0.mk (below_step (by repeat (first | (with_reducible first | exact HB.out | apply below_alloc | apply pw_below_drewN | apply below_drew1) | exact HB.out)) hb); clear HO_10; clear HO249; clear HO258; clear HB; have HO_10 := n0_; have HO249 := n1_; have HO258 := n2_; have HO261 := n3_; have HB := n4_; clear n0_ n1_ n2_ n3_ n4_; clear hb ho77; obtain ⟨Ao79, co79, eo79⟩ := Kd.R_slice HO261.out; subst eo79) | ((with_reducible refine gate_builtin (b := .append) (xs := #[.tmp 78, .tmp 79]) rfl ?_); (try (refine gate_guard (by rfl) ?_; dsimp only)); at_builtin; refine Kd.R_append_rows (Kd.int .u8) (w0 := w) w.heap.size rfl (.tmp 78) (.tmp 79) 25 5 (.int .u8 0) 1 rfl Tryd.underlying25 info5 rfl (by decide) (by omega) v257 y256 y259 _ _ _ (fun k_ => some k_ ≠ (u10 : Value).ownBlock ∧ some k_ ≠ (.slice Ao73 y247.length co73 : Value).ownBlock ∧ some k_ ≠ (.slice Ao79 y259.length co79 : Value).ownBlock) (fun _ => False) rfl rfl ?aO ?aR (fun _ _ h => h) (fun _ h => h.elim) ?aF ?aB ?aS ?aL ?_; (case aR => repeat (first | exact (Kd.R_reads' HO261.out).2.2 | (with_reducible refine Kd.C_alloc ?_ _) | (with_reducible refine Kd.C_drewN ?_ _) | (with_reducible refine Kd.C_drew ?_))); (case aB => exact (by repeat (first | (with_reducible first | exact HB.out | apply below_alloc | apply pw_below_drewN | apply below_drew1) | exact HB.out))); (case aF => exact (fun k_ hk => ⟨Kd.fresh' (Kd.R_lt (by (with_reducible repeat (first | apply Kd.R_alloc | apply Kd.R_drewN | apply Kd.R_drew)); exact HO_10.out)) k_ hk, Kd.fresh' (Kd.R_lt (by (with_reducible repeat (first | apply Kd.R_alloc | apply Kd.R_drewN | apply Kd.R_drew)); exact HO249.out)) k_ hk, Kd.fresh' (Kd.R_lt (by (with_reducible repeat (first | apply Kd.R_alloc | apply Kd.R_drewN | apply Kd.R_drew)); exact HO261.out)) k_ hk⟩)); (case aO => exact (by (with_reducible repeat (first | apply Kd.R_alloc | apply Kd.R_drewN | apply Kd.R_drew)); exact Kd.R_mono HO258.out (fun _ hk => ⟨hk.1.1, ⟨hk.1.2, hk.2⟩⟩))); (case aS => exact (below_size (by repeat (first | (with_reducible first | exact HB.out | apply below_alloc | apply pw_below_drewN | apply below_drew1) | exact HB.out)))); (case aL => have := LMc67.out; omega); intro v263 w78 ho hb hg hat; rw [← Ny262.out] at ho; have n0_ := Aside0.mk (Kd.R_after (ok := (fun k_ => some k_ ≠ (.slice Ao73 y247.length co73 : Value).ownBlock ∧ some k_ ≠ (.slice Ao79 y259.length co79 : Value).ownBlock)) (by (with_reducible repeat (first | apply Kd.R_alloc | apply Kd.R_drewN | apply Kd.R_drew)); exact Kd.R_mono HO_10.out (fun _ hk => ⟨⟨hk.1.1, hk.2⟩, hk.1.2⟩)) hg hat); have n1_ := Aside0.mk (Kd.R_after (ok := (fun k_ => some k_ ≠ (u10 : Value).ownBlock ∧ some k_ ≠ (.slice Ao79 y259.length co79 : Value).ownBlock)) (by (with_reducible repeat (first | apply Kd.R_alloc | apply Kd.R_drewN | apply Kd.R_drew)); exact Kd.R_mono HO249.out (fun _ hk => ⟨⟨hk.1.1, hk.2⟩, hk.1.2⟩)) hg hat); have n2_ := Aside0.mk (Kd.R_after (ok := (fun k_ => some k_ ≠ (u10 : Value).ownBlock ∧ some k_ ≠ (.slice Ao73 y247.length co73 : Value).ownBlock)) (by (with_reducible repeat (first | apply Kd.R_alloc | apply Kd.R_drewN | apply Kd.R_drew)); exact Kd.R_mono HO261.out (fun _ hk => ⟨⟨hk.1.1.2, hk.1.2⟩, hk.2⟩)) hg hat); have n3_ := Aside0.mk (hb); have n4_ := Aside0.mk (ho); clear HO_10; clear HO249; clear HO261; clear HB; clear HO258; have HO_10 := n0_; have HO249 := n1_; have HO261 := n2_; have HB := n3_; have HO264 := n4_; clear n0_ n1_ n2_ n3_ n4_; clear ho hb hg hat) | ((with_reducible refine gate_builtin (b := .append) (xs := #[.tmp 81, .tmp 82]) rfl ?_); (try (refine gate_guard (by rfl) ?_; dsimp only)); at_builtin; refine Kd.R_append_rows (Kd.int .u8) (w0 := w) w.heap.size rfl (.tmp 81) (.tmp 82) 25 5 (.int .u8 0) 1 rfl Tryd.underlying25 info5 rfl (by decide) (by omega) u10 x10_2 (rd_L5 l0 x36_2) _ _ _ (fun k_ => some k_ ≠ (.slice Ao73 y247.length co73 : Value).ownBlock ∧ some k_ ≠ (.slice Ao79 y259.length co79 : Value).ownBlock ∧ some k_ ≠ (v263 : Value).ownBlock) (fun _ => False) rfl rfl ?aO ?aR (fun _ _ h => h) (fun _ h => h.elim) ?aF ?aB ?aS ?aL ?_; (case aR => repeat (first | exact (Kd.C_below HR222_0.out HB.out) | (with_reducible refine Kd.C_alloc ?_ _) | (with_reducible refine Kd.C_drewN ?_ _) | (with_reducible refine Kd.C_drew ?_))); (case aB => exact (by repeat (first | (with_reducible first | exact HB.out | apply below_alloc | apply pw_below_drewN | apply below_drew1) | exact HB.out))); (case aF => exact (fun k_ hk => ⟨Kd.fresh' (Kd.R_lt (by (with_reducible repeat (first | apply Kd.R_alloc | apply Kd.R_drewN | apply Kd.R_drew)); exact HO249.out)) k_ hk, Kd.fresh' (Kd.R_lt (by (with_reducible repeat (first | apply Kd.R_alloc | apply Kd.R_drewN | apply Kd.R_drew)); exact HO261.out)) k_ hk, Kd.fresh' (Kd.R_lt (by (with_reducible repeat (first | apply Kd.R_alloc | apply Kd.R_drewN | apply Kd.R_drew)); exact HO264.out)) k_ hk⟩)); (case aO => exact (by (with_reducible repeat (first | apply Kd.R_alloc | apply Kd.R_drewN | apply Kd.R_drew)); exact Kd.R_mono HO_10.out (fun _ hk => ⟨hk.1.1, ⟨hk.1.2, hk.2⟩⟩))); (case aS => exact (below_size (by repeat (first | (with_reducible first | exact HB.out | apply below_alloc | apply pw_below_drewN | apply below_drew1) | exact HB.out)))); (case aL => have := LMc68.out; omega); intro v266 w80 ho hb hg hat; rw [← Ny265.out] at ho; have n0_ := Aside0.mk (Kd.R_after (ok := (fun k_ => some k_ ≠ (.slice Ao79 y259.length co79 : Value).ownBlock ∧ some k_ ≠ (v263 : Value).ownBlock)) (by (with_reducible repeat (first | apply Kd.R_alloc | apply Kd.R_drewN | apply Kd.R_drew)); exact Kd.R_mono HO249.out (fun _ hk => ⟨⟨hk.1.2, hk.2⟩, hk.1.1⟩)) hg hat); have n1_ := Aside0.mk (Kd.R_after (ok := (fun k_ => some k_ ≠ (.slice Ao73 y247.length co73 : Value).ownBlock ∧ some k_ ≠ (v263 : Value).ownBlock)) (by (with_reducible repeat (first | apply Kd.R_alloc | apply Kd.R_drewN | apply Kd.R_drew)); exact Kd.R_mono HO261.out (fun _ hk => ⟨⟨hk.1.2, hk.2⟩, hk.1.1⟩)) hg hat); have n2_ := Aside0.mk (Kd.R_after (ok := (fun k_ => some k_ ≠ (.slice Ao73 y247.length co73 : Value).ownBlock ∧ some k_ ≠ (.slice Ao79 y259.length co79 : Value).ownBlock)) (by (with_reducible repeat (first | apply Kd.R_alloc | apply Kd.R_drewN | apply Kd.R_drew)); exact Kd.R_mono HO264.out (fun _ hk => ⟨⟨hk.2.1, hk.2.2⟩, hk.1⟩)) hg hat); have n3_ := Aside0.mk (hb); have n4_ := Aside0.mk (ho); clear HO249; clear HO261; clear HO264; clear HB; clear HO_10; have HO249 := n0_; have HO261 := n1_; have HO264 := n2_; have HB := n3_; have HO267 := n4_; clear n0_ n1_ n2_ n3_ n4_; clear ho hb hg hat))
                                                        go_roundg k4
                                                        case measure => have := HJ6.out; have := HK2.out; have := HJ19.out; have := HK4.out; omega
                                                        case rel => exact ⟨(y262), (y265), (wrap64 (x36_2 + 1)), (by first | rfl | (simp; done) | (simp [*]; done)), H', ⟨by have := HJ6.out; have := HK2.out; have := HJ19.out; have := HK4.out; omega⟩, ⟨by (with_reducible repeat (first | apply Kd.R_alloc | apply Kd.R_drewN | apply Kd.R_drew)); exact Kd.R_mono HO264.out (fun _ hk => hk.2)⟩, ⟨by (with_reducible repeat (first | apply Kd.R_alloc | apply Kd.R_drewN | apply Kd.R_drew)); exact Kd.R_mono HO267.out (fun _ hk => hk.2.2)⟩, ⟨by repeat (first | (with_reducible first | exact HB.out | apply below_alloc | apply pw_below_drewN | apply below_drew1) | exact HB.out)⟩⟩
                                                      · rw [if_neg c68] at H
                                                        exact absurd H (by simp)
                                                    · rw [if_neg c67] at H
                                                      exact absurd H (by simp)
                                                  · rw [if_neg c66] at H
                                                    exact absurd H (by simp)
                                                · rw [if_neg c65] at H
                                                  exact absurd H (by simp)
                                              · rw [if_neg c64] at H
                                                exact absurd H (by simp)
                                            · rw [if_neg c63] at H
                                              exact absurd H (by simp)
                                          · rw [if_neg c62] at H
                                            exact absurd H (by simp)
                                        · rw [if_neg c60] at H
                                          exact absurd H (by simp)
                                      · rw [if_neg c59] at H
                                        exact absurd H (by simp)
                                    · rw [if_neg c56] at H
                                      exact absurd H (by simp)
                                  · rw [if_neg c55] at H
                                    exact absurd H (by simp)
                  · rw [if_neg c19] at H
                    exact absurd H (by simp)
                · rw [if_neg c18] at H
                  exact absurd H (by simp)
              · rw [if_neg c17] at H
                have c17b0 : decide (x36_2 < (l0.length : Int)) = false := decide_eq_false c17
                clear c17
                by_cases c81 : x9_2.length + 5 < 140737488355328
                · rw [if_pos c81] at H
                  have LMc81 := Aside0.mk c81
                  clear c81
                  obtain ⟨y213, hy213⟩ : ∃ y_ : List Int, y_ = (x9_2 ++ bytesOf (⟨#[48, 13, 10, 13, 10]⟩ : ByteArray)) := ⟨_, rfl⟩
                  replace H : ((chunk_Decode.f k2 y213 1048576).bind fun bt216 => (if bt216.2.2 = 0 then ((tollbarref01_SameBytes.f k2 bt216.1 x10_2).bind fun t221 => (if t221 = true then (some (bt216.2.1 == (y213.length : Int))) else (some false))) else (some false))) = some r := by first | (rw [hy213]; with_reducible exact H) | (have H2_ := (Option.bind_some _ _).symm.trans H; rw [hy213]; with_reducible exact H2_) | (have H2_ := (Option.bind_some _ _).symm.trans H; with_reducible exact H2_) | with_reducible exact H | (rw [hy213]; exact H) | exact H
                  have Ny213 := Aside0.mk hy213
                  clear hy213
                  replace H := Option.bind_eq_some_iff.mp H
                  obtain ⟨⟨t216, t217, t218⟩, A820, H⟩ := H
                  replace H : (if t218 = 0 then ((tollbarref01_SameBytes.f k2 t216 x10_2).bind fun t221 => (if t221 = true then (some (t217 == (y213.length : Int))) else (some false))) else (some false)) = some r := H
                  have A82 := Aside0.mk A820
                  clear A820
                  by_cases c83 : t218 = 0
                  · rw [if_pos c83] at H
                    have c83b0 : (t218 == 0) = true := beq_iff_eq.mpr c83
                    have c83b1 : (t218 != 0) = false := bne_eq_false_iff_eq.mpr c83
                    clear c83
                    replace H := Option.bind_eq_some_iff.mp H
                    obtain ⟨t221, A840, H⟩ := H
                    replace H : (if t221 = true then (some (t217 == (y213.length : Int))) else (some false)) = some r := H
                    have A84 := Aside0.mk A840
                    clear A840
                    by_cases c85 : t221 = true
                    · subst c85
                      have H1 : (some (t217 == (y213.length : Int))) = some r := by rw [if_pos rfl] at H; exact H
                      clear H
                      have H := H1
                      clear H1
                      obtain rfl := Option.some.inj H
                      go_wp2_with (first | (at_builtin; refine Kd.R_append_str (w0 := w) w.heap.size rfl (.tmp 85) _ 25 9 5 rfl Tryd.underlying25 Tryd.underlying9 info5 u9 x9_2 (⟨#[48, 13, 10, 13, 10]⟩ : ByteArray) (fun k_ => some k_ ≠ (u10 : Value).ownBlock) rfl rfl ?aF ?aO ?aB ?aS ?aL ?_; (case aB => exact (by repeat (first | (with_reducible first | exact HB.out | apply below_alloc | apply pw_below_drewN | apply below_drew1) | exact HB.out))); (case aF => exact (fun k_ hk => Kd.fresh' (Kd.R_lt (by (with_reducible repeat (first | apply Kd.R_alloc | apply Kd.R_drewN | apply Kd.R_drew)); exact HO_10.out)) k_ hk)); (case aO => exact (by (with_reducible repeat (first | apply Kd.R_alloc | apply Kd.R_drewN | apply Kd.R_drew)); exact HO_9.out)); (case aS => exact (below_size (by repeat (first | (with_reducible first | exact HB.out | apply below_alloc | apply pw_below_drewN | apply below_drew1) | exact HB.out)))); (case aL => have hl_ : (⟨#[48, 13, 10, 13, 10]⟩ : ByteArray).size = 5 := rfl; have := LMc81.out; omega); intro v214 w86 ho hb hg hat; rw [← Ny213.out] at ho; have n0_ := Aside0.mk (Kd.R_after (ok := (fun _ => True)) (by (with_reducible repeat (first | apply Kd.R_alloc | apply Kd.R_drewN | apply Kd.R_drew)); exact Kd.R_mono HO_10.out (fun _ hk => ⟨trivial, hk⟩)) hg hat); have n1_ := Aside0.mk (hb); have n2_ := Aside0.mk (ho); clear HO_10; clear HB; clear HO_9; have HO_10 := n0_; have HB := n1_; have HO215 := n2_; clear n0_ n1_ n2_; clear ho hb hg hat; obtain ⟨Ao87, co87, eo87⟩ := Kd.R_slice HO215.out; subst eo87) | ((with_reducible refine gate_callee (f := 8) rfl ?_); refine goesL_ (some 89) rfl rfl Tryd.func8 (by kernel_rfl) rfl #[.slice Ao87 y213.length co87, .int .i64 1048576] rfl (by (try simp only [List.map_toArray, List.map_cons, List.map_nil]); first | done | rfl | (simp only [List.length_drop, List.length_take]; rfl)) ?_; (with_reducible refine (chunk_Decode.calls k2 _ _ y213 1048576 t216 t217 t218 _ ?side1 ?side2 A82.out).mono ?_); (case side1 => repeat (first | exact (Kd.R_reads' HO215.out).2.2 | (with_reducible refine Kd.C_alloc ?_ _) | (with_reducible refine Kd.C_drewN ?_ _) | (with_reducible refine Kd.C_drew ?_))); (case side2 => exact (Kd.R_reads' HO215.out).2.1); rintro e w88 ⟨v219, rfl, ho0, hb⟩; (try clear A82); refine ⟨_, rfl, ?_⟩; have n0_ := Aside0.mk (Kd.R_elder' (by (with_reducible repeat (first | apply Kd.R_alloc | apply Kd.R_drewN | apply Kd.R_drew)); exact HO_10.out) (Kd.R_base ho0) hb); have n1_ := Aside0.mk (Kd.R_elder' (by (with_reducible repeat (first | apply Kd.R_alloc | apply Kd.R_drewN | apply Kd.R_drew)); exact HO215.out) (Kd.R_base ho0) hb); have n2_ := Aside0.mk (Kd.R_lower (Kd.R_new' (Kd.R_new' ho0 (Kd.R_lt (by (with_reducible repeat (first | apply Kd.R_alloc | apply Kd.R_drewN | apply Kd.R_drew)); exact HO_10.out))) (Kd.R_lt (by (with_reducible repeat (first | apply Kd.R_alloc | apply Kd.R_drewN | apply Kd.R_drew)); exact HO215.out))) (below_size (by repeat (first | (with_reducible first | exact HB.out | apply below_alloc | apply pw_below_drewN | apply below_drew1) | exact HB.out)))); have n3_ := Aside0.mk (below_step (by repeat (first | (with_reducible first | exact HB.out | apply below_alloc | apply pw_below_drewN | apply below_drew1) | exact HB.out)) hb); clear HO_10; clear HO215; clear HB; have HO_10 := n0_; have HO215 := n1_; have HO220 := n2_; have HB := n3_; clear n0_ n1_ n2_ n3_; (try clear hb); (try clear hb2); (try clear hk); (try clear hi); (try clear ho0); obtain ⟨Ao89, co89, eo89⟩ := Kd.R_slice HO220.out; subst eo89; obtain ⟨Ao90, co90, eo90⟩ := Kd.R_slice HO_10.out; subst eo90) | (go_at_call 9; (with_reducible refine (tollbarref01_SameBytes.calls k2 _ _ t216 _ _ x10_2 true _ ?side1 ?side2 ?side3 ?side4 A84.out).mono ?_); (case side1 => repeat (first | exact (Kd.R_reads' HO220.out).2.2 | (with_reducible refine Kd.C_alloc ?_ _) | (with_reducible refine Kd.C_drewN ?_ _) | (with_reducible refine Kd.C_drew ?_))); (case side2 => exact (Kd.R_reads' HO220.out).2.1); (case side3 => repeat (first | exact (Kd.R_reads' HO_10.out).2.2 | (with_reducible refine Kd.C_alloc ?_ _) | (with_reducible refine Kd.C_drewN ?_ _) | (with_reducible refine Kd.C_drew ?_))); (case side4 => exact (Kd.R_reads' HO_10.out).2.1); rintro e w' ⟨rfl, ⟨nd, rfl⟩⟩; (try clear A84)))
                      go_ret
                      exact ⟨by first | rfl | (simp [errW_none, errW_some] <;> rfl) | (simp [*, errW_none, errW_some] <;> rfl), by repeat (first | (with_reducible first | exact HB.out | apply below_alloc | apply pw_below_drewN | apply below_drew1) | exact HB.out)⟩
                    · replace c85 := Bool.eq_false_iff.mpr c85
                      subst c85
                      have H1 : (some false) = some r := by rw [if_neg (show ¬ (false = true) by decide)] at H; exact H
                      clear H
                      have H := H1
                      clear H1
                      exact absurd ((Option.some.inj H).trans HRT.out) (by decide)
                  · rw [if_neg c83] at H
                    have c83b0 : (t218 == 0) = false := beq_eq_false_iff_ne.mpr c83
                    have c83b1 : (t218 != 0) = true := bne_iff_ne.mpr c83
                    exact absurd ((Option.some.inj H).trans HRT.out) (by decide)
                · rw [if_neg c81] at H
                  exact absurd H (by simp)
  · replace c6 := Bool.eq_false_iff.mpr c6
    subst c6
    have H1 : (some false) = some r := by rw [if_neg (show ¬ (false = true) by decide)] at H; exact H
    clear H
    have H := H1
    clear H1
    exact absurd ((Option.some.inj H).trans HRT.out) (by decide)

end Go.Proofs.YtfjeinnemimjoaaDoor.P

