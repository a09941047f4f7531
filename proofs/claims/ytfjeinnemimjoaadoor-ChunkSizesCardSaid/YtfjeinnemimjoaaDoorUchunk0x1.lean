/- Each function below answers as its Lean twin says. No further condition. (Laid by this repo's packseat.py out of the seat's texts and of the print's words.) -/
import Derived.Test.YtfjeinnemimjoaaDoorU0base0x0
import Derived.Test.YtfjeinnemimjoaaDoorUsign0x1
import Derived.Test.YtfjeinnemimjoaaDoorUslices0x0
namespace Go.Proofs.YtfjeinnemimjoaaDoor.P
open Go.RowKit Go.Proofs.YtfjeinnemimjoaaDoorW.PrintWords Go.Proofs.YtfjeinnemimjoaaDoorW.PrintLast Go.Proofs.YtfjeinnemimjoaaDoorW.PrintMore
attribute [local go_sem] max2_int min2_int max_two min_two max_three min_three max_four min_four   -- for this text's walks alone
set_option linter.unusedVariables false
set_option linter.unusedSimpArgs false

def chunk_Encode.l0 : Nat → List Int → Int → List Int → Option (List Int)
  | 0, _, _, _ => none
  | k + 1, x0, x1, x5 => if (x0.length : Int) > 0 then ((sign_HexText.f (mn x1 (x0.length : Int))).bind fun t180 => (if t180.size + 2 ≤ 9223372036854775807 then (if x5.length + (t180 ++ (⟨#[13, 10]⟩ : ByteArray)).size < 140737488355328 then ((some (x5 ++ bytesOf (t180 ++ (⟨#[13, 10]⟩ : ByteArray)) : List Int)).bind fun y181 => (if 0 ≤ (mn x1 (x0.length : Int)) then (if (mn x1 (x0.length : Int)) ≤ (x0.length : Int) then ((some (x0.take ((mn x1 (x0.length : Int)) : Int).toNat : List Int)).bind fun y184 => (if y181.length + y184.length < 140737488355328 then ((some (y181 ++ y184 : List Int)).bind fun y189 => (if y189.length + 2 < 140737488355328 then (chunk_Encode.l0 k (x0.drop ((mn x1 (x0.length : Int)) : Int).toNat) x1 (y189 ++ bytesOf (⟨#[13, 10]⟩ : ByteArray))) else (none))) else (none))) else (none)) else (none))) else (none)) else (none))) else (if x5.length + 5 < 140737488355328 then (some (x5 ++ bytesOf (⟨#[48, 13, 10, 13, 10]⟩ : ByteArray))) else (none))
def chunk_Encode.f (k : Nat) (l0 : List Int) (a1 : Int) : Option (List Int) := chunk_Encode.l0 k l0 (mx a1 1) ([] : List Int)
theorem chunk_Encode.mono_l : ∀ k, (∀ y0 y1 y2, LeO (chunk_Encode.l0 k y0 y1 y2) (chunk_Encode.l0 (k + 1) y0 y1 y2))
  | 0 => fun _ _ _ r h => by simp [chunk_Encode.l0] at h
  | k + 1 => by
    have ih0 := chunk_Encode.mono_l k
    · intro y0 y1 y2
      unfold chunk_Encode.l0
      repeat' first
      | (with_reducible exact ih0 _ _ _)
      | (with_reducible exact LeO.refl _)
      | (with_reducible exact LeO.none _)
      | (with_reducible refine LeO.ite ?_ ?_)
      | (with_reducible refine LeO.bind ?_ (fun _ => ?_))
      | exact ih0 _ _ _
      | exact LeO.none _
      | refine LeO.ite ?_ ?_
      | refine LeO.bind ?_ (fun _ => ?_)
theorem chunk_Encode.mono : ∀ a0 a1 k, LeO (chunk_Encode.f k a0 a1) (chunk_Encode.f (k + 1) a0 a1) := by
  intro a0 a1 k
  have ih0 := chunk_Encode.mono_l k
  unfold chunk_Encode.f
  repeat' first
      | (with_reducible exact ih0 _ _ _)
      | (with_reducible exact LeO.refl _)
      | (with_reducible exact LeO.none _)
      | (with_reducible refine LeO.ite ?_ ?_)
      | (with_reducible refine LeO.bind ?_ (fun _ => ?_))
      | exact ih0 _ _ _
      | exact LeO.none _
      | refine LeO.ite ?_ ?_
      | refine LeO.bind ?_ (fun _ => ?_)
set_option maxHeartbeats 8000000 in
set_option maxRecDepth 100000 in
theorem chunk_Encode.calls (k : Nat) (P0_ : Nat → Prop) (A0 : Option Addr) (c0 : Nat) (l0 : List Int) (a1 : Int) (r : List Int) (w : World) (hs0 : Kd.V (Kd.int .u8) 5 w w.heap.size (fun k_ => P0_ k_) (.slice A0 l0.length c0) l0) (h : chunk_Encode.f k l0 a1 = some r) (ht : Tabs w) :
    Calls Tryd.prog 20 #[.slice A0 l0.length c0, .int .i64 a1] w fun e w' => ∃ v0_ : Value, e = .returned (v0_) ∧ Kd.R (Kd.int .u8) 5 w' w.heap.size (fun k_ => (w.heap.size ≤ k_)) v0_ r ∧ Below w.heap.size w w' := by
  have HTB := Aside0.mk ht
  clear ht
  have HO0 := Aside0.mk (show Kd.V (Kd.int .u8) 5 w w.heap.size (fun k_ => (P0_ k_ ∨ w.heap.size ≤ k_)) (.slice A0 l0.length c0) l0 from Kd.V_mono hs0 (fun k_ hk => .inl hk))
  have HB := Aside0.mk (Below.refl w.heap.size w)
  have H : (chunk_Encode.l0 k l0 (mx a1 1) ([] : List Int)) = some r := h
  clear h
  obtain ⟨ji3, hji3⟩ : ∃ j_ : Int, (mx a1 1) = j_ := ⟨_, rfl⟩
  replace H : (chunk_Encode.l0 k l0 ji3 ([] : List Int)) = some r := by first | (rw [hji3] at H; exact H) | (simp only [hji3] at H ⊢; exact H)
  (try (have hji3l : 1 ≤ ji3 := by (rw [← hji3]; unfold mx; (repeat' split) <;> omega)))
  (try (have hji3m : 0 ≤ ji3 := by omega))
  have hji3_ : (if a1 < 1 then 1 else a1) = ji3 := hji3
  have H' := Aside0.mk H
  clear H
  go_enter Tryd.func20, Tryd.ntmps20
  go_wp2
  go_loopg [0, 5] k (fun kq v0 v5 w' => ∃ (x0_1 : List Int) (x5_1 : List Int), Aside0 (chunk_Encode.l0 kq x0_1 ji3 x5_1 = some r) ∧ Aside0 (kq ≤ k) ∧ Aside0 (Kd.V (Kd.int .u8) 5 w' w.heap.size (fun k_ => (P0_ k_ ∨ w.heap.size ≤ k_) ∧ some k_ ≠ (v5 : Value).ownBlock) v0 x0_1) ∧ Aside0 (Kd.R (Kd.int .u8) 5 w' w.heap.size (fun k_ => (w.heap.size ≤ k_)) v5 x5_1) ∧ Aside0 (Below w.heap.size w w'))
  case atStart => exact ⟨(l0), (([] : List Int)), H', ⟨Nat.le_refl _⟩, ⟨by (with_reducible repeat (first | apply Kd.V_alloc | apply Kd.V_drewN | apply Kd.V_drew)); exact Kd.V_mono HO0.out (fun _ hk => ⟨hk, (by simp [Value.ownBlock])⟩)⟩, ⟨by first | exact Kd.R_nil _ _ _ _ _ | exact Kd.N_nil _ _ _ _ _ | exact Kd.V_nil _ _ _ _ _ | exact Kd.Q_nil _ _ _ _ _ | exact Kd.S_nil _ _ _ _ _⟩, ⟨by repeat (first | (with_reducible first | exact HB.out | apply below_alloc | apply pw_below_drewN | apply below_drew1) | exact HB.out)⟩⟩
  case round =>
    clear H'
    try clear c2
    try clear p2
    obtain ⟨x0_1, x5_1, HA, HK1, HO_0, HO_5, HB⟩ := hrel
    cases gk with
    | zero => exact absurd HA.out (by simp [chunk_Encode.l0])
    | succ k1 =>
      have H := HA.out
      clear HA
      simp only [chunk_Encode.l0] at H
      by_cases c4 : (x0_1.length : Int) > 0
      · rw [if_pos c4] at H
        have c4b0 : decide (0 < (x0_1.length : Int)) = true := decide_eq_true c4
        have c4b1 : decide (0 < x0_1.length) = true := decide_eq_true (by omega)
        clear c4
        obtain ⟨ji5, hji5⟩ : ∃ j_ : Int, (mn ji3 (x0_1.length : Int)) = j_ := ⟨_, rfl⟩
        replace H : ((sign_HexText.f (ji5)).bind fun t180 => (if t180.size + 2 ≤ 9223372036854775807 then (if x5_1.length + (t180 ++ (⟨#[13, 10]⟩ : ByteArray)).size < 140737488355328 then ((some (x5_1 ++ bytesOf (t180 ++ (⟨#[13, 10]⟩ : ByteArray)) : List Int)).bind fun y181 => (if 0 ≤ (ji5) then (if (ji5) ≤ (x0_1.length : Int) then ((some (x0_1.take ((ji5) : Int).toNat : List Int)).bind fun y184 => (if y181.length + y184.length < 140737488355328 then ((some (y181 ++ y184 : List Int)).bind fun y189 => (if y189.length + 2 < 140737488355328 then (chunk_Encode.l0 k1 (x0_1.drop ((ji5) : Int).toNat) ji3 (y189 ++ bytesOf (⟨#[13, 10]⟩ : ByteArray))) else (none))) else (none))) else (none)) else (none))) else (none)) else (none))) = some r := by first | (rw [hji5] at H; exact H) | (simp only [hji5] at H ⊢; exact H)
        have hji5_ : (if (x0_1.length : Int) < ji3 then (x0_1.length : Int) else ji3) = ji5 := hji5
        replace H := Option.bind_eq_some_iff.mp H
        obtain ⟨t180, A60, H⟩ := H
        replace H : (if t180.size + 2 ≤ 9223372036854775807 then (if x5_1.length + (t180 ++ (⟨#[13, 10]⟩ : ByteArray)).size < 140737488355328 then ((some (x5_1 ++ bytesOf (t180 ++ (⟨#[13, 10]⟩ : ByteArray)) : List Int)).bind fun y181 => (if 0 ≤ (ji5) then (if (ji5) ≤ (x0_1.length : Int) then ((some (x0_1.take ((ji5) : Int).toNat : List Int)).bind fun y184 => (if y181.length + y184.length < 140737488355328 then ((some (y181 ++ y184 : List Int)).bind fun y189 => (if y189.length + 2 < 140737488355328 then (chunk_Encode.l0 k1 (x0_1.drop ((ji5) : Int).toNat) ji3 (y189 ++ bytesOf (⟨#[13, 10]⟩ : ByteArray))) else (none))) else (none))) else (none)) else (none))) else (none)) else (none)) = some r := H
        have A6 := Aside0.mk A60
        clear A60
        by_cases c7 : t180.size + 2 ≤ 9223372036854775807
        · rw [if_pos c7] at H
          have c7b0 := eq_true c7
          have c7b1 : decide (t180.size + 2 ≤ 9223372036854775807) = true := decide_eq_true c7
          try have c7b2 : (9223372036854775807 < t180.size + 2) = False := eq_false (Nat.not_lt.2 c7)
          by_cases c8 : x5_1.length + (t180 ++ (⟨#[13, 10]⟩ : ByteArray)).size < 140737488355328
          · rw [if_pos c8] at H
            have LMc8 := Aside0.mk c8
            clear c8
            obtain ⟨y181, hy181⟩ : ∃ y_ : List Int, y_ = (x5_1 ++ bytesOf (t180 ++ (⟨#[13, 10]⟩ : ByteArray))) := ⟨_, rfl⟩
            replace H : (if 0 ≤ (ji5) then (if (ji5) ≤ (x0_1.length : Int) then ((some (x0_1.take ((ji5) : Int).toNat : List Int)).bind fun y184 => (if y181.length + y184.length < 140737488355328 then ((some (y181 ++ y184 : List Int)).bind fun y189 => (if y189.length + 2 < 140737488355328 then (chunk_Encode.l0 k1 (x0_1.drop ((ji5) : Int).toNat) ji3 (y189 ++ bytesOf (⟨#[13, 10]⟩ : ByteArray))) else (none))) else (none))) else (none)) else (none)) = some r := by first | (rw [hy181]; with_reducible exact H) | (have H2_ := (Option.bind_some _ _).symm.trans H; rw [hy181]; with_reducible exact H2_) | (have H2_ := (Option.bind_some _ _).symm.trans H; with_reducible exact H2_) | with_reducible exact H | (rw [hy181]; exact H) | exact H
            have Ny181 := Aside0.mk hy181
            clear hy181
            by_cases c9 : 0 ≤ (ji5)
            · rw [if_pos c9] at H
              have c9b0 := eq_true c9
              have c9b1 : decide (0 ≤ (ji5)) = true := decide_eq_true c9
              clear c9
              by_cases c10 : (ji5) ≤ (x0_1.length : Int)
              · rw [if_pos c10] at H
                have c10b0 := eq_true c10
                have c10b1 : decide ((ji5) ≤ (x0_1.length : Int)) = true := decide_eq_true c10
                clear c10
                obtain ⟨y184, hy184⟩ : ∃ y_ : List Int, y_ = (x0_1.take ((ji5) : Int).toNat) := ⟨_, rfl⟩
                replace H : (if y181.length + y184.length < 140737488355328 then ((some (y181 ++ y184 : List Int)).bind fun y189 => (if y189.length + 2 < 140737488355328 then (chunk_Encode.l0 k1 (x0_1.drop ((ji5) : Int).toNat) ji3 (y189 ++ bytesOf (⟨#[13, 10]⟩ : ByteArray))) else (none))) else (none)) = some r := by first | (rw [hy184]; with_reducible exact H) | (have H2_ := (Option.bind_some _ _).symm.trans H; rw [hy184]; with_reducible exact H2_) | (have H2_ := (Option.bind_some _ _).symm.trans H; with_reducible exact H2_) | with_reducible exact H | (rw [hy184]; exact H) | exact H
                have Ny184 := Aside0.mk hy184
                clear hy184
                by_cases c11 : y181.length + y184.length < 140737488355328
                · rw [if_pos c11] at H
                  have LMc11 := Aside0.mk c11
                  clear c11
                  obtain ⟨y189, hy189⟩ : ∃ y_ : List Int, y_ = (y181 ++ y184) := ⟨_, rfl⟩
                  replace H : (if y189.length + 2 < 140737488355328 then (chunk_Encode.l0 k1 (x0_1.drop ((ji5) : Int).toNat) ji3 (y189 ++ bytesOf (⟨#[13, 10]⟩ : ByteArray))) else (none)) = some r := by first | (rw [hy189]; with_reducible exact H) | (have H2_ := (Option.bind_some _ _).symm.trans H; rw [hy189]; with_reducible exact H2_) | (have H2_ := (Option.bind_some _ _).symm.trans H; with_reducible exact H2_) | with_reducible exact H | (rw [hy189]; exact H) | exact H
                  have Ny189 := Aside0.mk hy189
                  clear hy189
                  by_cases c12 : y189.length + 2 < 140737488355328
                  · rw [if_pos c12] at H
                    have LMc12 := Aside0.mk c12
                    clear c12
                    obtain ⟨y192, hy192⟩ : ∃ y_ : List Int, y_ = (y189 ++ bytesOf (⟨#[13, 10]⟩ : ByteArray)) := ⟨_, rfl⟩
                    replace H : (chunk_Encode.l0 k1 (x0_1.drop ((ji5) : Int).toNat) ji3 y192) = some r := by first | (rw [hy192]; with_reducible exact H) | (have H2_ := (Option.bind_some _ _).symm.trans H; rw [hy192]; with_reducible exact H2_) | (have H2_ := (Option.bind_some _ _).symm.trans H; with_reducible exact H2_) | with_reducible exact H | (rw [hy192]; exact H) | exact H
                    have Ny192 := Aside0.mk hy192
                    clear hy192
                    have c13b0 := eq_true (of_decide_eq_true (by first | (with_reducible assumption) | assumption) : 0 ≤ (ji5))
                    have c14b0 := eq_true (of_decide_eq_true (by first | (with_reducible assumption) | assumption) : (ji5) ≤ (x0_1.length : Int))
                    obtain ⟨y195, hy195⟩ : ∃ y_ : List Int, y_ = (x0_1.drop ((ji5) : Int).toNat) := ⟨_, rfl⟩
                    replace H : (chunk_Encode.l0 k1 y195 ji3 y192) = some r := by first | (rw [hy195]; with_reducible exact H) | (have H2_ := (Option.bind_some _ _).symm.trans H; rw [hy195]; with_reducible exact H2_) | (have H2_ := (Option.bind_some _ _).symm.trans H; with_reducible exact H2_) | with_reducible exact H | (rw [hy195]; exact H) | exact H
                    have Ny195 := Aside0.mk hy195
                    clear hy195
                    have H' := Aside0.mk H
                    clear H
                    obtain ⟨Ao15, co15, eo15⟩ := Kd.V_slice HO_0.out
                    subst eo15
                    go_wp2_with (first | ((with_reducible refine gate_callee (f := 49) rfl ?_); refine goesL_ (some 18) rfl rfl Tryd.func49 (by kernel_rfl) rfl #[.int .i64 ji5] rfl (by (try simp only [List.map_toArray, List.map_cons, List.map_nil]); first | done | (simp only [hji5]; rfl) | rfl | (simp only [List.length_drop, List.length_take]; rfl)) ?_; (with_reducible refine (sign_HexText.calls ji5 t180 _ A6.out ?hT).mono ?_); (case hT => exact HTB.out.below (by repeat (first | (with_reducible first | exact HB.out | apply below_alloc | apply pw_below_drewN | apply below_drew1) | exact HB.out))); rintro e w16 ⟨rfl, hb⟩; (try clear A6); refine ⟨_, rfl, ?_⟩; have n0_ := Aside0.mk (Kd.V_below (by (with_reducible repeat (first | apply Kd.V_alloc | apply Kd.V_drewN | apply Kd.V_drew)); exact HO_0.out) hb); have n1_ := Aside0.mk (Kd.R_below (by (with_reducible repeat (first | apply Kd.R_alloc | apply Kd.R_drewN | apply Kd.R_drew)); exact HO_5.out) hb); have n2_ := Aside0.mk (below_step (by repeat (first | (with_reducible first | exact HB.out | apply below_alloc | apply pw_below_drewN | apply below_drew1) | exact HB.out)) hb); clear HO_0; clear HO_5; clear HB; have HO_0 := n0_; have HO_5 := n1_; have HB := n2_; clear n0_ n1_ n2_; (try clear hb); (try clear hb2); (try clear hk); (try clear hi)) | (at_builtin; refine Kd.R_append_str (w0 := w) w.heap.size rfl (.tmp 16) _ 25 9 5 rfl Tryd.underlying25 Tryd.underlying9 info5 u5 x5_1 (t180 ++ (⟨#[13, 10]⟩ : ByteArray)) (fun k_ => (w.heap.size ≤ k_)) rfl rfl ?aF ?aO ?aB ?aS ?aL ?_; (case aB => exact (by repeat (first | (with_reducible first | exact HB.out | apply below_alloc | apply pw_below_drewN | apply below_drew1) | exact HB.out))); (case aF => exact (fun k_ hk => (Nat.le_trans (below_size (by repeat (first | (with_reducible first | exact HB.out | apply below_alloc | apply pw_below_drewN | apply below_drew1) | exact HB.out))) hk))); (case aO => exact (by (with_reducible repeat (first | apply Kd.R_alloc | apply Kd.R_drewN | apply Kd.R_drew)); exact HO_5.out)); (case aS => exact (below_size (by repeat (first | (with_reducible first | exact HB.out | apply below_alloc | apply pw_below_drewN | apply below_drew1) | exact HB.out)))); (case aL => have := LMc8.out; omega); intro v182 w17 ho hb hg hat; rw [← Ny181.out] at ho; have n0_ := Aside0.mk (Kd.V_afterv (ok := (fun k_ => (P0_ k_ ∨ w.heap.size ≤ k_))) (by (with_reducible repeat (first | apply Kd.V_alloc | apply Kd.V_drewN | apply Kd.V_drew)); exact HO_0.out) hg hat); have n1_ := Aside0.mk (hb); have n2_ := Aside0.mk (ho); clear HO_0; clear HB; clear HO_5; have HO_0 := n0_; have HB := n1_; have HO183 := n2_; clear n0_ n1_ n2_; clear ho hb hg hat; have q18 : ((ji5) : Int) ≤ ((x0_1.length : Int) : Int) := of_decide_eq_true (by first | (with_reducible assumption) | assumption); obtain ⟨i018, hi018, _, hsz18, _⟩ := info_parts info5; have hroom18 : x0_1.length ≤ co15 := (Kd.V_reads' HO_0.out).2.1; have hC18 : Kd.F (Kd.int .u8) _ _ Ao15 x0_1.length x0_1 := (Kd.V_at (base := w.heap.size) HO_0.out).2.2; have hcut18 := cut_to (P := Tryd.prog) 25 5 .i64 Tryd.underlying25 hi018 Ao15 x0_1.length co15 (ji5) (of_decide_eq_true (by first | (with_reducible assumption) | assumption)) q18 hroom18; have hr18 := Kd.F_take (m := ((ji5) : Int).toNat) hC18 (by omega); have hy18 : y184.length = ((ji5) : Int).toNat := (by rw [Ny184.out, List.length_take]; omega); rw [← Ny184.out] at hr18; rw [← hy18] at hcut18; have HO188 := Aside0.mk (show Kd.V (Kd.int .u8) 5 _ w.heap.size _ (.slice Ao15 y184.length co15) y184 from Kd.V_mk (by omega) hr18); have HC188 := Aside0.mk (show y184.length ≤ co15 from by omega); clear hr18 hC18 hroom18 hi018 hsz18; have KY18 := Aside0.mk hy18; clear hy18; replace q18 := eq_true q18) | ((with_reducible refine gate_builtin (b := .append) (xs := #[.tmp 21, .tmp 24]) rfl ?_); at_builtin; refine Kd.R_append_rows (Kd.int .u8) (w0 := w) w.heap.size rfl (.tmp 21) (.tmp 24) 25 5 (.int .u8 0) 1 rfl Tryd.underlying25 info5 rfl (by decide) (by omega) v182 y181 y184 _ _ _ (fun k_ => (w.heap.size ≤ k_)) (fun _ => False) rfl rfl ?aO ?aR (fun _ _ h => h) (fun _ h => h.elim) ?aF ?aB ?aS ?aL ?_; (case aR => repeat (first | exact (Kd.V_reads' HO188.out).2.2 | (with_reducible refine Kd.C_alloc ?_ _) | (with_reducible refine Kd.C_drewN ?_ _) | (with_reducible refine Kd.C_drew ?_))); (case aB => exact (by repeat (first | (with_reducible first | exact HB.out | apply below_alloc | apply pw_below_drewN | apply below_drew1) | exact HB.out))); (case aF => exact (fun k_ hk => (Nat.le_trans (below_size (by repeat (first | (with_reducible first | exact HB.out | apply below_alloc | apply pw_below_drewN | apply below_drew1) | exact HB.out))) hk))); (case aO => exact (by (with_reducible repeat (first | apply Kd.R_alloc | apply Kd.R_drewN | apply Kd.R_drew)); exact HO183.out)); (case aS => exact (below_size (by repeat (first | (with_reducible first | exact HB.out | apply below_alloc | apply pw_below_drewN | apply below_drew1) | exact HB.out)))); (case aL => have := LMc11.out; omega); intro v190 w19 ho hb hg hat; rw [← Ny189.out] at ho; have n0_ := Aside0.mk (Kd.V_afterv (ok := (fun k_ => (P0_ k_ ∨ w.heap.size ≤ k_))) (by (with_reducible repeat (first | apply Kd.V_alloc | apply Kd.V_drewN | apply Kd.V_drew)); exact HO_0.out) hg hat); have n1_ := Aside0.mk (Kd.V_afterv (ok := (fun k_ => (P0_ k_ ∨ w.heap.size ≤ k_))) (by (with_reducible repeat (first | apply Kd.V_alloc | apply Kd.V_drewN | apply Kd.V_drew)); exact HO188.out) hg hat); have n2_ := Aside0.mk (hb); have n3_ := Aside0.mk (ho); clear HO_0; clear HO188; clear HB; clear HO183; have HO_0 := n0_; have HO188 := n1_; have HB := n2_; have HO191 := n3_; clear n0_ n1_ n2_ n3_; clear ho hb hg hat) | (at_builtin; refine Kd.R_append_str (w0 := w) w.heap.size rfl (.tmp 26) _ 25 9 5 rfl Tryd.underlying25 Tryd.underlying9 info5 v190 y189 (⟨#[13, 10]⟩ : ByteArray) (fun k_ => (w.heap.size ≤ k_)) rfl rfl ?aF ?aO ?aB ?aS ?aL ?_; (case aB => exact (by repeat (first | (with_reducible first | exact HB.out | apply below_alloc | apply pw_below_drewN | apply below_drew1) | exact HB.out))); (case aF => exact (fun k_ hk => (Nat.le_trans (below_size (by repeat (first | (with_reducible first | exact HB.out | apply below_alloc | apply pw_below_drewN | apply below_drew1) | exact HB.out))) hk))); (case aO => exact (by (with_reducible repeat (first | apply Kd.R_alloc | apply Kd.R_drewN | apply Kd.R_drew)); exact HO191.out)); (case aS => exact (below_size (by repeat (first | (with_reducible first | exact HB.out | apply below_alloc | apply pw_below_drewN | apply below_drew1) | exact HB.out)))); (case aL => have hl_ : (⟨#[13, 10]⟩ : ByteArray).size = 2 := rfl; have := LMc12.out; omega); intro v193 w20 ho hb hg hat; rw [← Ny192.out] at ho; have n0_ := Aside0.mk (Kd.V_afterv (ok := (fun k_ => (P0_ k_ ∨ w.heap.size ≤ k_))) (by (with_reducible repeat (first | apply Kd.V_alloc | apply Kd.V_drewN | apply Kd.V_drew)); exact HO_0.out) hg hat); have n1_ := Aside0.mk (Kd.V_afterv (ok := (fun k_ => (P0_ k_ ∨ w.heap.size ≤ k_))) (by (with_reducible repeat (first | apply Kd.V_alloc | apply Kd.V_drewN | apply Kd.V_drew)); exact HO188.out) hg hat); have n2_ := Aside0.mk (hb); have n3_ := Aside0.mk (ho); clear HO_0; clear HO188; clear HB; clear HO191; have HO_0 := n0_; have HO188 := n1_; have HB := n2_; have HO194 := n3_; clear n0_ n1_ n2_ n3_; clear ho hb hg hat; have q21 : ((ji5) : Int) ≤ ((x0_1.length : Int) : Int) := of_decide_eq_true (by first | (with_reducible assumption) | assumption); obtain ⟨i021, hi021, _, hsz21, _⟩ := info_parts info5; have hroom21 : x0_1.length ≤ co15 := (Kd.V_reads' HO_0.out).2.1; have hC21 : Kd.F (Kd.int .u8) _ _ Ao15 x0_1.length x0_1 := (Kd.V_at (base := w.heap.size) HO_0.out).2.2; have q021 : (0 : Int) ≤ ((ji5) : Int) := of_decide_eq_true (by first | (with_reducible assumption) | assumption); have hcut21 := cut_from (P := Tryd.prog) 25 5 .i64 Tryd.underlying25 hi021 1 hsz21 Ao15 x0_1.length co15 (ji5) q021 q21; have hr21 := Kd.F_cut (m := ((ji5) : Int).toNat) (c := co15) hC21 (by omega) hroom21; obtain ⟨A21, hA21⟩ : ∃ A1, A1 = (if co15 = ((ji5) : Int).toNat then Ao15 else (Ao15 : Option Addr).map (·.add (((ji5) : Int).toNat * 1))) := ⟨_, rfl⟩; obtain ⟨c21, hc21⟩ : ∃ c1, c1 = co15 - ((ji5) : Int).toNat := ⟨_, rfl⟩; have hy21 : y195.length = x0_1.length - ((ji5) : Int).toNat := (by rw [Ny195.out, List.length_drop] <;> omega); rw [show (x0_1).drop ((ji5) : Int).toNat = y195 from Ny195.out.symm] at hr21; replace hr21 : Kd.F (Kd.int .u8) _ _ A21 y195.length y195 := (by rw [hA21]; exact hr21); rw [← hy21, ← hA21, ← hc21] at hcut21; have HO199 := Aside0.mk (show Kd.V (Kd.int .u8) 5 _ w.heap.size _ (.slice A21 y195.length c21) y195 from Kd.V_mk (by rw [hy21, hc21]; exact Nat.sub_le_sub_right hroom21 _) hr21); have HC199 := Aside0.mk (show y195.length ≤ c21 from by rw [hy21, hc21]; exact Nat.sub_le_sub_right hroom21 _); clear hr21 hC21 hroom21 hi021 hsz21 hc21; have KY21 := Aside0.mk hy21; have KA21 := Aside0.mk hA21; clear hy21 hA21; replace q21 := eq_true q21))
                    go_roundg k1
                    case measure => have := HK1.out; omega
                    case rel => exact ⟨(y195), (y192), H', ⟨by have := HK1.out; omega⟩, ⟨by (with_reducible repeat (first | apply Kd.V_alloc | apply Kd.V_drewN | apply Kd.V_drew)); exact HO199.out⟩, ⟨by (with_reducible repeat (first | apply Kd.R_alloc | apply Kd.R_drewN | apply Kd.R_drew)); exact HO194.out⟩, ⟨by repeat (first | (with_reducible first | exact HB.out | apply below_alloc | apply pw_below_drewN | apply below_drew1) | exact HB.out)⟩⟩
                  · rw [if_neg c12] at H
                    exact absurd H (by simp)
                · rw [if_neg c11] at H
                  exact absurd H (by simp)
              · rw [if_neg c10] at H
                exact absurd H (by simp)
            · rw [if_neg c9] at H
              exact absurd H (by simp)
          · rw [if_neg c8] at H
            exact absurd H (by simp)
        · rw [if_neg c7] at H
          exact absurd H (by simp)
      · rw [if_neg c4] at H
        have c4b0 : decide (0 < (x0_1.length : Int)) = false := decide_eq_false c4
        have c4b1 : decide (0 < x0_1.length) = false := decide_eq_false (by omega)
        clear c4
        by_cases c22 : x5_1.length + 5 < 140737488355328
        · rw [if_pos c22] at H
          have LMc22 := Aside0.mk c22
          clear c22
          obtain ⟨y200, hy200⟩ : ∃ y_ : List Int, y_ = (x5_1 ++ bytesOf (⟨#[48, 13, 10, 13, 10]⟩ : ByteArray)) := ⟨_, rfl⟩
          replace H : (some y200) = some r := by first | (rw [hy200]; with_reducible exact H) | (have H2_ := (Option.bind_some _ _).symm.trans H; rw [hy200]; with_reducible exact H2_) | (have H2_ := (Option.bind_some _ _).symm.trans H; with_reducible exact H2_) | with_reducible exact H | (rw [hy200]; exact H) | exact H
          have Ny200 := Aside0.mk hy200
          clear hy200
          obtain rfl := Option.some.inj H
          obtain ⟨Ao23, co23, eo23⟩ := Kd.V_slice HO_0.out
          subst eo23
          go_wp2_with (first | (at_builtin; refine Kd.R_append_str (w0 := w) w.heap.size rfl (.tmp 31) _ 25 9 5 rfl Tryd.underlying25 Tryd.underlying9 info5 u5 x5_1 (⟨#[48, 13, 10, 13, 10]⟩ : ByteArray) (fun k_ => (w.heap.size ≤ k_)) rfl rfl ?aF ?aO ?aB ?aS ?aL ?_; (case aB => exact (by repeat (first | (with_reducible first | exact HB.out | apply below_alloc | apply pw_below_drewN | apply below_drew1) | exact HB.out))); (case aF => exact (fun k_ hk => (Nat.le_trans (below_size (by repeat (first | (with_reducible first | exact HB.out | apply below_alloc | apply pw_below_drewN | apply below_drew1) | exact HB.out))) hk))); (case aO => exact (by (with_reducible repeat (first | apply Kd.R_alloc | apply Kd.R_drewN | apply Kd.R_drew)); exact HO_5.out)); (case aS => exact (below_size (by repeat (first | (with_reducible first | exact HB.out | apply below_alloc | apply pw_below_drewN | apply below_drew1) | exact HB.out)))); (case aL => have hl_ : (⟨#[48, 13, 10, 13, 10]⟩ : ByteArray).size = 5 := rfl; have := LMc22.out; omega); intro v201 w24 ho hb hg hat; rw [← Ny200.out] at ho; have n0_ := Aside0.mk (Kd.V_afterv (ok := (fun k_ => (P0_ k_ ∨ w.heap.size ≤ k_))) (by (with_reducible repeat (first | apply Kd.V_alloc | apply Kd.V_drewN | apply Kd.V_drew)); exact HO_0.out) hg hat); have n1_ := Aside0.mk (hb); have n2_ := Aside0.mk (ho); clear HO_0; clear HB; clear HO_5; have HO_0 := n0_; have HB := n1_; have HO202 := n2_; clear n0_ n1_ n2_; clear ho hb hg hat))
          go_ret
          exact ⟨_, by first | rfl | (simp [errW_none, errW_some] <;> rfl) | (simp only [← hji3]; first | rfl | (simp [errW_none, errW_some] <;> rfl)) | (simp [*, errW_none, errW_some] <;> rfl), by (with_reducible repeat (first | apply Kd.R_alloc | apply Kd.R_drewN | apply Kd.R_drew)); exact HO202.out, by repeat (first | (with_reducible first | exact HB.out | apply below_alloc | apply pw_below_drewN | apply below_drew1) | exact HB.out)⟩
        · rw [if_neg c22] at H
          exact absurd H (by simp)

end Go.Proofs.YtfjeinnemimjoaaDoor.P

namespace Go.Proofs.YtfjeinnemimjoaaDoor.P
open Go.RowKit Go.Proofs.YtfjeinnemimjoaaDoorW.PrintWords Go.Proofs.YtfjeinnemimjoaaDoorW.PrintLast Go.Proofs.YtfjeinnemimjoaaDoorW.PrintMore
attribute [local go_sem] max2_int min2_int max_two min_two max_three min_three max_four min_four   -- for this text's walks alone
set_option linter.unusedVariables false
set_option linter.unusedSimpArgs false

set_option maxHeartbeats 4000000 in
set_option maxRecDepth 100000 in
theorem field_Has_1.callsOf (B : Nat) (part : ByteArray) (w : World) (hc : w.cell? ⟨B, 0, none⟩ = some (.string part)) : TestOf 61 #[.pointer (some ⟨B, 0, none⟩)] Value.string (fun p => sign_Same.f p part) w := fun W x b hb h => by
  have hB : B < w.heap.size := World.block_lt_of_cell? w _ hc
  have hcell : W.cell? ⟨B, 0, none⟩ = some (.string part) := (hb.cell (p := ⟨B, 0, none⟩) hB).trans hc
  have HS := Aside0.mk h
  clear hc h hb
  show Calls Tryd.prog 61 #[.string x, .pointer (some ⟨B, 0, none⟩)] W _
  go_enter Tryd.func61, Tryd.ntmps61
  go_wp2_with (go_at_call 62; refine (sign_Same.calls x part b W HS.out).mono ?_; rintro e w' ⟨rfl, hb'⟩)
  go_ret
  exact ⟨rfl, hb'⟩


end Go.Proofs.YtfjeinnemimjoaaDoor.P

namespace Go.Proofs.YtfjeinnemimjoaaDoor.P
open Go.RowKit Go.Proofs.YtfjeinnemimjoaaDoorW.PrintWords Go.Proofs.YtfjeinnemimjoaaDoorW.PrintLast Go.Proofs.YtfjeinnemimjoaaDoorW.PrintMore
attribute [local go_sem] max2_int min2_int max_two min_two max_three min_three max_four min_four   -- for this text's walks alone
set_option linter.unusedVariables false
set_option linter.unusedSimpArgs false

def field_Line.f (a0_0 : ByteArray) (a0_1 : ByteArray) : Option (ByteArray) := if a0_0.size + 2 ≤ 9223372036854775807 then (if (a0_0 ++ (⟨#[58, 32]⟩ : ByteArray)).size + a0_1.size ≤ 9223372036854775807 then (if ((a0_0 ++ (⟨#[58, 32]⟩ : ByteArray)) ++ a0_1).size + 2 ≤ 9223372036854775807 then (some (((a0_0 ++ (⟨#[58, 32]⟩ : ByteArray)) ++ a0_1) ++ (⟨#[13, 10]⟩ : ByteArray))) else (none)) else (none)) else (none)
set_option maxHeartbeats 8000000 in
set_option maxRecDepth 100000 in
theorem field_Line.calls (a0_0 : ByteArray) (a0_1 : ByteArray) (r : ByteArray) (w : World) (h : field_Line.f a0_0 a0_1 = some r) :
    Calls Tryd.prog 93 #[.agg #[.string a0_0, .string a0_1]] w fun e w' => e = .returned (.string r) ∧ Below w.heap.size w w' := by
  have hu41 := Tryd.underlying41
  have HB := Aside0.mk (Below.refl w.heap.size w)
  have H : (if a0_0.size + 2 ≤ 9223372036854775807 then (if (a0_0 ++ (⟨#[58, 32]⟩ : ByteArray)).size + a0_1.size ≤ 9223372036854775807 then (if ((a0_0 ++ (⟨#[58, 32]⟩ : ByteArray)) ++ a0_1).size + 2 ≤ 9223372036854775807 then (some (((a0_0 ++ (⟨#[58, 32]⟩ : ByteArray)) ++ a0_1) ++ (⟨#[13, 10]⟩ : ByteArray))) else (none)) else (none)) else (none)) = some r := h
  clear h
  by_cases c2 : a0_0.size + 2 ≤ 9223372036854775807
  · rw [if_pos c2] at H
    have c2b0 := eq_true c2
    have c2b1 : decide (a0_0.size + 2 ≤ 9223372036854775807) = true := decide_eq_true c2
    try have c2b2 : (9223372036854775807 < a0_0.size + 2) = False := eq_false (Nat.not_lt.2 c2)
    by_cases c3 : (a0_0 ++ (⟨#[58, 32]⟩ : ByteArray)).size + a0_1.size ≤ 9223372036854775807
    · rw [if_pos c3] at H
      have c3b0 := eq_true c3
      have c3b1 : decide ((a0_0 ++ (⟨#[58, 32]⟩ : ByteArray)).size + a0_1.size ≤ 9223372036854775807) = true := decide_eq_true c3
      try have c3b2 : (9223372036854775807 < (a0_0 ++ (⟨#[58, 32]⟩ : ByteArray)).size + a0_1.size) = False := eq_false (Nat.not_lt.2 c3)
      try (have c3b3 := c3b0; simp only [ByteArray.size_append] at c3b3; have c3b4 := c3b2; simp only [ByteArray.size_append] at c3b4)
      try have c3b5 : (9223372036854775807 < a0_0.size + 2 + a0_1.size) = False := eq_false (by have q_ := c3; simp only [ByteArray.size_append] at q_; have e0_ : (⟨#[58, 32]⟩ : ByteArray).size = 2 := rfl; omega)
      try have c3b6 : (a0_0.size + 2 + a0_1.size ≤ 9223372036854775807) = True := eq_true (by have q_ := c3; simp only [ByteArray.size_append] at q_; have e0_ : (⟨#[58, 32]⟩ : ByteArray).size = 2 := rfl; omega)
      by_cases c4 : ((a0_0 ++ (⟨#[58, 32]⟩ : ByteArray)) ++ a0_1).size + 2 ≤ 9223372036854775807
      · rw [if_pos c4] at H
        have c4b0 := eq_true c4
        have c4b1 : decide (((a0_0 ++ (⟨#[58, 32]⟩ : ByteArray)) ++ a0_1).size + 2 ≤ 9223372036854775807) = true := decide_eq_true c4
        try have c4b2 : (9223372036854775807 < ((a0_0 ++ (⟨#[58, 32]⟩ : ByteArray)) ++ a0_1).size + 2) = False := eq_false (Nat.not_lt.2 c4)
        try (have c4b3 := c4b0; simp only [ByteArray.size_append] at c4b3; have c4b4 := c4b2; simp only [ByteArray.size_append] at c4b4)
        try have c4b5 : (9223372036854775807 < a0_0.size + 2 + a0_1.size + 2) = False := eq_false (by have q_ := c4; simp only [ByteArray.size_append] at q_; have e0_ : (⟨#[58, 32]⟩ : ByteArray).size = 2 := rfl; omega)
        try have c4b6 : (a0_0.size + 2 + a0_1.size + 2 ≤ 9223372036854775807) = True := eq_true (by have q_ := c4; simp only [ByteArray.size_append] at q_; have e0_ : (⟨#[58, 32]⟩ : ByteArray).size = 2 := rfl; omega)
        obtain rfl := Option.some.inj H
        go_enter Tryd.func93, Tryd.ntmps93
        go_wp2_with (first | ((with_reducible refine gate_dst (N := 1) rfl ?_); refine box_event ?hg (N := 1) ?hd (cs := #[.string a0_0, .string a0_1]) (t := 41) ?hr ?_; (case hd => rfl); (case hg => rfl); (case hr => first | (go_simp; done) | (go_simp; rfl)); intro gb542 hg w5 hbox hb; have n0_ := Aside0.mk (below_step (by repeat (first | (with_reducible first | exact HB.out | apply below_alloc | apply pw_below_drewN | apply below_drew1) | exact HB.out)) hb); have n1_ := Aside0.mk (hbox); have n2_ := Aside0.mk ((by rw [hg]; exact (below_size (by repeat (first | (with_reducible first | exact HB.out | apply below_alloc | apply pw_below_drewN | apply below_drew1) | exact HB.out))) : w.heap.size ≤ gb542)); have n3_ := Aside0.mk ((by rw [hg]; exact (below_size (by repeat (first | (with_reducible first | exact HB.out | apply below_alloc | apply pw_below_drewN | apply below_drew1) | exact HB.out))) : w.heap.size ≤ gb542)); clear HB; have HB := n0_; have BK542 := n1_; have GW542 := n2_; have GE542 := n3_; clear n0_ n1_ n2_ n3_; clear hb hbox hg; have hcz6_0 : w5.cell? ⟨gb542, 0, none⟩ = some (.string a0_0) := (blk_cell BK542.out 0).trans rfl; have hcz6_1 : w5.cell? ⟨gb542, 1, none⟩ = some (.string a0_1) := (blk_cell BK542.out 1).trans rfl; have hfz6_0 := blk_frozen BK542.out 0; have hfz6_1 := blk_frozen BK542.out 1))
        go_ret
        exact ⟨by first | rfl | (simp [errW_none, errW_some] <;> rfl) | (simp [*, errW_none, errW_some] <;> rfl), by repeat (first | (with_reducible first | exact HB.out | apply below_alloc | apply pw_below_drewN | apply below_drew1 | refine below_set ?_ GE542.out) | exact HB.out)⟩
      · rw [if_neg c4] at H
        exact absurd H (by simp)
    · rw [if_neg c3] at H
      exact absurd H (by simp)
  · rw [if_neg c2] at H
    exact absurd H (by simp)

end Go.Proofs.YtfjeinnemimjoaaDoor.P

