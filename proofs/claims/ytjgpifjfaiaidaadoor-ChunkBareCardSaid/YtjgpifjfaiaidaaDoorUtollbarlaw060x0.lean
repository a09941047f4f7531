/- Each function below answers as its Lean twin says. No further condition. (Laid by this repo's packseat.py out of the seat's texts and of the print's words.) -/
import Derived.Test.YtjgpifjfaiaidaaDoorU0base0x0
import Derived.Test.YtjgpifjfaiaidaaDoorUchunk0x1
import Derived.Test.YtjgpifjfaiaidaaDoorUtollbarref010x0
import Derived.Test.YtjgpifjfaiaidaaDoorUtollbarref06Decode
import Derived.Test.YtjgpifjfaiaidaaDoorUtollbarref060x1
import Derived.Lib.SlBytesConst
namespace Go.Proofs.YtjgpifjfaiaidaaDoor.P
open Go.RowKit Go.Proofs.YtjgpifjfaiaidaaDoorW.PrintWords Go.Proofs.YtjgpifjfaiaidaaDoorW.PrintLast Go.Proofs.YtjgpifjfaiaidaaDoorW.PrintMore
attribute [local go_sem] max2_int min2_int max_two min_two max_three min_three max_four min_four   -- for this text's walks alone
set_option linter.unusedVariables false
set_option linter.unusedSimpArgs false

def tollbarlaw06_alive.f : Option (Bool) := some true
theorem alive6_1 : chunk_Decode.f 60 [51, 59, 120, 61, 49, 13, 10, 97, 98, 99, 13, 10, 48, 13, 10, 97, 58, 32, 98, 13, 10, 13, 10, 114, 101, 115, 116] 10 = some ([97, 98, 99], 23, 0) := by kernel_rfl
theorem alive6_2 : chunk_Decode.f 60 [51, 13, 10, 97, 98] 10 = some ([], 0, 0) := by kernel_rfl
theorem alive6_3 : chunk_Decode.f 60 [120, 13, 10] 10 = some ([], 0, 30) := by kernel_rfl
theorem alive6_4 : chunk_Encode.f 60 [] 5 = some [48, 13, 10, 13, 10] := by kernel_rfl
theorem alive6_5 : chunk_Encode.f 60 [97, 98, 99] 2 = some [50, 13, 10, 97, 98, 13, 10, 49, 13, 10, 99, 13, 10, 48, 13, 10, 13, 10] := by kernel_rfl
theorem F_const (W : World) (e : Nat) (xs : List Int) (fr : Nat × Nat) (hm : xs.length ≤ 9223372036854775807) :
    Kd.F (Kd.int .u8) (W.alloc (.cells (nums .u8 xs).toArray e fr)) (fun _ => True) (some ⟨W.heap.size, 0, none⟩) xs.length xs := fun W' hW => by
  refine Kd.C_of_reads (d := (0 : Int)) (h1 := fun _ => rfl) ⟨rfl, hm, fun _ => ⟨_, rfl, fun j hj => ?_⟩⟩
  have hl : (nums .u8 xs).length = xs.length := nums_length _ _
  have hg : (W.alloc (.cells (nums .u8 xs).toArray e fr)).heap[W.heap.size]? = some (.cells (nums .u8 xs).toArray e fr) := by
    show (W.heap.push _)[W.heap.size]? = _
    simp
  have := (hW W.heap.size trivial (by simp)).trans hg
  rw [add_plain]
  rw [cell_of_row _ _ _ _ _ _ this]
  simp [nums, List.getD_eq_getElem?_getD, List.getElem?_eq_getElem hj]
theorem law_base {w w1 : World} {b g : Nat} (hg : b ≤ g) (h : Below g w w1) : Below b w w1 := ⟨h.os, h.tape, h.output, h.size, fun i hi => h.block i (Nat.lt_of_lt_of_le hi hg)⟩
set_option maxHeartbeats 8000000 in
set_option maxRecDepth 100000 in
theorem tollbarlaw06_alive.calls (r : Bool) (w : World) (h : tollbarlaw06_alive.f = some r) (ht : Tabs w) :
    Calls Tryd.prog 28 #[] w fun e w' => e = .returned (.bool r) ∧ Below w.heap.size w w' := by
  obtain rfl := Option.some.inj h
  clear h
  have HTB := Aside0.mk ht
  clear ht
  have kc := fun (w : World) (C : Array Value) (n c : Nat) => Lib.run_convert_bytes_const (P := Tryd.prog) w 24 5 C n c Tryd.underlying24 Tryd.underlying5
  go_enter Tryd.func28, Tryd.ntmps28
  have HB := Aside0.mk (Below.refl w.heap.size w)
  go_wp2_with fail
  go_at_call 29
  refine (chunk_Decode.calls 60 _ _ [51, 59, 120, 61, 49, 13, 10, 97, 98, 99, 13, 10, 48, 13, 10, 97, 58, 32, 98, 13, 10, 13, 10, 114, 101, 115, 116] 10 _ _ _ _ (C_const _ _ _ _ (by decide)) (by decide) alive6_1).mono ?_
  rintro e w1 ⟨v1, rfl, hr1, hb⟩
  have HB' := Aside0.mk (below_step (by repeat (first | exact HB.out | apply below_alloc)) hb)
  clear HB hb
  have HB := HB'
  clear HB'
  obtain ⟨A1, c1, rfl, hl1, hC1⟩ := Kd.R_reads hr1
  have HR1 := Aside0.mk hr1
  have HB1 := Aside0.mk (Below.refl w1.heap.size w1)
  clear hr1 hl1 hC1
  go_wp2_with fail
  go_at_call 29
  refine (chunk_Decode.calls 60 _ _ [51, 13, 10, 97, 98] 10 _ _ _ _ (C_const _ _ _ _ (by decide)) (by decide) alive6_2).mono ?_
  rintro e w2 ⟨v2, rfl, hr2, hb⟩
  have HB' := Aside0.mk (below_step (by repeat (first | exact HB.out | apply below_alloc)) hb)
  have HB1' := Aside0.mk (below_step (by repeat (first | exact HB1.out | apply below_alloc)) hb)
  clear HB HB1 hb hr2
  have HB := HB'
  have HB1 := HB1'
  clear HB' HB1'
  go_wp2_with fail
  go_at_call 29
  refine (chunk_Decode.calls 60 _ _ [120, 13, 10] 10 _ _ _ _ (C_const _ _ _ _ (by decide)) (by decide) alive6_3).mono ?_
  rintro e w3 ⟨v3, rfl, hr3, hb⟩
  have HB' := Aside0.mk (below_step (by repeat (first | exact HB.out | apply below_alloc)) hb)
  have HB1' := Aside0.mk (below_step (by repeat (first | exact HB1.out | apply below_alloc)) hb)
  clear HB HB1 hb hr3
  have HB := HB'
  have HB1 := HB1'
  clear HB' HB1'
  have hcv1 : (convert 24 9 (.slice A1 3 c1)).run Tryd.prog w3 = .ok (.string ⟨#[97, 98, 99]⟩) w3 := own_string (P := Tryd.prog) Tryd.underlying24 Tryd.underlying5 Tryd.underlying9 (Kd.own_of_R (Kd.R_below HR1.out HB1.out))
  go_wp2_with fail
  go_at_call 32
  refine (chunk_Encode.calls 60 (fun _ => False) _ _ [] 5 _ _ (Kd.V_nil _ _ _ _ _) alive6_4 (HTB.out.below HB.out)).mono ?_
  rintro e w4 ⟨v4, rfl, hr4, hb⟩
  have HB' := Aside0.mk (below_step (by repeat (first | exact HB.out | apply below_alloc)) hb)
  clear HB hb
  have HB := HB'
  clear HB'
  obtain ⟨A4, c4, rfl, hl4, hC4⟩ := Kd.R_reads hr4
  have hcv4 : (convert 24 9 (.slice A4 5 c4)).run Tryd.prog w4 = .ok (.string ⟨#[48, 13, 10, 13, 10]⟩) w4 := own_string (P := Tryd.prog) Tryd.underlying24 Tryd.underlying5 Tryd.underlying9 (Kd.own_of_R hr4)
  clear hr4 hl4 hC4
  go_wp2_with fail
  go_at_call 32
  refine (chunk_Encode.calls 60 (fun _ => True) _ _ [97, 98, 99] 2 _ _ (Kd.V_mk (by decide) (F_const _ _ _ _ (by decide))) alive6_5 (HTB.out.below (by repeat (first | exact HB.out | apply below_alloc)))).mono ?_
  rintro e w5 ⟨v5, rfl, hr5, hb⟩
  have HB' := Aside0.mk (below_step (by repeat (first | exact HB.out | apply below_alloc)) hb)
  clear HB hb
  have HB := HB'
  clear HB'
  obtain ⟨A5, c5, rfl, hl5, hC5⟩ := Kd.R_reads hr5
  have hcv5 : (convert 24 9 (.slice A5 18 c5)).run Tryd.prog w5 = .ok (.string ⟨#[50, 13, 10, 97, 98, 13, 10, 49, 13, 10, 99, 13, 10, 48, 13, 10, 13, 10]⟩) w5 := own_string (P := Tryd.prog) Tryd.underlying24 Tryd.underlying5 Tryd.underlying9 (Kd.own_of_R hr5)
  clear hr5 hl5 hC5
  go_wp2
  go_ret
  exact ⟨rfl, HB.out⟩


end Go.Proofs.YtjgpifjfaiaidaaDoor.P

namespace Go.Proofs.YtjgpifjfaiaidaaDoor.P
open Go.RowKit Go.Proofs.YtjgpifjfaiaidaaDoorW.PrintWords Go.Proofs.YtjgpifjfaiaidaaDoorW.PrintLast Go.Proofs.YtjgpifjfaiaidaaDoorW.PrintMore
attribute [local go_sem] max2_int min2_int max_two min_two max_three min_three max_four min_four   -- for this text's walks alone
set_option linter.unusedVariables false
set_option linter.unusedSimpArgs false

def tollbarlaw06_ChunkDecodes.f (k : Nat) (l0 : List Int) (a1 : Int) : Option (Bool) := (tollbarlaw06_alive.f).bind fun t497 => (if t497 = true then (if (l0.length : Int) > 5000 then (some true) else ((chunk_Decode.f k l0 a1).bind fun bt498 => ((tollbarref06_Decode.f k l0 a1).bind fun bt503 => ((tollbarref01_SameBytes.f k bt498.1 bt503.1).bind fun t508 => (if t508 = true then (if bt498.2.1 = bt503.2.1 then (some (bt498.2.2 == bt503.2.2)) else (some false)) else (some false)))))) else (some false))
theorem tollbarlaw06_ChunkDecodes.mono : ∀ a0 a1 k, LeO (tollbarlaw06_ChunkDecodes.f k a0 a1) (tollbarlaw06_ChunkDecodes.f (k + 1) a0 a1) := by
  intro a0 a1 k
  unfold tollbarlaw06_ChunkDecodes.f
  repeat' first
      | (with_reducible exact chunk_Decode.mono _ _ _)
      | (with_reducible exact tollbarref01_SameBytes.mono _ _ _)
      | (with_reducible exact tollbarref06_Decode.mono _ _ _)
      | (with_reducible exact LeO.refl _)
      | (with_reducible exact LeO.none _)
      | (with_reducible refine LeO.ite ?_ ?_)
      | (with_reducible refine LeO.bind ?_ (fun _ => ?_))
      | exact chunk_Decode.mono _ _ _
      | exact tollbarref01_SameBytes.mono _ _ _
      | exact tollbarref06_Decode.mono _ _ _
      | exact LeO.none _
      | refine LeO.ite ?_ ?_
      | refine LeO.bind ?_ (fun _ => ?_)
set_option maxHeartbeats 8000000 in
set_option maxRecDepth 100000 in
theorem tollbarlaw06_ChunkDecodes.calls (k : Nat) (A0 : Option Addr) (c0 : Nat) (l0 : List Int) (a1 : Int) (r : Bool) (w : World) (hr0 : Kd.C (Kd.int .u8) w A0 l0.length l0) (hc0 : l0.length ≤ c0) (h : tollbarlaw06_ChunkDecodes.f k l0 a1 = some r) (hr : r = true) (ht : Tabs w) :
    Calls Tryd.prog 8 #[.slice A0 l0.length c0, .int .i64 a1] w fun e w' => e = .returned (.bool r) ∧ Below w.heap.size w w' := by
  have HTB := Aside0.mk ht
  clear ht
  have HRT := Aside0.mk hr
  clear hr
  have HR0 := Aside0.mk hr0
  have HC0 := Aside0.mk hc0
  clear hr0 hc0
  have HB := Aside0.mk (Below.refl w.heap.size w)
  have H : ((tollbarlaw06_alive.f).bind fun t497 => (if t497 = true then (if (l0.length : Int) > 5000 then (some true) else ((chunk_Decode.f k l0 a1).bind fun bt498 => ((tollbarref06_Decode.f k l0 a1).bind fun bt503 => ((tollbarref01_SameBytes.f k bt498.1 bt503.1).bind fun t508 => (if t508 = true then (if bt498.2.1 = bt503.2.1 then (some (bt498.2.2 == bt503.2.2)) else (some false)) else (some false)))))) else (some false))) = some r := h
  clear h
  replace H := Option.bind_eq_some_iff.mp H
  obtain ⟨t497, A30, H⟩ := H
  replace H : (if t497 = true then (if (l0.length : Int) > 5000 then (some true) else ((chunk_Decode.f k l0 a1).bind fun bt498 => ((tollbarref06_Decode.f k l0 a1).bind fun bt503 => ((tollbarref01_SameBytes.f k bt498.1 bt503.1).bind fun t508 => (if t508 = true then (if bt498.2.1 = bt503.2.1 then (some (bt498.2.2 == bt503.2.2)) else (some false)) else (some false)))))) else (some false)) = some r := H
  have A3 := Aside0.mk A30
  clear A30
  by_cases c4 : t497 = true
  · subst c4
    have H1 : (if (l0.length : Int) > 5000 then (some true) else ((chunk_Decode.f k l0 a1).bind fun bt498 => ((tollbarref06_Decode.f k l0 a1).bind fun bt503 => ((tollbarref01_SameBytes.f k bt498.1 bt503.1).bind fun t508 => (if t508 = true then (if bt498.2.1 = bt503.2.1 then (some (bt498.2.2 == bt503.2.2)) else (some false)) else (some false)))))) = some r := by rw [if_pos rfl] at H; exact H
    clear H
    have H := H1
    clear H1
    by_cases c5 : (l0.length : Int) > 5000
    · rw [if_pos c5] at H
      have c5b0 : decide (5000 < (l0.length : Int)) = true := decide_eq_true c5
      have c5b1 : decide (5000 < l0.length) = true := decide_eq_true (by omega)
      clear c5
      obtain rfl := Option.some.inj H
      go_enter Tryd.func8, Tryd.ntmps8
      go_wp2_with (first | ((with_reducible refine gate_callee (f := 28) rfl ?_); refine goesL_ (some 11) rfl rfl Tryd.func28 (by kernel_rfl) rfl #[] rfl (by (try simp only [List.map_toArray, List.map_cons, List.map_nil]); first | done | rfl | (simp only [List.length_drop, List.length_take]; rfl)) ?_; (with_reducible refine (tollbarlaw06_alive.calls  true _ A3.out ?hT).mono ?_); (case hT => exact HTB.out.below (by repeat (first | (with_reducible first | exact HB.out | apply below_alloc | apply pw_below_drewN | apply below_drew1) | exact HB.out))); rintro e w6 ⟨rfl, hb⟩; (try clear A3); refine ⟨_, rfl, ?_⟩; have n0_ := Aside0.mk (below_step (by repeat (first | (with_reducible first | exact HB.out | apply below_alloc | apply pw_below_drewN | apply below_drew1) | exact HB.out)) hb); clear HB; have HB := n0_; clear n0_; (try clear hb); (try clear hb2); (try clear hk); (try clear hi)))
      go_ret
      exact ⟨by first | rfl | (simp [errW_none, errW_some] <;> rfl) | (simp [*, errW_none, errW_some] <;> rfl), by repeat (first | (with_reducible first | exact HB.out | apply below_alloc | apply pw_below_drewN | apply below_drew1) | exact HB.out)⟩
    · rw [if_neg c5] at H
      have c5b0 : decide (5000 < (l0.length : Int)) = false := decide_eq_false c5
      have c5b1 : decide (5000 < l0.length) = false := decide_eq_false (by omega)
      clear c5
      replace H := Option.bind_eq_some_iff.mp H
      obtain ⟨⟨t498, t499, t500⟩, A70, H⟩ := H
      replace H : ((tollbarref06_Decode.f k l0 a1).bind fun bt503 => ((tollbarref01_SameBytes.f k t498 bt503.1).bind fun t508 => (if t508 = true then (if t499 = bt503.2.1 then (some (t500 == bt503.2.2)) else (some false)) else (some false)))) = some r := H
      have A7 := Aside0.mk A70
      clear A70
      replace H := Option.bind_eq_some_iff.mp H
      obtain ⟨⟨t503, t504, t505⟩, A80, H⟩ := H
      replace H : ((tollbarref01_SameBytes.f k t498 t503).bind fun t508 => (if t508 = true then (if t499 = t504 then (some (t500 == t505)) else (some false)) else (some false))) = some r := H
      have A8 := Aside0.mk A80
      clear A80
      replace H := Option.bind_eq_some_iff.mp H
      obtain ⟨t508, A90, H⟩ := H
      replace H : (if t508 = true then (if t499 = t504 then (some (t500 == t505)) else (some false)) else (some false)) = some r := H
      have A9 := Aside0.mk A90
      clear A90
      by_cases c10 : t508 = true
      · subst c10
        have H1 : (if t499 = t504 then (some (t500 == t505)) else (some false)) = some r := by rw [if_pos rfl] at H; exact H
        clear H
        have H := H1
        clear H1
        by_cases c11 : t499 = t504
        · rw [if_pos c11] at H
          have c11b0 : (t499 == t504) = true := beq_iff_eq.mpr c11
          have c11b1 : (t499 != t504) = false := bne_eq_false_iff_eq.mpr c11
          clear c11
          obtain rfl := Option.some.inj H
          go_enter Tryd.func8, Tryd.ntmps8
          go_wp2_with (first | ((with_reducible refine gate_callee (f := 28) rfl ?_); refine goesL_ (some 11) rfl rfl Tryd.func28 (by kernel_rfl) rfl #[] rfl (by (try simp only [List.map_toArray, List.map_cons, List.map_nil]); first | done | rfl | (simp only [List.length_drop, List.length_take]; rfl)) ?_; (with_reducible refine (tollbarlaw06_alive.calls  true _ A3.out ?hT).mono ?_); (case hT => exact HTB.out.below (by repeat (first | (with_reducible first | exact HB.out | apply below_alloc | apply pw_below_drewN | apply below_drew1) | exact HB.out))); rintro e w12 ⟨rfl, hb⟩; (try clear A3); refine ⟨_, rfl, ?_⟩; have n0_ := Aside0.mk (below_step (by repeat (first | (with_reducible first | exact HB.out | apply below_alloc | apply pw_below_drewN | apply below_drew1) | exact HB.out)) hb); clear HB; have HB := n0_; clear n0_; (try clear hb); (try clear hb2); (try clear hk); (try clear hi)) | ((with_reducible refine gate_callee (f := 29) rfl ?_); refine goesL_ (some 19) rfl rfl Tryd.func29 (by kernel_rfl) rfl #[.slice A0 l0.length c0, .int .i64 a1] rfl (by (try simp only [List.map_toArray, List.map_cons, List.map_nil]); first | done | rfl | (simp only [List.length_drop, List.length_take]; rfl)) ?_; (with_reducible refine (chunk_Decode.calls k _ _ l0 a1 t498 t499 t500 _ ?side1 ?side2 A7.out).mono ?_); (case side1 => repeat (first | exact (Kd.C_below HR0.out HB.out) | (with_reducible refine Kd.C_alloc ?_ _) | (with_reducible refine Kd.C_drewN ?_ _) | (with_reducible refine Kd.C_drew ?_))); (case side2 => exact HC0.out); rintro e w13 ⟨v501, rfl, ho0, hb⟩; (try clear A7); refine ⟨_, rfl, ?_⟩; have n0_ := Aside0.mk (Kd.R_lower ho0 (below_size (by repeat (first | (with_reducible first | exact HB.out | apply below_alloc | apply pw_below_drewN | apply below_drew1) | exact HB.out)))); have n1_ := Aside0.mk (below_step (by repeat (first | (with_reducible first | exact HB.out | apply below_alloc | apply pw_below_drewN | apply below_drew1) | exact HB.out)) hb); clear HB; have HO502 := n0_; have HB := n1_; clear n0_ n1_; (try clear hb); (try clear hb2); (try clear hk); (try clear hi); (try clear ho0)) | ((with_reducible refine gate_callee (f := 30) rfl ?_); refine goesL_ (some 26) rfl rfl Tryd.func30 (by kernel_rfl) rfl #[.slice A0 l0.length c0, .int .i64 a1] rfl (by (try simp only [List.map_toArray, List.map_cons, List.map_nil]); first | done | rfl | (simp only [List.length_drop, List.length_take]; rfl)) ?_; (with_reducible refine (tollbarref06_Decode.calls k _ _ l0 a1 t503 t504 t505 _ ?side1 ?side2 A8.out).mono ?_); (case side1 => repeat (first | exact (Kd.C_below HR0.out HB.out) | (with_reducible refine Kd.C_alloc ?_ _) | (with_reducible refine Kd.C_drewN ?_ _) | (with_reducible refine Kd.C_drew ?_))); (case side2 => exact HC0.out); rintro e w14 ⟨v506, rfl, ho0, hb⟩; (try clear A8); refine ⟨_, rfl, ?_⟩; have n0_ := Aside0.mk (Kd.R_elder' (by (with_reducible repeat (first | apply Kd.R_alloc | apply Kd.R_drewN | apply Kd.R_drew)); exact HO502.out) (Kd.R_base ho0) hb); have n1_ := Aside0.mk (Kd.R_lower (Kd.R_new' ho0 (Kd.R_lt (by (with_reducible repeat (first | apply Kd.R_alloc | apply Kd.R_drewN | apply Kd.R_drew)); exact HO502.out))) (below_size (by repeat (first | (with_reducible first | exact HB.out | apply below_alloc | apply pw_below_drewN | apply below_drew1) | exact HB.out)))); have n2_ := Aside0.mk (below_step (by repeat (first | (with_reducible first | exact HB.out | apply below_alloc | apply pw_below_drewN | apply below_drew1) | exact HB.out)) hb); clear HO502; clear HB; have HO502 := n0_; have HO507 := n1_; have HB := n2_; clear n0_ n1_ n2_; (try clear hb); (try clear hb2); (try clear hk); (try clear hi); (try clear ho0); obtain ⟨Ao15, co15, eo15⟩ := Kd.R_slice HO502.out; subst eo15; obtain ⟨Ao16, co16, eo16⟩ := Kd.R_slice HO507.out; subst eo16) | ((with_reducible refine gate_callee (f := 31) rfl ?_); refine goesL_ (some 32) rfl rfl Tryd.func31 (by kernel_rfl) rfl #[.slice Ao15 t498.length co15, .slice Ao16 t503.length co16] rfl (by (try simp only [List.map_toArray, List.map_cons, List.map_nil]); first | done | rfl | (simp only [List.length_drop, List.length_take]; rfl)) ?_; (with_reducible refine (tollbarref01_SameBytes.calls k _ _ t498 _ _ t503 true _ ?side1 ?side2 ?side3 ?side4 A9.out).mono ?_); (case side1 => repeat (first | exact (Kd.R_reads' HO502.out).2.2 | (with_reducible refine Kd.C_alloc ?_ _) | (with_reducible refine Kd.C_drewN ?_ _) | (with_reducible refine Kd.C_drew ?_))); (case side2 => exact (Kd.R_reads' HO502.out).2.1); (case side3 => repeat (first | exact (Kd.R_reads' HO507.out).2.2 | (with_reducible refine Kd.C_alloc ?_ _) | (with_reducible refine Kd.C_drewN ?_ _) | (with_reducible refine Kd.C_drew ?_))); (case side4 => exact (Kd.R_reads' HO507.out).2.1); rintro e w' ⟨rfl, ⟨nd, rfl⟩⟩; (try clear A9); refine ⟨_, rfl, ?_⟩))
          go_ret
          exact ⟨by first | rfl | (simp [errW_none, errW_some] <;> rfl) | (simp [*, errW_none, errW_some] <;> rfl), by repeat (first | (with_reducible first | exact HB.out | apply below_alloc | apply pw_below_drewN | apply below_drew1) | exact HB.out)⟩
        · rw [if_neg c11] at H
          have c11b0 : (t499 == t504) = false := beq_eq_false_iff_ne.mpr c11
          have c11b1 : (t499 != t504) = true := bne_iff_ne.mpr c11
          exact absurd ((Option.some.inj H).trans HRT.out) (by decide)
      · replace c10 := Bool.eq_false_iff.mpr c10
        subst c10
        have H1 : (some false) = some r := by rw [if_neg (show ¬ (false = true) by decide)] at H; exact H
        clear H
        have H := H1
        clear H1
        exact absurd ((Option.some.inj H).trans HRT.out) (by decide)
  · replace c4 := Bool.eq_false_iff.mpr c4
    subst c4
    have H1 : (some false) = some r := by rw [if_neg (show ¬ (false = true) by decide)] at H; exact H
    clear H
    have H := H1
    clear H1
    exact absurd ((Option.some.inj H).trans HRT.out) (by decide)

/-- THE ONE PURE STATEMENT of tollbarlaw06_ChunkDecodes: yours. -/
def tollbarlaw06_ChunkDecodes.Pure : Prop := ∀ (l0 : List Int) (a1 : Int), l0.length ≤ maxLen → l0.length * 1 ≤ 140737488351232 → (∀ x ∈ l0, (Lit.int .u8 x).wf = true) → (Lit.int .i64 a1).wf = true → ∃ k, tollbarlaw06_ChunkDecodes.f k l0 a1 = some true

end Go.Proofs.YtjgpifjfaiaidaaDoor.P

namespace Go.Proofs.YtjgpifjfaiaidaaDoor.P
open Go.RowKit Go.Proofs.YtjgpifjfaiaidaaDoorW.PrintWords Go.Proofs.YtjgpifjfaiaidaaDoorW.PrintLast Go.Proofs.YtjgpifjfaiaidaaDoorW.PrintMore
attribute [local go_sem] max2_int min2_int max_two min_two max_three min_three max_four min_four   -- for this text's walks alone
set_option linter.unusedVariables false
set_option linter.unusedSimpArgs false

def tollbarlaw06_ChunkEncodes.f (k : Nat) (l0 : List Int) (a1 : Int) : Option (Bool) := (tollbarlaw06_alive.f).bind fun t526 => (if t526 = true then (if (l0.length : Int) > 600 then (some true) else ((chunk_Encode.f k l0 a1).bind fun t527 => ((tollbarref06_Encode.f k l0 a1).bind fun t530 => ((tollbarref01_SameBytes.f k t527 t530).bind fun t533 => (some t533))))) else (some false))
theorem tollbarlaw06_ChunkEncodes.mono : ∀ a0 a1 k, LeO (tollbarlaw06_ChunkEncodes.f k a0 a1) (tollbarlaw06_ChunkEncodes.f (k + 1) a0 a1) := by
  intro a0 a1 k
  unfold tollbarlaw06_ChunkEncodes.f
  repeat' first
      | (with_reducible exact chunk_Encode.mono _ _ _)
      | (with_reducible exact tollbarref01_SameBytes.mono _ _ _)
      | (with_reducible exact tollbarref06_Encode.mono _ _ _)
      | (with_reducible exact LeO.refl _)
      | (with_reducible exact LeO.none _)
      | (with_reducible refine LeO.ite ?_ ?_)
      | (with_reducible refine LeO.bind ?_ (fun _ => ?_))
      | exact chunk_Encode.mono _ _ _
      | exact tollbarref01_SameBytes.mono _ _ _
      | exact tollbarref06_Encode.mono _ _ _
      | exact LeO.none _
      | refine LeO.ite ?_ ?_
      | refine LeO.bind ?_ (fun _ => ?_)
set_option maxHeartbeats 8000000 in
set_option maxRecDepth 100000 in
theorem tollbarlaw06_ChunkEncodes.calls (k : Nat) (A0 : Option Addr) (c0 : Nat) (l0 : List Int) (a1 : Int) (r : Bool) (w : World) (hr0 : Kd.C (Kd.int .u8) w A0 l0.length l0) (hc0 : l0.length ≤ c0) (h : tollbarlaw06_ChunkEncodes.f k l0 a1 = some r) (hr : r = true) (ht : Tabs w) :
    Calls Tryd.prog 9 #[.slice A0 l0.length c0, .int .i64 a1] w fun e w' => e = .returned (.bool r) ∧ Below w.heap.size w w' := by
  have HTB := Aside0.mk ht
  clear ht
  have HRT := Aside0.mk hr
  clear hr
  have HR0 := Aside0.mk hr0
  have HC0 := Aside0.mk hc0
  clear hr0 hc0
  have HB := Aside0.mk (Below.refl w.heap.size w)
  have H : ((tollbarlaw06_alive.f).bind fun t526 => (if t526 = true then (if (l0.length : Int) > 600 then (some true) else ((chunk_Encode.f k l0 a1).bind fun t527 => ((tollbarref06_Encode.f k l0 a1).bind fun t530 => ((tollbarref01_SameBytes.f k t527 t530).bind fun t533 => (some t533))))) else (some false))) = some r := h
  clear h
  replace H := Option.bind_eq_some_iff.mp H
  obtain ⟨t526, A30, H⟩ := H
  replace H : (if t526 = true then (if (l0.length : Int) > 600 then (some true) else ((chunk_Encode.f k l0 a1).bind fun t527 => ((tollbarref06_Encode.f k l0 a1).bind fun t530 => ((tollbarref01_SameBytes.f k t527 t530).bind fun t533 => (some t533))))) else (some false)) = some r := H
  have A3 := Aside0.mk A30
  clear A30
  by_cases c4 : t526 = true
  · subst c4
    have H1 : (if (l0.length : Int) > 600 then (some true) else ((chunk_Encode.f k l0 a1).bind fun t527 => ((tollbarref06_Encode.f k l0 a1).bind fun t530 => ((tollbarref01_SameBytes.f k t527 t530).bind fun t533 => (some t533))))) = some r := by rw [if_pos rfl] at H; exact H
    clear H
    have H := H1
    clear H1
    by_cases c5 : (l0.length : Int) > 600
    · rw [if_pos c5] at H
      have c5b0 : decide (600 < (l0.length : Int)) = true := decide_eq_true c5
      have c5b1 : decide (600 < l0.length) = true := decide_eq_true (by omega)
      clear c5
      obtain rfl := Option.some.inj H
      go_enter Tryd.func9, Tryd.ntmps9
      go_wp2_with (first | ((with_reducible refine gate_callee (f := 28) rfl ?_); refine goesL_ (some 5) rfl rfl Tryd.func28 (by kernel_rfl) rfl #[] rfl (by (try simp only [List.map_toArray, List.map_cons, List.map_nil]); first | done | rfl | (simp only [List.length_drop, List.length_take]; rfl)) ?_; (with_reducible refine (tollbarlaw06_alive.calls  true _ A3.out ?hT).mono ?_); (case hT => exact HTB.out.below (by repeat (first | (with_reducible first | exact HB.out | apply below_alloc | apply pw_below_drewN | apply below_drew1) | exact HB.out))); rintro e w6 ⟨rfl, hb⟩; (try clear A3); refine ⟨_, rfl, ?_⟩; have n0_ := Aside0.mk (below_step (by repeat (first | (with_reducible first | exact HB.out | apply below_alloc | apply pw_below_drewN | apply below_drew1) | exact HB.out)) hb); clear HB; have HB := n0_; clear n0_; (try clear hb); (try clear hb2); (try clear hk); (try clear hi)))
      go_ret
      exact ⟨by first | rfl | (simp [errW_none, errW_some] <;> rfl) | (simp [*, errW_none, errW_some] <;> rfl), by repeat (first | (with_reducible first | exact HB.out | apply below_alloc | apply pw_below_drewN | apply below_drew1) | exact HB.out)⟩
    · rw [if_neg c5] at H
      have c5b0 : decide (600 < (l0.length : Int)) = false := decide_eq_false c5
      have c5b1 : decide (600 < l0.length) = false := decide_eq_false (by omega)
      clear c5
      replace H := Option.bind_eq_some_iff.mp H
      obtain ⟨t527, A70, H⟩ := H
      replace H : ((tollbarref06_Encode.f k l0 a1).bind fun t530 => ((tollbarref01_SameBytes.f k t527 t530).bind fun t533 => (some t533))) = some r := H
      have A7 := Aside0.mk A70
      clear A70
      replace H := Option.bind_eq_some_iff.mp H
      obtain ⟨t530, A80, H⟩ := H
      replace H : ((tollbarref01_SameBytes.f k t527 t530).bind fun t533 => (some t533)) = some r := H
      have A8 := Aside0.mk A80
      clear A80
      replace H := Option.bind_eq_some_iff.mp H
      obtain ⟨t533, A90, H⟩ := H
      replace H : (some t533) = some r := H
      have A9 := Aside0.mk A90
      clear A90
      obtain rfl := Option.some.inj H
      go_enter Tryd.func9, Tryd.ntmps9
      go_wp2_with (first | ((with_reducible refine gate_callee (f := 28) rfl ?_); refine goesL_ (some 5) rfl rfl Tryd.func28 (by kernel_rfl) rfl #[] rfl (by (try simp only [List.map_toArray, List.map_cons, List.map_nil]); first | done | rfl | (simp only [List.length_drop, List.length_take]; rfl)) ?_; (with_reducible refine (tollbarlaw06_alive.calls  true _ A3.out ?hT).mono ?_); (case hT => exact HTB.out.below (by repeat (first | (with_reducible first | exact HB.out | apply below_alloc | apply pw_below_drewN | apply below_drew1) | exact HB.out))); rintro e w10 ⟨rfl, hb⟩; (try clear A3); refine ⟨_, rfl, ?_⟩; have n0_ := Aside0.mk (below_step (by repeat (first | (with_reducible first | exact HB.out | apply below_alloc | apply pw_below_drewN | apply below_drew1) | exact HB.out)) hb); clear HB; have HB := n0_; clear n0_; (try clear hb); (try clear hb2); (try clear hk); (try clear hi)) | ((with_reducible refine gate_callee (f := 32) rfl ?_); refine goesL_ (some 12) rfl rfl Tryd.func32 (by kernel_rfl) rfl #[.slice A0 l0.length c0, .int .i64 a1] rfl (by (try simp only [List.map_toArray, List.map_cons, List.map_nil]); first | done | rfl | (simp only [List.length_drop, List.length_take]; rfl)) ?_; (with_reducible refine (chunk_Encode.calls k (fun k_ => k_ < w.heap.size) _ _ l0 a1 t527 _ ?side1 A7.out ?hT).mono ?_); (case hT => exact HTB.out.below (by repeat (first | (with_reducible first | exact HB.out | apply below_alloc | apply pw_below_drewN | apply below_drew1) | exact HB.out))); (case side1 => exact Kd.V_mk HC0.out (Kd.F_below (Kd.C_F (Kd.heap_int .u8) HR0.out) (by repeat (first | (with_reducible first | exact HB.out | apply below_alloc | apply pw_below_drewN | apply below_drew1) | exact HB.out)))); rintro e w11 ⟨v528, rfl, ho0, hb⟩; (try clear A7); refine ⟨_, rfl, ?_⟩; have n0_ := Aside0.mk (Kd.R_lower (Kd.R_mono (ok' := fun k_ => True) ho0 (fun _ hk_ => trivial)) (below_size (by repeat (first | (with_reducible first | exact HB.out | apply below_alloc | apply pw_below_drewN | apply below_drew1) | exact HB.out)))); have n1_ := Aside0.mk (below_step (by repeat (first | (with_reducible first | exact HB.out | apply below_alloc | apply pw_below_drewN | apply below_drew1) | exact HB.out)) hb); clear HB; have HO529 := n0_; have HB := n1_; clear n0_ n1_; (try clear hb); (try clear hb2); (try clear hk); (try clear hi); (try clear ho0)) | ((with_reducible refine gate_callee (f := 33) rfl ?_); refine goesL_ (some 15) rfl rfl Tryd.func33 (by kernel_rfl) rfl #[.slice A0 l0.length c0, .int .i64 a1] rfl (by (try simp only [List.map_toArray, List.map_cons, List.map_nil]); first | done | rfl | (simp only [List.length_drop, List.length_take]; rfl)) ?_; (with_reducible refine (tollbarref06_Encode.calls k _ _ l0 a1 t530 _ ?side1 ?side2 A8.out).mono ?_); (case side1 => repeat (first | exact (Kd.C_below HR0.out HB.out) | (with_reducible refine Kd.C_alloc ?_ _) | (with_reducible refine Kd.C_drewN ?_ _) | (with_reducible refine Kd.C_drew ?_))); (case side2 => exact HC0.out); rintro e w12 ⟨v531, rfl, ho0, hb⟩; (try clear A8); refine ⟨_, rfl, ?_⟩; have n0_ := Aside0.mk (Kd.R_elder' (by (with_reducible repeat (first | apply Kd.R_alloc | apply Kd.R_drewN | apply Kd.R_drew)); exact HO529.out) (Kd.R_base ho0) hb); have n1_ := Aside0.mk (Kd.R_lower (Kd.R_new' ho0 (Kd.R_lt (by (with_reducible repeat (first | apply Kd.R_alloc | apply Kd.R_drewN | apply Kd.R_drew)); exact HO529.out))) (below_size (by repeat (first | (with_reducible first | exact HB.out | apply below_alloc | apply pw_below_drewN | apply below_drew1) | exact HB.out)))); have n2_ := Aside0.mk (below_step (by repeat (first | (with_reducible first | exact HB.out | apply below_alloc | apply pw_below_drewN | apply below_drew1) | exact HB.out)) hb); clear HO529; clear HB; have HO529 := n0_; have HO532 := n1_; have HB := n2_; clear n0_ n1_ n2_; (try clear hb); (try clear hb2); (try clear hk); (try clear hi); (try clear ho0); obtain ⟨Ao13, co13, eo13⟩ := Kd.R_slice HO529.out; subst eo13; obtain ⟨Ao14, co14, eo14⟩ := Kd.R_slice HO532.out; subst eo14) | ((with_reducible refine gate_callee (f := 31) rfl ?_); refine goesL_ (some 16) rfl rfl Tryd.func31 (by kernel_rfl) rfl #[.slice Ao13 t527.length co13, .slice Ao14 t530.length co14] rfl (by (try simp only [List.map_toArray, List.map_cons, List.map_nil]); first | done | rfl | (simp only [List.length_drop, List.length_take]; rfl)) ?_; (with_reducible refine (tollbarref01_SameBytes.calls k _ _ t527 _ _ t530 t533 _ ?side1 ?side2 ?side3 ?side4 A9.out).mono ?_); (case side1 => repeat (first | exact (Kd.R_reads' HO529.out).2.2 | (with_reducible refine Kd.C_alloc ?_ _) | (with_reducible refine Kd.C_drewN ?_ _) | (with_reducible refine Kd.C_drew ?_))); (case side2 => exact (Kd.R_reads' HO529.out).2.1); (case side3 => repeat (first | exact (Kd.R_reads' HO532.out).2.2 | (with_reducible refine Kd.C_alloc ?_ _) | (with_reducible refine Kd.C_drewN ?_ _) | (with_reducible refine Kd.C_drew ?_))); (case side4 => exact (Kd.R_reads' HO532.out).2.1); rintro e w' ⟨rfl, ⟨nd, rfl⟩⟩; (try clear A9); refine ⟨_, rfl, ?_⟩))
      go_ret
      exact ⟨by first | rfl | (simp [errW_none, errW_some] <;> rfl) | (simp [*, errW_none, errW_some] <;> rfl), by repeat (first | (with_reducible first | exact HB.out | apply below_alloc | apply pw_below_drewN | apply below_drew1) | exact HB.out)⟩
  · replace c4 := Bool.eq_false_iff.mpr c4
    subst c4
    have H1 : (some false) = some r := by rw [if_neg (show ¬ (false = true) by decide)] at H; exact H
    clear H
    have H := H1
    clear H1
    exact absurd ((Option.some.inj H).trans HRT.out) (by decide)

/-- THE ONE PURE STATEMENT of tollbarlaw06_ChunkEncodes: yours. -/
def tollbarlaw06_ChunkEncodes.Pure : Prop := ∀ (l0 : List Int) (a1 : Int), l0.length ≤ maxLen → l0.length * 1 ≤ 140737488351232 → (∀ x ∈ l0, (Lit.int .u8 x).wf = true) → (Lit.int .i64 a1).wf = true → ∃ k, tollbarlaw06_ChunkEncodes.f k l0 a1 = some true

end Go.Proofs.YtjgpifjfaiaidaaDoor.P

namespace Go.Proofs.YtjgpifjfaiaidaaDoor.P
open Go.RowKit Go.Proofs.YtjgpifjfaiaidaaDoorW.PrintWords Go.Proofs.YtjgpifjfaiaidaaDoorW.PrintLast Go.Proofs.YtjgpifjfaiaidaaDoorW.PrintMore
attribute [local go_sem] max2_int min2_int max_two min_two max_three min_three max_four min_four   -- for this text's walks alone
set_option linter.unusedVariables false
set_option linter.unusedSimpArgs false

def tollbarlaw06_bad.l0 : Nat → ByteArray → Int → Option (Bool)
  | 0, _, _ => none
  | k + 1, x0, x3 => if x3 < (x0.size : Int) then (if 0 ≤ x3 then (if (bt x0 x3) < 32 then (if (bt x0 x3) = 9 then (if (bt x0 x3) = 127 then (some true) else (tollbarlaw06_bad.l0 k x0 (wrap64 (x3 + 1)))) else (some true)) else (if (bt x0 x3) = 127 then (some true) else (tollbarlaw06_bad.l0 k x0 (wrap64 (x3 + 1))))) else (none)) else (some false)
def tollbarlaw06_bad.f (k : Nat) (a0 : ByteArray) : Option (Bool) := tollbarlaw06_bad.l0 k a0 0
theorem tollbarlaw06_bad.mono_l : ∀ k, (∀ y0 y1, LeO (tollbarlaw06_bad.l0 k y0 y1) (tollbarlaw06_bad.l0 (k + 1) y0 y1))
  | 0 => fun _ _ r h => by simp [tollbarlaw06_bad.l0] at h
  | k + 1 => by
    have ih0 := tollbarlaw06_bad.mono_l k
    · intro y0 y1
      unfold tollbarlaw06_bad.l0
      repeat' first
      | (with_reducible exact ih0 _ _)
      | (with_reducible exact LeO.refl _)
      | (with_reducible exact LeO.none _)
      | (with_reducible refine LeO.ite ?_ ?_)
      | (with_reducible refine LeO.bind ?_ (fun _ => ?_))
      | exact ih0 _ _
      | exact LeO.none _
      | refine LeO.ite ?_ ?_
      | refine LeO.bind ?_ (fun _ => ?_)
theorem tollbarlaw06_bad.mono : ∀ a0 k, LeO (tollbarlaw06_bad.f k a0) (tollbarlaw06_bad.f (k + 1) a0) := by
  intro a0 k
  have ih0 := tollbarlaw06_bad.mono_l k
  unfold tollbarlaw06_bad.f
  repeat' first
      | (with_reducible exact ih0 _ _)
      | (with_reducible exact LeO.refl _)
      | (with_reducible exact LeO.none _)
      | (with_reducible refine LeO.ite ?_ ?_)
      | (with_reducible refine LeO.bind ?_ (fun _ => ?_))
      | exact ih0 _ _
      | exact LeO.none _
      | refine LeO.ite ?_ ?_
      | refine LeO.bind ?_ (fun _ => ?_)
set_option maxHeartbeats 8000000 in
set_option maxRecDepth 100000 in
theorem tollbarlaw06_bad.calls (k : Nat) (a0 : ByteArray) (r : Bool) (w : World) (h : tollbarlaw06_bad.f k a0 = some r) (hr : r = true) :
    Calls Tryd.prog 34 #[.string a0] w fun e w' => e = .returned (.bool r) ∧ Drawn0 w w' := by
  have HRT := Aside0.mk hr
  clear hr
  have H : (tollbarlaw06_bad.l0 k a0 0) = some r := h
  clear h
  have H' := Aside0.mk H
  clear H
  go_enter Tryd.func34, Tryd.ntmps34
  go_wp2
  go_loopg [3] k (fun kq v3 w' => ∃ (x3_1 : Int), v3 = .int .i64 x3_1 ∧ Aside0 (tollbarlaw06_bad.l0 kq a0 x3_1 = some r) ∧ Aside0 (kq ≤ k) ∧ Drawn0 w w')
  case atStart => exact ⟨(0), (by first | rfl | (simp; done) | (simp [*]; done)), H', ⟨Nat.le_refl _⟩, by repeat (first | exact Drawn0.refl _ | apply Drawn0.step)⟩
  case round =>
    clear H'
    obtain ⟨x3_1, rfl, HA, HK1, ⟨m1, rfl⟩⟩ := hrel
    cases gk with
    | zero => exact absurd HA.out (by simp [tollbarlaw06_bad.l0])
    | succ k1 =>
      have H := HA.out
      clear HA
      simp only [tollbarlaw06_bad.l0] at H
      by_cases c2 : x3_1 < (a0.size : Int)
      · rw [if_pos c2] at H
        have c2b0 : decide (x3_1 < (a0.size : Int)) = true := decide_eq_true c2
        clear c2
        by_cases c3 : 0 ≤ x3_1
        · rw [if_pos c3] at H
          have c3b0 : decide (0 ≤ x3_1) = true := decide_eq_true c3
          clear c3
          by_cases c5 : (bt a0 x3_1) < 32
          · rw [if_pos c5] at H
            have c5b0 : decide ((bt a0 x3_1) < 32) = true := decide_eq_true c5
            clear c5
            by_cases c7 : (bt a0 x3_1) = 9
            · rw [if_pos c7] at H
              have c7b0 : ((bt a0 x3_1) == 9) = true := beq_iff_eq.mpr c7
              have c7b1 : ((bt a0 x3_1) != 9) = false := bne_eq_false_iff_eq.mpr c7
              clear c7
              by_cases c9 : (bt a0 x3_1) = 127
              · rw [if_pos c9] at H
                have c9b0 : ((bt a0 x3_1) == 127) = true := beq_iff_eq.mpr c9
                have c9b1 : ((bt a0 x3_1) != 127) = false := bne_eq_false_iff_eq.mpr c9
                clear c9
                obtain rfl := Option.some.inj H
                have p4 : 0 ≤ (x3_1 : Int) := of_decide_eq_true (by first | (with_reducible assumption) | assumption)
                have q4 : x3_1 < (a0.size : Int) := of_decide_eq_true (by first | (with_reducible assumption) | assumption)
                have hx4 := bt_at a0 x3_1
                replace p4 := eq_true p4
                replace q4 := eq_true q4
                have p6 : 0 ≤ (x3_1 : Int) := of_decide_eq_true (by first | (with_reducible assumption) | assumption)
                have q6 : x3_1 < (a0.size : Int) := of_decide_eq_true (by first | (with_reducible assumption) | assumption)
                have hx6 := bt_at a0 x3_1
                replace p6 := eq_true p6
                replace q6 := eq_true q6
                have p8 : 0 ≤ (x3_1 : Int) := of_decide_eq_true (by first | (with_reducible assumption) | assumption)
                have q8 : x3_1 < (a0.size : Int) := of_decide_eq_true (by first | (with_reducible assumption) | assumption)
                have hx8 := bt_at a0 x3_1
                replace p8 := eq_true p8
                replace q8 := eq_true q8
                go_wp2
                go_ret
                exact ⟨by first | rfl | (simp; done) | (simp [*]; done), by repeat (first | exact Drawn0.refl _ | apply Drawn0.step)⟩
              · rw [if_neg c9] at H
                have c9b0 : ((bt a0 x3_1) == 127) = false := beq_eq_false_iff_ne.mpr c9
                have c9b1 : ((bt a0 x3_1) != 127) = true := bne_iff_ne.mpr c9
                have H' := Aside0.mk H
                clear H
                have p4 : 0 ≤ (x3_1 : Int) := of_decide_eq_true (by first | (with_reducible assumption) | assumption)
                have q4 : x3_1 < (a0.size : Int) := of_decide_eq_true (by first | (with_reducible assumption) | assumption)
                have hx4 := bt_at a0 x3_1
                replace p4 := eq_true p4
                replace q4 := eq_true q4
                have p6 : 0 ≤ (x3_1 : Int) := of_decide_eq_true (by first | (with_reducible assumption) | assumption)
                have q6 : x3_1 < (a0.size : Int) := of_decide_eq_true (by first | (with_reducible assumption) | assumption)
                have hx6 := bt_at a0 x3_1
                replace p6 := eq_true p6
                replace q6 := eq_true q6
                have p8 : 0 ≤ (x3_1 : Int) := of_decide_eq_true (by first | (with_reducible assumption) | assumption)
                have q8 : x3_1 < (a0.size : Int) := of_decide_eq_true (by first | (with_reducible assumption) | assumption)
                have hx8 := bt_at a0 x3_1
                replace p8 := eq_true p8
                replace q8 := eq_true q8
                go_wp2
                go_roundg k1
                case measure => have := HK1.out; omega
                case rel => exact ⟨(wrap64 (x3_1 + 1)), (by first | rfl | (simp; done) | (simp [*]; done)), H', ⟨by have := HK1.out; omega⟩, by repeat (first | exact Drawn0.refl _ | apply Drawn0.step)⟩
            · rw [if_neg c7] at H
              have c7b0 : ((bt a0 x3_1) == 9) = false := beq_eq_false_iff_ne.mpr c7
              have c7b1 : ((bt a0 x3_1) != 9) = true := bne_iff_ne.mpr c7
              obtain rfl := Option.some.inj H
              have p4 : 0 ≤ (x3_1 : Int) := of_decide_eq_true (by first | (with_reducible assumption) | assumption)
              have q4 : x3_1 < (a0.size : Int) := of_decide_eq_true (by first | (with_reducible assumption) | assumption)
              have hx4 := bt_at a0 x3_1
              replace p4 := eq_true p4
              replace q4 := eq_true q4
              have p6 : 0 ≤ (x3_1 : Int) := of_decide_eq_true (by first | (with_reducible assumption) | assumption)
              have q6 : x3_1 < (a0.size : Int) := of_decide_eq_true (by first | (with_reducible assumption) | assumption)
              have hx6 := bt_at a0 x3_1
              replace p6 := eq_true p6
              replace q6 := eq_true q6
              go_wp2
              go_ret
              exact ⟨by first | rfl | (simp; done) | (simp [*]; done), by repeat (first | exact Drawn0.refl _ | apply Drawn0.step)⟩
          · rw [if_neg c5] at H
            have c5b0 : decide ((bt a0 x3_1) < 32) = false := decide_eq_false c5
            clear c5
            by_cases c11 : (bt a0 x3_1) = 127
            · rw [if_pos c11] at H
              have c11b0 : ((bt a0 x3_1) == 127) = true := beq_iff_eq.mpr c11
              have c11b1 : ((bt a0 x3_1) != 127) = false := bne_eq_false_iff_eq.mpr c11
              clear c11
              obtain rfl := Option.some.inj H
              have p4 : 0 ≤ (x3_1 : Int) := of_decide_eq_true (by first | (with_reducible assumption) | assumption)
              have q4 : x3_1 < (a0.size : Int) := of_decide_eq_true (by first | (with_reducible assumption) | assumption)
              have hx4 := bt_at a0 x3_1
              replace p4 := eq_true p4
              replace q4 := eq_true q4
              have p10 : 0 ≤ (x3_1 : Int) := of_decide_eq_true (by first | (with_reducible assumption) | assumption)
              have q10 : x3_1 < (a0.size : Int) := of_decide_eq_true (by first | (with_reducible assumption) | assumption)
              have hx10 := bt_at a0 x3_1
              replace p10 := eq_true p10
              replace q10 := eq_true q10
              go_wp2
              go_ret
              exact ⟨by first | rfl | (simp; done) | (simp [*]; done), by repeat (first | exact Drawn0.refl _ | apply Drawn0.step)⟩
            · rw [if_neg c11] at H
              have c11b0 : ((bt a0 x3_1) == 127) = false := beq_eq_false_iff_ne.mpr c11
              have c11b1 : ((bt a0 x3_1) != 127) = true := bne_iff_ne.mpr c11
              have H' := Aside0.mk H
              clear H
              have p4 : 0 ≤ (x3_1 : Int) := of_decide_eq_true (by first | (with_reducible assumption) | assumption)
              have q4 : x3_1 < (a0.size : Int) := of_decide_eq_true (by first | (with_reducible assumption) | assumption)
              have hx4 := bt_at a0 x3_1
              replace p4 := eq_true p4
              replace q4 := eq_true q4
              have p10 : 0 ≤ (x3_1 : Int) := of_decide_eq_true (by first | (with_reducible assumption) | assumption)
              have q10 : x3_1 < (a0.size : Int) := of_decide_eq_true (by first | (with_reducible assumption) | assumption)
              have hx10 := bt_at a0 x3_1
              replace p10 := eq_true p10
              replace q10 := eq_true q10
              go_wp2
              go_roundg k1
              case measure => have := HK1.out; omega
              case rel => exact ⟨(wrap64 (x3_1 + 1)), (by first | rfl | (simp; done) | (simp [*]; done)), H', ⟨by have := HK1.out; omega⟩, by repeat (first | exact Drawn0.refl _ | apply Drawn0.step)⟩
        · rw [if_neg c3] at H
          exact absurd H (by simp)
      · rw [if_neg c2] at H
        have c2b0 : decide (x3_1 < (a0.size : Int)) = false := decide_eq_false c2
        clear c2
        obtain rfl := Option.some.inj H
        go_wp2
        go_ret
        exact ⟨by first | rfl | (simp; done) | (simp [*]; done), by repeat (first | exact Drawn0.refl _ | apply Drawn0.step)⟩

end Go.Proofs.YtjgpifjfaiaidaaDoor.P

