/- Each function below answers as its Lean twin says; a law answers true at every input that its row speaks of. No further condition. (Laid by this repo's seatprint.py.) -/
import Derived.Test.YthkkkfeiklfjoaaDoorPx0
import Derived.Test.YthkkkfeiklfjoaaDoorFsignFold
import Derived.Test.YthkkkfeiklfjoaaDoorFsignSame
import Derived.Test.YthkkkfeiklfjoaaDoorFsignSplit
import Derived.Test.YthkkkfeiklfjoaaDoorFsignTrim
import Derived.Test.YthkkkfeiklfjoaaDoorFtollbarref01SameTexts
namespace Go.Proofs.YthkkkfeiklfjoaaDoor.P
open Go.RowKit Go.Proofs.YthkkkfeiklfjoaaDoorW.PrintWords Go.Proofs.YthkkkfeiklfjoaaDoorW.PrintLast Go.Proofs.YthkkkfeiklfjoaaDoorW.PrintMore
attribute [local go_sem] max2_int min2_int max_two min_two max_three min_three max_four min_four   -- for this text's walks alone
set_option linter.unusedVariables false
set_option linter.unusedSimpArgs false

/-! ### tollbarlaw02_texts: function 18 -/
def tollbarlaw02_texts.f (k : Nat)  : Option (Bool) := (sign_Trim.f (⟨#[9, 32, 97, 32]⟩ : ByteArray)).bind fun t184 => (if t184.toList = ([97] : List UInt8) then ((sign_Fold.f (⟨#[97, 66]⟩ : ByteArray)).bind fun t185 => (if t185.toList = ([97, 98] : List UInt8) then ((sign_Same.f (⟨#[65, 98]⟩ : ByteArray) (⟨#[97, 66]⟩ : ByteArray)).bind fun t186 => (if t186 = true then ((sign_Same.f (⟨#[97]⟩ : ByteArray) (⟨#[98]⟩ : ByteArray)).bind fun t187 => (if t187 = true then (some false) else ((sign_Split.f k (⟨#[97, 44, 32, 44, 98, 32]⟩ : ByteArray)).bind fun t188 => ((tollbarref01_SameTexts.f k t188 (([(⟨#[97]⟩ : ByteArray), (⟨#[98]⟩ : ByteArray)] : List ByteArray))).bind fun t194 => (some t194))))) else (some false))) else (some false))) else (some false))
theorem tollbarlaw02_texts.mono : ∀ k, LeO (tollbarlaw02_texts.f k ) (tollbarlaw02_texts.f (k + 1) ) := by
  intro  k
  unfold tollbarlaw02_texts.f
  repeat' first
      | (with_reducible exact sign_Split.mono _ _)
      | (with_reducible exact tollbarref01_SameTexts.mono _ _ _)
      | (with_reducible exact LeO.refl _)
      | (with_reducible exact LeO.none _)
      | (with_reducible refine LeO.ite ?_ ?_)
      | (with_reducible refine LeO.bind ?_ (fun _ => ?_))
      | exact sign_Split.mono _ _
      | exact tollbarref01_SameTexts.mono _ _ _
      | exact LeO.none _
      | refine LeO.ite ?_ ?_
      | refine LeO.bind ?_ (fun _ => ?_)
set_option maxHeartbeats 8000000 in
set_option maxRecDepth 100000 in
theorem tollbarlaw02_texts.calls (k : Nat)  (r : Bool) (w : World) (h : tollbarlaw02_texts.f k  = some r) :
    Calls Tryd.prog 18 #[] w fun e w' => e = .returned (.bool r) ∧ Below w.heap.size w w' := by
  have HB := Aside0.mk (Below.refl w.heap.size w)
  have H : ((sign_Trim.f (⟨#[9, 32, 97, 32]⟩ : ByteArray)).bind fun t184 => (if t184.toList = ([97] : List UInt8) then ((sign_Fold.f (⟨#[97, 66]⟩ : ByteArray)).bind fun t185 => (if t185.toList = ([97, 98] : List UInt8) then ((sign_Same.f (⟨#[65, 98]⟩ : ByteArray) (⟨#[97, 66]⟩ : ByteArray)).bind fun t186 => (if t186 = true then ((sign_Same.f (⟨#[97]⟩ : ByteArray) (⟨#[98]⟩ : ByteArray)).bind fun t187 => (if t187 = true then (some false) else ((sign_Split.f k (⟨#[97, 44, 32, 44, 98, 32]⟩ : ByteArray)).bind fun t188 => ((tollbarref01_SameTexts.f k t188 (([(⟨#[97]⟩ : ByteArray), (⟨#[98]⟩ : ByteArray)] : List ByteArray))).bind fun t194 => (some t194))))) else (some false))) else (some false))) else (some false))) = some r := h
  clear h
  replace H := Option.bind_eq_some_iff.mp H
  obtain ⟨t184, A10, H⟩ := H
  replace H : (if t184.toList = ([97] : List UInt8) then ((sign_Fold.f (⟨#[97, 66]⟩ : ByteArray)).bind fun t185 => (if t185.toList = ([97, 98] : List UInt8) then ((sign_Same.f (⟨#[65, 98]⟩ : ByteArray) (⟨#[97, 66]⟩ : ByteArray)).bind fun t186 => (if t186 = true then ((sign_Same.f (⟨#[97]⟩ : ByteArray) (⟨#[98]⟩ : ByteArray)).bind fun t187 => (if t187 = true then (some false) else ((sign_Split.f k (⟨#[97, 44, 32, 44, 98, 32]⟩ : ByteArray)).bind fun t188 => ((tollbarref01_SameTexts.f k t188 (([(⟨#[97]⟩ : ByteArray), (⟨#[98]⟩ : ByteArray)] : List ByteArray))).bind fun t194 => (some t194))))) else (some false))) else (some false))) else (some false)) = some r := H
  have A1 := Aside0.mk A10
  clear A10
  by_cases c2 : t184.toList = ([97] : List UInt8)
  · rw [if_pos c2] at H
    have c2b0 : (t184.toList == ([97] : List UInt8)) = true := beq_iff_eq.mpr c2
    have c2b1 : (t184.toList != ([97] : List UInt8)) = false := bne_eq_false_iff_eq.mpr c2
    clear c2
    replace H := Option.bind_eq_some_iff.mp H
    obtain ⟨t185, A30, H⟩ := H
    replace H : (if t185.toList = ([97, 98] : List UInt8) then ((sign_Same.f (⟨#[65, 98]⟩ : ByteArray) (⟨#[97, 66]⟩ : ByteArray)).bind fun t186 => (if t186 = true then ((sign_Same.f (⟨#[97]⟩ : ByteArray) (⟨#[98]⟩ : ByteArray)).bind fun t187 => (if t187 = true then (some false) else ((sign_Split.f k (⟨#[97, 44, 32, 44, 98, 32]⟩ : ByteArray)).bind fun t188 => ((tollbarref01_SameTexts.f k t188 (([(⟨#[97]⟩ : ByteArray), (⟨#[98]⟩ : ByteArray)] : List ByteArray))).bind fun t194 => (some t194))))) else (some false))) else (some false)) = some r := H
    have A3 := Aside0.mk A30
    clear A30
    by_cases c4 : t185.toList = ([97, 98] : List UInt8)
    · rw [if_pos c4] at H
      have c4b0 : (t185.toList == ([97, 98] : List UInt8)) = true := beq_iff_eq.mpr c4
      have c4b1 : (t185.toList != ([97, 98] : List UInt8)) = false := bne_eq_false_iff_eq.mpr c4
      clear c4
      replace H := Option.bind_eq_some_iff.mp H
      obtain ⟨t186, A50, H⟩ := H
      replace H : (if t186 = true then ((sign_Same.f (⟨#[97]⟩ : ByteArray) (⟨#[98]⟩ : ByteArray)).bind fun t187 => (if t187 = true then (some false) else ((sign_Split.f k (⟨#[97, 44, 32, 44, 98, 32]⟩ : ByteArray)).bind fun t188 => ((tollbarref01_SameTexts.f k t188 (([(⟨#[97]⟩ : ByteArray), (⟨#[98]⟩ : ByteArray)] : List ByteArray))).bind fun t194 => (some t194))))) else (some false)) = some r := H
      have A5 := Aside0.mk A50
      clear A50
      by_cases c6 : t186 = true
      · subst c6
        have H1 : ((sign_Same.f (⟨#[97]⟩ : ByteArray) (⟨#[98]⟩ : ByteArray)).bind fun t187 => (if t187 = true then (some false) else ((sign_Split.f k (⟨#[97, 44, 32, 44, 98, 32]⟩ : ByteArray)).bind fun t188 => ((tollbarref01_SameTexts.f k t188 (([(⟨#[97]⟩ : ByteArray), (⟨#[98]⟩ : ByteArray)] : List ByteArray))).bind fun t194 => (some t194))))) = some r := by rw [if_pos rfl] at H; exact H
        clear H
        have H := H1
        clear H1
        replace H := Option.bind_eq_some_iff.mp H
        obtain ⟨t187, A70, H⟩ := H
        replace H : (if t187 = true then (some false) else ((sign_Split.f k (⟨#[97, 44, 32, 44, 98, 32]⟩ : ByteArray)).bind fun t188 => ((tollbarref01_SameTexts.f k t188 (([(⟨#[97]⟩ : ByteArray), (⟨#[98]⟩ : ByteArray)] : List ByteArray))).bind fun t194 => (some t194)))) = some r := H
        have A7 := Aside0.mk A70
        clear A70
        by_cases c8 : t187 = true
        · subst c8
          have H1 : (some false) = some r := by rw [if_pos rfl] at H; exact H
          clear H
          have H := H1
          clear H1
          obtain rfl := Option.some.inj H
          go_enter Tryd.func18, Tryd.ntmps18
          go_wp2_with (first | ((with_reducible refine gate_callee (f := 19) rfl ?_); refine goesL_ (some 1) rfl rfl Tryd.func19 (by kernel_rfl) rfl #[.string (⟨#[9, 32, 97, 32]⟩ : ByteArray)] rfl (by (try simp only [List.map_toArray, List.map_cons, List.map_nil]); first | done | rfl | (simp only [List.length_drop, List.length_take]; rfl)) ?_; (with_reducible refine (sign_Trim.calls (⟨#[9, 32, 97, 32]⟩ : ByteArray) t184 _ A1.out).mono ?_); rintro e w9 ⟨rfl, hb⟩; (try clear A1); refine ⟨_, rfl, ?_⟩; have n0_ := Aside0.mk (below_step (by repeat (first | (with_reducible first | exact HB.out | apply below_alloc | apply pw_below_drewN | apply below_drew1) | exact HB.out)) hb); clear HB; have HB := n0_; clear n0_; (try clear hb); (try clear hb2); (try clear hk); (try clear hi)) | (go_at_call 21; (with_reducible refine (sign_Fold.calls (⟨#[97, 66]⟩ : ByteArray) t185 _ A3.out).mono ?_); rintro e w10 ⟨rfl, hb⟩; (try clear A3); have n0_ := Aside0.mk (below_step (by repeat (first | (with_reducible first | exact HB.out | apply below_alloc | apply pw_below_drewN | apply below_drew1) | exact HB.out)) hb); clear HB; have HB := n0_; clear n0_; (try clear hb); (try clear hb2); (try clear hk); (try clear hi)) | (go_at_call 26; (with_reducible refine (sign_Same.calls (⟨#[65, 98]⟩ : ByteArray) (⟨#[97, 66]⟩ : ByteArray) true _ A5.out).mono ?_); rintro e w11 ⟨rfl, hb⟩; (try clear A5); have n0_ := Aside0.mk (below_step (by repeat (first | (with_reducible first | exact HB.out | apply below_alloc | apply pw_below_drewN | apply below_drew1) | exact HB.out)) hb); clear HB; have HB := n0_; clear n0_; (try clear hb); (try clear hb2); (try clear hk); (try clear hi)) | (go_at_call 26; (with_reducible refine (sign_Same.calls (⟨#[97]⟩ : ByteArray) (⟨#[98]⟩ : ByteArray) true _ A7.out).mono ?_); rintro e w12 ⟨rfl, hb⟩; (try clear A7); have n0_ := Aside0.mk (below_step (by repeat (first | (with_reducible first | exact HB.out | apply below_alloc | apply pw_below_drewN | apply below_drew1) | exact HB.out)) hb); clear HB; have HB := n0_; clear n0_; (try clear hb); (try clear hb2); (try clear hk); (try clear hi)))
          go_ret
          exact ⟨by first | rfl | (simp [errW_none, errW_some] <;> rfl) | (simp [*, errW_none, errW_some] <;> rfl), by repeat (first | (with_reducible first | exact HB.out | apply below_alloc | apply pw_below_drewN | apply below_drew1) | exact HB.out)⟩
        · replace c8 := Bool.eq_false_iff.mpr c8
          subst c8
          have H1 : ((sign_Split.f k (⟨#[97, 44, 32, 44, 98, 32]⟩ : ByteArray)).bind fun t188 => ((tollbarref01_SameTexts.f k t188 (([(⟨#[97]⟩ : ByteArray), (⟨#[98]⟩ : ByteArray)] : List ByteArray))).bind fun t194 => (some t194))) = some r := by rw [if_neg (show ¬ (false = true) by decide)] at H; exact H
          clear H
          have H := H1
          clear H1
          replace H := Option.bind_eq_some_iff.mp H
          obtain ⟨t188, A130, H⟩ := H
          replace H : ((tollbarref01_SameTexts.f k t188 (([(⟨#[97]⟩ : ByteArray), (⟨#[98]⟩ : ByteArray)] : List ByteArray))).bind fun t194 => (some t194)) = some r := H
          have A13 := Aside0.mk A130
          clear A130
          obtain ⟨y191, hy191⟩ : ∃ y_ : List ByteArray, y_ = (([(⟨#[97]⟩ : ByteArray), (⟨#[98]⟩ : ByteArray)] : List ByteArray)) := ⟨_, rfl⟩
          replace H : ((tollbarref01_SameTexts.f k t188 y191).bind fun t194 => (some t194)) = some r := by first | (rw [hy191]; with_reducible exact H) | (have H2_ := (Option.bind_some _ _).symm.trans H; rw [hy191]; with_reducible exact H2_) | (have H2_ := (Option.bind_some _ _).symm.trans H; with_reducible exact H2_) | with_reducible exact H | (rw [hy191]; exact H) | exact H
          have Ny191 := Aside0.mk hy191
          clear hy191
          replace H := Option.bind_eq_some_iff.mp H
          obtain ⟨t194, A140, H⟩ := H
          replace H : (some t194) = some r := H
          have A14 := Aside0.mk A140
          clear A140
          obtain rfl := Option.some.inj H
          go_enter Tryd.func18, Tryd.ntmps18
          go_wp2_with (first | ((with_reducible refine gate_callee (f := 19) rfl ?_); refine goesL_ (some 1) rfl rfl Tryd.func19 (by kernel_rfl) rfl #[.string (⟨#[9, 32, 97, 32]⟩ : ByteArray)] rfl (by (try simp only [List.map_toArray, List.map_cons, List.map_nil]); first | done | rfl | (simp only [List.length_drop, List.length_take]; rfl)) ?_; (with_reducible refine (sign_Trim.calls (⟨#[9, 32, 97, 32]⟩ : ByteArray) t184 _ A1.out).mono ?_); rintro e w15 ⟨rfl, hb⟩; (try clear A1); refine ⟨_, rfl, ?_⟩; have n0_ := Aside0.mk (below_step (by repeat (first | (with_reducible first | exact HB.out | apply below_alloc | apply pw_below_drewN | apply below_drew1) | exact HB.out)) hb); clear HB; have HB := n0_; clear n0_; (try clear hb); (try clear hb2); (try clear hk); (try clear hi)) | (go_at_call 21; (with_reducible refine (sign_Fold.calls (⟨#[97, 66]⟩ : ByteArray) t185 _ A3.out).mono ?_); rintro e w16 ⟨rfl, hb⟩; (try clear A3); have n0_ := Aside0.mk (below_step (by repeat (first | (with_reducible first | exact HB.out | apply below_alloc | apply pw_below_drewN | apply below_drew1) | exact HB.out)) hb); clear HB; have HB := n0_; clear n0_; (try clear hb); (try clear hb2); (try clear hk); (try clear hi)) | (go_at_call 26; (with_reducible refine (sign_Same.calls (⟨#[65, 98]⟩ : ByteArray) (⟨#[97, 66]⟩ : ByteArray) true _ A5.out).mono ?_); rintro e w17 ⟨rfl, hb⟩; (try clear A5); have n0_ := Aside0.mk (below_step (by repeat (first | (with_reducible first | exact HB.out | apply below_alloc | apply pw_below_drewN | apply below_drew1) | exact HB.out)) hb); clear HB; have HB := n0_; clear n0_; (try clear hb); (try clear hb2); (try clear hk); (try clear hi)) | (go_at_call 26; (with_reducible refine (sign_Same.calls (⟨#[97]⟩ : ByteArray) (⟨#[98]⟩ : ByteArray) false _ A7.out).mono ?_); rintro e w18 ⟨rfl, hb⟩; (try clear A7); have n0_ := Aside0.mk (below_step (by repeat (first | (with_reducible first | exact HB.out | apply below_alloc | apply pw_below_drewN | apply below_drew1) | exact HB.out)) hb); clear HB; have HB := n0_; clear n0_; (try clear hb); (try clear hb2); (try clear hk); (try clear hi)) | (go_at_call 24; (with_reducible refine (sign_Split.calls k (⟨#[97, 44, 32, 44, 98, 32]⟩ : ByteArray) t188 _ A13.out).mono ?_); rintro e w19 ⟨v189, rfl, ho0, hb⟩; (try clear A13); have n0_ := Aside0.mk (Kd.R_lower ho0 (below_size (by repeat (first | (with_reducible first | exact HB.out | apply below_alloc | apply pw_below_drewN | apply below_drew1) | exact HB.out)))); have n1_ := Aside0.mk (below_step (by repeat (first | (with_reducible first | exact HB.out | apply below_alloc | apply pw_below_drewN | apply below_drew1) | exact HB.out)) hb); clear HB; have HO190 := n0_; have HB := n1_; clear n0_ n1_; (try clear hb); (try clear hb2); (try clear hk); (try clear hi); (try clear ho0)) | ((with_reducible refine gate_dst (N := 16) rfl ?_); (try (refine gate_guard (by rfl) ?_; dsimp only)); refine Kd.R_lit Kd.string _ 9 ?hg (N := 16) ?hd (xs := ([(⟨#[97]⟩ : ByteArray), (⟨#[98]⟩ : ByteArray)] : List ByteArray)) (inner := [.string (⟨#[97]⟩ : ByteArray), .string (⟨#[98]⟩ : ByteArray)]) (ok := fun _ => True) (okp := fun _ => True) ?hr ?hp (fun _ hk => hk) trivial (Below.refl _ _) (Nat.le_refl _) (by simp) ?_; (case hd => rfl); (case hg => rfl); (case hr => first | (go_simp; done) | (go_simp; rfl)); (case hp => exact (Reps.one (show Kd.M Kd.string _ _ _ (⟨#[97]⟩ : ByteArray) [.string (⟨#[97]⟩ : ByteArray)] from rfl) (Reps.one (show Kd.M Kd.string _ _ _ (⟨#[98]⟩ : ByteArray) [.string (⟨#[98]⟩ : ByteArray)] from rfl) (Reps.none _ _)))); intro v192 w20 ho21 hb hg_ hnew_; clear hg_ hnew_; (first | rw [← Ny191.out] at ho21 | (simp only [Int.reduceToNat] at ho21; rw [← Ny191.out] at ho21)); have n0_ := Aside0.mk (Kd.R_elder' (by (with_reducible repeat (first | apply Kd.R_alloc | apply Kd.R_drewN | apply Kd.R_drew)); exact HO190.out) (Kd.R_base ho21) hb); have n1_ := Aside0.mk (Kd.R_lower (Kd.R_new' ho21 (Kd.R_lt (by (with_reducible repeat (first | apply Kd.R_alloc | apply Kd.R_drewN | apply Kd.R_drew)); exact HO190.out))) (below_size (by repeat (first | (with_reducible first | exact HB.out | apply below_alloc | apply pw_below_drewN | apply below_drew1) | exact HB.out)))); have n2_ := Aside0.mk (below_step (by repeat (first | (with_reducible first | exact HB.out | apply below_alloc | apply pw_below_drewN | apply below_drew1) | exact HB.out)) hb); clear HO190; clear HB; have HO190 := n0_; have HO193 := n1_; have HB := n2_; clear n0_ n1_ n2_; clear hb ho21; obtain ⟨Ao22, co22, eo22⟩ := Kd.R_slice HO190.out; subst eo22; obtain ⟨Ao23, co23, eo23⟩ := Kd.R_slice HO193.out; subst eo23) | (go_at_call 23; (with_reducible refine (tollbarref01_SameTexts.calls k _ _ t188 _ _ y191 t194 _ ?side1 ?side2 ?side3 ?side4 A14.out).mono ?_); (case side1 => repeat (first | exact (Kd.R_reads' HO190.out).2.2 | (with_reducible refine Kd.C_alloc ?_ _) | (with_reducible refine Kd.C_drewN ?_ _) | (with_reducible refine Kd.C_drew ?_))); (case side2 => exact (Kd.R_reads' HO190.out).2.1); (case side3 => repeat (first | exact (Kd.R_reads' HO193.out).2.2 | (with_reducible refine Kd.C_alloc ?_ _) | (with_reducible refine Kd.C_drewN ?_ _) | (with_reducible refine Kd.C_drew ?_))); (case side4 => exact (Kd.R_reads' HO193.out).2.1); rintro e w' ⟨rfl, ⟨nd, rfl⟩⟩; (try clear A14)))
          go_ret
          exact ⟨by first | rfl | (simp [errW_none, errW_some] <;> rfl) | (simp [*, errW_none, errW_some] <;> rfl), by repeat (first | (with_reducible first | exact HB.out | apply below_alloc | apply pw_below_drewN | apply below_drew1) | exact HB.out)⟩
      · replace c6 := Bool.eq_false_iff.mpr c6
        subst c6
        have H1 : (some false) = some r := by rw [if_neg (show ¬ (false = true) by decide)] at H; exact H
        clear H
        have H := H1
        clear H1
        obtain rfl := Option.some.inj H
        go_enter Tryd.func18, Tryd.ntmps18
        go_wp2_with (first | ((with_reducible refine gate_callee (f := 19) rfl ?_); refine goesL_ (some 1) rfl rfl Tryd.func19 (by kernel_rfl) rfl #[.string (⟨#[9, 32, 97, 32]⟩ : ByteArray)] rfl (by (try simp only [List.map_toArray, List.map_cons, List.map_nil]); first | done | rfl | (simp only [List.length_drop, List.length_take]; rfl)) ?_; (with_reducible refine (sign_Trim.calls (⟨#[9, 32, 97, 32]⟩ : ByteArray) t184 _ A1.out).mono ?_); rintro e w24 ⟨rfl, hb⟩; (try clear A1); refine ⟨_, rfl, ?_⟩; have n0_ := Aside0.mk (below_step (by repeat (first | (with_reducible first | exact HB.out | apply below_alloc | apply pw_below_drewN | apply below_drew1) | exact HB.out)) hb); clear HB; have HB := n0_; clear n0_; (try clear hb); (try clear hb2); (try clear hk); (try clear hi)) | (go_at_call 21; (with_reducible refine (sign_Fold.calls (⟨#[97, 66]⟩ : ByteArray) t185 _ A3.out).mono ?_); rintro e w25 ⟨rfl, hb⟩; (try clear A3); have n0_ := Aside0.mk (below_step (by repeat (first | (with_reducible first | exact HB.out | apply below_alloc | apply pw_below_drewN | apply below_drew1) | exact HB.out)) hb); clear HB; have HB := n0_; clear n0_; (try clear hb); (try clear hb2); (try clear hk); (try clear hi)) | (go_at_call 26; (with_reducible refine (sign_Same.calls (⟨#[65, 98]⟩ : ByteArray) (⟨#[97, 66]⟩ : ByteArray) false _ A5.out).mono ?_); rintro e w26 ⟨rfl, hb⟩; (try clear A5); have n0_ := Aside0.mk (below_step (by repeat (first | (with_reducible first | exact HB.out | apply below_alloc | apply pw_below_drewN | apply below_drew1) | exact HB.out)) hb); clear HB; have HB := n0_; clear n0_; (try clear hb); (try clear hb2); (try clear hk); (try clear hi)))
        go_ret
        exact ⟨by first | rfl | (simp [errW_none, errW_some] <;> rfl) | (simp [*, errW_none, errW_some] <;> rfl), by repeat (first | (with_reducible first | exact HB.out | apply below_alloc | apply pw_below_drewN | apply below_drew1) | exact HB.out)⟩
    · rw [if_neg c4] at H
      have c4b0 : (t185.toList == ([97, 98] : List UInt8)) = false := beq_eq_false_iff_ne.mpr c4
      have c4b1 : (t185.toList != ([97, 98] : List UInt8)) = true := bne_iff_ne.mpr c4
      obtain rfl := Option.some.inj H
      go_enter Tryd.func18, Tryd.ntmps18
      go_wp2_with (first | ((with_reducible refine gate_callee (f := 19) rfl ?_); refine goesL_ (some 1) rfl rfl Tryd.func19 (by kernel_rfl) rfl #[.string (⟨#[9, 32, 97, 32]⟩ : ByteArray)] rfl (by (try simp only [List.map_toArray, List.map_cons, List.map_nil]); first | done | rfl | (simp only [List.length_drop, List.length_take]; rfl)) ?_; (with_reducible refine (sign_Trim.calls (⟨#[9, 32, 97, 32]⟩ : ByteArray) t184 _ A1.out).mono ?_); rintro e w27 ⟨rfl, hb⟩; (try clear A1); refine ⟨_, rfl, ?_⟩; have n0_ := Aside0.mk (below_step (by repeat (first | (with_reducible first | exact HB.out | apply below_alloc | apply pw_below_drewN | apply below_drew1) | exact HB.out)) hb); clear HB; have HB := n0_; clear n0_; (try clear hb); (try clear hb2); (try clear hk); (try clear hi)) | (go_at_call 21; (with_reducible refine (sign_Fold.calls (⟨#[97, 66]⟩ : ByteArray) t185 _ A3.out).mono ?_); rintro e w28 ⟨rfl, hb⟩; (try clear A3); have n0_ := Aside0.mk (below_step (by repeat (first | (with_reducible first | exact HB.out | apply below_alloc | apply pw_below_drewN | apply below_drew1) | exact HB.out)) hb); clear HB; have HB := n0_; clear n0_; (try clear hb); (try clear hb2); (try clear hk); (try clear hi)))
      go_ret
      exact ⟨by first | rfl | (simp [errW_none, errW_some] <;> rfl) | (simp [*, errW_none, errW_some] <;> rfl), by repeat (first | (with_reducible first | exact HB.out | apply below_alloc | apply pw_below_drewN | apply below_drew1) | exact HB.out)⟩
  · rw [if_neg c2] at H
    have c2b0 : (t184.toList == ([97] : List UInt8)) = false := beq_eq_false_iff_ne.mpr c2
    have c2b1 : (t184.toList != ([97] : List UInt8)) = true := bne_iff_ne.mpr c2
    obtain rfl := Option.some.inj H
    go_enter Tryd.func18, Tryd.ntmps18
    go_wp2_with (first | ((with_reducible refine gate_callee (f := 19) rfl ?_); refine goesL_ (some 1) rfl rfl Tryd.func19 (by kernel_rfl) rfl #[.string (⟨#[9, 32, 97, 32]⟩ : ByteArray)] rfl (by (try simp only [List.map_toArray, List.map_cons, List.map_nil]); first | done | rfl | (simp only [List.length_drop, List.length_take]; rfl)) ?_; (with_reducible refine (sign_Trim.calls (⟨#[9, 32, 97, 32]⟩ : ByteArray) t184 _ A1.out).mono ?_); rintro e w29 ⟨rfl, hb⟩; (try clear A1); refine ⟨_, rfl, ?_⟩; have n0_ := Aside0.mk (below_step (by repeat (first | (with_reducible first | exact HB.out | apply below_alloc | apply pw_below_drewN | apply below_drew1) | exact HB.out)) hb); clear HB; have HB := n0_; clear n0_; (try clear hb); (try clear hb2); (try clear hk); (try clear hi)))
    go_ret
    exact ⟨by first | rfl | (simp [errW_none, errW_some] <;> rfl) | (simp [*, errW_none, errW_some] <;> rfl), by repeat (first | (with_reducible first | exact HB.out | apply below_alloc | apply pw_below_drewN | apply below_drew1) | exact HB.out)⟩

end Go.Proofs.YthkkkfeiklfjoaaDoor.P
