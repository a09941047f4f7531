/- Each function below answers as its Lean twin says; a law answers true at every input that its row speaks of. No further condition. (Laid by this repo's seatprint.py.) -/
import Derived.Test.YthkkkfeiklfjoaaDoorPx0
import Derived.Test.YthkkkfeiklfjoaaDoorFsignFold
import Derived.Test.YthkkkfeiklfjoaaDoorFsignSame
import Derived.Test.YthkkkfeiklfjoaaDoorFsignSplit
import Derived.Test.YthkkkfeiklfjoaaDoorFsignTrim
import Derived.Test.YthkkkfeiklfjoaaDoorFtollbarlaw02texts
import Derived.Test.YthkkkfeiklfjoaaDoorFtollbarref01SameTexts
import Derived.Test.YthkkkfeiklfjoaaDoorFtollbarref02Fold
import Derived.Test.YthkkkfeiklfjoaaDoorFtollbarref02Split
import Derived.Test.YthkkkfeiklfjoaaDoorFtollbarref02Trim
namespace Go.Proofs.YthkkkfeiklfjoaaDoor.P
open Go.RowKit Go.Proofs.YthkkkfeiklfjoaaDoorW.PrintWords Go.Proofs.YthkkkfeiklfjoaaDoorW.PrintLast Go.Proofs.YthkkkfeiklfjoaaDoorW.PrintMore
attribute [local go_sem] max2_int min2_int max_two min_two max_three min_three max_four min_four   -- for this text's walks alone
set_option linter.unusedVariables false
set_option linter.unusedSimpArgs false

/-! ### tollbarlaw02_SignTexts: function 5 -/
def tollbarlaw02_SignTexts.f (k : Nat) (a0 : ByteArray) (a1 : ByteArray) : Option (Bool) := (tollbarlaw02_texts.f k).bind fun t216 => (if t216 = true then ((sign_Trim.f a0).bind fun t217 => ((tollbarref02_Trim.f k a0).bind fun t218 => (if t217.toList = t218.toList then ((sign_Fold.f a0).bind fun t219 => ((tollbarref02_Fold.f k a0).bind fun t220 => (if t219.toList = t220.toList then ((sign_Split.f k a0).bind fun t221 => ((tollbarref02_Split.f k a0).bind fun t224 => ((tollbarref01_SameTexts.f k t221 t224).bind fun t227 => (if t227 = true then ((sign_Same.f a0 a1).bind fun t228 => ((tollbarref02_Fold.f k a0).bind fun t229 => ((tollbarref02_Fold.f k a1).bind fun t230 => (some (t228 == (t229.toList == t230.toList)))))) else (some false))))) else (some false)))) else (some false)))) else (some false))
theorem tollbarlaw02_SignTexts.mono : ∀ a0 a1 k, LeO (tollbarlaw02_SignTexts.f k a0 a1) (tollbarlaw02_SignTexts.f (k + 1) a0 a1) := by
  intro a0 a1 k
  unfold tollbarlaw02_SignTexts.f
  repeat' first
      | (with_reducible exact sign_Split.mono _ _)
      | (with_reducible exact tollbarlaw02_texts.mono _)
      | (with_reducible exact tollbarref01_SameTexts.mono _ _ _)
      | (with_reducible exact tollbarref02_Fold.mono _ _)
      | (with_reducible exact tollbarref02_Split.mono _ _)
      | (with_reducible exact tollbarref02_Trim.mono _ _)
      | (with_reducible exact LeO.refl _)
      | (with_reducible exact LeO.none _)
      | (with_reducible refine LeO.ite ?_ ?_)
      | (with_reducible refine LeO.bind ?_ (fun _ => ?_))
      | exact sign_Split.mono _ _
      | exact tollbarlaw02_texts.mono _
      | exact tollbarref01_SameTexts.mono _ _ _
      | exact tollbarref02_Fold.mono _ _
      | exact tollbarref02_Split.mono _ _
      | exact tollbarref02_Trim.mono _ _
      | exact LeO.none _
      | refine LeO.ite ?_ ?_
      | refine LeO.bind ?_ (fun _ => ?_)
set_option maxHeartbeats 8000000 in
set_option maxRecDepth 100000 in
theorem tollbarlaw02_SignTexts.calls (k : Nat) (a0 : ByteArray) (a1 : ByteArray) (r : Bool) (w : World) (h : tollbarlaw02_SignTexts.f k a0 a1 = some r) :
    Calls Tryd.prog 5 #[.string a0, .string a1] w fun e w' => e = .returned (.bool r) ∧ Below w.heap.size w w' := by
  have HB := Aside0.mk (Below.refl w.heap.size w)
  have H : ((tollbarlaw02_texts.f k).bind fun t216 => (if t216 = true then ((sign_Trim.f a0).bind fun t217 => ((tollbarref02_Trim.f k a0).bind fun t218 => (if t217.toList = t218.toList then ((sign_Fold.f a0).bind fun t219 => ((tollbarref02_Fold.f k a0).bind fun t220 => (if t219.toList = t220.toList then ((sign_Split.f k a0).bind fun t221 => ((tollbarref02_Split.f k a0).bind fun t224 => ((tollbarref01_SameTexts.f k t221 t224).bind fun t227 => (if t227 = true then ((sign_Same.f a0 a1).bind fun t228 => ((tollbarref02_Fold.f k a0).bind fun t229 => ((tollbarref02_Fold.f k a1).bind fun t230 => (some (t228 == (t229.toList == t230.toList)))))) else (some false))))) else (some false)))) else (some false)))) else (some false))) = some r := h
  clear h
  replace H := Option.bind_eq_some_iff.mp H
  obtain ⟨t216, A30, H⟩ := H
  replace H : (if t216 = true then ((sign_Trim.f a0).bind fun t217 => ((tollbarref02_Trim.f k a0).bind fun t218 => (if t217.toList = t218.toList then ((sign_Fold.f a0).bind fun t219 => ((tollbarref02_Fold.f k a0).bind fun t220 => (if t219.toList = t220.toList then ((sign_Split.f k a0).bind fun t221 => ((tollbarref02_Split.f k a0).bind fun t224 => ((tollbarref01_SameTexts.f k t221 t224).bind fun t227 => (if t227 = true then ((sign_Same.f a0 a1).bind fun t228 => ((tollbarref02_Fold.f k a0).bind fun t229 => ((tollbarref02_Fold.f k a1).bind fun t230 => (some (t228 == (t229.toList == t230.toList)))))) else (some false))))) else (some false)))) else (some false)))) else (some false)) = some r := H
  have A3 := Aside0.mk A30
  clear A30
  by_cases c4 : t216 = true
  · subst c4
    have H1 : ((sign_Trim.f a0).bind fun t217 => ((tollbarref02_Trim.f k a0).bind fun t218 => (if t217.toList = t218.toList then ((sign_Fold.f a0).bind fun t219 => ((tollbarref02_Fold.f k a0).bind fun t220 => (if t219.toList = t220.toList then ((sign_Split.f k a0).bind fun t221 => ((tollbarref02_Split.f k a0).bind fun t224 => ((tollbarref01_SameTexts.f k t221 t224).bind fun t227 => (if t227 = true then ((sign_Same.f a0 a1).bind fun t228 => ((tollbarref02_Fold.f k a0).bind fun t229 => ((tollbarref02_Fold.f k a1).bind fun t230 => (some (t228 == (t229.toList == t230.toList)))))) else (some false))))) else (some false)))) else (some false)))) = some r := by rw [if_pos rfl] at H; exact H
    clear H
    have H := H1
    clear H1
    replace H := Option.bind_eq_some_iff.mp H
    obtain ⟨t217, A50, H⟩ := H
    replace H : ((tollbarref02_Trim.f k a0).bind fun t218 => (if t217.toList = t218.toList then ((sign_Fold.f a0).bind fun t219 => ((tollbarref02_Fold.f k a0).bind fun t220 => (if t219.toList = t220.toList then ((sign_Split.f k a0).bind fun t221 => ((tollbarref02_Split.f k a0).bind fun t224 => ((tollbarref01_SameTexts.f k t221 t224).bind fun t227 => (if t227 = true then ((sign_Same.f a0 a1).bind fun t228 => ((tollbarref02_Fold.f k a0).bind fun t229 => ((tollbarref02_Fold.f k a1).bind fun t230 => (some (t228 == (t229.toList == t230.toList)))))) else (some false))))) else (some false)))) else (some false))) = some r := H
    have A5 := Aside0.mk A50
    clear A50
    replace H := Option.bind_eq_some_iff.mp H
    obtain ⟨t218, A60, H⟩ := H
    replace H : (if t217.toList = t218.toList then ((sign_Fold.f a0).bind fun t219 => ((tollbarref02_Fold.f k a0).bind fun t220 => (if t219.toList = t220.toList then ((sign_Split.f k a0).bind fun t221 => ((tollbarref02_Split.f k a0).bind fun t224 => ((tollbarref01_SameTexts.f k t221 t224).bind fun t227 => (if t227 = true then ((sign_Same.f a0 a1).bind fun t228 => ((tollbarref02_Fold.f k a0).bind fun t229 => ((tollbarref02_Fold.f k a1).bind fun t230 => (some (t228 == (t229.toList == t230.toList)))))) else (some false))))) else (some false)))) else (some false)) = some r := H
    have A6 := Aside0.mk A60
    clear A60
    by_cases c7 : t217.toList = t218.toList
    · rw [if_pos c7] at H
      have c7b0 : (t217.toList == t218.toList) = true := beq_iff_eq.mpr c7
      have c7b1 : (t217.toList != t218.toList) = false := bne_eq_false_iff_eq.mpr c7
      clear c7
      replace H := Option.bind_eq_some_iff.mp H
      obtain ⟨t219, A80, H⟩ := H
      replace H : ((tollbarref02_Fold.f k a0).bind fun t220 => (if t219.toList = t220.toList then ((sign_Split.f k a0).bind fun t221 => ((tollbarref02_Split.f k a0).bind fun t224 => ((tollbarref01_SameTexts.f k t221 t224).bind fun t227 => (if t227 = true then ((sign_Same.f a0 a1).bind fun t228 => ((tollbarref02_Fold.f k a0).bind fun t229 => ((tollbarref02_Fold.f k a1).bind fun t230 => (some (t228 == (t229.toList == t230.toList)))))) else (some false))))) else (some false))) = some r := H
      have A8 := Aside0.mk A80
      clear A80
      replace H := Option.bind_eq_some_iff.mp H
      obtain ⟨t220, A90, H⟩ := H
      replace H : (if t219.toList = t220.toList then ((sign_Split.f k a0).bind fun t221 => ((tollbarref02_Split.f k a0).bind fun t224 => ((tollbarref01_SameTexts.f k t221 t224).bind fun t227 => (if t227 = true then ((sign_Same.f a0 a1).bind fun t228 => ((tollbarref02_Fold.f k a0).bind fun t229 => ((tollbarref02_Fold.f k a1).bind fun t230 => (some (t228 == (t229.toList == t230.toList)))))) else (some false))))) else (some false)) = some r := H
      have A9 := Aside0.mk A90
      clear A90
      by_cases c10 : t219.toList = t220.toList
      · rw [if_pos c10] at H
        have c10b0 : (t219.toList == t220.toList) = true := beq_iff_eq.mpr c10
        have c10b1 : (t219.toList != t220.toList) = false := bne_eq_false_iff_eq.mpr c10
        clear c10
        replace H := Option.bind_eq_some_iff.mp H
        obtain ⟨t221, A110, H⟩ := H
        replace H : ((tollbarref02_Split.f k a0).bind fun t224 => ((tollbarref01_SameTexts.f k t221 t224).bind fun t227 => (if t227 = true then ((sign_Same.f a0 a1).bind fun t228 => ((tollbarref02_Fold.f k a0).bind fun t229 => ((tollbarref02_Fold.f k a1).bind fun t230 => (some (t228 == (t229.toList == t230.toList)))))) else (some false)))) = some r := H
        have A11 := Aside0.mk A110
        clear A110
        replace H := Option.bind_eq_some_iff.mp H
        obtain ⟨t224, A120, H⟩ := H
        replace H : ((tollbarref01_SameTexts.f k t221 t224).bind fun t227 => (if t227 = true then ((sign_Same.f a0 a1).bind fun t228 => ((tollbarref02_Fold.f k a0).bind fun t229 => ((tollbarref02_Fold.f k a1).bind fun t230 => (some (t228 == (t229.toList == t230.toList)))))) else (some false))) = some r := H
        have A12 := Aside0.mk A120
        clear A120
        replace H := Option.bind_eq_some_iff.mp H
        obtain ⟨t227, A130, H⟩ := H
        replace H : (if t227 = true then ((sign_Same.f a0 a1).bind fun t228 => ((tollbarref02_Fold.f k a0).bind fun t229 => ((tollbarref02_Fold.f k a1).bind fun t230 => (some (t228 == (t229.toList == t230.toList)))))) else (some false)) = some r := H
        have A13 := Aside0.mk A130
        clear A130
        by_cases c14 : t227 = true
        · subst c14
          have H1 : ((sign_Same.f a0 a1).bind fun t228 => ((tollbarref02_Fold.f k a0).bind fun t229 => ((tollbarref02_Fold.f k a1).bind fun t230 => (some (t228 == (t229.toList == t230.toList)))))) = some r := by rw [if_pos rfl] at H; exact H
          clear H
          have H := H1
          clear H1
          replace H := Option.bind_eq_some_iff.mp H
          obtain ⟨t228, A150, H⟩ := H
          replace H : ((tollbarref02_Fold.f k a0).bind fun t229 => ((tollbarref02_Fold.f k a1).bind fun t230 => (some (t228 == (t229.toList == t230.toList))))) = some r := H
          have A15 := Aside0.mk A150
          clear A150
          replace H := Option.bind_eq_some_iff.mp H
          obtain ⟨t229, A160, H⟩ := H
          replace H : ((tollbarref02_Fold.f k a1).bind fun t230 => (some (t228 == (t229.toList == t230.toList)))) = some r := H
          have A16 := Aside0.mk A160
          clear A160
          replace H := Option.bind_eq_some_iff.mp H
          obtain ⟨t230, A170, H⟩ := H
          replace H : (some (t228 == (t229.toList == t230.toList))) = some r := H
          have A17 := Aside0.mk A170
          clear A170
          obtain rfl := Option.some.inj H
          go_enter Tryd.func5, Tryd.ntmps5
          go_wp2_with (first | ((with_reducible refine gate_callee (f := 18) rfl ?_); refine goesL_ (some 5) rfl rfl Tryd.func18 (by kernel_rfl) rfl #[] rfl (by (try simp only [List.map_toArray, List.map_cons, List.map_nil]); first | done | rfl | (simp only [List.length_drop, List.length_take]; rfl)) ?_; (with_reducible refine (tollbarlaw02_texts.calls k  true _ A3.out).mono ?_); rintro e w18 ⟨rfl, hb⟩; (try clear A3); refine ⟨_, rfl, ?_⟩; have n0_ := Aside0.mk (below_step (by repeat (first | (with_reducible first | exact HB.out | apply below_alloc | apply pw_below_drewN | apply below_drew1) | exact HB.out)) hb); clear HB; have HB := n0_; clear n0_; (try clear hb); (try clear hb2); (try clear hk); (try clear hi)) | ((with_reducible refine gate_callee (f := 19) rfl ?_); refine goesL_ (some 8) rfl rfl Tryd.func19 (by kernel_rfl) rfl #[.string a0] rfl (by (try simp only [List.map_toArray, List.map_cons, List.map_nil]); first | done | rfl | (simp only [List.length_drop, List.length_take]; rfl)) ?_; (with_reducible refine (sign_Trim.calls a0 t217 _ A5.out).mono ?_); rintro e w19 ⟨rfl, hb⟩; (try clear A5); refine ⟨_, rfl, ?_⟩; have n0_ := Aside0.mk (below_step (by repeat (first | (with_reducible first | exact HB.out | apply below_alloc | apply pw_below_drewN | apply below_drew1) | exact HB.out)) hb); clear HB; have HB := n0_; clear n0_; (try clear hb); (try clear hb2); (try clear hk); (try clear hi)) | ((with_reducible refine gate_callee (f := 20) rfl ?_); refine goesL_ (some 10) rfl rfl Tryd.func20 (by kernel_rfl) rfl #[.string a0] rfl (by (try simp only [List.map_toArray, List.map_cons, List.map_nil]); first | done | rfl | (simp only [List.length_drop, List.length_take]; rfl)) ?_; (with_reducible refine (tollbarref02_Trim.calls k a0 t218 _ A6.out).mono ?_); rintro e w' ⟨rfl, ⟨nd, rfl⟩⟩; (try clear A6); refine ⟨_, rfl, ?_⟩) | (go_at_call 21; (with_reducible refine (sign_Fold.calls a0 t219 _ A8.out).mono ?_); rintro e w20 ⟨rfl, hb⟩; (try clear A8); have n0_ := Aside0.mk (below_step (by repeat (first | (with_reducible first | exact HB.out | apply below_alloc | apply pw_below_drewN | apply below_drew1) | exact HB.out)) hb); clear HB; have HB := n0_; clear n0_; (try clear hb); (try clear hb2); (try clear hk); (try clear hi)) | (go_at_call 22; (with_reducible refine (tollbarref02_Fold.calls k a0 t220 _ A9.out).mono ?_); rintro e w21 ⟨rfl, hb⟩; (try clear A9); have n0_ := Aside0.mk (below_step (by repeat (first | (with_reducible first | exact HB.out | apply below_alloc | apply pw_below_drewN | apply below_drew1) | exact HB.out)) hb); clear HB; have HB := n0_; clear n0_; (try clear hb); (try clear hb2); (try clear hk); (try clear hi)) | (go_at_call 24; (with_reducible refine (sign_Split.calls k a0 t221 _ A11.out).mono ?_); rintro e w22 ⟨v222, rfl, ho0, hb⟩; (try clear A11); have n0_ := Aside0.mk (Kd.R_lower ho0 (below_size (by repeat (first | (with_reducible first | exact HB.out | apply below_alloc | apply pw_below_drewN | apply below_drew1) | exact HB.out)))); have n1_ := Aside0.mk (below_step (by repeat (first | (with_reducible first | exact HB.out | apply below_alloc | apply pw_below_drewN | apply below_drew1) | exact HB.out)) hb); clear HB; have HO223 := n0_; have HB := n1_; clear n0_ n1_; (try clear hb); (try clear hb2); (try clear hk); (try clear hi); (try clear ho0)) | (go_at_call 25; (with_reducible refine (tollbarref02_Split.calls k a0 t224 _ A12.out).mono ?_); rintro e w23 ⟨v225, rfl, ho0, hb⟩; (try clear A12); have n0_ := Aside0.mk (Kd.R_elder' (by (with_reducible repeat (first | apply Kd.R_alloc | apply Kd.R_drewN | apply Kd.R_drew)); exact HO223.out) (Kd.R_base ho0) hb); have n1_ := Aside0.mk (Kd.R_lower (Kd.R_new' ho0 (Kd.R_lt (by (with_reducible repeat (first | apply Kd.R_alloc | apply Kd.R_drewN | apply Kd.R_drew)); exact HO223.out))) (below_size (by repeat (first | (with_reducible first | exact HB.out | apply below_alloc | apply pw_below_drewN | apply below_drew1) | exact HB.out)))); have n2_ := Aside0.mk (below_step (by repeat (first | (with_reducible first | exact HB.out | apply below_alloc | apply pw_below_drewN | apply below_drew1) | exact HB.out)) hb); clear HO223; clear HB; have HO223 := n0_; have HO226 := n1_; have HB := n2_; clear n0_ n1_ n2_; (try clear hb); (try clear hb2); (try clear hk); (try clear hi); (try clear ho0); obtain ⟨Ao24, co24, eo24⟩ := Kd.R_slice HO223.out; subst eo24; obtain ⟨Ao25, co25, eo25⟩ := Kd.R_slice HO226.out; subst eo25) | (go_at_call 23; (with_reducible refine (tollbarref01_SameTexts.calls k _ _ t221 _ _ t224 true _ ?side1 ?side2 ?side3 ?side4 A13.out).mono ?_); (case side1 => repeat (first | exact (Kd.R_reads' HO223.out).2.2 | (with_reducible refine Kd.C_alloc ?_ _) | (with_reducible refine Kd.C_drewN ?_ _) | (with_reducible refine Kd.C_drew ?_))); (case side2 => exact (Kd.R_reads' HO223.out).2.1); (case side3 => repeat (first | exact (Kd.R_reads' HO226.out).2.2 | (with_reducible refine Kd.C_alloc ?_ _) | (with_reducible refine Kd.C_drewN ?_ _) | (with_reducible refine Kd.C_drew ?_))); (case side4 => exact (Kd.R_reads' HO226.out).2.1); rintro e w' ⟨rfl, ⟨nd, rfl⟩⟩; (try clear A13)) | (go_at_call 26; (with_reducible refine (sign_Same.calls a0 a1 t228 _ A15.out).mono ?_); rintro e w26 ⟨rfl, hb⟩; (try clear A15); have n0_ := Aside0.mk (Kd.R_below (by (with_reducible repeat (first | apply Kd.R_alloc | apply Kd.R_drewN | apply Kd.R_drew)); exact HO223.out) hb); have n1_ := Aside0.mk (Kd.R_below (by (with_reducible repeat (first | apply Kd.R_alloc | apply Kd.R_drewN | apply Kd.R_drew)); exact HO226.out) hb); have n2_ := Aside0.mk (below_step (by repeat (first | (with_reducible first | exact HB.out | apply below_alloc | apply pw_below_drewN | apply below_drew1) | exact HB.out)) hb); clear HO223; clear HO226; clear HB; have HO223 := n0_; have HO226 := n1_; have HB := n2_; clear n0_ n1_ n2_; (try clear hb); (try clear hb2); (try clear hk); (try clear hi)) | (go_at_call 22; (with_reducible refine (tollbarref02_Fold.calls k a0 t229 _ A16.out).mono ?_); rintro e w27 ⟨rfl, hb⟩; (try clear A16); have n0_ := Aside0.mk (Kd.R_below (by (with_reducible repeat (first | apply Kd.R_alloc | apply Kd.R_drewN | apply Kd.R_drew)); exact HO223.out) hb); have n1_ := Aside0.mk (Kd.R_below (by (with_reducible repeat (first | apply Kd.R_alloc | apply Kd.R_drewN | apply Kd.R_drew)); exact HO226.out) hb); have n2_ := Aside0.mk (below_step (by repeat (first | (with_reducible first | exact HB.out | apply below_alloc | apply pw_below_drewN | apply below_drew1) | exact HB.out)) hb); clear HO223; clear HO226; clear HB; have HO223 := n0_; have HO226 := n1_; have HB := n2_; clear n0_ n1_ n2_; (try clear hb); (try clear hb2); (try clear hk); (try clear hi)) | (go_at_call 22; (with_reducible refine (tollbarref02_Fold.calls k a1 t230 _ A17.out).mono ?_); rintro e w28 ⟨rfl, hb⟩; (try clear A17); have n0_ := Aside0.mk (Kd.R_below (by (with_reducible repeat (first | apply Kd.R_alloc | apply Kd.R_drewN | apply Kd.R_drew)); exact HO223.out) hb); have n1_ := Aside0.mk (Kd.R_below (by (with_reducible repeat (first | apply Kd.R_alloc | apply Kd.R_drewN | apply Kd.R_drew)); exact HO226.out) hb); have n2_ := Aside0.mk (below_step (by repeat (first | (with_reducible first | exact HB.out | apply below_alloc | apply pw_below_drewN | apply below_drew1) | exact HB.out)) hb); clear HO223; clear HO226; clear HB; have HO223 := n0_; have HO226 := n1_; have HB := n2_; clear n0_ n1_ n2_; (try clear hb); (try clear hb2); (try clear hk); (try clear hi)))
          go_ret
          exact ⟨by first | rfl | (simp [errW_none, errW_some] <;> rfl) | (simp [*, errW_none, errW_some] <;> rfl), by repeat (first | (with_reducible first | exact HB.out | apply below_alloc | apply pw_below_drewN | apply below_drew1) | exact HB.out)⟩
        · replace c14 := Bool.eq_false_iff.mpr c14
          subst c14
          have H1 : (some false) = some r := by rw [if_neg (show ¬ (false = true) by decide)] at H; exact H
          clear H
          have H := H1
          clear H1
          obtain rfl := Option.some.inj H
          go_enter Tryd.func5, Tryd.ntmps5
          go_wp2_with (first | ((with_reducible refine gate_callee (f := 18) rfl ?_); refine goesL_ (some 5) rfl rfl Tryd.func18 (by kernel_rfl) rfl #[] rfl (by (try simp only [List.map_toArray, List.map_cons, List.map_nil]); first | done | rfl | (simp only [List.length_drop, List.length_take]; rfl)) ?_; (with_reducible refine (tollbarlaw02_texts.calls k  true _ A3.out).mono ?_); rintro e w29 ⟨rfl, hb⟩; (try clear A3); refine ⟨_, rfl, ?_⟩; have n0_ := Aside0.mk (below_step (by repeat (first | (with_reducible first | exact HB.out | apply below_alloc | apply pw_below_drewN | apply below_drew1) | exact HB.out)) hb); clear HB; have HB := n0_; clear n0_; (try clear hb); (try clear hb2); (try clear hk); (try clear hi)) | ((with_reducible refine gate_callee (f := 19) rfl ?_); refine goesL_ (some 8) rfl rfl Tryd.func19 (by kernel_rfl) rfl #[.string a0] rfl (by (try simp only [List.map_toArray, List.map_cons, List.map_nil]); first | done | rfl | (simp only [List.length_drop, List.length_take]; rfl)) ?_; (with_reducible refine (sign_Trim.calls a0 t217 _ A5.out).mono ?_); rintro e w30 ⟨rfl, hb⟩; (try clear A5); refine ⟨_, rfl, ?_⟩; have n0_ := Aside0.mk (below_step (by repeat (first | (with_reducible first | exact HB.out | apply below_alloc | apply pw_below_drewN | apply below_drew1) | exact HB.out)) hb); clear HB; have HB := n0_; clear n0_; (try clear hb); (try clear hb2); (try clear hk); (try clear hi)) | ((with_reducible refine gate_callee (f := 20) rfl ?_); refine goesL_ (some 10) rfl rfl Tryd.func20 (by kernel_rfl) rfl #[.string a0] rfl (by (try simp only [List.map_toArray, List.map_cons, List.map_nil]); first | done | rfl | (simp only [List.length_drop, List.length_take]; rfl)) ?_; (with_reducible refine (tollbarref02_Trim.calls k a0 t218 _ A6.out).mono ?_); rintro e w' ⟨rfl, ⟨nd, rfl⟩⟩; (try clear A6); refine ⟨_, rfl, ?_⟩) | (go_at_call 21; (with_reducible refine (sign_Fold.calls a0 t219 _ A8.out).mono ?_); rintro e w31 ⟨rfl, hb⟩; (try clear A8); have n0_ := Aside0.mk (below_step (by repeat (first | (with_reducible first | exact HB.out | apply below_alloc | apply pw_below_drewN | apply below_drew1) | exact HB.out)) hb); clear HB; have HB := n0_; clear n0_; (try clear hb); (try clear hb2); (try clear hk); (try clear hi)) | (go_at_call 22; (with_reducible refine (tollbarref02_Fold.calls k a0 t220 _ A9.out).mono ?_); rintro e w32 ⟨rfl, hb⟩; (try clear A9); have n0_ := Aside0.mk (below_step (by repeat (first | (with_reducible first | exact HB.out | apply below_alloc | apply pw_below_drewN | apply below_drew1) | exact HB.out)) hb); clear HB; have HB := n0_; clear n0_; (try clear hb); (try clear hb2); (try clear hk); (try clear hi)) | (go_at_call 24; (with_reducible refine (sign_Split.calls k a0 t221 _ A11.out).mono ?_); rintro e w33 ⟨v222, rfl, ho0, hb⟩; (try clear A11); have n0_ := Aside0.mk (Kd.R_lower ho0 (below_size (by repeat (first | (with_reducible first | exact HB.out | apply below_alloc | apply pw_below_drewN | apply below_drew1) | exact HB.out)))); have n1_ := Aside0.mk (below_step (by repeat (first | (with_reducible first | exact HB.out | apply below_alloc | apply pw_below_drewN | apply below_drew1) | exact HB.out)) hb); clear HB; have HO223 := n0_; have HB := n1_; clear n0_ n1_; (try clear hb); (try clear hb2); (try clear hk); (try clear hi); (try clear ho0)) | (go_at_call 25; (with_reducible refine (tollbarref02_Split.calls k a0 t224 _ A12.out).mono ?_); rintro e w34 ⟨v225, rfl, ho0, hb⟩; (try clear A12); have n0_ := Aside0.mk (Kd.R_elder' (by (with_reducible repeat (first | apply Kd.R_alloc | apply Kd.R_drewN | apply Kd.R_drew)); exact HO223.out) (Kd.R_base ho0) hb); have n1_ := Aside0.mk (Kd.R_lower (Kd.R_new' ho0 (Kd.R_lt (by (with_reducible repeat (first | apply Kd.R_alloc | apply Kd.R_drewN | apply Kd.R_drew)); exact HO223.out))) (below_size (by repeat (first | (with_reducible first | exact HB.out | apply below_alloc | apply pw_below_drewN | apply below_drew1) | exact HB.out)))); have n2_ := Aside0.mk (below_step (by repeat (first | (with_reducible first | exact HB.out | apply below_alloc | apply pw_below_drewN | apply below_drew1) | exact HB.out)) hb); clear HO223; clear HB; have HO223 := n0_; have HO226 := n1_; have HB := n2_; clear n0_ n1_ n2_; (try clear hb); (try clear hb2); (try clear hk); (try clear hi); (try clear ho0); obtain ⟨Ao35, co35, eo35⟩ := Kd.R_slice HO223.out; subst eo35; obtain ⟨Ao36, co36, eo36⟩ := Kd.R_slice HO226.out; subst eo36) | (go_at_call 23; (with_reducible refine (tollbarref01_SameTexts.calls k _ _ t221 _ _ t224 false _ ?side1 ?side2 ?side3 ?side4 A13.out).mono ?_); (case side1 => repeat (first | exact (Kd.R_reads' HO223.out).2.2 | (with_reducible refine Kd.C_alloc ?_ _) | (with_reducible refine Kd.C_drewN ?_ _) | (with_reducible refine Kd.C_drew ?_))); (case side2 => exact (Kd.R_reads' HO223.out).2.1); (case side3 => repeat (first | exact (Kd.R_reads' HO226.out).2.2 | (with_reducible refine Kd.C_alloc ?_ _) | (with_reducible refine Kd.C_drewN ?_ _) | (with_reducible refine Kd.C_drew ?_))); (case side4 => exact (Kd.R_reads' HO226.out).2.1); rintro e w' ⟨rfl, ⟨nd, rfl⟩⟩; (try clear A13)))
          go_ret
          exact ⟨by first | rfl | (simp [errW_none, errW_some] <;> rfl) | (simp [*, errW_none, errW_some] <;> rfl), by repeat (first | (with_reducible first | exact HB.out | apply below_alloc | apply pw_below_drewN | apply below_drew1) | exact HB.out)⟩
      · rw [if_neg c10] at H
        have c10b0 : (t219.toList == t220.toList) = false := beq_eq_false_iff_ne.mpr c10
        have c10b1 : (t219.toList != t220.toList) = true := bne_iff_ne.mpr c10
        obtain rfl := Option.some.inj H
        go_enter Tryd.func5, Tryd.ntmps5
        go_wp2_with (first | ((with_reducible refine gate_callee (f := 18) rfl ?_); refine goesL_ (some 5) rfl rfl Tryd.func18 (by kernel_rfl) rfl #[] rfl (by (try simp only [List.map_toArray, List.map_cons, List.map_nil]); first | done | rfl | (simp only [List.length_drop, List.length_take]; rfl)) ?_; (with_reducible refine (tollbarlaw02_texts.calls k  true _ A3.out).mono ?_); rintro e w37 ⟨rfl, hb⟩; (try clear A3); refine ⟨_, rfl, ?_⟩; have n0_ := Aside0.mk (below_step (by repeat (first | (with_reducible first | exact HB.out | apply below_alloc | apply pw_below_drewN | apply below_drew1) | exact HB.out)) hb); clear HB; have HB := n0_; clear n0_; (try clear hb); (try clear hb2); (try clear hk); (try clear hi)) | ((with_reducible refine gate_callee (f := 19) rfl ?_); refine goesL_ (some 8) rfl rfl Tryd.func19 (by kernel_rfl) rfl #[.string a0] rfl (by (try simp only [List.map_toArray, List.map_cons, List.map_nil]); first | done | rfl | (simp only [List.length_drop, List.length_take]; rfl)) ?_; (with_reducible refine (sign_Trim.calls a0 t217 _ A5.out).mono ?_); rintro e w38 ⟨rfl, hb⟩; (try clear A5); refine ⟨_, rfl, ?_⟩; have n0_ := Aside0.mk (below_step (by repeat (first | (with_reducible first | exact HB.out | apply below_alloc | apply pw_below_drewN | apply below_drew1) | exact HB.out)) hb); clear HB; have HB := n0_; clear n0_; (try clear hb); (try clear hb2); (try clear hk); (try clear hi)) | ((with_reducible refine gate_callee (f := 20) rfl ?_); refine goesL_ (some 10) rfl rfl Tryd.func20 (by kernel_rfl) rfl #[.string a0] rfl (by (try simp only [List.map_toArray, List.map_cons, List.map_nil]); first | done | rfl | (simp only [List.length_drop, List.length_take]; rfl)) ?_; (with_reducible refine (tollbarref02_Trim.calls k a0 t218 _ A6.out).mono ?_); rintro e w' ⟨rfl, ⟨nd, rfl⟩⟩; (try clear A6); refine ⟨_, rfl, ?_⟩) | (go_at_call 21; (with_reducible refine (sign_Fold.calls a0 t219 _ A8.out).mono ?_); rintro e w39 ⟨rfl, hb⟩; (try clear A8); have n0_ := Aside0.mk (below_step (by repeat (first | (with_reducible first | exact HB.out | apply below_alloc | apply pw_below_drewN | apply below_drew1) | exact HB.out)) hb); clear HB; have HB := n0_; clear n0_; (try clear hb); (try clear hb2); (try clear hk); (try clear hi)) | (go_at_call 22; (with_reducible refine (tollbarref02_Fold.calls k a0 t220 _ A9.out).mono ?_); rintro e w40 ⟨rfl, hb⟩; (try clear A9); have n0_ := Aside0.mk (below_step (by repeat (first | (with_reducible first | exact HB.out | apply below_alloc | apply pw_below_drewN | apply below_drew1) | exact HB.out)) hb); clear HB; have HB := n0_; clear n0_; (try clear hb); (try clear hb2); (try clear hk); (try clear hi)))
        go_ret
        exact ⟨by first | rfl | (simp [errW_none, errW_some] <;> rfl) | (simp [*, errW_none, errW_some] <;> rfl), by repeat (first | (with_reducible first | exact HB.out | apply below_alloc | apply pw_below_drewN | apply below_drew1) | exact HB.out)⟩
    · rw [if_neg c7] at H
      have c7b0 : (t217.toList == t218.toList) = false := beq_eq_false_iff_ne.mpr c7
      have c7b1 : (t217.toList != t218.toList) = true := bne_iff_ne.mpr c7
      obtain rfl := Option.some.inj H
      go_enter Tryd.func5, Tryd.ntmps5
      go_wp2_with (first | ((with_reducible refine gate_callee (f := 18) rfl ?_); refine goesL_ (some 5) rfl rfl Tryd.func18 (by kernel_rfl) rfl #[] rfl (by (try simp only [List.map_toArray, List.map_cons, List.map_nil]); first | done | rfl | (simp only [List.length_drop, List.length_take]; rfl)) ?_; (with_reducible refine (tollbarlaw02_texts.calls k  true _ A3.out).mono ?_); rintro e w41 ⟨rfl, hb⟩; (try clear A3); refine ⟨_, rfl, ?_⟩; have n0_ := Aside0.mk (below_step (by repeat (first | (with_reducible first | exact HB.out | apply below_alloc | apply pw_below_drewN | apply below_drew1) | exact HB.out)) hb); clear HB; have HB := n0_; clear n0_; (try clear hb); (try clear hb2); (try clear hk); (try clear hi)) | ((with_reducible refine gate_callee (f := 19) rfl ?_); refine goesL_ (some 8) rfl rfl Tryd.func19 (by kernel_rfl) rfl #[.string a0] rfl (by (try simp only [List.map_toArray, List.map_cons, List.map_nil]); first | done | rfl | (simp only [List.length_drop, List.length_take]; rfl)) ?_; (with_reducible refine (sign_Trim.calls a0 t217 _ A5.out).mono ?_); rintro e w42 ⟨rfl, hb⟩; (try clear A5); refine ⟨_, rfl, ?_⟩; have n0_ := Aside0.mk (below_step (by repeat (first | (with_reducible first | exact HB.out | apply below_alloc | apply pw_below_drewN | apply below_drew1) | exact HB.out)) hb); clear HB; have HB := n0_; clear n0_; (try clear hb); (try clear hb2); (try clear hk); (try clear hi)) | ((with_reducible refine gate_callee (f := 20) rfl ?_); refine goesL_ (some 10) rfl rfl Tryd.func20 (by kernel_rfl) rfl #[.string a0] rfl (by (try simp only [List.map_toArray, List.map_cons, List.map_nil]); first | done | rfl | (simp only [List.length_drop, List.length_take]; rfl)) ?_; (with_reducible refine (tollbarref02_Trim.calls k a0 t218 _ A6.out).mono ?_); rintro e w' ⟨rfl, ⟨nd, rfl⟩⟩; (try clear A6); refine ⟨_, rfl, ?_⟩))
      go_ret
      exact ⟨by first | rfl | (simp [errW_none, errW_some] <;> rfl) | (simp [*, errW_none, errW_some] <;> rfl), by repeat (first | (with_reducible first | exact HB.out | apply below_alloc | apply pw_below_drewN | apply below_drew1) | exact HB.out)⟩
  · replace c4 := Bool.eq_false_iff.mpr c4
    subst c4
    have H1 : (some false) = some r := by rw [if_neg (show ¬ (false = true) by decide)] at H; exact H
    clear H
    have H := H1
    clear H1
    obtain rfl := Option.some.inj H
    go_enter Tryd.func5, Tryd.ntmps5
    go_wp2_with (first | ((with_reducible refine gate_callee (f := 18) rfl ?_); refine goesL_ (some 5) rfl rfl Tryd.func18 (by kernel_rfl) rfl #[] rfl (by (try simp only [List.map_toArray, List.map_cons, List.map_nil]); first | done | rfl | (simp only [List.length_drop, List.length_take]; rfl)) ?_; (with_reducible refine (tollbarlaw02_texts.calls k  false _ A3.out).mono ?_); rintro e w43 ⟨rfl, hb⟩; (try clear A3); refine ⟨_, rfl, ?_⟩; have n0_ := Aside0.mk (below_step (by repeat (first | (with_reducible first | exact HB.out | apply below_alloc | apply pw_below_drewN | apply below_drew1) | exact HB.out)) hb); clear HB; have HB := n0_; clear n0_; (try clear hb); (try clear hb2); (try clear hk); (try clear hi)))
    go_ret
    exact ⟨by first | rfl | (simp [errW_none, errW_some] <;> rfl) | (simp [*, errW_none, errW_some] <;> rfl), by repeat (first | (with_reducible first | exact HB.out | apply below_alloc | apply pw_below_drewN | apply below_drew1) | exact HB.out)⟩

/-- THE ONE PURE STATEMENT of tollbarlaw02_SignTexts: yours. -/
def tollbarlaw02_SignTexts.Pure : Prop := ∀ (a0 : ByteArray) (a1 : ByteArray), a0.size ≤ 140737488351232 → a1.size ≤ 140737488351232 → ∃ k, tollbarlaw02_SignTexts.f k a0 a1 = some true
theorem tollbarlaw02_SignTexts.walk (P : tollbarlaw02_SignTexts.Pure) (a0 : ByteArray) (a1 : ByteArray) (w : World) (w0 : a0.size ≤ 140737488351232) (w1 : a1.size ≤ 140737488351232) :
    Calls Tryd.prog 5 #[.string a0, .string a1] w fun e w' => e = .returned (.bool true) ∧ Below w.heap.size w w' := by
  obtain ⟨k, h⟩ := P a0 a1 w0 w1
  refine (tollbarlaw02_SignTexts.calls k a0 a1 true w h).mono ?_
  rintro e w' ⟨rfl, hd⟩
  exact ⟨rfl, hd⟩

end Go.Proofs.YthkkkfeiklfjoaaDoor.P
