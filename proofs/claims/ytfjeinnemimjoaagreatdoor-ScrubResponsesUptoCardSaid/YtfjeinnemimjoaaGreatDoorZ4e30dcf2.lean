/- Each function below answers as its Lean twin says; plain lemmas; a row where its theorem stands. No further condition. (Laid by this repo's pack.py out of its texts and of the print's words.) -/
import Derived.Test.YtfjeinnemimjoaaGreatDoorZ82d83582
import Derived.Shelf.Abstract
import Derived.Lib.SlBytesConst
import Derived.Lib.Hide
import Derived.IntWalk
import Derived.LoopTactic
import Derived.WalkSpells
namespace Go.Proofs.YtfjeinnemimjoaaGreatDoor.P
open Go.RowKit Go.Proofs.YtfjeinnemimjoaaGreatDoorW.PrintWords Go.Proofs.YtfjeinnemimjoaaGreatDoorW.PrintLast Go.Proofs.YtfjeinnemimjoaaGreatDoorW.PrintMore
attribute [local go_sem] max2_int min2_int max_two min_two max_three min_three max_four min_four
set_option linter.unusedVariables false
set_option linter.unusedSimpArgs false
def conf_Kept.f (a0:ByteArray):Option (Bool):=(sign_Fold.f a0).bind fun t211=>(if t211.toList=([104,111,115,116]:List UInt8) then (some true) else (if t211.toList=([99,111,110,116,101,110,116,45,108,101,110,103,116,104]:List UInt8) then (some true) else (if t211.toList=([116,114,97,110,115,102,101,114,45,101,110,99,111,100,105,110,103]:List UInt8) then (some true) else (if t211.toList=([99,111,110,110,101,99,116,105,111,110]:List UInt8) then (some true) else (if t211.toList=([107,101,101,112,45,97,108,105,118,101]:List UInt8) then (some true) else (if t211.toList=([112,114,111,120,121,45,99,111,110,110,101,99,116,105,111,110]:List UInt8) then (some true) else (if t211.toList=([116,101]:List UInt8) then (some true) else (if t211.toList=([116,114,97,105,108,101,114]:List UInt8) then (some true) else (if t211.toList=([117,112,103,114,97,100,101]:List UInt8) then (some true) else (if t211.toList=([101,120,112,101,99,116]:List UInt8) then (some true) else (if t211.toList=([118,105,97]:List UInt8) then (some true) else (some false))))))))))))
set_option maxHeartbeats 8000000 in
set_option maxRecDepth 100000 in
theorem conf_Kept.calls (a0:ByteArray) (r:Bool) (w:World) (h:conf_Kept.f a0=some r) :
  Calls Tryz.prog 82 #[.string a0] w fun e w' => e = .returned (.bool r)∧Below w.heap.size w w' := by
 have HB:=Aside0.mk (Below.refl w.heap.size w)
 have H:((sign_Fold.f a0).bind fun t26=>(if t26.toList=([104,111,115,116]:List UInt8) then (some true) else (if t26.toList=([99,111,110,116,101,110,116,45,108,101,110,103,116,104]:List UInt8) then (some true) else (if t26.toList=([116,114,97,110,115,102,101,114,45,101,110,99,111,100,105,110,103]:List UInt8) then (some true) else (if t26.toList=([99,111,110,110,101,99,116,105,111,110]:List UInt8) then (some true) else (if t26.toList=([107,101,101,112,45,97,108,105,118,101]:List UInt8) then (some true) else (if t26.toList=([112,114,111,120,121,45,99,111,110,110,101,99,116,105,111,110]:List UInt8) then (some true) else (if t26.toList=([116,101]:List UInt8) then (some true) else (if t26.toList=([116,114,97,105,108,101,114]:List UInt8) then (some true) else (if t26.toList=([117,112,103,114,97,100,101]:List UInt8) then (some true) else (if t26.toList=([101,120,112,101,99,116]:List UInt8) then (some true) else (if t26.toList=([118,105,97]:List UInt8) then (some true) else (some false)))))))))))))=some r:=h
 clear h
 replace H:=Option.bind_eq_some_iff.mp H
 obtain ⟨t26,A20,H⟩:=H
 replace H:(if t26.toList=([104,111,115,116]:List UInt8) then (some true) else (if t26.toList=([99,111,110,116,101,110,116,45,108,101,110,103,116,104]:List UInt8) then (some true) else (if t26.toList=([116,114,97,110,115,102,101,114,45,101,110,99,111,100,105,110,103]:List UInt8) then (some true) else (if t26.toList=([99,111,110,110,101,99,116,105,111,110]:List UInt8) then (some true) else (if t26.toList=([107,101,101,112,45,97,108,105,118,101]:List UInt8) then (some true) else (if t26.toList=([112,114,111,120,121,45,99,111,110,110,101,99,116,105,111,110]:List UInt8) then (some true) else (if t26.toList=([116,101]:List UInt8) then (some true) else (if t26.toList=([116,114,97,105,108,101,114]:List UInt8) then (some true) else (if t26.toList=([117,112,103,114,97,100,101]:List UInt8) then (some true) else (if t26.toList=([101,120,112,101,99,116]:List UInt8) then (some true) else (if t26.toList=([118,105,97]:List UInt8) then (some true) else (some false))))))))))))=some r:=H
 have A2:=Aside0.mk A20
 clear A20
 by_cases c3:t26.toList=([104,111,115,116]:List UInt8)
 ·rw [if_pos c3] at H
  have c3b0:(t26.toList == ([104,111,115,116]:List UInt8))=true:=beq_iff_eq.mpr c3
  have c3b1:(t26.toList != ([104,111,115,116]:List UInt8))=false:=bne_eq_false_iff_eq.mpr c3
  clear c3
  obtain rfl:=Option.some.inj H
  go_enter Tryz.func82,Tryz.ntmps82
  go_wp2_with (first|((with_reducible refine gate_callee (f:=71) rfl ?_);refine goesL_ (some 4) rfl rfl Tryz.func71 (by kernel_rfl) rfl #[.string a0] rfl (by (try simp only [List.map_toArray,List.map_cons,List.map_nil]);first|done|rfl|(simp only [List.length_drop,List.length_take];rfl)) ?_;(with_reducible refine (sign_Fold.calls a0 t26 _ A2.out).mono ?_);rintro e w4 ⟨rfl,hb⟩;(try clear A2);refine ⟨_,rfl,?_⟩;have n0_:=Aside0.mk (below_step (by repeat (first|(with_reducible first|exact HB.out|apply below_alloc|apply pw_below_drewN|apply below_drew1)|exact HB.out)) hb);clear HB;have HB:=n0_;clear n0_;(try clear hb);(try clear hb2);(try clear hk);(try clear hi)))
  go_ret
  exact ⟨by first|rfl|(simp [errW_none,errW_some] <;> rfl)|(simp [*,errW_none,errW_some] <;> rfl),by repeat (first|(with_reducible first|exact HB.out|apply below_alloc|apply pw_below_drewN|apply below_drew1)|exact HB.out)⟩
 ·rw [if_neg c3] at H
  have c3b0:(t26.toList == ([104,111,115,116]:List UInt8))=false:=beq_eq_false_iff_ne.mpr c3
  have c3b1:(t26.toList != ([104,111,115,116]:List UInt8))=true:=bne_iff_ne.mpr c3
  by_cases c5:t26.toList=([99,111,110,116,101,110,116,45,108,101,110,103,116,104]:List UInt8)
  ·rw [if_pos c5] at H
   have c5b0:(t26.toList == ([99,111,110,116,101,110,116,45,108,101,110,103,116,104]:List UInt8))=true:=beq_iff_eq.mpr c5
   have c5b1:(t26.toList != ([99,111,110,116,101,110,116,45,108,101,110,103,116,104]:List UInt8))=false:=bne_eq_false_iff_eq.mpr c5
   clear c5
   obtain rfl:=Option.some.inj H
   go_enter Tryz.func82,Tryz.ntmps82
   go_wp2_with (first|((with_reducible refine gate_callee (f:=71) rfl ?_);refine goesL_ (some 4) rfl rfl Tryz.func71 (by kernel_rfl) rfl #[.string a0] rfl (by (try simp only [List.map_toArray,List.map_cons,List.map_nil]);first|done|rfl|(simp only [List.length_drop,List.length_take];rfl)) ?_;(with_reducible refine (sign_Fold.calls a0 t26 _ A2.out).mono ?_);rintro e w6 ⟨rfl,hb⟩;(try clear A2);refine ⟨_,rfl,?_⟩;have n0_:=Aside0.mk (below_step (by repeat (first|(with_reducible first|exact HB.out|apply below_alloc|apply pw_below_drewN|apply below_drew1)|exact HB.out)) hb);clear HB;have HB:=n0_;clear n0_;(try clear hb);(try clear hb2);(try clear hk);(try clear hi)))
   go_ret
   exact ⟨by first|rfl|(simp [errW_none,errW_some] <;> rfl)|(simp [*,errW_none,errW_some] <;> rfl),by repeat (first|(with_reducible first|exact HB.out|apply below_alloc|apply pw_below_drewN|apply below_drew1)|exact HB.out)⟩
  ·rw [if_neg c5] at H
   have c5b0:(t26.toList == ([99,111,110,116,101,110,116,45,108,101,110,103,116,104]:List UInt8))=false:=beq_eq_false_iff_ne.mpr c5
   have c5b1:(t26.toList != ([99,111,110,116,101,110,116,45,108,101,110,103,116,104]:List UInt8))=true:=bne_iff_ne.mpr c5
   by_cases c7:t26.toList=([116,114,97,110,115,102,101,114,45,101,110,99,111,100,105,110,103]:List UInt8)
   ·rw [if_pos c7] at H
    have c7b0:(t26.toList == ([116,114,97,110,115,102,101,114,45,101,110,99,111,100,105,110,103]:List UInt8))=true:=beq_iff_eq.mpr c7
    have c7b1:(t26.toList != ([116,114,97,110,115,102,101,114,45,101,110,99,111,100,105,110,103]:List UInt8))=false:=bne_eq_false_iff_eq.mpr c7
    clear c7
    obtain rfl:=Option.some.inj H
    go_enter Tryz.func82,Tryz.ntmps82
    go_wp2_with (first|((with_reducible refine gate_callee (f:=71) rfl ?_);refine goesL_ (some 4) rfl rfl Tryz.func71 (by kernel_rfl) rfl #[.string a0] rfl (by (try simp only [List.map_toArray,List.map_cons,List.map_nil]);first|done|rfl|(simp only [List.length_drop,List.length_take];rfl)) ?_;(with_reducible refine (sign_Fold.calls a0 t26 _ A2.out).mono ?_);rintro e w8 ⟨rfl,hb⟩;(try clear A2);refine ⟨_,rfl,?_⟩;have n0_:=Aside0.mk (below_step (by repeat (first|(with_reducible first|exact HB.out|apply below_alloc|apply pw_below_drewN|apply below_drew1)|exact HB.out)) hb);clear HB;have HB:=n0_;clear n0_;(try clear hb);(try clear hb2);(try clear hk);(try clear hi)))
    go_ret
    exact ⟨by first|rfl|(simp [errW_none,errW_some] <;> rfl)|(simp [*,errW_none,errW_some] <;> rfl),by repeat (first|(with_reducible first|exact HB.out|apply below_alloc|apply pw_below_drewN|apply below_drew1)|exact HB.out)⟩
   ·rw [if_neg c7] at H
    have c7b0:(t26.toList == ([116,114,97,110,115,102,101,114,45,101,110,99,111,100,105,110,103]:List UInt8))=false:=beq_eq_false_iff_ne.mpr c7
    have c7b1:(t26.toList != ([116,114,97,110,115,102,101,114,45,101,110,99,111,100,105,110,103]:List UInt8))=true:=bne_iff_ne.mpr c7
    by_cases c9:t26.toList=([99,111,110,110,101,99,116,105,111,110]:List UInt8)
    ·rw [if_pos c9] at H
     have c9b0:(t26.toList == ([99,111,110,110,101,99,116,105,111,110]:List UInt8))=true:=beq_iff_eq.mpr c9
     have c9b1:(t26.toList != ([99,111,110,110,101,99,116,105,111,110]:List UInt8))=false:=bne_eq_false_iff_eq.mpr c9
     clear c9
     obtain rfl:=Option.some.inj H
     go_enter Tryz.func82,Tryz.ntmps82
     go_wp2_with (first|((with_reducible refine gate_callee (f:=71) rfl ?_);refine goesL_ (some 4) rfl rfl Tryz.func71 (by kernel_rfl) rfl #[.string a0] rfl (by (try simp only [List.map_toArray,List.map_cons,List.map_nil]);first|done|rfl|(simp only [List.length_drop,List.length_take];rfl)) ?_;(with_reducible refine (sign_Fold.calls a0 t26 _ A2.out).mono ?_);rintro e w10 ⟨rfl,hb⟩;(try clear A2);refine ⟨_,rfl,?_⟩;have n0_:=Aside0.mk (below_step (by repeat (first|(with_reducible first|exact HB.out|apply below_alloc|apply pw_below_drewN|apply below_drew1)|exact HB.out)) hb);clear HB;have HB:=n0_;clear n0_;(try clear hb);(try clear hb2);(try clear hk);(try clear hi)))
     go_ret
     exact ⟨by first|rfl|(simp [errW_none,errW_some] <;> rfl)|(simp [*,errW_none,errW_some] <;> rfl),by repeat (first|(with_reducible first|exact HB.out|apply below_alloc|apply pw_below_drewN|apply below_drew1)|exact HB.out)⟩
    ·rw [if_neg c9] at H
     have c9b0:(t26.toList == ([99,111,110,110,101,99,116,105,111,110]:List UInt8))=false:=beq_eq_false_iff_ne.mpr c9
     have c9b1:(t26.toList != ([99,111,110,110,101,99,116,105,111,110]:List UInt8))=true:=bne_iff_ne.mpr c9
     by_cases c11:t26.toList=([107,101,101,112,45,97,108,105,118,101]:List UInt8)
     ·rw [if_pos c11] at H
      have c11b0:(t26.toList == ([107,101,101,112,45,97,108,105,118,101]:List UInt8))=true:=beq_iff_eq.mpr c11
      have c11b1:(t26.toList != ([107,101,101,112,45,97,108,105,118,101]:List UInt8))=false:=bne_eq_false_iff_eq.mpr c11
      clear c11
      obtain rfl:=Option.some.inj H
      go_enter Tryz.func82,Tryz.ntmps82
      go_wp2_with (first|((with_reducible refine gate_callee (f:=71) rfl ?_);refine goesL_ (some 4) rfl rfl Tryz.func71 (by kernel_rfl) rfl #[.string a0] rfl (by (try simp only [List.map_toArray,List.map_cons,List.map_nil]);first|done|rfl|(simp only [List.length_drop,List.length_take];rfl)) ?_;(with_reducible refine (sign_Fold.calls a0 t26 _ A2.out).mono ?_);rintro e w12 ⟨rfl,hb⟩;(try clear A2);refine ⟨_,rfl,?_⟩;have n0_:=Aside0.mk (below_step (by repeat (first|(with_reducible first|exact HB.out|apply below_alloc|apply pw_below_drewN|apply below_drew1)|exact HB.out)) hb);clear HB;have HB:=n0_;clear n0_;(try clear hb);(try clear hb2);(try clear hk);(try clear hi)))
      go_ret
      exact ⟨by first|rfl|(simp [errW_none,errW_some] <;> rfl)|(simp [*,errW_none,errW_some] <;> rfl),by repeat (first|(with_reducible first|exact HB.out|apply below_alloc|apply pw_below_drewN|apply below_drew1)|exact HB.out)⟩
     ·rw [if_neg c11] at H
      have c11b0:(t26.toList == ([107,101,101,112,45,97,108,105,118,101]:List UInt8))=false:=beq_eq_false_iff_ne.mpr c11
      have c11b1:(t26.toList != ([107,101,101,112,45,97,108,105,118,101]:List UInt8))=true:=bne_iff_ne.mpr c11
      by_cases c13:t26.toList=([112,114,111,120,121,45,99,111,110,110,101,99,116,105,111,110]:List UInt8)
      ·rw [if_pos c13] at H
       have c13b0:(t26.toList == ([112,114,111,120,121,45,99,111,110,110,101,99,116,105,111,110]:List UInt8))=true:=beq_iff_eq.mpr c13
       have c13b1:(t26.toList != ([112,114,111,120,121,45,99,111,110,110,101,99,116,105,111,110]:List UInt8))=false:=bne_eq_false_iff_eq.mpr c13
       clear c13
       obtain rfl:=Option.some.inj H
       go_enter Tryz.func82,Tryz.ntmps82
       go_wp2_with (first|((with_reducible refine gate_callee (f:=71) rfl ?_);refine goesL_ (some 4) rfl rfl Tryz.func71 (by kernel_rfl) rfl #[.string a0] rfl (by (try simp only [List.map_toArray,List.map_cons,List.map_nil]);first|done|rfl|(simp only [List.length_drop,List.length_take];rfl)) ?_;(with_reducible refine (sign_Fold.calls a0 t26 _ A2.out).mono ?_);rintro e w14 ⟨rfl,hb⟩;(try clear A2);refine ⟨_,rfl,?_⟩;have n0_:=Aside0.mk (below_step (by repeat (first|(with_reducible first|exact HB.out|apply below_alloc|apply pw_below_drewN|apply below_drew1)|exact HB.out)) hb);clear HB;have HB:=n0_;clear n0_;(try clear hb);(try clear hb2);(try clear hk);(try clear hi)))
       go_ret
       exact ⟨by first|rfl|(simp [errW_none,errW_some] <;> rfl)|(simp [*,errW_none,errW_some] <;> rfl),by repeat (first|(with_reducible first|exact HB.out|apply below_alloc|apply pw_below_drewN|apply below_drew1)|exact HB.out)⟩
      ·rw [if_neg c13] at H
       have c13b0:(t26.toList == ([112,114,111,120,121,45,99,111,110,110,101,99,116,105,111,110]:List UInt8))=false:=beq_eq_false_iff_ne.mpr c13
       have c13b1:(t26.toList != ([112,114,111,120,121,45,99,111,110,110,101,99,116,105,111,110]:List UInt8))=true:=bne_iff_ne.mpr c13
       by_cases c15:t26.toList=([116,101]:List UInt8)
       ·rw [if_pos c15] at H
        have c15b0:(t26.toList == ([116,101]:List UInt8))=true:=beq_iff_eq.mpr c15
        have c15b1:(t26.toList != ([116,101]:List UInt8))=false:=bne_eq_false_iff_eq.mpr c15
        clear c15
        obtain rfl:=Option.some.inj H
        go_enter Tryz.func82,Tryz.ntmps82
        go_wp2_with (first|((with_reducible refine gate_callee (f:=71) rfl ?_);refine goesL_ (some 4) rfl rfl Tryz.func71 (by kernel_rfl) rfl #[.string a0] rfl (by (try simp only [List.map_toArray,List.map_cons,List.map_nil]);first|done|rfl|(simp only [List.length_drop,List.length_take];rfl)) ?_;(with_reducible refine (sign_Fold.calls a0 t26 _ A2.out).mono ?_);rintro e w16 ⟨rfl,hb⟩;(try clear A2);refine ⟨_,rfl,?_⟩;have n0_:=Aside0.mk (below_step (by repeat (first|(with_reducible first|exact HB.out|apply below_alloc|apply pw_below_drewN|apply below_drew1)|exact HB.out)) hb);clear HB;have HB:=n0_;clear n0_;(try clear hb);(try clear hb2);(try clear hk);(try clear hi)))
        go_ret
        exact ⟨by first|rfl|(simp [errW_none,errW_some] <;> rfl)|(simp [*,errW_none,errW_some] <;> rfl),by repeat (first|(with_reducible first|exact HB.out|apply below_alloc|apply pw_below_drewN|apply below_drew1)|exact HB.out)⟩
       ·rw [if_neg c15] at H
        have c15b0:(t26.toList == ([116,101]:List UInt8))=false:=beq_eq_false_iff_ne.mpr c15
        have c15b1:(t26.toList != ([116,101]:List UInt8))=true:=bne_iff_ne.mpr c15
        by_cases c17:t26.toList=([116,114,97,105,108,101,114]:List UInt8)
        ·rw [if_pos c17] at H
         have c17b0:(t26.toList == ([116,114,97,105,108,101,114]:List UInt8))=true:=beq_iff_eq.mpr c17
         have c17b1:(t26.toList != ([116,114,97,105,108,101,114]:List UInt8))=false:=bne_eq_false_iff_eq.mpr c17
         clear c17
         obtain rfl:=Option.some.inj H
         go_enter Tryz.func82,Tryz.ntmps82
         go_wp2_with (first|((with_reducible refine gate_callee (f:=71) rfl ?_);refine goesL_ (some 4) rfl rfl Tryz.func71 (by kernel_rfl) rfl #[.string a0] rfl (by (try simp only [List.map_toArray,List.map_cons,List.map_nil]);first|done|rfl|(simp only [List.length_drop,List.length_take];rfl)) ?_;(with_reducible refine (sign_Fold.calls a0 t26 _ A2.out).mono ?_);rintro e w18 ⟨rfl,hb⟩;(try clear A2);refine ⟨_,rfl,?_⟩;have n0_:=Aside0.mk (below_step (by repeat (first|(with_reducible first|exact HB.out|apply below_alloc|apply pw_below_drewN|apply below_drew1)|exact HB.out)) hb);clear HB;have HB:=n0_;clear n0_;(try clear hb);(try clear hb2);(try clear hk);(try clear hi)))
         go_ret
         exact ⟨by first|rfl|(simp [errW_none,errW_some] <;> rfl)|(simp [*,errW_none,errW_some] <;> rfl),by repeat (first|(with_reducible first|exact HB.out|apply below_alloc|apply pw_below_drewN|apply below_drew1)|exact HB.out)⟩
        ·rw [if_neg c17] at H
         have c17b0:(t26.toList == ([116,114,97,105,108,101,114]:List UInt8))=false:=beq_eq_false_iff_ne.mpr c17
         have c17b1:(t26.toList != ([116,114,97,105,108,101,114]:List UInt8))=true:=bne_iff_ne.mpr c17
         by_cases c19:t26.toList=([117,112,103,114,97,100,101]:List UInt8)
         ·rw [if_pos c19] at H
          have c19b0:(t26.toList == ([117,112,103,114,97,100,101]:List UInt8))=true:=beq_iff_eq.mpr c19
          have c19b1:(t26.toList != ([117,112,103,114,97,100,101]:List UInt8))=false:=bne_eq_false_iff_eq.mpr c19
          clear c19
          obtain rfl:=Option.some.inj H
          go_enter Tryz.func82,Tryz.ntmps82
          go_wp2_with (first|((with_reducible refine gate_callee (f:=71) rfl ?_);refine goesL_ (some 4) rfl rfl Tryz.func71 (by kernel_rfl) rfl #[.string a0] rfl (by (try simp only [List.map_toArray,List.map_cons,List.map_nil]);first|done|rfl|(simp only [List.length_drop,List.length_take];rfl)) ?_;(with_reducible refine (sign_Fold.calls a0 t26 _ A2.out).mono ?_);rintro e w20 ⟨rfl,hb⟩;(try clear A2);refine ⟨_,rfl,?_⟩;have n0_:=Aside0.mk (below_step (by repeat (first|(with_reducible first|exact HB.out|apply below_alloc|apply pw_below_drewN|apply below_drew1)|exact HB.out)) hb);clear HB;have HB:=n0_;clear n0_;(try clear hb);(try clear hb2);(try clear hk);(try clear hi)))
          go_ret
          exact ⟨by first|rfl|(simp [errW_none,errW_some] <;> rfl)|(simp [*,errW_none,errW_some] <;> rfl),by repeat (first|(with_reducible first|exact HB.out|apply below_alloc|apply pw_below_drewN|apply below_drew1)|exact HB.out)⟩
         ·rw [if_neg c19] at H
          have c19b0:(t26.toList == ([117,112,103,114,97,100,101]:List UInt8))=false:=beq_eq_false_iff_ne.mpr c19
          have c19b1:(t26.toList != ([117,112,103,114,97,100,101]:List UInt8))=true:=bne_iff_ne.mpr c19
          by_cases c21:t26.toList=([101,120,112,101,99,116]:List UInt8)
          ·rw [if_pos c21] at H
           have c21b0:(t26.toList == ([101,120,112,101,99,116]:List UInt8))=true:=beq_iff_eq.mpr c21
           have c21b1:(t26.toList != ([101,120,112,101,99,116]:List UInt8))=false:=bne_eq_false_iff_eq.mpr c21
           clear c21
           obtain rfl:=Option.some.inj H
           go_enter Tryz.func82,Tryz.ntmps82
           go_wp2_with (first|((with_reducible refine gate_callee (f:=71) rfl ?_);refine goesL_ (some 4) rfl rfl Tryz.func71 (by kernel_rfl) rfl #[.string a0] rfl (by (try simp only [List.map_toArray,List.map_cons,List.map_nil]);first|done|rfl|(simp only [List.length_drop,List.length_take];rfl)) ?_;(with_reducible refine (sign_Fold.calls a0 t26 _ A2.out).mono ?_);rintro e w22 ⟨rfl,hb⟩;(try clear A2);refine ⟨_,rfl,?_⟩;have n0_:=Aside0.mk (below_step (by repeat (first|(with_reducible first|exact HB.out|apply below_alloc|apply pw_below_drewN|apply below_drew1)|exact HB.out)) hb);clear HB;have HB:=n0_;clear n0_;(try clear hb);(try clear hb2);(try clear hk);(try clear hi)))
           go_ret
           exact ⟨by first|rfl|(simp [errW_none,errW_some] <;> rfl)|(simp [*,errW_none,errW_some] <;> rfl),by repeat (first|(with_reducible first|exact HB.out|apply below_alloc|apply pw_below_drewN|apply below_drew1)|exact HB.out)⟩
          ·rw [if_neg c21] at H
           have c21b0:(t26.toList == ([101,120,112,101,99,116]:List UInt8))=false:=beq_eq_false_iff_ne.mpr c21
           have c21b1:(t26.toList != ([101,120,112,101,99,116]:List UInt8))=true:=bne_iff_ne.mpr c21
           by_cases c23:t26.toList=([118,105,97]:List UInt8)
           ·rw [if_pos c23] at H
            have c23b0:(t26.toList == ([118,105,97]:List UInt8))=true:=beq_iff_eq.mpr c23
            have c23b1:(t26.toList != ([118,105,97]:List UInt8))=false:=bne_eq_false_iff_eq.mpr c23
            clear c23
            obtain rfl:=Option.some.inj H
            go_enter Tryz.func82,Tryz.ntmps82
            go_wp2_with (first|((with_reducible refine gate_callee (f:=71) rfl ?_);refine goesL_ (some 4) rfl rfl Tryz.func71 (by kernel_rfl) rfl #[.string a0] rfl (by (try simp only [List.map_toArray,List.map_cons,List.map_nil]);first|done|rfl|(simp only [List.length_drop,List.length_take];rfl)) ?_;(with_reducible refine (sign_Fold.calls a0 t26 _ A2.out).mono ?_);rintro e w24 ⟨rfl,hb⟩;(try clear A2);refine ⟨_,rfl,?_⟩;have n0_:=Aside0.mk (below_step (by repeat (first|(with_reducible first|exact HB.out|apply below_alloc|apply pw_below_drewN|apply below_drew1)|exact HB.out)) hb);clear HB;have HB:=n0_;clear n0_;(try clear hb);(try clear hb2);(try clear hk);(try clear hi)))
            go_ret
            exact ⟨by first|rfl|(simp [errW_none,errW_some] <;> rfl)|(simp [*,errW_none,errW_some] <;> rfl),by repeat (first|(with_reducible first|exact HB.out|apply below_alloc|apply pw_below_drewN|apply below_drew1)|exact HB.out)⟩
           ·rw [if_neg c23] at H
            have c23b0:(t26.toList == ([118,105,97]:List UInt8))=false:=beq_eq_false_iff_ne.mpr c23
            have c23b1:(t26.toList != ([118,105,97]:List UInt8))=true:=bne_iff_ne.mpr c23
            obtain rfl:=Option.some.inj H
            go_enter Tryz.func82,Tryz.ntmps82
            go_wp2_with (first|((with_reducible refine gate_callee (f:=71) rfl ?_);refine goesL_ (some 4) rfl rfl Tryz.func71 (by kernel_rfl) rfl #[.string a0] rfl (by (try simp only [List.map_toArray,List.map_cons,List.map_nil]);first|done|rfl|(simp only [List.length_drop,List.length_take];rfl)) ?_;(with_reducible refine (sign_Fold.calls a0 t26 _ A2.out).mono ?_);rintro e w25 ⟨rfl,hb⟩;(try clear A2);refine ⟨_,rfl,?_⟩;have n0_:=Aside0.mk (below_step (by repeat (first|(with_reducible first|exact HB.out|apply below_alloc|apply pw_below_drewN|apply below_drew1)|exact HB.out)) hb);clear HB;have HB:=n0_;clear n0_;(try clear hb);(try clear hb2);(try clear hk);(try clear hi)))
            go_ret
            exact ⟨by first|rfl|(simp [errW_none,errW_some] <;> rfl)|(simp [*,errW_none,errW_some] <;> rfl),by repeat (first|(with_reducible first|exact HB.out|apply below_alloc|apply pw_below_drewN|apply below_drew1)|exact HB.out)⟩
/-- The place of the first that a test takes,from a place on: -1: none. -/
def idxO {α:Type} (q:α → Option Bool):List α → Int → Option Int
 | [],_=>some (-1)
 | x :: r,i=>(q x).bind fun b=>if b=true then some i else idxO q r (i + 1)
/-- Does a test take one of them? -/
def anyO {α:Type} (q:α → Option Bool):List α → Option Bool
 | []=>some false
 | x :: r=>(q x).bind fun b=>if b=true then some true else anyO q r
theorem idxO_any {α:Type} (q:α → Option Bool) : ∀ (xs:List α) (i:Int) (b:Bool),0 ≤ i → anyO q xs=some b → ∃ j,idxO q xs i=some j∧decide (0 ≤ j)=b
 | [],i,b,_,h=>⟨-1,rfl,by simp only [anyO,Option.some.injEq] at h;rw [← h];rfl⟩
 | x :: r,i,b,hi,h=>by
  simp only [anyO] at h
  obtain ⟨c,hc,h⟩:=Option.bind_eq_some_iff.1 h
  simp only [idxO,hc,Option.bind_some]
  cases c
  ·simp only [Bool.false_eq_true,if_false] at h ⊢
   exact idxO_any q r (i + 1) b (by omega) h
  ·simp only [if_true,Option.some.injEq] at h ⊢
   exact ⟨i,rfl,by rw [← h];exact decide_eq_true hi⟩
theorem sl_base {w w1:World} {b g:Nat} (hg:b ≤ g) (h:Below g w w1):Below b w w1:=⟨h.os,h.tape,h.output,h.size,fun i hi=>h.block i (Nat.lt_of_lt_of_le hi hg)⟩
/-- What is asked of a test that is handed over: its answer,in every later world. -/
def TestOf (g:Nat) (lb:Array Value) (enc:ByteArray → Value) (q:ByteArray → Option Bool) (w:World):Prop :=
 ∀ (W:World) (x:ByteArray) (b:Bool),Below w.heap.size w W → q x=some b → Calls Tryz.prog g (#[enc x] ++ lb) W fun e w' => e = .returned (.bool b)∧Below W.heap.size W w'
set_option maxHeartbeats 4000000 in
set_option maxRecDepth 100000 in
theorem slices_IndexFunc_string_string.callsOf (q:ByteArray → Option Bool) (g:Nat) (lb:Array Value) (eg : ∀ args w,(callFunc g args).run Tryz.prog w = .ok (.enter g args) w) (A0:Option Addr) (c0:Nat) (l0:List ByteArray) (r:Int) (w:World) (hr0:Kd.C Kd.string w A0 l0.length l0) (hc0:l0.length ≤ c0)
  (hq:TestOf g lb Value.string q w) (h:idxO q l0 0=some r) :
  Calls Tryz.prog 146 #[.slice A0 l0.length c0,.func (.func g) #[] lb] w fun e w' => e = .returned (.int .i64 r)∧Below w.heap.size w w' := by
 have HR:=Aside0.mk hr0
 have HQ:=Aside0.mk hq
 have H0:=Aside0.mk (show idxO q (l0.drop (0:Int).toNat) 0=some r from h)
 have HM:=Aside0.mk (show l0.length ≤ 9223372036854775807 from hr0.2.1)
 clear hr0 hq h
 go_enter Tryz.func146,Tryz.ntmps146
 go_wp2
 go_loopg [5,8] l0.length (fun kq _ v8 wr => ∃ (x8:Int),v8 = .int .i64 x8∧Aside0 (0 ≤ x8∧x8 ≤ l0.length∧(l0.length:Int) - x8 ≤ kq)∧Aside0 (Below w.heap.size w wr)∧Aside0 (idxO q (l0.drop x8.toNat) x8=some r))
 case atStart=>exact ⟨0,rfl,⟨by omega⟩,⟨Below.refl _ w⟩,H0⟩
 case round =>
  obtain ⟨x8,rfl,HX,BW,HH⟩:=hrel
  clear H0
  by_cases c4:x8 < (l0.length:Int)
  ·have c4b0:decide (x8 < (l0.length:Int))=true:=decide_eq_true c4
   have hx:=HH.out
   have hlt:x8.toNat < l0.length:=by have:=HX.out;omega
   rw [List.drop_eq_getElem_cons hlt,idxO] at hx
   obtain ⟨b,hb,hx⟩:=Option.bind_eq_some_iff.1 hx
   have hrd:rdOf ByteArray.empty l0 x8=l0[x8.toNat]:=by simp [rdOf,List.getD_eq_getElem?_getD,List.getElem?_eq_getElem hlt]
   have hcall:=HQ.out wr l0[x8.toNat] b BW.out hb
   rw [← hrd] at hcall
   obtain ⟨ad,he,hcell⟩:=Kd.at_string HR.out x8 HX.out.1 c4
   replace hcell:=(BW.out.cell (World.block_lt_of_cell? w _ hcell)).trans hcell
   obtain ⟨y,hy⟩ : ∃ y,rdOf ByteArray.empty l0 x8=y:=⟨_,rfl⟩
   rw [hy] at hcall hcell
   have HCALL:=Aside0.mk hcall
   have HN:=Aside0.mk hx
   have p8:(0 ≤ x8)=True:=eq_true HX.out.1
   have q8:(x8 < (l0.length:Int))=True:=eq_true c4
   clear hx hb hrd HH hy hcall c4
   subst he
   cases b with
   | true =>
    go_wp2_with (go_at_fn g;refine HCALL.out.mono ?_;rintro e w' ⟨rfl,hb'⟩)
    go_ret
    have hx:=HN.out
    simp only [if_true,Option.some.injEq] at hx
    subst hx
    exact ⟨by first|rfl|(simp;done),BW.out.trans (sl_base (Below.size BW.out) hb')⟩
   | false =>
    go_wp2_with (go_at_fn g;refine HCALL.out.mono ?_;rintro e w' ⟨rfl,hb'⟩)
    go_roundg (gk - 1)
    case measure=>have:=HX.out;have:=of_eq_true q8;omega
    case rel =>
     have hx:=HN.out
     simp only [Bool.false_eq_true,if_false] at hx
     have hx8:=HX.out
     have hq8:=of_eq_true q8
     have hw:wrap64 (x8 + 1)=x8 + 1:=by have:=HM.out;unfold wrap64;omega
     refine ⟨wrap64 (x8 + 1),rfl,⟨by rw [hw];omega⟩,⟨BW.out.trans (sl_base (Below.size BW.out) hb')⟩,⟨?_⟩⟩
     rw [hw,show (x8 + 1).toNat=x8.toNat + 1 by omega]
     exact hx
  ·have c4b0:decide (x8 < (l0.length:Int))=false:=decide_eq_false c4
   have hx:=HH.out
   rw [List.drop_of_length_le (by have:=HX.out;omega),idxO] at hx
   injection hx with hx
   clear c4
   go_wp2
   go_ret
   subst hx
   exact ⟨by first|rfl|(simp;done),BW.out⟩
set_option maxHeartbeats 4000000 in
set_option maxRecDepth 100000 in
theorem field_Has_1.callsOf (B:Nat) (part:ByteArray) (w:World) (hc:w.cell? ⟨B,0,none⟩=some (.string part)):TestOf 101 #[.pointer (some ⟨B,0,none⟩)] Value.string (fun p=>sign_Same.f p part) w:=fun W x b hb h=>by
 have hB:B < w.heap.size:=World.block_lt_of_cell? w _ hc
 have hcell:W.cell? ⟨B,0,none⟩=some (.string part):=(hb.cell (p:=⟨B,0,none⟩) hB).trans hc
 have HS:=Aside0.mk h
 clear hc h hb
 show Calls Tryz.prog 101 #[.string x,.pointer (some ⟨B,0,none⟩)] W _
 go_enter Tryz.func101,Tryz.ntmps101
 go_wp2_with (go_at_call 102;refine (sign_Same.calls x part b W HS.out).mono ?_;rintro e w' ⟨rfl,hb'⟩)
 go_ret
 exact ⟨rfl,hb'⟩
set_option maxHeartbeats 4000000 in
set_option maxRecDepth 100000 in
theorem slices_ContainsFunc_string_string.callsOf (q:ByteArray → Option Bool) (g:Nat) (lb:Array Value) (eg : ∀ args w,(callFunc g args).run Tryz.prog w = .ok (.enter g args) w) (A0:Option Addr) (c0:Nat) (l0:List ByteArray) (r:Bool) (w:World) (hr0:Kd.C Kd.string w A0 l0.length l0) (hc0:l0.length ≤ c0)
  (hq:TestOf g lb Value.string q w) (h:anyO q l0=some r) :
  Calls Tryz.prog 99 #[.slice A0 l0.length c0,.func (.func g) #[] lb] w fun e w' => e = .returned (.bool r)∧Below w.heap.size w w' := by
 obtain ⟨j,hj,hb⟩:=idxO_any q l0 0 r (by omega) h
 have HC:=Aside0.mk (slices_IndexFunc_string_string.callsOf q g lb eg A0 c0 l0 j w hr0 hc0 hq hj)
 have HBB:=Aside0.mk hb
 clear hb hj h hq hr0 hc0 eg
 go_enter Tryz.func99,Tryz.ntmps99
 go_wp2_with (go_at_call 146;refine HC.out.mono ?_;rintro e w' ⟨rfl,hb'⟩)
 go_ret
 have e:=HBB.out
 subst e
 exact ⟨by first|rfl|(simp;done),hb'⟩
def field_Has.f (k:Nat) (l0:List (S55)) (a1 a2:ByteArray):Option Bool:=(field_List.f k l0 a1).bind fun l=>anyO (fun p=>sign_Same.f p a2) l
set_option maxHeartbeats 4000000 in
set_option maxRecDepth 100000 in
theorem field_Has.calls (k:Nat) (A0:Option Addr) (c0:Nat) (l0:List (S55)) (a1:ByteArray) (a2:ByteArray) (r:Bool) (w:World) (hr0:Kd.C k55 w A0 l0.length l0) (hc0:l0.length ≤ c0) (h:field_Has.f k l0 a1 a2=some r) :
  Calls Tryz.prog 58 #[.slice A0 l0.length c0,.string a1,.string a2] w fun e w' => e = .returned (.bool r)∧Below w.heap.size w w' := by
 unfold field_Has.f at h
 obtain ⟨l,hl,h⟩:=Option.bind_eq_some_iff.1 h
 have HR:=Aside0.mk hr0
 have HC:=Aside0.mk hc0
 have HL:=Aside0.mk hl
 have HA:=Aside0.mk h
 have eg : ∀ args w,(callFunc 101 args).run Tryz.prog w = .ok (.enter 101 args) w:=enters_of Tryz.func101 (by kernel_rfl) rfl
 have EG:=Aside0.mk eg
 clear hr0 hc0 hl h eg
 have hcell:(w.alloc (.cells #[.string a2] 9)).cell? ⟨w.heap.size,0,none⟩=some (.string a2):=(blk_cell (blk_new w _) 0).trans rfl
 go_enter Tryz.func58,Tryz.ntmps58
 go_wp2_with (first
  | (go_at_call 100;refine (field_List.calls k A0 c0 l0 a1 l _ (Kd.C_alloc HR.out _) HC.out HL.out).mono ?_;rintro e w1 ⟨v,rfl,hR,hb⟩;obtain ⟨A1,c1,rfl,hc1,hC1⟩:=Kd.R_reads hR;have HC1:=Aside0.mk hC1;have HB1:=Aside0.mk hb;have hcell1:=pw_cell_below hb hcell;clear hR hC1 hb)
  | (go_at_call 99;refine (slices_ContainsFunc_string_string.callsOf (fun p=>sign_Same.f p a2) 101 #[.pointer (some ⟨w.heap.size,0,none⟩)] EG.out A1 c1 l r _ HC1.out hc1 (field_Has_1.callsOf w.heap.size a2 _ hcell1) HA.out).mono ?_;rintro e w2 ⟨rfl,hb2⟩))
 go_ret
 exact ⟨rfl,((Below.refl _ w).alloc (Nat.le_refl _) _).trans (sl_base (by simp) (HB1.out.trans (sl_base HB1.out.size hb2)))⟩
def stringslite_HasPrefix.f (a0:ByteArray) (a1:ByteArray):Option (Bool):=if (a0.size:Int) ≥ (a1.size:Int) then (if 0 ≤ (a1.size:Int) then (if (a1.size:Int) ≤ (a0.size:Int) then (some ((a0.extract 0 ((a1.size:Int):Int).toNat).toList == a1.toList)) else (none)) else (none)) else (some false)
set_option maxHeartbeats 8000000 in
set_option maxRecDepth 100000 in
theorem stringslite_HasPrefix.calls (a0:ByteArray) (a1:ByteArray) (r:Bool) (w:World) (h:stringslite_HasPrefix.f a0 a1=some r) :
  Calls Tryz.prog 128 #[.string a0,.string a1] w fun e w' => e = .returned (.bool r)∧Drawn0 w w' := by
 have H:(if (a0.size:Int) ≥ (a1.size:Int) then (if 0 ≤ (a1.size:Int) then (if (a1.size:Int) ≤ (a0.size:Int) then (some ((a0.extract 0 ((a1.size:Int):Int).toNat).toList == a1.toList)) else (none)) else (none)) else (some false))=some r:=h
 clear h
 by_cases c3:(a0.size:Int) ≥ (a1.size:Int)
 ·rw [if_pos c3] at H
  have c3b0:decide ((a1.size:Int) ≤ (a0.size:Int))=true:=decide_eq_true c3
  have c3b1:decide (a1.size ≤ a0.size)=true:=decide_eq_true (Int.ofNat_le.mp c3)
  clear c3
  by_cases c4:0 ≤ (a1.size:Int)
  ·rw [if_pos c4] at H
   have c4b0:=eq_true c4
   have c4b1:decide (0 ≤ (a1.size:Int))=true:=decide_eq_true c4
   clear c4
   by_cases c5:(a1.size:Int) ≤ (a0.size:Int)
   ·rw [if_pos c5] at H
    have c5b0:=eq_true c5
    have c5b1:decide ((a1.size:Int) ≤ (a0.size:Int))=true:=decide_eq_true c5
    clear c5
    obtain rfl:=Option.some.inj H
    go_enter Tryz.func128,Tryz.ntmps128
    go_wp2
    go_ret
    exact ⟨by first|rfl|(simp;done)|(simp [*];done),by repeat (first|exact Drawn0.refl _|apply Drawn0.step)⟩
   ·rw [if_neg c5] at H
    exact absurd H (by simp)
  ·rw [if_neg c4] at H
   exact absurd H (by simp)
 ·rw [if_neg c3] at H
  have c3b0:decide ((a1.size:Int) ≤ (a0.size:Int))=false:=decide_eq_false c3
  have c3b1:decide (a1.size ≤ a0.size)=false:=decide_eq_false (fun h=>c3 (Int.ofNat_le.mpr h))
  clear c3
  obtain rfl:=Option.some.inj H
  go_enter Tryz.func128,Tryz.ntmps128
  go_wp2
  go_ret
  exact ⟨by first|rfl|(simp;done)|(simp [*];done),by repeat (first|exact Drawn0.refl _|apply Drawn0.step)⟩
def strings_HasPrefix.f (a0:ByteArray) (a1:ByteArray):Option (Bool):=(stringslite_HasPrefix.f a0 a1).bind fun t212=>(some t212)
set_option maxHeartbeats 8000000 in
set_option maxRecDepth 100000 in
theorem strings_HasPrefix.calls (a0:ByteArray) (a1:ByteArray) (r:Bool) (w:World) (h:strings_HasPrefix.f a0 a1=some r) :
  Calls Tryz.prog 83 #[.string a0,.string a1] w fun e w' => e = .returned (.bool r)∧Drawn0 w w' := by
 have H:((stringslite_HasPrefix.f a0 a1).bind fun t212=>(some t212))=some r:=h
 clear h
 replace H:=Option.bind_eq_some_iff.mp H
 obtain ⟨t212,A30,H⟩:=H
 replace H:(some t212)=some r:=H
 have A3:=Aside0.mk A30
 clear A30
 obtain rfl:=Option.some.inj H
 go_enter Tryz.func83,Tryz.ntmps83
 go_wp2_with (first|((with_reducible refine gate_callee (f:=128) rfl ?_);refine goesL_ (some 7) rfl rfl Tryz.func128 (by kernel_rfl) rfl #[.string a0,.string a1] rfl (by (try simp only [List.map_toArray,List.map_cons,List.map_nil]);first|done|rfl|(simp only [List.length_drop,List.length_take];rfl)) ?_;(with_reducible refine (stringslite_HasPrefix.calls a0 a1 t212 _ A3.out).mono ?_);rintro e w' ⟨rfl,⟨nd,rfl⟩⟩;(try clear A3);refine ⟨_,rfl,?_⟩))
 go_ret
 exact ⟨by first|rfl|(simp;done)|(simp [*];done),by repeat (first|exact Drawn0.refl _|apply Drawn0.step)⟩
def scrub_Hop.f (k:Nat) (l0:List (S55)) (a1:ByteArray):Option (Bool):=(conf_Kept.f a1).bind fun t213=>(if t213=true then (some true) else ((sign_Fold.f a1).bind fun t214=>((strings_HasPrefix.f t214 (⟨#[120,45,116,111,108,108,98,97,114,45]⟩:ByteArray)).bind fun t215=>(if t215=true then (some true) else ((field_Has.f k l0 (⟨#[67,111,110,110,101,99,116,105,111,110]⟩:ByteArray) a1).bind fun t216=>(some t216))))))
set_option maxHeartbeats 8000000 in
set_option maxRecDepth 100000 in
theorem scrub_Hop.calls (k:Nat) (A0:Option Addr) (c0:Nat) (l0:List (S55)) (a1:ByteArray) (r:Bool) (w:World) (hr0:Kd.C k55 w A0 l0.length l0) (hc0:l0.length ≤ c0) (h:scrub_Hop.f k l0 a1=some r) :
  Calls Tryz.prog 42 #[.slice A0 l0.length c0,.string a1] w fun e w' => e = .returned (.bool r)∧Below w.heap.size w w' := by
 have HR0:=Aside0.mk hr0
 have HC0:=Aside0.mk hc0
 clear hr0 hc0
 have HB:=Aside0.mk (Below.refl w.heap.size w)
 have H:((conf_Kept.f a1).bind fun t213=>(if t213=true then (some true) else ((sign_Fold.f a1).bind fun t214=>((strings_HasPrefix.f t214 (⟨#[120,45,116,111,108,108,98,97,114,45]⟩:ByteArray)).bind fun t215=>(if t215=true then (some true) else ((field_Has.f k l0 (⟨#[67,111,110,110,101,99,116,105,111,110]⟩:ByteArray) a1).bind fun t216=>(some t216)))))))=some r:=h
 clear h
 replace H:=Option.bind_eq_some_iff.mp H
 obtain ⟨t213,A30,H⟩:=H
 replace H:(if t213=true then (some true) else ((sign_Fold.f a1).bind fun t214=>((strings_HasPrefix.f t214 (⟨#[120,45,116,111,108,108,98,97,114,45]⟩:ByteArray)).bind fun t215=>(if t215=true then (some true) else ((field_Has.f k l0 (⟨#[67,111,110,110,101,99,116,105,111,110]⟩:ByteArray) a1).bind fun t216=>(some t216))))))=some r:=H
 have A3:=Aside0.mk A30
 clear A30
 by_cases c4:t213=true
 ·subst c4
  have H1:(some true)=some r:=by rw [if_pos rfl] at H;exact H
  clear H
  have H:=H1
  clear H1
  obtain rfl:=Option.some.inj H
  go_enter Tryz.func42,Tryz.ntmps42
  go_wp2_with (first|((with_reducible refine gate_callee (f:=82) rfl ?_);refine goesL_ (some 6) rfl rfl Tryz.func82 (by kernel_rfl) rfl #[.string a1] rfl (by (try simp only [List.map_toArray,List.map_cons,List.map_nil]);first|done|rfl|(simp only [List.length_drop,List.length_take];rfl)) ?_;(with_reducible refine (conf_Kept.calls a1 true _ A3.out).mono ?_);rintro e w5 ⟨rfl,hb⟩;(try clear A3);refine ⟨_,rfl,?_⟩;have n0_:=Aside0.mk (below_step (by repeat (first|(with_reducible first|exact HB.out|apply below_alloc|apply pw_below_drewN|apply below_drew1)|exact HB.out)) hb);clear HB;have HB:=n0_;clear n0_;(try clear hb);(try clear hb2);(try clear hk);(try clear hi)))
  go_ret
  exact ⟨by first|rfl|(simp [errW_none,errW_some] <;> rfl)|(simp [*,errW_none,errW_some] <;> rfl),by repeat (first|(with_reducible first|exact HB.out|apply below_alloc|apply pw_below_drewN|apply below_drew1)|exact HB.out)⟩
 ·replace c4:=Bool.eq_false_iff.mpr c4
  subst c4
  have H1:((sign_Fold.f a1).bind fun t214=>((strings_HasPrefix.f t214 (⟨#[120,45,116,111,108,108,98,97,114,45]⟩:ByteArray)).bind fun t215=>(if t215=true then (some true) else ((field_Has.f k l0 (⟨#[67,111,110,110,101,99,116,105,111,110]⟩:ByteArray) a1).bind fun t216=>(some t216)))))=some r:=by rw [if_neg (show ¬ (false=true) by decide)] at H;exact H
  clear H
  have H:=H1
  clear H1
  replace H:=Option.bind_eq_some_iff.mp H
  obtain ⟨t214,A60,H⟩:=H
  replace H:((strings_HasPrefix.f t214 (⟨#[120,45,116,111,108,108,98,97,114,45]⟩:ByteArray)).bind fun t215=>(if t215=true then (some true) else ((field_Has.f k l0 (⟨#[67,111,110,110,101,99,116,105,111,110]⟩:ByteArray) a1).bind fun t216=>(some t216))))=some r:=H
  have A6:=Aside0.mk A60
  clear A60
  replace H:=Option.bind_eq_some_iff.mp H
  obtain ⟨t215,A70,H⟩:=H
  replace H:(if t215=true then (some true) else ((field_Has.f k l0 (⟨#[67,111,110,110,101,99,116,105,111,110]⟩:ByteArray) a1).bind fun t216=>(some t216)))=some r:=H
  have A7:=Aside0.mk A70
  clear A70
  by_cases c8:t215=true
  ·subst c8
   have H1:(some true)=some r:=by rw [if_pos rfl] at H;exact H
   clear H
   have H:=H1
   clear H1
   obtain rfl:=Option.some.inj H
   go_enter Tryz.func42,Tryz.ntmps42
   go_wp2_with (first|((with_reducible refine gate_callee (f:=82) rfl ?_);refine goesL_ (some 6) rfl rfl Tryz.func82 (by kernel_rfl) rfl #[.string a1] rfl (by (try simp only [List.map_toArray,List.map_cons,List.map_nil]);first|done|rfl|(simp only [List.length_drop,List.length_take];rfl)) ?_;(with_reducible refine (conf_Kept.calls a1 false _ A3.out).mono ?_);rintro e w9 ⟨rfl,hb⟩;(try clear A3);refine ⟨_,rfl,?_⟩;have n0_:=Aside0.mk (below_step (by repeat (first|(with_reducible first|exact HB.out|apply below_alloc|apply pw_below_drewN|apply below_drew1)|exact HB.out)) hb);clear HB;have HB:=n0_;clear n0_;(try clear hb);(try clear hb2);(try clear hk);(try clear hi))|(go_at_call 71;(with_reducible refine (sign_Fold.calls a1 t214 _ A6.out).mono ?_);rintro e w10 ⟨rfl,hb⟩;(try clear A6);have n0_:=Aside0.mk (below_step (by repeat (first|(with_reducible first|exact HB.out|apply below_alloc|apply pw_below_drewN|apply below_drew1)|exact HB.out)) hb);clear HB;have HB:=n0_;clear n0_;(try clear hb);(try clear hb2);(try clear hk);(try clear hi))|(go_at_call 83;(with_reducible refine (strings_HasPrefix.calls t214 (⟨#[120,45,116,111,108,108,98,97,114,45]⟩:ByteArray) true _ A7.out).mono ?_);rintro e w' ⟨rfl,⟨nd,rfl⟩⟩;(try clear A7)))
   go_ret
   exact ⟨by first|rfl|(simp [errW_none,errW_some] <;> rfl)|(simp [*,errW_none,errW_some] <;> rfl),by repeat (first|(with_reducible first|exact HB.out|apply below_alloc|apply pw_below_drewN|apply below_drew1)|exact HB.out)⟩
  ·replace c8:=Bool.eq_false_iff.mpr c8
   subst c8
   have H1:((field_Has.f k l0 (⟨#[67,111,110,110,101,99,116,105,111,110]⟩:ByteArray) a1).bind fun t216=>(some t216))=some r:=by rw [if_neg (show ¬ (false=true) by decide)] at H;exact H
   clear H
   have H:=H1
   clear H1
   replace H:=Option.bind_eq_some_iff.mp H
   obtain ⟨t216,A110,H⟩:=H
   replace H:(some t216)=some r:=H
   have A11:=Aside0.mk A110
   clear A110
   obtain rfl:=Option.some.inj H
   go_enter Tryz.func42,Tryz.ntmps42
   go_wp2_with (first|((with_reducible refine gate_callee (f:=82) rfl ?_);refine goesL_ (some 6) rfl rfl Tryz.func82 (by kernel_rfl) rfl #[.string a1] rfl (by (try simp only [List.map_toArray,List.map_cons,List.map_nil]);first|done|rfl|(simp only [List.length_drop,List.length_take];rfl)) ?_;(with_reducible refine (conf_Kept.calls a1 false _ A3.out).mono ?_);rintro e w12 ⟨rfl,hb⟩;(try clear A3);refine ⟨_,rfl,?_⟩;have n0_:=Aside0.mk (below_step (by repeat (first|(with_reducible first|exact HB.out|apply below_alloc|apply pw_below_drewN|apply below_drew1)|exact HB.out)) hb);clear HB;have HB:=n0_;clear n0_;(try clear hb);(try clear hb2);(try clear hk);(try clear hi))|(go_at_call 71;(with_reducible refine (sign_Fold.calls a1 t214 _ A6.out).mono ?_);rintro e w13 ⟨rfl,hb⟩;(try clear A6);have n0_:=Aside0.mk (below_step (by repeat (first|(with_reducible first|exact HB.out|apply below_alloc|apply pw_below_drewN|apply below_drew1)|exact HB.out)) hb);clear HB;have HB:=n0_;clear n0_;(try clear hb);(try clear hb2);(try clear hk);(try clear hi))|(go_at_call 83;(with_reducible refine (strings_HasPrefix.calls t214 (⟨#[120,45,116,111,108,108,98,97,114,45]⟩:ByteArray) false _ A7.out).mono ?_);rintro e w' ⟨rfl,⟨nd,rfl⟩⟩;(try clear A7))|(go_at_call 58;(with_reducible refine (field_Has.calls k _ _ l0 (⟨#[67,111,110,110,101,99,116,105,111,110]⟩:ByteArray) a1 t216 _ ?side1 ?side2 A11.out).mono ?_);(case side1=>repeat (first|exact (Kd.C_below HR0.out (by repeat (first|(with_reducible first|exact HB.out|apply below_alloc|apply pw_below_drewN|apply below_drew1)|exact HB.out)))|(with_reducible refine Kd.C_alloc ?_ _)|(with_reducible refine Kd.C_drewN ?_ _)|(with_reducible refine Kd.C_drew ?_)));(case side2=>exact HC0.out);rintro e w14 ⟨rfl,hb⟩;(try clear A11);have n0_:=Aside0.mk (below_step (by repeat (first|(with_reducible first|exact HB.out|apply below_alloc|apply pw_below_drewN|apply below_drew1)|exact HB.out)) hb);clear HB;have HB:=n0_;clear n0_;(try clear hb);(try clear hb2);(try clear hk);(try clear hi)))
   go_ret
   exact ⟨by first|rfl|(simp [errW_none,errW_some] <;> rfl)|(simp [*,errW_none,errW_some] <;> rfl),by repeat (first|(with_reducible first|exact HB.out|apply below_alloc|apply pw_below_drewN|apply below_drew1)|exact HB.out)⟩
def scrub_onward.l0:Nat → List (S55) → List (S55) → List (S55) → Int → Int → Option ((List (S55)))
 | 0,_,_,_,_,_=>none
 | k + 1,x0,x3,x6,x7,x8=>if x8 < x7 then (if 0 ≤ x8 then (if x8 < (x6.length:Int) then ((scrub_Hop.f k x0 ((rd_T55 x6 x8).f0)).bind fun t219=>(if t219=true then (scrub_onward.l0 k x0 x3 x6 x7 (wrap64 (x8 + 1))) else (if x3.length < 4398046511104 then (scrub_onward.l0 k x0 (x3 ++ [(⟨(rd_T55 x6 x8).f0,(rd_T55 x6 x8).f1⟩:S55)]) x6 x7 (wrap64 (x8 + 1))) else (none)))) else (none)) else (none)) else (some x3)
def scrub_onward.f (k:Nat) (l0:List (S55)):Option ((List (S55))):=scrub_onward.l0 k l0 ([]:List (S55)) l0 (l0.length:Int) 0
set_option maxHeartbeats 8000000 in
set_option maxRecDepth 100000 in
theorem scrub_onward.calls (k:Nat) (A0:Option Addr) (c0:Nat) (l0:List (S55)) (r:List (S55)) (w:World) (hr0:Kd.C k55 w A0 l0.length l0) (hc0:l0.length ≤ c0) (h:scrub_onward.f k l0=some r) :
  Calls Tryz.prog 43 #[.slice A0 l0.length c0] w fun e w' => ∃ v0_:Value,e = .returned (v0_)∧Kd.R k55 55 w' w.heap.size (fun _=>True) v0_ r∧Below w.heap.size w w' := by
 have hu55:=Tryz.underlying55
 have HR0:=Aside0.mk hr0
 have HC0:=Aside0.mk hc0
 clear hr0 hc0
 have HB:=Aside0.mk (Below.refl w.heap.size w)
 have H:(scrub_onward.l0 k l0 ([]:List (S55)) l0 (l0.length:Int) 0)=some r:=h
 clear h
 have H' := Aside0.mk H
 clear H
 go_enter Tryz.func43,Tryz.ntmps43
 go_wp2
 go_loopg [3,8] k (fun kq v3 v8 w' => ∃ (x3_1:List (S55)) (x8_1:Int),v8 = .int .i64 x8_1∧Aside0 (scrub_onward.l0 kq l0 x3_1 l0 (l0.length:Int) x8_1=some r)∧Aside0 (kq ≤ k)∧Aside0 (Kd.R k55 55 w' w.heap.size (fun _=>True) v3 x3_1)∧Aside0 (Below w.heap.size w w'))
 case atStart=>exact ⟨(([]:List (S55))),(0),(by first|rfl|(simp;done)|(simp [*];done)),H',⟨Nat.le_refl _⟩,⟨by first|exact Kd.R_nil _ _ _ _ _|exact Kd.N_nil _ _ _ _ _|exact Kd.V_nil _ _ _ _ _|exact Kd.Q_nil _ _ _ _ _|exact Kd.S_nil _ _ _ _ _⟩,⟨by repeat (first|(with_reducible first|exact HB.out|apply below_alloc|apply pw_below_drewN|apply below_drew1)|exact HB.out)⟩⟩
 case round =>
  clear H'
  obtain ⟨x3_1,x8_1,rfl,HA,HK1,HO_3,HB⟩:=hrel
  cases gk with
  | zero=>exact absurd HA.out (by simp [scrub_onward.l0])
  | succ k1 =>
   have H:=HA.out
   clear HA
   simp only [scrub_onward.l0] at H
   by_cases c2:x8_1 < (l0.length:Int)
   ·rw [if_pos c2] at H
    have c2b0:decide (x8_1 < (l0.length:Int))=true:=decide_eq_true c2
    clear c2
    by_cases c3:0 ≤ x8_1
    ·rw [if_pos c3] at H
     have c3b0:decide (0 ≤ x8_1)=true:=decide_eq_true c3
     clear c3
     by_cases c4:x8_1 < (l0.length:Int)
     ·rw [if_pos c4] at H
      have c4b0:decide (x8_1 < (l0.length:Int))=true:=decide_eq_true c4
      clear c4
      replace H:=Option.bind_eq_some_iff.mp H
      obtain ⟨t219,A50,H⟩:=H
      replace H:(if t219=true then (scrub_onward.l0 k1 l0 x3_1 l0 (l0.length:Int) (wrap64 (x8_1 + 1))) else (if x3_1.length < 4398046511104 then (scrub_onward.l0 k1 l0 (x3_1 ++ [(⟨(rd_T55 l0 x8_1).f0,(rd_T55 l0 x8_1).f1⟩:S55)]) l0 (l0.length:Int) (wrap64 (x8_1 + 1))) else (none)))=some r:=H
      have A5:=Aside0.mk A50
      clear A50
      by_cases c6:t219=true
      ·subst c6
       have H1:(scrub_onward.l0 k1 l0 x3_1 l0 (l0.length:Int) (wrap64 (x8_1 + 1)))=some r:=by rw [if_pos rfl] at H;exact H
       clear H
       have H:=H1
       clear H1
       have H' := Aside0.mk H
       clear H
       have p217:0 ≤ (x8_1:Int):=of_decide_eq_true (by first|(with_reducible assumption)|assumption)
       have q217:x8_1 < (l0.length:Int):=of_decide_eq_true (by first|(with_reducible assumption)|assumption)
       obtain ⟨ad217,e217,hx217_0,hx217_1⟩:=at_T55 HR0.out x8_1 p217 q217
       cases e217
       replace hx217_0:=(HB.out.cell (World.block_lt_of_cell? w _ hx217_0)).trans hx217_0
       replace hx217_1:=(HB.out.cell (World.block_lt_of_cell? w _ hx217_1)).trans hx217_1
       replace p217:=eq_true p217
       replace q217:=eq_true q217
       go_wp2_with (first|((with_reducible refine gate_dst (N:=5) rfl ?_);refine box_event ?hg (N:=5) ?hd (cs:=#[.string (⟨#[]⟩:ByteArray),.string (⟨#[]⟩:ByteArray)]) (t:=55) ?hr ?_;(case hd=>rfl);(case hg=>rfl);(case hr=>first|(go_simp;done)|(go_simp;rfl));intro gb218 hg w7 hbox hb;have n0_:=Aside0.mk (Kd.R_below (Kd.R_elderB (by (with_reducible repeat (first|apply Kd.R_alloc|apply Kd.R_drewN|apply Kd.R_drew));exact HO_3.out) gb218 (Nat.le_of_eq hg.symm)) hb);have n1_:=Aside0.mk (below_step (by repeat (first|(with_reducible first|exact HB.out|apply below_alloc|apply pw_below_drewN|apply below_drew1)|exact HB.out)) hb);have n2_:=Aside0.mk (hbox);have n3_:=Aside0.mk ((by rw [hg];exact (below_size (by repeat (first|(with_reducible first|exact HB.out|apply below_alloc|apply pw_below_drewN|apply below_drew1)|exact HB.out))):w.heap.size ≤ gb218));have n4_:=Aside0.mk ((by rw [hg];exact (below_size (by repeat (first|(with_reducible first|exact HB.out|apply below_alloc|apply pw_below_drewN|apply below_drew1)|exact HB.out))):w.heap.size ≤ gb218));clear HO_3;clear HB;have HO_3:=n0_;have HB:=n1_;have BK218:=n2_;have GW218:=n3_;have GE218:=n4_;clear n0_ n1_ n2_ n3_ n4_;clear hb hbox hg;have hcz8_0:w7.cell? ⟨gb218,0,none⟩=some (.string (⟨#[]⟩:ByteArray)):=(blk_cell BK218.out 0).trans rfl;have hcz8_1:w7.cell? ⟨gb218,1,none⟩=some (.string (⟨#[]⟩:ByteArray)):=(blk_cell BK218.out 1).trans rfl;have hfz8_0:=blk_frozen BK218.out 0;have hfz8_1:=blk_frozen BK218.out 1)|((with_reducible refine gate_callee (f:=42) rfl ?_);refine goesL_ (some 15) rfl rfl Tryz.func42 (by kernel_rfl) rfl #[.slice (some ad217) l0.length c0,.string ((rd_T55 l0 x8_1).f0)] rfl (by (try simp only [List.map_toArray,List.map_cons,List.map_nil]);first|done|rfl|(simp only [List.length_drop,List.length_take];rfl)) ?_;(with_reducible refine (scrub_Hop.calls k1 _ _ l0 ((rd_T55 l0 x8_1).f0) true _ ?side1 ?side2 A5.out).mono ?_);(case side1=>exact Kd.C_below HR0.out (by repeat (first|(with_reducible first|exact HB.out|apply below_alloc|apply pw_below_drewN|apply below_drew1|refine below_set ?_ GE218.out)|exact HB.out)));(case side2=>exact HC0.out);rintro e w9 ⟨rfl,hb⟩;(try clear A5);refine ⟨_,rfl,?_⟩;have n0_:=Aside0.mk (Kd.R_below (by (with_reducible repeat (first|apply Kd.R_alloc|apply Kd.R_drewN|apply Kd.R_drew));exact (Kd.R_mono (Kd.R_far (p:=⟨gb218,1,none⟩) (Kd.R_far (p:=⟨gb218,0,none⟩) (Kd.R_mono HO_3.out (fun k_ hk=>(⟨hk,hk.2⟩:_∧k_ ≠ gb218))) (fun _ hk=>hk.2) (.string ((rd_T55 l0 x8_1).f0))) (fun _ hk=>hk.2) (.string ((rd_T55 l0 x8_1).f1))) (fun _ h_=>h_.1))) hb);have n1_:=Aside0.mk (blk_below (g:=gb218) (o:=.cells #[.string ((rd_T55 l0 x8_1).f0),.string ((rd_T55 l0 x8_1).f1)] 55 (0,0)) (by (with_reducible repeat (first|refine blk_drewN ?_ _|refine blk_drew ?_|refine blk_alloc ?_ _));refine blk_put (cs:=#[.string ((rd_T55 l0 x8_1).f0),.string (⟨#[]⟩:ByteArray)]) ?_ 1 _ rfl;(with_reducible repeat (first|refine blk_drewN ?_ _|refine blk_drew ?_|refine blk_alloc ?_ _));refine blk_put (cs:=#[.string (⟨#[]⟩:ByteArray),.string (⟨#[]⟩:ByteArray)]) ?_ 0 _ rfl;(with_reducible repeat (first|refine blk_drewN ?_ _|refine blk_drew ?_|refine blk_alloc ?_ _));exact BK218.out) hb);have n2_:=Aside0.mk (below_step (by repeat (first|(with_reducible first|exact HB.out|apply below_alloc|apply pw_below_drewN|apply below_drew1|refine below_set ?_ GE218.out)|exact HB.out)) hb);clear HO_3;clear BK218;clear HB;have HO_3:=n0_;have BK218:=n1_;have HB:=n2_;clear n0_ n1_ n2_;(try clear hb);(try clear hb2);(try clear hk);(try clear hi)))
       go_roundg k1
       case measure=>have:=HK1.out;omega
       case rel=>exact ⟨(x3_1),(wrap64 (x8_1 + 1)),(by first|rfl|(simp;done)|(simp [*];done)),H',⟨by have:=HK1.out;omega⟩,⟨by (with_reducible repeat (first|apply Kd.R_alloc|apply Kd.R_drewN|apply Kd.R_drew));exact Kd.R_mono HO_3.out (fun _ hk=>trivial)⟩,⟨by repeat (first|(with_reducible first|exact HB.out|apply below_alloc|apply pw_below_drewN|apply below_drew1|refine below_set ?_ GE218.out)|exact HB.out)⟩⟩
      ·replace c6:=Bool.eq_false_iff.mpr c6
       subst c6
       have H1:(if x3_1.length < 4398046511104 then (scrub_onward.l0 k1 l0 (x3_1 ++ [(⟨(rd_T55 l0 x8_1).f0,(rd_T55 l0 x8_1).f1⟩:S55)]) l0 (l0.length:Int) (wrap64 (x8_1 + 1))) else (none))=some r:=by rw [if_neg (show ¬ (false=true) by decide)] at H;exact H
       clear H
       have H:=H1
       clear H1
       by_cases c10:x3_1.length < 4398046511104
       ·rw [if_pos c10] at H
        have LMc10:=Aside0.mk c10
        clear c10
        obtain ⟨y220,hy220⟩ : ∃ y_:List (S55),y_=(x3_1 ++ [(⟨(rd_T55 l0 x8_1).f0,(rd_T55 l0 x8_1).f1⟩:S55)]):=⟨_,rfl⟩
        replace H:(scrub_onward.l0 k1 l0 y220 l0 (l0.length:Int) (wrap64 (x8_1 + 1)))=some r:=by first|(rw [hy220];with_reducible exact H)|(have H2_:=(Option.bind_some _ _).symm.trans H;rw [hy220];with_reducible exact H2_)|(have H2_:=(Option.bind_some _ _).symm.trans H;with_reducible exact H2_)|with_reducible exact H|(rw [hy220];exact H)|exact H
        have Ny220:=Aside0.mk hy220
        clear hy220
        have H' := Aside0.mk H
        clear H
        have p217:0 ≤ (x8_1:Int):=of_decide_eq_true (by first|(with_reducible assumption)|assumption)
        have q217:x8_1 < (l0.length:Int):=of_decide_eq_true (by first|(with_reducible assumption)|assumption)
        obtain ⟨ad217,e217,hx217_0,hx217_1⟩:=at_T55 HR0.out x8_1 p217 q217
        cases e217
        replace hx217_0:=(HB.out.cell (World.block_lt_of_cell? w _ hx217_0)).trans hx217_0
        replace hx217_1:=(HB.out.cell (World.block_lt_of_cell? w _ hx217_1)).trans hx217_1
        replace p217:=eq_true p217
        replace q217:=eq_true q217
        go_wp2_with (first|((with_reducible refine gate_dst (N:=5) rfl ?_);refine box_event ?hg (N:=5) ?hd (cs:=#[.string (⟨#[]⟩:ByteArray),.string (⟨#[]⟩:ByteArray)]) (t:=55) ?hr ?_;(case hd=>rfl);(case hg=>rfl);(case hr=>first|(go_simp;done)|(go_simp;rfl));intro gb218 hg w11 hbox hb;have n0_:=Aside0.mk (Kd.R_below (Kd.R_elderB (by (with_reducible repeat (first|apply Kd.R_alloc|apply Kd.R_drewN|apply Kd.R_drew));exact HO_3.out) gb218 (Nat.le_of_eq hg.symm)) hb);have n1_:=Aside0.mk (below_step (by repeat (first|(with_reducible first|exact HB.out|apply below_alloc|apply pw_below_drewN|apply below_drew1)|exact HB.out)) hb);have n2_:=Aside0.mk (hbox);have n3_:=Aside0.mk ((by rw [hg];exact (below_size (by repeat (first|(with_reducible first|exact HB.out|apply below_alloc|apply pw_below_drewN|apply below_drew1)|exact HB.out))):w.heap.size ≤ gb218));have n4_:=Aside0.mk ((by rw [hg];exact (below_size (by repeat (first|(with_reducible first|exact HB.out|apply below_alloc|apply pw_below_drewN|apply below_drew1)|exact HB.out))):w.heap.size ≤ gb218));clear HO_3;clear HB;have HO_3:=n0_;have HB:=n1_;have BK218:=n2_;have GW218:=n3_;have GE218:=n4_;clear n0_ n1_ n2_ n3_ n4_;clear hb hbox hg;have hcz12_0:w11.cell? ⟨gb218,0,none⟩=some (.string (⟨#[]⟩:ByteArray)):=(blk_cell BK218.out 0).trans rfl;have hcz12_1:w11.cell? ⟨gb218,1,none⟩=some (.string (⟨#[]⟩:ByteArray)):=(blk_cell BK218.out 1).trans rfl;have hfz12_0:=blk_frozen BK218.out 0;have hfz12_1:=blk_frozen BK218.out 1)|((with_reducible refine gate_callee (f:=42) rfl ?_);refine goesL_ (some 15) rfl rfl Tryz.func42 (by kernel_rfl) rfl #[.slice (some ad217) l0.length c0,.string ((rd_T55 l0 x8_1).f0)] rfl (by (try simp only [List.map_toArray,List.map_cons,List.map_nil]);first|done|rfl|(simp only [List.length_drop,List.length_take];rfl)) ?_;(with_reducible refine (scrub_Hop.calls k1 _ _ l0 ((rd_T55 l0 x8_1).f0) false _ ?side1 ?side2 A5.out).mono ?_);(case side1=>exact Kd.C_below HR0.out (by repeat (first|(with_reducible first|exact HB.out|apply below_alloc|apply pw_below_drewN|apply below_drew1|refine below_set ?_ GE218.out)|exact HB.out)));(case side2=>exact HC0.out);rintro e w13 ⟨rfl,hb⟩;(try clear A5);refine ⟨_,rfl,?_⟩;have n0_:=Aside0.mk (Kd.R_below (by (with_reducible repeat (first|apply Kd.R_alloc|apply Kd.R_drewN|apply Kd.R_drew));exact (Kd.R_mono (Kd.R_far (p:=⟨gb218,1,none⟩) (Kd.R_far (p:=⟨gb218,0,none⟩) (Kd.R_mono HO_3.out (fun k_ hk=>(⟨hk,hk.2⟩:_∧k_ ≠ gb218))) (fun _ hk=>hk.2) (.string ((rd_T55 l0 x8_1).f0))) (fun _ hk=>hk.2) (.string ((rd_T55 l0 x8_1).f1))) (fun _ h_=>h_.1))) hb);have n1_:=Aside0.mk (blk_below (g:=gb218) (o:=.cells #[.string ((rd_T55 l0 x8_1).f0),.string ((rd_T55 l0 x8_1).f1)] 55 (0,0)) (by (with_reducible repeat (first|refine blk_drewN ?_ _|refine blk_drew ?_|refine blk_alloc ?_ _));refine blk_put (cs:=#[.string ((rd_T55 l0 x8_1).f0),.string (⟨#[]⟩:ByteArray)]) ?_ 1 _ rfl;(with_reducible repeat (first|refine blk_drewN ?_ _|refine blk_drew ?_|refine blk_alloc ?_ _));refine blk_put (cs:=#[.string (⟨#[]⟩:ByteArray),.string (⟨#[]⟩:ByteArray)]) ?_ 0 _ rfl;(with_reducible repeat (first|refine blk_drewN ?_ _|refine blk_drew ?_|refine blk_alloc ?_ _));exact BK218.out) hb);have n2_:=Aside0.mk (below_step (by repeat (first|(with_reducible first|exact HB.out|apply below_alloc|apply pw_below_drewN|apply below_drew1|refine below_set ?_ GE218.out)|exact HB.out)) hb);clear HO_3;clear BK218;clear HB;have HO_3:=n0_;have BK218:=n1_;have HB:=n2_;clear n0_ n1_ n2_;(try clear hb);(try clear hb2);(try clear hk);(try clear hi);have hcz14_0:w13.cell? ⟨gb218,0,none⟩=some (.string ((rd_T55 l0 x8_1).f0)):=(blk_cell BK218.out 0).trans rfl;have hcz14_1:w13.cell? ⟨gb218,1,none⟩=some (.string ((rd_T55 l0 x8_1).f1)):=(blk_cell BK218.out 1).trans rfl;have hfz14_0:=blk_frozen BK218.out 0;have hfz14_1:=blk_frozen BK218.out 1)|((with_reducible refine gate_builtin (b:=.append) (xs:=#[.tmp 17,.tmp 19]) rfl ?_);at_builtin;refine Kd.R_append k55 (w0:=w) w.heap.size rfl (.tmp 17) (.tmp 19) 22 55 (.agg #[(.string ⟨#[]⟩),(.string ⟨#[]⟩)]) 32 rfl Tryz.underlying22 info55 rfl (by decide) (by omega) u3 x3_1 (⟨(rd_T55 l0 x8_1).f0,(rd_T55 l0 x8_1).f1⟩:S55) [.string ((rd_T55 l0 x8_1).f0),.string ((rd_T55 l0 x8_1).f1)] (fun k_=>k_ ≠ gb218) (fun _=>False) rfl rfl ?aP (fun _ hk=>hk.elim) ?aF ?aO ?aB ?aS ?aL ?_;(case aP=>exact k55_mkM _ _ _ (⟨(rd_T55 l0 x8_1).f0,(rd_T55 l0 x8_1).f1⟩:S55));(case aB=>exact (by repeat (first|(with_reducible first|exact HB.out|apply below_alloc|apply pw_below_drewN|apply below_drew1|refine below_set ?_ GE218.out)|exact HB.out)));(case aF=>exact (fun k_ hk=>Kd.freshB (g:=gb218) (o:=.cells #[.string ((rd_T55 l0 x8_1).f0),.string ((rd_T55 l0 x8_1).f1)] 55 (0,0)) (by (with_reducible repeat (first|refine blk_drewN ?_ _|refine blk_drew ?_|refine blk_alloc ?_ _));exact BK218.out) k_ hk));(case aO=>exact (by (with_reducible repeat (first|apply Kd.R_alloc|apply Kd.R_drewN|apply Kd.R_drew));exact Kd.R_mono HO_3.out (fun _ hk=>hk.2)));(case aS=>exact (below_size (by repeat (first|(with_reducible first|exact HB.out|apply below_alloc|apply pw_below_drewN|apply below_drew1|refine below_set ?_ GE218.out)|exact HB.out))));(case aL=>have:=LMc10.out;omega);intro v221 w15 ho hb hg hat;rw [← Ny220.out] at ho;have n0_:=Aside0.mk (blk_grown (g:=gb218) (o:=.cells #[.string ((rd_T55 l0 x8_1).f0),.string ((rd_T55 l0 x8_1).f1)] 55 (0,0)) (by (with_reducible repeat (first|refine blk_drewN ?_ _|refine blk_drew ?_|refine blk_alloc ?_ _));exact BK218.out) hg (Kd.R_away HO_3.out (fun _ hk=>hk.2)));have n1_:=Aside0.mk (hb);have n2_:=Aside0.mk (ho);clear BK218;clear HB;clear HO_3;have BK218:=n0_;have HB:=n1_;have HO222:=n2_;clear n0_ n1_ n2_;clear ho hb hg hat))
        go_roundg k1
        case measure=>have:=HK1.out;omega
        case rel=>exact ⟨(y220),(wrap64 (x8_1 + 1)),(by first|rfl|(simp;done)|(simp [*];done)),H',⟨by have:=HK1.out;omega⟩,⟨by (with_reducible repeat (first|apply Kd.R_alloc|apply Kd.R_drewN|apply Kd.R_drew));exact Kd.R_mono HO222.out (fun _ hk=>trivial)⟩,⟨by repeat (first|(with_reducible first|exact HB.out|apply below_alloc|apply pw_below_drewN|apply below_drew1|refine below_set ?_ GE218.out)|exact HB.out)⟩⟩
       ·rw [if_neg c10] at H
        exact absurd H (by simp)
     ·rw [if_neg c4] at H
      exact absurd H (by simp)
    ·rw [if_neg c3] at H
     exact absurd H (by simp)
   ·rw [if_neg c2] at H
    have c2b0:decide (x8_1 < (l0.length:Int))=false:=decide_eq_false c2
    clear c2
    obtain rfl:=Option.some.inj H
    go_wp2
    go_ret
    exact ⟨_,by first|rfl|(simp [errW_none,errW_some] <;> rfl)|(simp [*,errW_none,errW_some] <;> rfl),by (with_reducible repeat (first|apply Kd.R_alloc|apply Kd.R_drewN|apply Kd.R_drew));exact HO_3.out,by repeat (first|(with_reducible first|exact HB.out|apply below_alloc|apply pw_below_drewN|apply below_drew1)|exact HB.out)⟩
def scrub_Response.j0:Nat → Bool → Bool → Int → ByteArray → Int → List (S55) → List Int → Int → ByteArray → Int → List (S55) → Option (Int × ByteArray × Int × (List (S55)) × List Int)
 | 0,_,_,_,_,_,_,_,_,_,_,_=>none
 | k + 1,x2,x31,x271000,x271001,x271002,x271003,x271004,x276000,x276001,x276002,x276003=>if x31=true then ((bytes_Clone.f x271004).bind fun t279=>((scrub_length.f (x271004.length:Int)).bind fun bt282=>(if x276003.length < 4398046511104 then ((some (x276003 ++ [(⟨bt282.1,bt282.2⟩:S55)]:List (S55))).bind fun y284=>(if x2=true then ((scrub_closing.f).bind fun bt287=>(if y284.length < 4398046511104 then (some (x276000,x276001,x276002,(y284 ++ [(⟨bt287.1,bt287.2⟩:S55)]),t279)) else (none))) else (some (x276000,x276001,x276002,y284,t279)))) else (none)))) else (if x2=true then ((scrub_closing.f).bind fun bt292=>(if x276003.length < 4398046511104 then (some (x276000,x276001,x276002,(x276003 ++ [(⟨bt292.1,bt292.2⟩:S55)]),([]:List Int))) else (none))) else (some (x276000,x276001,x276002,x276003,([]:List Int))))
def scrub_Response.f (k:Nat) (a0_0:Int) (a0_1:ByteArray) (a0_2:Int) (l0_3:List (S55)) (l0_4:List Int) (a1:ByteArray) (a2:Bool):Option (Int × ByteArray × Int × (List (S55)) × List Int):=(scrub_onward.f k l0_3).bind fun t272=>((frame_Response.f k a1 a0_0 a0_1 a0_2 l0_3 l0_4).bind fun bt276=>(if bt276.2.2=true then (scrub_Response.j0 k a2 (bt276.1 != 0) a0_0 a0_1 a0_2 l0_3 l0_4 a0_0 a0_1 1 t272) else (scrub_Response.j0 k a2 true a0_0 a0_1 a0_2 l0_3 l0_4 a0_0 a0_1 1 t272)))
def scrub_Response.T1:Bool × List (List Nat × List Nat):=(true,[([],[]),([0],[0]),([],[]),([2],[2]),([],[]),([4],[4]),([5],[5]),([1,3,6],[1,3,6]),([],[]),([8,7,6,0,1,2,3,4,5,6,7,8],[7,8])])
def scrub_Response.B1:List Nat:=[0,1,0,4,0,16,48,127,0,511]
theorem scrub_Response.tab1:rtab .any (opsOf Tryz.f15 1)=scrub_Response.T1:=by kernel_rfl
theorem scrub_Response.bits1:waitsOk scrub_Response.T1.2 scrub_Response.B1=true:=by kernel_rfl
def scrub_Response.T5:Bool × List (List Nat × List Nat):=(true,[([],[]),([0],[0]),([],[]),([2],[2]),([3],[3]),([4],[4]),([5],[5]),([1,6,5],[1,6]),([0,1,2,3,4,5,6,7],[]),([8,7,7,0,1,2,3,4,5,6,7],[7,8])])
def scrub_Response.B5:List Nat:=[0,1,0,4,12,28,60,127,255,511]
theorem scrub_Response.tab5:rtab .any (opsOf Tryz.f15 5)=scrub_Response.T5:=by kernel_rfl
theorem scrub_Response.bits5:waitsOk scrub_Response.T5.2 scrub_Response.B5=true:=by kernel_rfl
set_option maxHeartbeats 8000000 in
set_option maxRecDepth 100000 in
theorem scrub_Response.calls (k:Nat) (a0_0:Int) (a0_1:ByteArray) (a0_2:Int) (A0_3:Option Addr) (c0_3:Nat) (l0_3:List (S55)) (A0_4:Option Addr) (c0_4:Nat) (l0_4:List Int) (a1:ByteArray) (a2:Bool) (r1:Int) (r2:ByteArray) (r3:Int) (r4:List (S55)) (r5:List Int) (w:World) (hr0_3:Kd.C k55 w A0_3 l0_3.length l0_3) (hc0_3:l0_3.length ≤ c0_3) (hr0_4:Kd.C (Kd.int .u8) w A0_4 l0_4.length l0_4) (hc0_4:l0_4.length ≤ c0_4) (h:scrub_Response.f k a0_0 a0_1 a0_2 l0_3 l0_4 a1 a2=some (r1,r2,r3,r4,r5)) (ht:Tabs w) :
  Calls Tryz.prog 15 #[.agg #[.int .i64 a0_0,.string a0_1,.int .i64 a0_2,.slice A0_3 l0_3.length c0_3,.slice A0_4 l0_4.length c0_4],.string a1,.bool a2] w fun e w' => ∃ v3_ v4_:Value,e = .returned (.agg #[.int .i64 r1,.string r2,.int .i64 r3,v3_,v4_])∧Kd.R k55 55 w' w.heap.size (fun _=>True) v3_ r4∧Kd.R (Kd.int .u8) 5 w' w.heap.size (fun _=>True) v4_ r5∧Below w.heap.size w w' := by
 have HTB:=Aside0.mk ht
 clear ht
 have hu25:=Tryz.underlying25
 have HR0_3:=Aside0.mk hr0_3
 have HC0_3:=Aside0.mk hc0_3
 clear hr0_3 hc0_3
 have HR0_4:=Aside0.mk hr0_4
 have HC0_4:=Aside0.mk hc0_4
 clear hr0_4 hc0_4
 have HB:=Aside0.mk (Below.refl w.heap.size w)
 have H:((scrub_onward.f k l0_3).bind fun t90=>((frame_Response.f k a1 a0_0 a0_1 a0_2 l0_3 l0_4).bind fun bt276=>(if bt276.2.2=true then (scrub_Response.j0 k a2 (bt276.1 != 0) a0_0 a0_1 a0_2 l0_3 l0_4 a0_0 a0_1 1 t90) else (scrub_Response.j0 k a2 true a0_0 a0_1 a0_2 l0_3 l0_4 a0_0 a0_1 1 t90))))=some (r1,r2,r3,r4,r5):=h
 clear h
 replace H:=Option.bind_eq_some_iff.mp H
 obtain ⟨t90,A40,H⟩:=H
 replace H:((frame_Response.f k a1 a0_0 a0_1 a0_2 l0_3 l0_4).bind fun bt276=>(if bt276.2.2=true then (scrub_Response.j0 k a2 (bt276.1 != 0) a0_0 a0_1 a0_2 l0_3 l0_4 a0_0 a0_1 1 t90) else (scrub_Response.j0 k a2 true a0_0 a0_1 a0_2 l0_3 l0_4 a0_0 a0_1 1 t90)))=some (r1,r2,r3,r4,r5):=H
 have A4:=Aside0.mk A40
 clear A40
 replace H:=Option.bind_eq_some_iff.mp H
 obtain ⟨⟨t276,t277,t278⟩,A50,H⟩:=H
 replace H:(if t278=true then (scrub_Response.j0 k a2 (t276 != 0) a0_0 a0_1 a0_2 l0_3 l0_4 a0_0 a0_1 1 t90) else (scrub_Response.j0 k a2 true a0_0 a0_1 a0_2 l0_3 l0_4 a0_0 a0_1 1 t90))=some (r1,r2,r3,r4,r5):=H
 have A5:=Aside0.mk A50
 clear A50
 have HC6:=Aside0.mk H
 clear H
 go_enter Tryz.func15,Tryz.ntmps15
 try go_wp2_with (first|((with_reducible refine gate_dst (N:=3) rfl ?_);refine box_event ?hg (N:=3) ?hd (cs:=#[.int .i64 a0_0,.string a0_1,.int .i64 a0_2,.slice A0_3 l0_3.length c0_3,.slice A0_4 l0_4.length c0_4]) (t:=25) ?hr ?_;(case hd=>rfl);(case hg=>rfl);(case hr=>first|(go_simp;done)|(go_simp;rfl));intro gb87 hg w7 hbox hb;have n0_:=Aside0.mk (below_step (by repeat (first|(with_reducible first|exact HB.out|apply below_alloc|apply pw_below_drewN|apply below_drew1)|exact HB.out)) hb);have n1_:=Aside0.mk (hbox);have n2_:=Aside0.mk ((by rw [hg];exact (below_size (by repeat (first|(with_reducible first|exact HB.out|apply below_alloc|apply pw_below_drewN|apply below_drew1)|exact HB.out))):w.heap.size ≤ gb87));have n3_:=Aside0.mk ((by rw [hg];exact (below_size (by repeat (first|(with_reducible first|exact HB.out|apply below_alloc|apply pw_below_drewN|apply below_drew1)|exact HB.out))):w.heap.size ≤ gb87));clear HB;have HB:=n0_;have BK87:=n1_;have GW87:=n2_;have GE87:=n3_;clear n0_ n1_ n2_ n3_;clear hb hbox hg)|((with_reducible refine gate_dst (N:=6) rfl ?_);refine box_event ?hg (N:=6) ?hd (cs:=#[.int .i64 0,.string (⟨#[]⟩:ByteArray),.int .i64 0,.slice none 0 0,.slice none 0 0]) (t:=25) ?hr ?_;(case hd=>rfl);(case hg=>rfl);(case hr=>first|(go_simp;done)|(go_simp;rfl));intro gb88 hg w8 hbox hb;have n0_:=Aside0.mk (blk_below (g:=gb87) (o:=.cells #[.int .i64 a0_0,.string a0_1,.int .i64 a0_2,.slice A0_3 l0_3.length c0_3,.slice A0_4 l0_4.length c0_4] 25 (0,0)) (by (with_reducible repeat (first|refine blk_drewN ?_ _|refine blk_drew ?_|refine blk_alloc ?_ _));exact BK87.out) hb);have n1_:=Aside0.mk (below_step (by repeat (first|(with_reducible first|exact HB.out|apply below_alloc|apply pw_below_drewN|apply below_drew1|refine below_set ?_ GE87.out)|exact HB.out)) hb);have n2_:=Aside0.mk (hbox);have n3_:=Aside0.mk ((by rw [hg];exact (below_size (by repeat (first|(with_reducible first|exact HB.out|apply below_alloc|apply pw_below_drewN|apply below_drew1|refine below_set ?_ GE87.out)|exact HB.out))):w.heap.size ≤ gb88));have n4_:=Aside0.mk ((by rw [hg];exact (below_size (by repeat (first|(with_reducible first|exact HB.out|apply below_alloc|apply pw_below_drewN|apply below_drew1|refine below_set ?_ GE87.out)|exact HB.out))):w.heap.size ≤ gb88));have n5_:=Aside0.mk ((by rw [hg];exact Nat.ne_of_lt (blk_lt (g:=gb87) (o:=.cells #[.int .i64 a0_0,.string a0_1,.int .i64 a0_2,.slice A0_3 l0_3.length c0_3,.slice A0_4 l0_4.length c0_4] 25 (0,0)) (by (with_reducible repeat (first|refine blk_drewN ?_ _|refine blk_drew ?_|refine blk_alloc ?_ _));exact BK87.out)):gb87 ≠ gb88));have n6_:=Aside0.mk ((by rw [hg];exact Nat.ne_of_gt (blk_lt (g:=gb87) (o:=.cells #[.int .i64 a0_0,.string a0_1,.int .i64 a0_2,.slice A0_3 l0_3.length c0_3,.slice A0_4 l0_4.length c0_4] 25 (0,0)) (by (with_reducible repeat (first|refine blk_drewN ?_ _|refine blk_drew ?_|refine blk_alloc ?_ _));exact BK87.out)):gb88 ≠ gb87));clear BK87;clear HB;have BK87:=n0_;have HB:=n1_;have BK88:=n2_;have GW88:=n3_;have GE88:=n4_;have NB87_271:=n5_;have NB88_270:=n6_;clear n0_ n1_ n2_ n3_ n4_ n5_ n6_;clear hb hbox hg))
 replace BK87:=Aside0.mk (blk_drew BK87.out)
 replace BK88:=Aside0.mk (blk_drew BK88.out)
 replace HB:=Aside0.mk (below_drew1 HB.out)
 refine start_ (n:=10) (S:=fun w' => w'.cell? ⟨gb87,0,none⟩=some (.int .i64 a0_0)∧w'.cell? ⟨gb87,1,none⟩=some (.string a0_1)∧w'.cell? ⟨gb87,2,none⟩=some (.int .i64 a0_2)∧w'.cell? ⟨gb87,3,none⟩=some (.slice A0_3 l0_3.length c0_3)∧w'.cell? ⟨gb87,4,none⟩=some (.slice A0_4 l0_4.length c0_4)) (ds:=[]) #[false,false,false,false,false,false,false,false,false,false] (by kernel_rfl) rfl rfl ⟨(blk_cell BK87.out 0).trans rfl,(blk_cell BK87.out 1).trans rfl,(blk_cell BK87.out 2).trans rfl,(blk_cell BK87.out 3).trans rfl,(blk_cell BK87.out 4).trans rfl⟩ (fun hHeld=>?_);refine with_tabW scrub_Response.tab1 scrub_Response.bits1 (fun HT_ HW_=>?_)
 generalize w8.drew=w9 at BK87 BK88 HB hHeld ⊢
 refine pure_ (i:=0) (N:=some 11) (v:=?_) (a' := ?_) #[true,false,false,false,false,false,false,false,false,false] rfl rfl (any_of HT_.out (by kernel_rfl)) (fun _ _ _ h=>h) (Or.inl ⟨by rfl,?_⟩) ?_ ?_
 rotate_left
 ·intro w';go_simp;with_reducible rfl
 rotate_left
 ·simp only [Act.put,zqA,zqB,zqC,i64_w,i32_w];rfl
 refine pure_ (i:=2) (N:=some 13) (v:=?_) (a' := ?_) #[true,false,true,false,false,false,false,false,false,false] rfl rfl (any_of HT_.out (by kernel_rfl)) (fun _ _ _ h=>h) (Or.inl ⟨by rfl,?_⟩) ?_ ?_
 rotate_left
 ·intro w';go_simp;with_reducible rfl
 rotate_left
 ·simp only [Act.put,zqA,zqB,zqC,i64_w,i32_w];rfl
 refine pure_ (i:=4) (N:=some 15) (v:=?_) (a' := ?_) #[true,false,true,false,true,false,false,false,false,false] rfl rfl (any_of HT_.out (by kernel_rfl)) (fun _ _ _ h=>h) (Or.inl ⟨by rfl,?_⟩) ?_ ?_
 rotate_left
 ·intro w';go_simp;with_reducible rfl
 rotate_left
 ·simp only [Act.put,zqA,zqB,zqC,i64_w,i32_w];rfl
 refine take_ (i:=1) (N:=some 12) (v:=?_) (a' := ?_) #[true,true,true,false,true,false,false,false,false,false] rfl rfl (take_ofW HT_.out HW_.out (by kernel_rfl)) (fun _ _ _ h=>h) (Or.inl ⟨by rfl,?_⟩) hHeld ?_ ?_
 rotate_left
 ·rintro w' ⟨s0,s1,s2,s3,s4⟩;go_simp;with_reducible rfl
 rotate_left
 ·simp only [Act.put,zqA,zqB,zqC,i64_w,i32_w];rfl
 refine take_ (i:=3) (N:=some 14) (v:=?_) (a' := ?_) #[true,true,true,true,true,false,false,false,false,false] rfl rfl (take_ofW HT_.out HW_.out (by kernel_rfl)) (fun _ _ _ h=>h) (Or.inl ⟨by rfl,?_⟩) hHeld ?_ ?_
 rotate_left
 ·rintro w' ⟨s0,s1,s2,s3,s4⟩;go_simp;with_reducible rfl
 rotate_left
 ·simp only [Act.put,zqA,zqB,zqC,i64_w,i32_w];rfl
 refine take_ (i:=5) (N:=some 16) (v:=?_) (a' := ?_) #[true,true,true,true,true,true,false,false,false,false] rfl rfl (take_ofW HT_.out HW_.out (by kernel_rfl)) (fun _ _ _ h=>h) (Or.inl ⟨by rfl,?_⟩) hHeld ?_ ?_
 rotate_left
 ·rintro w' ⟨s0,s1,s2,s3,s4⟩;go_simp;with_reducible rfl
 rotate_left
 ·simp only [Act.put,zqA,zqB,zqC,i64_w,i32_w];rfl
 refine join_ (σ:=Value × Nat) 1 #[true,true,true,true,true,true,true,true,true,false] (fun s_=>[(17,s_.1),(7,.pointer (some ⟨s_.2,0,none⟩)),(18,.agg #[.int .i64 a0_0,.string a0_1,.int .i64 1,s_.1,.slice none 0 0])]) (fun s_ w' => (w'.cell? ⟨gb87,0,none⟩=some (.int .i64 a0_0)∧w'.cell? ⟨gb87,1,none⟩=some (.string a0_1)∧w'.cell? ⟨gb87,2,none⟩=some (.int .i64 a0_2)∧w'.cell? ⟨gb87,3,none⟩=some (.slice A0_3 l0_3.length c0_3)∧w'.cell? ⟨gb87,4,none⟩=some (.slice A0_4 l0_4.length c0_4))∧(Kd.R k55 55 w' w.heap.size (fun _=>True) s_.1 t90)∧(w'.heap[gb87]? = some (.cells #[.int .i64 a0_0,.string a0_1,.int .i64 a0_2,.slice A0_3 l0_3.length c0_3,.slice A0_4 l0_4.length c0_4] 25 (0,0)))∧(w'.heap[gb88]? = some (.cells #[.int .i64 0,.string (⟨#[]⟩:ByteArray),.int .i64 0,.slice none 0 0,.slice none 0 0] 25 (0,0)))∧(w'.heap[s_.2]? = some (.cells #[.int .i64 0,.string (⟨#[]⟩:ByteArray),.int .i64 0,.slice none 0 0,.slice none 0 0] 25 (0,0)))∧(w.heap.size ≤ s_.2)∧(w.heap.size ≤ s_.2)∧(gb87 ≠ s_.2)∧(s_.2 ≠ gb87)∧(gb88 ≠ s_.2)∧(s_.2 ≠ gb88)∧(Below w.heap.size w w')) ?_ ?_
 rotate_left
 ·intro hCont
  refine two_ (i:=6) (j:=8) (Ni:=some 17) (Nj:=some 7) #[true,true,true,true,true,true,true,false,false,false] #[true,true,true,true,true,true,false,false,true,false] rfl rfl rfl rfl (two_of HT_.out (by kernel_rfl)) (by decide) (by decide) (fun K hK=>?_) (fun K hK=>?_)
  ·skip
   refine goes_ Tryz.func43 (by kernel_rfl) rfl #[.slice A0_3 l0_3.length c0_3] (by rfl) rfl rfl (by (try simp only [List.map_toArray,List.map_cons,List.map_nil]);first|done|rfl|(simp only [List.length_drop,List.length_take];rfl)) ?_
   with_reducible refine (scrub_onward.calls k _ _ l0_3 t90 _ ?side1 ?side2 A4.out).mono ?_
   (case side1=>repeat (first|exact (Kd.C_below HR0_3.out HB.out)|(with_reducible refine Kd.C_alloc ?_ _)|(with_reducible refine Kd.C_drewN ?_ _)|(with_reducible refine Kd.C_drew ?_)))
   (case side2=>exact HC0_3.out)
   rintro e w10 ⟨v273,rfl,ho0,hb⟩
   refine ⟨_,rfl,?_⟩
   have n0_:=Aside0.mk (Kd.R_lower ho0 (below_size (by repeat (first|(with_reducible first|exact HB.out|apply below_alloc|apply pw_below_drewN|apply below_drew1|refine below_set ?_ GE87.out|refine below_set ?_ GE88.out)|exact HB.out))))
   have n1_:=Aside0.mk (blk_below (g:=gb87) (o:=.cells #[.int .i64 a0_0,.string a0_1,.int .i64 a0_2,.slice A0_3 l0_3.length c0_3,.slice A0_4 l0_4.length c0_4] 25 (0,0)) (by (with_reducible repeat (first|refine blk_drewN ?_ _|refine blk_drew ?_|refine blk_alloc ?_ _));exact BK87.out) hb)
   have n2_:=Aside0.mk (blk_below (g:=gb88) (o:=.cells #[.int .i64 0,.string (⟨#[]⟩:ByteArray),.int .i64 0,.slice none 0 0,.slice none 0 0] 25 (0,0)) (by (with_reducible repeat (first|refine blk_drewN ?_ _|refine blk_drew ?_|refine blk_alloc ?_ _));exact BK88.out) hb)
   have n3_:=Aside0.mk (below_step (by repeat (first|(with_reducible first|exact HB.out|apply below_alloc|apply pw_below_drewN|apply below_drew1|refine below_set ?_ GE87.out|refine below_set ?_ GE88.out)|exact HB.out)) hb)
   clear BK87 BK88 HB
   have HO97:=n0_
   have BK87:=n1_
   have BK88:=n2_
   have HB:=n3_
   clear n0_ n1_ n2_ n3_
   (try clear hb)
   (try clear hb2)
   (try clear hk)
   (try clear hi)
   (try clear ho0)
   obtain ⟨Ao11,co11,eo11⟩:=Kd.R_slice HO97.out
   (first|subst eo11|(injection eo11 with f1_ f2_ f3_;have f4_:=f1_.symm;have f5_:=f3_.symm;clear f1_ f2_ f3_;subst f4_;subst f5_))
   refine hK.out _ _ ⟨(blk_cell BK87.out 0).trans rfl,(blk_cell BK87.out 1).trans rfl,(blk_cell BK87.out 2).trans rfl,(blk_cell BK87.out 3).trans rfl,(blk_cell BK87.out 4).trans rfl⟩ (fun hHeld=>?_)
   clear hK K
   refine norm_ (a' := ?_) ?_ ?_
   rotate_left
   ·show Act.put _ (some 17) _=_
    simp only [Act.put,zqA,zqB,zqC,i64_w,i32_w]
    rfl
   refine pure_ (i:=7) (N:=some 18) (v:=?_) (a' := ?_) #[true,true,true,true,true,true,true,true,false,false] rfl rfl (any_of HT_.out (by kernel_rfl)) (fun _ _ _ h=>h) (Or.inl ⟨by rfl,?_⟩) ?_ ?_
   rotate_left
   ·intro w';go_simp;with_reducible rfl
   rotate_left
   ·simp only [Act.put,zqA,zqB,zqC,i64_w,i32_w];rfl
   refine one_ (i:=8) (N:=some 7) #[true,true,true,true,true,true,true,true,true,false] rfl rfl (one_of HT_.out (by kernel_rfl)) (by decide) (fun K hK=>?_)
   refine box_step ?hg (N:=7) ?hd (cs:=#[.int .i64 0,.string (⟨#[]⟩:ByteArray),.int .i64 0,.slice none 0 0,.slice none 0 0]) (t:=25) ?hr ?_;(case hd=>rfl);(case hg=>rfl);(case hr=>first|(go_simp;done)|(go_simp;rfl))
   intro gb86 hg w12 hbox hb
   have n0_:=Aside0.mk (Kd.R_below (by (with_reducible repeat (first|apply Kd.R_alloc|apply Kd.R_drewN|apply Kd.R_drew));exact HO97.out) hb)
   have n1_:=Aside0.mk (blk_below (g:=gb87) (o:=.cells #[.int .i64 a0_0,.string a0_1,.int .i64 a0_2,.slice A0_3 l0_3.length c0_3,.slice A0_4 l0_4.length c0_4] 25 (0,0)) (by (with_reducible repeat (first|refine blk_drewN ?_ _|refine blk_drew ?_|refine blk_alloc ?_ _));exact BK87.out) hb)
   have n2_:=Aside0.mk (blk_below (g:=gb88) (o:=.cells #[.int .i64 0,.string (⟨#[]⟩:ByteArray),.int .i64 0,.slice none 0 0,.slice none 0 0] 25 (0,0)) (by (with_reducible repeat (first|refine blk_drewN ?_ _|refine blk_drew ?_|refine blk_alloc ?_ _));exact BK88.out) hb)
   have n3_:=Aside0.mk (below_step (by repeat (first|(with_reducible first|exact HB.out|apply below_alloc|apply pw_below_drewN|apply below_drew1|refine below_set ?_ GE87.out|refine below_set ?_ GE88.out)|exact HB.out)) hb)
   have n4_:=Aside0.mk (hbox)
   have n5_:=Aside0.mk ((by rw [hg];exact (below_size (by repeat (first|(with_reducible first|exact HB.out|apply below_alloc|apply pw_below_drewN|apply below_drew1|refine below_set ?_ GE87.out|refine below_set ?_ GE88.out)|exact HB.out))):w.heap.size ≤ gb86))
   have n6_:=Aside0.mk ((by rw [hg];exact (below_size (by repeat (first|(with_reducible first|exact HB.out|apply below_alloc|apply pw_below_drewN|apply below_drew1|refine below_set ?_ GE87.out|refine below_set ?_ GE88.out)|exact HB.out))):w.heap.size ≤ gb86))
   have n7_:=Aside0.mk ((by rw [hg];exact Nat.ne_of_lt (blk_lt (g:=gb87) (o:=.cells #[.int .i64 a0_0,.string a0_1,.int .i64 a0_2,.slice A0_3 l0_3.length c0_3,.slice A0_4 l0_4.length c0_4] 25 (0,0)) (by (with_reducible repeat (first|refine blk_drewN ?_ _|refine blk_drew ?_|refine blk_alloc ?_ _));exact BK87.out)):gb87 ≠ gb86))
   have n8_:=Aside0.mk ((by rw [hg];exact Nat.ne_of_gt (blk_lt (g:=gb87) (o:=.cells #[.int .i64 a0_0,.string a0_1,.int .i64 a0_2,.slice A0_3 l0_3.length c0_3,.slice A0_4 l0_4.length c0_4] 25 (0,0)) (by (with_reducible repeat (first|refine blk_drewN ?_ _|refine blk_drew ?_|refine blk_alloc ?_ _));exact BK87.out)):gb86 ≠ gb87))
   have n9_:=Aside0.mk ((by rw [hg];exact Nat.ne_of_lt (blk_lt (g:=gb88) (o:=.cells #[.int .i64 0,.string (⟨#[]⟩:ByteArray),.int .i64 0,.slice none 0 0,.slice none 0 0] 25 (0,0)) (by (with_reducible repeat (first|refine blk_drewN ?_ _|refine blk_drew ?_|refine blk_alloc ?_ _));exact BK88.out)):gb88 ≠ gb86))
   have n10_:=Aside0.mk ((by rw [hg];exact Nat.ne_of_gt (blk_lt (g:=gb88) (o:=.cells #[.int .i64 0,.string (⟨#[]⟩:ByteArray),.int .i64 0,.slice none 0 0,.slice none 0 0] 25 (0,0)) (by (with_reducible repeat (first|refine blk_drewN ?_ _|refine blk_drew ?_|refine blk_alloc ?_ _));exact BK88.out)):gb86 ≠ gb88))
   clear HO97 BK87 BK88 HB
   have HO97:=n0_
   have BK87:=n1_
   have BK88:=n2_
   have HB:=n3_
   have BK86:=n4_
   have GW86:=n5_
   have GE86:=n6_
   have NB87_275:=n7_
   have NB86_270:=n8_
   have NB88_275:=n9_
   have NB86_271:=n10_
   clear n0_ n1_ n2_ n3_ n4_ n5_ n6_ n7_ n8_ n9_ n10_ hb hbox hg
   refine hK.out _ _ ⟨(blk_cell BK87.out 0).trans rfl,(blk_cell BK87.out 1).trans rfl,(blk_cell BK87.out 2).trans rfl,(blk_cell BK87.out 3).trans rfl,(blk_cell BK87.out 4).trans rfl⟩ (fun hHeld=>?_)
   clear hK K
   refine norm_ (a' := ?_) ?_ ?_
   rotate_left
   ·show Act.put _ (some 7) _=_
    simp only [Act.put,zqA,zqB,zqC,i64_w,i32_w]
    rfl
   exact norm_ (by simp only [putAll,Act.put,zqA,zqB,zqC]) (hCont (.slice Ao11 t90.length co11,gb86) _ ⟨hHeld,(by (with_reducible repeat (first|apply Kd.R_alloc|apply Kd.R_drewN|apply Kd.R_drew));exact HO97.out),(by (with_reducible repeat (first|refine blk_drewN ?_ _|refine blk_drew ?_|refine blk_alloc ?_ _));exact BK87.out),(by (with_reducible repeat (first|refine blk_drewN ?_ _|refine blk_drew ?_|refine blk_alloc ?_ _));exact BK88.out),(by (with_reducible repeat (first|refine blk_drewN ?_ _|refine blk_drew ?_|refine blk_alloc ?_ _));exact BK86.out),GW86.out,GE86.out,NB87_275.out,NB86_270.out,NB88_275.out,NB86_271.out,(by repeat (first|(with_reducible first|exact HB.out|apply below_alloc|apply pw_below_drewN|apply below_drew1|refine below_set ?_ GE87.out|refine below_set ?_ GE88.out|refine below_set ?_ GE86.out)|exact HB.out))⟩)
  ·skip
   refine box_step ?hg (N:=7) ?hd (cs:=#[.int .i64 0,.string (⟨#[]⟩:ByteArray),.int .i64 0,.slice none 0 0,.slice none 0 0]) (t:=25) ?hr ?_;(case hd=>rfl);(case hg=>rfl);(case hr=>first|(go_simp;done)|(go_simp;rfl))
   intro gb86 hg w10 hbox hb
   have n0_:=Aside0.mk (blk_below (g:=gb87) (o:=.cells #[.int .i64 a0_0,.string a0_1,.int .i64 a0_2,.slice A0_3 l0_3.length c0_3,.slice A0_4 l0_4.length c0_4] 25 (0,0)) (by (with_reducible repeat (first|refine blk_drewN ?_ _|refine blk_drew ?_|refine blk_alloc ?_ _));exact BK87.out) hb)
   have n1_:=Aside0.mk (blk_below (g:=gb88) (o:=.cells #[.int .i64 0,.string (⟨#[]⟩:ByteArray),.int .i64 0,.slice none 0 0,.slice none 0 0] 25 (0,0)) (by (with_reducible repeat (first|refine blk_drewN ?_ _|refine blk_drew ?_|refine blk_alloc ?_ _));exact BK88.out) hb)
   have n2_:=Aside0.mk (below_step (by repeat (first|(with_reducible first|exact HB.out|apply below_alloc|apply pw_below_drewN|apply below_drew1|refine below_set ?_ GE87.out|refine below_set ?_ GE88.out)|exact HB.out)) hb)
   have n3_:=Aside0.mk (hbox)
   have n4_:=Aside0.mk ((by rw [hg];exact (below_size (by repeat (first|(with_reducible first|exact HB.out|apply below_alloc|apply pw_below_drewN|apply below_drew1|refine below_set ?_ GE87.out|refine below_set ?_ GE88.out)|exact HB.out))):w.heap.size ≤ gb86))
   have n5_:=Aside0.mk ((by rw [hg];exact (below_size (by repeat (first|(with_reducible first|exact HB.out|apply below_alloc|apply pw_below_drewN|apply below_drew1|refine below_set ?_ GE87.out|refine below_set ?_ GE88.out)|exact HB.out))):w.heap.size ≤ gb86))
   have n6_:=Aside0.mk ((by rw [hg];exact Nat.ne_of_lt (blk_lt (g:=gb87) (o:=.cells #[.int .i64 a0_0,.string a0_1,.int .i64 a0_2,.slice A0_3 l0_3.length c0_3,.slice A0_4 l0_4.length c0_4] 25 (0,0)) (by (with_reducible repeat (first|refine blk_drewN ?_ _|refine blk_drew ?_|refine blk_alloc ?_ _));exact BK87.out)):gb87 ≠ gb86))
   have n7_:=Aside0.mk ((by rw [hg];exact Nat.ne_of_gt (blk_lt (g:=gb87) (o:=.cells #[.int .i64 a0_0,.string a0_1,.int .i64 a0_2,.slice A0_3 l0_3.length c0_3,.slice A0_4 l0_4.length c0_4] 25 (0,0)) (by (with_reducible repeat (first|refine blk_drewN ?_ _|refine blk_drew ?_|refine blk_alloc ?_ _));exact BK87.out)):gb86 ≠ gb87))
   have n8_:=Aside0.mk ((by rw [hg];exact Nat.ne_of_lt (blk_lt (g:=gb88) (o:=.cells #[.int .i64 0,.string (⟨#[]⟩:ByteArray),.int .i64 0,.slice none 0 0,.slice none 0 0] 25 (0,0)) (by (with_reducible repeat (first|refine blk_drewN ?_ _|refine blk_drew ?_|refine blk_alloc ?_ _));exact BK88.out)):gb88 ≠ gb86))
   have n9_:=Aside0.mk ((by rw [hg];exact Nat.ne_of_gt (blk_lt (g:=gb88) (o:=.cells #[.int .i64 0,.string (⟨#[]⟩:ByteArray),.int .i64 0,.slice none 0 0,.slice none 0 0] 25 (0,0)) (by (with_reducible repeat (first|refine blk_drewN ?_ _|refine blk_drew ?_|refine blk_alloc ?_ _));exact BK88.out)):gb86 ≠ gb88))
   clear BK87 BK88 HB
   have BK87:=n0_
   have BK88:=n1_
   have HB:=n2_
   have BK86:=n3_
   have GW86:=n4_
   have GE86:=n5_
   have NB87_275:=n6_
   have NB86_270:=n7_
   have NB88_275:=n8_
   have NB86_271:=n9_
   clear n0_ n1_ n2_ n3_ n4_ n5_ n6_ n7_ n8_ n9_ hb hbox hg
   refine hK.out _ _ ⟨(blk_cell BK87.out 0).trans rfl,(blk_cell BK87.out 1).trans rfl,(blk_cell BK87.out 2).trans rfl,(blk_cell BK87.out 3).trans rfl,(blk_cell BK87.out 4).trans rfl⟩ (fun hHeld=>?_)
   clear hK K
   refine norm_ (a' := ?_) ?_ ?_
   rotate_left
   ·show Act.put _ (some 7) _=_
    simp only [Act.put,zqA,zqB,zqC,i64_w,i32_w]
    rfl
   refine one_ (i:=6) (N:=some 17) #[true,true,true,true,true,true,true,false,true,false] rfl rfl (one_of HT_.out (by kernel_rfl)) (by decide) (fun K hK=>?_)
   refine goes_ Tryz.func43 (by kernel_rfl) rfl #[.slice A0_3 l0_3.length c0_3] (by rfl) rfl rfl (by (try simp only [List.map_toArray,List.map_cons,List.map_nil]);first|done|rfl|(simp only [List.length_drop,List.length_take];rfl)) ?_
   with_reducible refine (scrub_onward.calls k _ _ l0_3 t90 _ ?side1 ?side2 A4.out).mono ?_
   (case side1=>repeat (first|exact (Kd.C_below HR0_3.out HB.out)|(with_reducible refine Kd.C_alloc ?_ _)|(with_reducible refine Kd.C_drewN ?_ _)|(with_reducible refine Kd.C_drew ?_)))
   (case side2=>exact HC0_3.out)
   rintro e w11 ⟨v273,rfl,ho0,hb⟩
   refine ⟨_,rfl,?_⟩
   have n0_:=Aside0.mk (Kd.R_lower ho0 (below_size (by repeat (first|(with_reducible first|exact HB.out|apply below_alloc|apply pw_below_drewN|apply below_drew1|refine below_set ?_ GE87.out|refine below_set ?_ GE88.out|refine below_set ?_ GE86.out)|exact HB.out))))
   have n1_:=Aside0.mk (blk_below (g:=gb87) (o:=.cells #[.int .i64 a0_0,.string a0_1,.int .i64 a0_2,.slice A0_3 l0_3.length c0_3,.slice A0_4 l0_4.length c0_4] 25 (0,0)) (by (with_reducible repeat (first|refine blk_drewN ?_ _|refine blk_drew ?_|refine blk_alloc ?_ _));exact BK87.out) hb)
   have n2_:=Aside0.mk (blk_below (g:=gb88) (o:=.cells #[.int .i64 0,.string (⟨#[]⟩:ByteArray),.int .i64 0,.slice none 0 0,.slice none 0 0] 25 (0,0)) (by (with_reducible repeat (first|refine blk_drewN ?_ _|refine blk_drew ?_|refine blk_alloc ?_ _));exact BK88.out) hb)
   have n3_:=Aside0.mk (blk_below (g:=gb86) (o:=.cells #[.int .i64 0,.string (⟨#[]⟩:ByteArray),.int .i64 0,.slice none 0 0,.slice none 0 0] 25 (0,0)) (by (with_reducible repeat (first|refine blk_drewN ?_ _|refine blk_drew ?_|refine blk_alloc ?_ _));exact BK86.out) hb)
   have n4_:=Aside0.mk (below_step (by repeat (first|(with_reducible first|exact HB.out|apply below_alloc|apply pw_below_drewN|apply below_drew1|refine below_set ?_ GE87.out|refine below_set ?_ GE88.out|refine below_set ?_ GE86.out)|exact HB.out)) hb)
   clear BK87 BK88 BK86 HB
   have HO97:=n0_
   have BK87:=n1_
   have BK88:=n2_
   have BK86:=n3_
   have HB:=n4_
   clear n0_ n1_ n2_ n3_ n4_
   (try clear hb)
   (try clear hb2)
   (try clear hk)
   (try clear hi)
   (try clear ho0)
   obtain ⟨Ao12,co12,eo12⟩:=Kd.R_slice HO97.out
   (first|subst eo12|(injection eo12 with f1_ f2_ f3_;have f4_:=f1_.symm;have f5_:=f3_.symm;clear f1_ f2_ f3_;subst f4_;subst f5_))
   refine hK.out _ _ ⟨(blk_cell BK87.out 0).trans rfl,(blk_cell BK87.out 1).trans rfl,(blk_cell BK87.out 2).trans rfl,(blk_cell BK87.out 3).trans rfl,(blk_cell BK87.out 4).trans rfl⟩ (fun hHeld=>?_)
   clear hK K
   refine norm_ (a' := ?_) ?_ ?_
   rotate_left
   ·show Act.put _ (some 17) _=_
    simp only [Act.put,zqA,zqB,zqC,i64_w,i32_w]
    rfl
   refine pure_ (i:=7) (N:=some 18) (v:=?_) (a' := ?_) #[true,true,true,true,true,true,true,true,true,false] rfl rfl (any_of HT_.out (by kernel_rfl)) (fun _ _ _ h=>h) (Or.inl ⟨by rfl,?_⟩) ?_ ?_
   rotate_left
   ·intro w';go_simp;with_reducible rfl
   rotate_left
   ·simp only [Act.put,zqA,zqB,zqC,i64_w,i32_w];rfl
   exact norm_ (by simp only [putAll,Act.put,zqA,zqB,zqC]) (hCont (.slice Ao12 t90.length co12,gb86) _ ⟨hHeld,(by (with_reducible repeat (first|apply Kd.R_alloc|apply Kd.R_drewN|apply Kd.R_drew));exact HO97.out),(by (with_reducible repeat (first|refine blk_drewN ?_ _|refine blk_drew ?_|refine blk_alloc ?_ _));exact BK87.out),(by (with_reducible repeat (first|refine blk_drewN ?_ _|refine blk_drew ?_|refine blk_alloc ?_ _));exact BK88.out),(by (with_reducible repeat (first|refine blk_drewN ?_ _|refine blk_drew ?_|refine blk_alloc ?_ _));exact BK86.out),GW86.out,GE86.out,NB87_275.out,NB86_270.out,NB88_275.out,NB86_271.out,(by repeat (first|(with_reducible first|exact HB.out|apply below_alloc|apply pw_below_drewN|apply below_drew1|refine below_set ?_ GE87.out|refine below_set ?_ GE88.out|refine below_set ?_ GE86.out)|exact HB.out))⟩)
 rintro ⟨v273,gb86⟩ w13 ⟨hS_,h0_,h1_,h2_,h3_,h4_,h5_,h6_,h7_,h8_,h9_,h10_⟩
 have n0_:Aside0 (Kd.R k55 55 w13 w.heap.size (fun _=>True) v273 t90):=⟨h0_⟩
 have n1_:Aside0 (w13.heap[gb87]? = some (.cells #[.int .i64 a0_0,.string a0_1,.int .i64 a0_2,.slice A0_3 l0_3.length c0_3,.slice A0_4 l0_4.length c0_4] 25 (0,0))):=⟨h1_⟩
 have n2_:Aside0 (w13.heap[gb88]? = some (.cells #[.int .i64 0,.string (⟨#[]⟩:ByteArray),.int .i64 0,.slice none 0 0,.slice none 0 0] 25 (0,0))):=⟨h2_⟩
 have n3_:Aside0 (w13.heap[gb86]? = some (.cells #[.int .i64 0,.string (⟨#[]⟩:ByteArray),.int .i64 0,.slice none 0 0,.slice none 0 0] 25 (0,0))):=⟨h3_⟩
 have n4_:Aside0 (w.heap.size ≤ gb86):=⟨h4_⟩
 have n5_:Aside0 (w.heap.size ≤ gb86):=⟨h5_⟩
 have n6_:Aside0 (gb87 ≠ gb86):=⟨h6_⟩
 have n7_:Aside0 (gb86 ≠ gb87):=⟨h7_⟩
 have n8_:Aside0 (gb88 ≠ gb86):=⟨h8_⟩
 have n9_:Aside0 (gb86 ≠ gb88):=⟨h9_⟩
 have n10_:Aside0 (Below w.heap.size w w13):=⟨h10_⟩
 clear BK87 BK88 HB h0_ h1_ h2_ h3_ h4_ h5_ h6_ h7_ h8_ h9_ h10_
 have HO97:=n0_
 have BK87:=n1_
 have BK88:=n2_
 have BK86:=n3_
 have GW86:=n4_
 have GE86:=n5_
 have NB87_275:=n6_
 have NB86_270:=n7_
 have NB88_275:=n8_
 have NB86_271:=n9_
 have HB:=n10_
 clear n0_ n1_ n2_ n3_ n4_ n5_ n6_ n7_ n8_ n9_ n10_
 have hHeld:w13.cell? ⟨gb87,0,none⟩=some (.int .i64 a0_0)∧w13.cell? ⟨gb87,1,none⟩=some (.string a0_1)∧w13.cell? ⟨gb87,2,none⟩=some (.int .i64 a0_2)∧w13.cell? ⟨gb87,3,none⟩=some (.slice A0_3 l0_3.length c0_3)∧w13.cell? ⟨gb87,4,none⟩=some (.slice A0_4 l0_4.length c0_4):=hS_
 obtain ⟨Ao14,co14,eo14⟩:=Kd.R_slice HO97.out
 (first|subst eo14|(injection eo14 with f1_ f2_ f3_;have f4_:=f1_.symm;have f5_:=f3_.symm;clear f1_ f2_ f3_;subst f4_;subst f5_))
 refine norm_ (a' := ?_) ?_ ?_
 rotate_left
 ·simp only [putAll,Act.put,zqA,zqB,zqC];rfl
 refine one_ (i:=9) (N:=none) #[true,true,true,true,true,true,true,true,true,true] rfl rfl (one_of HT_.out (by kernel_rfl)) (by decide) (fun K hK=>?_)
 have hs15:w13.cell? ⟨gb86,0,none⟩=some (.int .i64 0):=(blk_cell BK86.out 0).trans rfl
 have hfs15:=blk_frozen BK86.out 0
 have hns15_0:=NB87_275.out
 have hns15_1:=NB88_275.out
 have hms15_0:=NB86_270.out
 have hms15_1:=NB86_271.out
 have hs16:w13.cell? ⟨gb86,1,none⟩=some (.string (⟨#[]⟩:ByteArray)):=(blk_cell BK86.out 1).trans rfl
 have hfs16:=blk_frozen BK86.out 1
 have hns16_0:=NB87_275.out
 have hns16_1:=NB88_275.out
 have hms16_0:=NB86_270.out
 have hms16_1:=NB86_271.out
 have hs17:w13.cell? ⟨gb86,2,none⟩=some (.int .i64 0):=(blk_cell BK86.out 2).trans rfl
 have hfs17:=blk_frozen BK86.out 2
 have hns17_0:=NB87_275.out
 have hns17_1:=NB88_275.out
 have hms17_0:=NB86_270.out
 have hms17_1:=NB86_271.out
 have hs18:w13.cell? ⟨gb86,3,none⟩=some (.slice none 0 0):=(blk_cell BK86.out 3).trans rfl
 have hfs18:=blk_frozen BK86.out 3
 have hns18_0:=NB87_275.out
 have hns18_1:=NB88_275.out
 have hms18_0:=NB86_270.out
 have hms18_1:=NB86_271.out
 have hs19:w13.cell? ⟨gb86,4,none⟩=some (.slice none 0 0):=(blk_cell BK86.out 4).trans rfl
 have hfs19:=blk_frozen BK86.out 4
 have hns19_0:=NB87_275.out
 have hns19_1:=NB88_275.out
 have hms19_0:=NB86_270.out
 have hms19_1:=NB86_271.out
 refine skip_ (w1:=?_) (by rfl) rfl ?_ ?_
 rotate_left
 ·go_simp
  rfl
 refine hK.out _ _ ⟨((cell_far (p:=⟨gb86,_,none⟩) NB87_275.out _).trans (((cell_far (p:=⟨gb86,_,none⟩) NB87_275.out _).trans (((cell_far (p:=⟨gb86,_,none⟩) NB87_275.out _).trans (((cell_far (p:=⟨gb86,_,none⟩) NB87_275.out _).trans (((cell_far (p:=⟨gb86,_,none⟩) NB87_275.out _).trans (hHeld.1)))))))))),((cell_far (p:=⟨gb86,_,none⟩) NB87_275.out _).trans (((cell_far (p:=⟨gb86,_,none⟩) NB87_275.out _).trans (((cell_far (p:=⟨gb86,_,none⟩) NB87_275.out _).trans (((cell_far (p:=⟨gb86,_,none⟩) NB87_275.out _).trans (((cell_far (p:=⟨gb86,_,none⟩) NB87_275.out _).trans (hHeld.2.1)))))))))),((cell_far (p:=⟨gb86,_,none⟩) NB87_275.out _).trans (((cell_far (p:=⟨gb86,_,none⟩) NB87_275.out _).trans (((cell_far (p:=⟨gb86,_,none⟩) NB87_275.out _).trans (((cell_far (p:=⟨gb86,_,none⟩) NB87_275.out _).trans (((cell_far (p:=⟨gb86,_,none⟩) NB87_275.out _).trans (hHeld.2.2.1)))))))))),((cell_far (p:=⟨gb86,_,none⟩) NB87_275.out _).trans (((cell_far (p:=⟨gb86,_,none⟩) NB87_275.out _).trans (((cell_far (p:=⟨gb86,_,none⟩) NB87_275.out _).trans (((cell_far (p:=⟨gb86,_,none⟩) NB87_275.out _).trans (((cell_far (p:=⟨gb86,_,none⟩) NB87_275.out _).trans (hHeld.2.2.2.1)))))))))),((cell_far (p:=⟨gb86,_,none⟩) NB87_275.out _).trans (((cell_far (p:=⟨gb86,_,none⟩) NB87_275.out _).trans (((cell_far (p:=⟨gb86,_,none⟩) NB87_275.out _).trans (((cell_far (p:=⟨gb86,_,none⟩) NB87_275.out _).trans (((cell_far (p:=⟨gb86,_,none⟩) NB87_275.out _).trans (hHeld.2.2.2.2))))))))))⟩ (fun hHeld=>?_)
 clear hK K
 refine done_ (done_of HT_.out (by kernel_rfl)) ?_
 have hnb20:=NB87_271.out
 have hnc20:=NB88_270.out
 have hnb21:=NB87_275.out
 have hnc21:=NB86_270.out
 have hcz22_0:w13.cell? ⟨gb87,0,none⟩=some (.int .i64 a0_0):=(blk_cell BK87.out 0).trans rfl
 have hcz22_1:w13.cell? ⟨gb87,1,none⟩=some (.string a0_1):=(blk_cell BK87.out 1).trans rfl
 have hcz22_2:w13.cell? ⟨gb87,2,none⟩=some (.int .i64 a0_2):=(blk_cell BK87.out 2).trans rfl
 have hcz22_3:w13.cell? ⟨gb87,3,none⟩=some (.slice A0_3 l0_3.length c0_3):=(blk_cell BK87.out 3).trans rfl
 have hcz22_4:w13.cell? ⟨gb87,4,none⟩=some (.slice A0_4 l0_4.length c0_4):=(blk_cell BK87.out 4).trans rfl
 have hfz22_0:=blk_frozen BK87.out 0
 have hfz22_1:=blk_frozen BK87.out 1
 have hfz22_2:=blk_frozen BK87.out 2
 have hfz22_3:=blk_frozen BK87.out 3
 have hfz22_4:=blk_frozen BK87.out 4
 go_upto_region 3 with (first|((with_reducible refine gate_callee (f:=44) rfl ?_);refine goesL_ (some 22) rfl rfl Tryz.func44 (by kernel_rfl) rfl #[.string a1,.agg #[.int .i64 a0_0,.string a0_1,.int .i64 a0_2,.slice A0_3 l0_3.length c0_3,.slice A0_4 l0_4.length c0_4]] rfl (by (try simp only [List.map_toArray,List.map_cons,List.map_nil]);first|done|rfl|(simp only [List.length_drop,List.length_take];rfl)) ?_;(with_reducible refine (frame_Response.calls k a1 a0_0 a0_1 a0_2 _ _ l0_3 _ _ l0_4 t276 t277 t278 _ ?side1 ?side2 ?side3 ?side4 A5.out).mono ?_);(case side1=>exact Kd.C_below HR0_3.out (by repeat (first|(with_reducible first|exact HB.out|apply below_alloc|apply pw_below_drewN|apply below_drew1|refine below_set ?_ GE87.out|refine below_set ?_ GE88.out|refine below_set ?_ GE86.out)|exact HB.out)));(case side2=>exact HC0_3.out);(case side3=>exact Kd.C_below HR0_4.out (by repeat (first|(with_reducible first|exact HB.out|apply below_alloc|apply pw_below_drewN|apply below_drew1|refine below_set ?_ GE87.out|refine below_set ?_ GE88.out|refine below_set ?_ GE86.out)|exact HB.out)));(case side4=>exact HC0_4.out);rintro e w23 ⟨rfl,hb⟩;refine ⟨_,rfl,?_⟩;have n0_:=Aside0.mk (Kd.R_below (by (with_reducible repeat (first|apply Kd.R_alloc|apply Kd.R_drewN|apply Kd.R_drew));exact (Kd.R_mono (Kd.R_far (p:=⟨gb86,4,none⟩) (Kd.R_far (p:=⟨gb86,3,none⟩) (Kd.R_far (p:=⟨gb86,2,none⟩) (Kd.R_far (p:=⟨gb86,1,none⟩) (Kd.R_far (p:=⟨gb86,0,none⟩) (Kd.R_types HO97.out BK86.out (by decide)) (fun _ hk=>hk.2) (.int .i64 a0_0)) (fun _ hk=>hk.2) (.string a0_1)) (fun _ hk=>hk.2) (.int .i64 1)) (fun _ hk=>hk.2) (.slice Ao14 t90.length co14)) (fun _ hk=>hk.2) (.slice none 0 0)) (fun _ h_=>h_.1))) hb);have n1_:=Aside0.mk (blk_below (g:=gb87) (o:=.cells #[.int .i64 a0_0,.string a0_1,.int .i64 a0_2,.slice A0_3 l0_3.length c0_3,.slice A0_4 l0_4.length c0_4] 25 (0,0)) (by (with_reducible repeat (first|refine blk_drewN ?_ _|refine blk_drew ?_|refine blk_alloc ?_ _));refine blk_far ?_ NB87_275.out _;(with_reducible repeat (first|refine blk_drewN ?_ _|refine blk_drew ?_|refine blk_alloc ?_ _));refine blk_far ?_ NB87_275.out _;(with_reducible repeat (first|refine blk_drewN ?_ _|refine blk_drew ?_|refine blk_alloc ?_ _));refine blk_far ?_ NB87_275.out _;(with_reducible repeat (first|refine blk_drewN ?_ _|refine blk_drew ?_|refine blk_alloc ?_ _));refine blk_far ?_ NB87_275.out _;(with_reducible repeat (first|refine blk_drewN ?_ _|refine blk_drew ?_|refine blk_alloc ?_ _));refine blk_far ?_ NB87_275.out _;(with_reducible repeat (first|refine blk_drewN ?_ _|refine blk_drew ?_|refine blk_alloc ?_ _));exact BK87.out) hb);have n2_:=Aside0.mk (blk_below (g:=gb88) (o:=.cells #[.int .i64 0,.string (⟨#[]⟩:ByteArray),.int .i64 0,.slice none 0 0,.slice none 0 0] 25 (0,0)) (by (with_reducible repeat (first|refine blk_drewN ?_ _|refine blk_drew ?_|refine blk_alloc ?_ _));refine blk_far ?_ NB88_275.out _;(with_reducible repeat (first|refine blk_drewN ?_ _|refine blk_drew ?_|refine blk_alloc ?_ _));refine blk_far ?_ NB88_275.out _;(with_reducible repeat (first|refine blk_drewN ?_ _|refine blk_drew ?_|refine blk_alloc ?_ _));refine blk_far ?_ NB88_275.out _;(with_reducible repeat (first|refine blk_drewN ?_ _|refine blk_drew ?_|refine blk_alloc ?_ _));refine blk_far ?_ NB88_275.out _;(with_reducible repeat (first|refine blk_drewN ?_ _|refine blk_drew ?_|refine blk_alloc ?_ _));refine blk_far ?_ NB88_275.out _;(with_reducible repeat (first|refine blk_drewN ?_ _|refine blk_drew ?_|refine blk_alloc ?_ _));exact BK88.out) hb);have n3_:=Aside0.mk (blk_below (g:=gb86) (o:=.cells #[.int .i64 a0_0,.string a0_1,.int .i64 1,.slice Ao14 t90.length co14,.slice none 0 0] 25 (0,0)) (by (with_reducible repeat (first|refine blk_drewN ?_ _|refine blk_drew ?_|refine blk_alloc ?_ _));refine blk_put (cs:=#[.int .i64 a0_0,.string a0_1,.int .i64 1,.slice Ao14 t90.length co14,.slice none 0 0]) ?_ 4 _ rfl;(with_reducible repeat (first|refine blk_drewN ?_ _|refine blk_drew ?_|refine blk_alloc ?_ _));refine blk_put (cs:=#[.int .i64 a0_0,.string a0_1,.int .i64 1,.slice none 0 0,.slice none 0 0]) ?_ 3 _ rfl;(with_reducible repeat (first|refine blk_drewN ?_ _|refine blk_drew ?_|refine blk_alloc ?_ _));refine blk_put (cs:=#[.int .i64 a0_0,.string a0_1,.int .i64 0,.slice none 0 0,.slice none 0 0]) ?_ 2 _ rfl;(with_reducible repeat (first|refine blk_drewN ?_ _|refine blk_drew ?_|refine blk_alloc ?_ _));refine blk_put (cs:=#[.int .i64 a0_0,.string (⟨#[]⟩:ByteArray),.int .i64 0,.slice none 0 0,.slice none 0 0]) ?_ 1 _ rfl;(with_reducible repeat (first|refine blk_drewN ?_ _|refine blk_drew ?_|refine blk_alloc ?_ _));refine blk_put (cs:=#[.int .i64 0,.string (⟨#[]⟩:ByteArray),.int .i64 0,.slice none 0 0,.slice none 0 0]) ?_ 0 _ rfl;(with_reducible repeat (first|refine blk_drewN ?_ _|refine blk_drew ?_|refine blk_alloc ?_ _));exact BK86.out) hb);have n4_:=Aside0.mk (below_step (by repeat (first|(with_reducible first|exact HB.out|apply below_alloc|apply pw_below_drewN|apply below_drew1|refine below_set ?_ GE87.out|refine below_set ?_ GE88.out|refine below_set ?_ GE86.out)|exact HB.out)) hb);clear HO97;clear BK87;clear BK88;clear BK86;clear HB;have HO97:=n0_;have BK87:=n1_;have BK88:=n2_;have BK86:=n3_;have HB:=n4_;clear n0_ n1_ n2_ n3_ n4_;(try clear hb);(try clear hb2);(try clear hk);(try clear hi)))
 (try simp only [Act.put,zqA,zqB,zqC])
 go_cut [31] (fun v31 wc => ∃ (kq:Nat) (x31_5:Bool),v31 = .bool x31_5∧Aside0 (scrub_Response.j0 kq a2 x31_5 a0_0 a0_1 a0_2 l0_3 l0_4 a0_0 a0_1 1 t90=some (r1,r2,r3,r4,r5))∧Aside0 (kq ≤ k)∧Aside0 (Kd.R k55 55 wc w.heap.size (fun _=>True) (.slice Ao14 t90.length co14) t90)∧Aside0 (wc.heap[gb87]? = some (.cells #[.int .i64 a0_0,.string a0_1,.int .i64 a0_2,(.slice A0_3 l0_3.length c0_3),(.slice A0_4 l0_4.length c0_4)] 25 (0,0)))∧Aside0 (wc.heap[gb88]? = some (.cells #[.int .i64 0,.string (⟨#[]⟩:ByteArray),.int .i64 0,(.slice none 0 0),(.slice none 0 0)] 25 (0,0)))∧Aside0 (wc.heap[gb86]? = some (.cells #[.int .i64 a0_0,.string a0_1,.int .i64 1,(.slice Ao14 t90.length co14),(.slice none 0 0)] 25 (0,0)))∧Aside0 (Below w.heap.size w wc))
 case first =>
  have H:=HC6.out
  clear HC6
  by_cases c24:t278=true
  ·subst c24
   have H1:(scrub_Response.j0 k a2 (t276 != 0) a0_0 a0_1 a0_2 l0_3 l0_4 a0_0 a0_1 1 t90)=some (r1,r2,r3,r4,r5):=by rw [if_pos rfl] at H;exact H
   clear H
   have H:=H1
   clear H1
   have H' := Aside0.mk H
   clear H
   go_wp2
   go_meet
   case rel=>exact ⟨_,((t276 != 0)),(by first|rfl|(simp;done)|(simp [*];done)),H',⟨by first|omega|exact Nat.le_refl _⟩,⟨by (with_reducible repeat (first|apply Kd.R_alloc|apply Kd.R_drewN|apply Kd.R_drew));exact HO97.out⟩,⟨by (with_reducible repeat (first|refine blk_drewN ?_ _|refine blk_drew ?_|refine blk_alloc ?_ _));exact BK87.out⟩,⟨by (with_reducible repeat (first|refine blk_drewN ?_ _|refine blk_drew ?_|refine blk_alloc ?_ _));exact BK88.out⟩,⟨by (with_reducible repeat (first|refine blk_drewN ?_ _|refine blk_drew ?_|refine blk_alloc ?_ _));exact BK86.out⟩,⟨by repeat (first|(with_reducible first|exact HB.out|apply below_alloc|apply pw_below_drewN|apply below_drew1|refine below_set ?_ GE87.out|refine below_set ?_ GE88.out|refine below_set ?_ GE86.out)|exact HB.out)⟩⟩
  ·replace c24:=Bool.eq_false_iff.mpr c24
   subst c24
   have H1:(scrub_Response.j0 k a2 true a0_0 a0_1 a0_2 l0_3 l0_4 a0_0 a0_1 1 t90)=some (r1,r2,r3,r4,r5):=by rw [if_neg (show ¬ (false=true) by decide)] at H;exact H
   clear H
   have H:=H1
   clear H1
   have H' := Aside0.mk H
   clear H
   go_wp2
   go_meet
   case rel=>exact ⟨_,(true),(by first|rfl|(simp;done)|(simp [*];done)),H',⟨by first|omega|exact Nat.le_refl _⟩,⟨by (with_reducible repeat (first|apply Kd.R_alloc|apply Kd.R_drewN|apply Kd.R_drew));exact HO97.out⟩,⟨by (with_reducible repeat (first|refine blk_drewN ?_ _|refine blk_drew ?_|refine blk_alloc ?_ _));exact BK87.out⟩,⟨by (with_reducible repeat (first|refine blk_drewN ?_ _|refine blk_drew ?_|refine blk_alloc ?_ _));exact BK88.out⟩,⟨by (with_reducible repeat (first|refine blk_drewN ?_ _|refine blk_drew ?_|refine blk_alloc ?_ _));exact BK86.out⟩,⟨by repeat (first|(with_reducible first|exact HB.out|apply below_alloc|apply pw_below_drewN|apply below_drew1|refine below_set ?_ GE87.out|refine below_set ?_ GE88.out|refine below_set ?_ GE86.out)|exact HB.out)⟩⟩
 case rest =>
  clear HC6
  try clear c1
  try clear c2
  try clear p2
  try clear c4
  try clear c15
  try clear c20
  try clear c21
  try clear c24
  try clear hcz22_0
  try clear hcz22_1
  try clear hcz22_2
  try clear hcz22_3
  try clear hcz22_4
  try clear hfz22_0
  try clear hfz22_1
  try clear hfz22_2
  try clear hfz22_3
  try clear hfz22_4
  obtain ⟨kq,x31_5,rfl,HA,HJ5,HO_89,BK87,BK88,BK86,HB⟩:=hcut
  cases kq with
  | zero=>exact absurd HA.out (by simp [scrub_Response.j0])
  | succ kj5 =>
   have H:=HA.out
   clear HA
   simp only [scrub_Response.j0] at H
   by_cases c25:x31_5=true
   ·subst c25
    have H1:((bytes_Clone.f l0_4).bind fun t91=>((scrub_length.f (l0_4.length:Int)).bind fun bt96=>(if t90.length < 4398046511104 then ((some (t90 ++ [(⟨bt96.1,bt96.2⟩:S55)]:List (S55))).bind fun y92=>(if a2=true then ((scrub_closing.f).bind fun bt94=>(if y92.length < 4398046511104 then (some (a0_0,a0_1,1,(y92 ++ [(⟨bt94.1,bt94.2⟩:S55)]),t91)) else (none))) else (some (a0_0,a0_1,1,y92,t91)))) else (none))))=some (r1,r2,r3,r4,r5):=by rw [if_pos rfl] at H;exact H
    clear H
    have H:=H1
    clear H1
    replace H:=Option.bind_eq_some_iff.mp H
    obtain ⟨t91,A260,H⟩:=H
    replace H:((scrub_length.f (l0_4.length:Int)).bind fun bt96=>(if t90.length < 4398046511104 then ((some (t90 ++ [(⟨bt96.1,bt96.2⟩:S55)]:List (S55))).bind fun y92=>(if a2=true then ((scrub_closing.f).bind fun bt94=>(if y92.length < 4398046511104 then (some (a0_0,a0_1,1,(y92 ++ [(⟨bt94.1,bt94.2⟩:S55)]),t91)) else (none))) else (some (a0_0,a0_1,1,y92,t91)))) else (none)))=some (r1,r2,r3,r4,r5):=H
    have A26:=Aside0.mk A260
    clear A260
    replace H:=Option.bind_eq_some_iff.mp H
    obtain ⟨⟨t96,t283⟩,A87,H⟩:=H
    replace H:(if t90.length < 4398046511104 then ((some (t90 ++ [(⟨t96,t283⟩:S55)]:List (S55))).bind fun y92=>(if a2=true then ((scrub_closing.f).bind fun bt94=>(if y92.length < 4398046511104 then (some (a0_0,a0_1,1,(y92 ++ [(⟨bt94.1,bt94.2⟩:S55)]),t91)) else (none))) else (some (a0_0,a0_1,1,y92,t91)))) else (none))=some (r1,r2,r3,r4,r5):=H
    have A27:=Aside0.mk A87
    clear A87
    by_cases c28:t90.length < 4398046511104
    ·rw [if_pos c28] at H
     have LMc28:=Aside0.mk c28
     clear c28
     obtain ⟨y92,hy92⟩ : ∃ y_:List (S55),y_=(t90 ++ [(⟨t96,t283⟩:S55)]):=⟨_,rfl⟩
     replace H:(if a2=true then ((scrub_closing.f).bind fun bt94=>(if y92.length < 4398046511104 then (some (a0_0,a0_1,1,(y92 ++ [(⟨bt94.1,bt94.2⟩:S55)]),t91)) else (none))) else (some (a0_0,a0_1,1,y92,t91)))=some (r1,r2,r3,r4,r5):=by first|(rw [hy92];with_reducible exact H)|(have H2_:=(Option.bind_some _ _).symm.trans H;rw [hy92];with_reducible exact H2_)|(have H2_:=(Option.bind_some _ _).symm.trans H;with_reducible exact H2_)|with_reducible exact H|(rw [hy92];exact H)|exact H
     have Ny92:=Aside0.mk hy92
     clear hy92
     by_cases c29:a2=true
     ·subst c29
      have H1:((scrub_closing.f).bind fun bt94=>(if y92.length < 4398046511104 then (some (a0_0,a0_1,1,(y92 ++ [(⟨bt94.1,bt94.2⟩:S55)]),t91)) else (none)))=some (r1,r2,r3,r4,r5):=by rw [if_pos rfl] at H;exact H
      clear H
      have H:=H1
      clear H1
      replace H:=Option.bind_eq_some_iff.mp H
      obtain ⟨⟨t94,t288⟩,A300,H⟩:=H
      replace H:(if y92.length < 4398046511104 then (some (a0_0,a0_1,1,(y92 ++ [(⟨t94,t288⟩:S55)]),t91)) else (none))=some (r1,r2,r3,r4,r5):=H
      have A30:=Aside0.mk A300
      clear A300
      by_cases c31:y92.length < 4398046511104
      ·rw [if_pos c31] at H
       have LMc31:=Aside0.mk c31
       clear c31
       obtain ⟨y98,hy98⟩ : ∃ y_:List (S55),y_=(y92 ++ [(⟨t94,t288⟩:S55)]):=⟨_,rfl⟩
       replace H:(some (a0_0,a0_1,1,y98,t91))=some (r1,r2,r3,r4,r5):=by first|(rw [hy98];with_reducible exact H)|(have H2_:=(Option.bind_some _ _).symm.trans H;rw [hy98];with_reducible exact H2_)|(have H2_:=(Option.bind_some _ _).symm.trans H;with_reducible exact H2_)|with_reducible exact H|(rw [hy98];exact H)|exact H
       have Ny98:=Aside0.mk hy98
       clear hy98
       simp only [Option.some.injEq,Prod.mk.injEq] at H
       obtain ⟨rfl,rfl,rfl,rfl,rfl⟩:=H
       have hnb32:=NB87_271.out
       have hnc32:=NB88_270.out
       have hnb33:=NB87_275.out
       have hnc33:=NB86_270.out
       have hcz34_0:wc.cell? ⟨gb87,0,none⟩=some (.int .i64 a0_0):=(blk_cell BK87.out 0).trans rfl
       have hcz34_1:wc.cell? ⟨gb87,1,none⟩=some (.string a0_1):=(blk_cell BK87.out 1).trans rfl
       have hcz34_2:wc.cell? ⟨gb87,2,none⟩=some (.int .i64 a0_2):=(blk_cell BK87.out 2).trans rfl
       have hcz34_3:wc.cell? ⟨gb87,3,none⟩=some (.slice A0_3 l0_3.length c0_3):=(blk_cell BK87.out 3).trans rfl
       have hcz34_4:wc.cell? ⟨gb87,4,none⟩=some (.slice A0_4 l0_4.length c0_4):=(blk_cell BK87.out 4).trans rfl
       have hfz34_0:=blk_frozen BK87.out 0
       have hfz34_1:=blk_frozen BK87.out 1
       have hfz34_2:=blk_frozen BK87.out 2
       have hfz34_3:=blk_frozen BK87.out 3
       have hfz34_4:=blk_frozen BK87.out 4
       try go_wp2_with (first|((with_reducible refine gate_callee (f:=45) rfl ?_);refine goesL_ (some 34) rfl rfl Tryz.func45 (by kernel_rfl) rfl #[.slice A0_4 l0_4.length c0_4] rfl (by (try simp only [List.map_toArray,List.map_cons,List.map_nil]);first|done|rfl|(simp only [List.length_drop,List.length_take];rfl)) ?_;(with_reducible refine (bytes_Clone.calls _ _ l0_4 t91 _ ?side1 ?side2 A26.out).mono ?_);(case side1=>repeat (first|exact (Kd.C_below HR0_4.out HB.out)|(with_reducible refine Kd.C_alloc ?_ _)|(with_reducible refine Kd.C_drewN ?_ _)|(with_reducible refine Kd.C_drew ?_)));(case side2=>exact HC0_4.out);rintro e w35 ⟨v280,rfl,ho0,hb⟩;(try clear A26);refine ⟨_,rfl,?_⟩;have n0_:=Aside0.mk (Kd.R_below (by (with_reducible repeat (first|apply Kd.R_alloc|apply Kd.R_drewN|apply Kd.R_drew));exact HO_89.out) hb);have n1_:=Aside0.mk (Kd.R_lower ho0 (below_size (by repeat (first|(with_reducible first|exact HB.out|apply below_alloc|apply pw_below_drewN|apply below_drew1|refine below_set ?_ GE87.out|refine below_set ?_ GE88.out|refine below_set ?_ GE86.out)|exact HB.out))));have n2_:=Aside0.mk (blk_below (g:=gb87) (o:=.cells #[.int .i64 a0_0,.string a0_1,.int .i64 a0_2,.slice A0_3 l0_3.length c0_3,.slice A0_4 l0_4.length c0_4] 25 (0,0)) (by (with_reducible repeat (first|refine blk_drewN ?_ _|refine blk_drew ?_|refine blk_alloc ?_ _));exact BK87.out) hb);have n3_:=Aside0.mk (blk_below (g:=gb88) (o:=.cells #[.int .i64 0,.string (⟨#[]⟩:ByteArray),.int .i64 0,.slice none 0 0,.slice none 0 0] 25 (0,0)) (by (with_reducible repeat (first|refine blk_drewN ?_ _|refine blk_drew ?_|refine blk_alloc ?_ _));exact BK88.out) hb);have n4_:=Aside0.mk (blk_below (g:=gb86) (o:=.cells #[.int .i64 a0_0,.string a0_1,.int .i64 1,.slice Ao14 t90.length co14,.slice none 0 0] 25 (0,0)) (by (with_reducible repeat (first|refine blk_drewN ?_ _|refine blk_drew ?_|refine blk_alloc ?_ _));exact BK86.out) hb);have n5_:=Aside0.mk (below_step (by repeat (first|(with_reducible first|exact HB.out|apply below_alloc|apply pw_below_drewN|apply below_drew1|refine below_set ?_ GE87.out|refine below_set ?_ GE88.out|refine below_set ?_ GE86.out)|exact HB.out)) hb);clear HO_89;clear BK87;clear BK88;clear BK86;clear HB;have HO_89:=n0_;have HO93:=n1_;have BK87:=n2_;have BK88:=n3_;have BK86:=n4_;have HB:=n5_;clear n0_ n1_ n2_ n3_ n4_ n5_;(try clear hb);(try clear hb2);(try clear hk);(try clear hi);(try clear ho0);obtain ⟨Ao36,co36,eo36⟩:=Kd.R_slice HO93.out;subst eo36;have hnb37:=NB86_271.out;have hnc37:=NB88_275.out;have hcz38_0:w35.cell? ⟨gb86,0,none⟩=some (.int .i64 a0_0):=(blk_cell BK86.out 0).trans rfl;have hcz38_1:w35.cell? ⟨gb86,1,none⟩=some (.string a0_1):=(blk_cell BK86.out 1).trans rfl;have hcz38_2:w35.cell? ⟨gb86,2,none⟩=some (.int .i64 1):=(blk_cell BK86.out 2).trans rfl;have hcz38_3:w35.cell? ⟨gb86,3,none⟩=some (.slice Ao14 t90.length co14):=(blk_cell BK86.out 3).trans rfl;have hcz38_4:w35.cell? ⟨gb86,4,none⟩=some (.slice none 0 0):=(blk_cell BK86.out 4).trans rfl;have hfz38_0:=blk_frozen BK86.out 0;have hfz38_1:=blk_frozen BK86.out 1;have hfz38_2:=blk_frozen BK86.out 2;have hfz38_3:=blk_frozen BK86.out 3;have hfz38_4:=blk_frozen BK86.out 4))
       have n0_:Aside0 (Kd.R k55 55 (w35.setCell ⟨gb86,4,none⟩ (.slice Ao36 t91.length co36)) w.heap.size (fun _=>True) (.slice Ao14 t90.length co14) t90):=⟨by (with_reducible repeat (first|apply Kd.R_alloc|apply Kd.R_drewN|apply Kd.R_drew));exact Kd.R_mono (Kd.R_far (p:=⟨gb86,4,none⟩) (Kd.R_types HO_89.out BK86.out (by decide)) (fun _ hk=>hk.2) (.slice Ao36 t91.length co36)) (fun _ hk=>trivial)⟩
       have n1_:Aside0 (Kd.R (Kd.int .u8) 5 (w35.setCell ⟨gb86,4,none⟩ (.slice Ao36 t91.length co36)) w.heap.size (fun _=>True) (.slice Ao36 t91.length co36) t91):=⟨by (with_reducible repeat (first|apply Kd.R_alloc|apply Kd.R_drewN|apply Kd.R_drew));exact Kd.R_mono (Kd.R_far (p:=⟨gb86,4,none⟩) (Kd.R_types HO93.out BK86.out (by decide)) (fun _ hk=>hk.2) (.slice Ao36 t91.length co36)) (fun _ hk=>trivial)⟩
       have n2_:Aside0 ((w35.setCell ⟨gb86,4,none⟩ (.slice Ao36 t91.length co36)).heap[gb87]? = some (.cells #[.int .i64 a0_0,.string a0_1,.int .i64 a0_2,.slice A0_3 l0_3.length c0_3,.slice A0_4 l0_4.length c0_4] 25 (0,0))):=⟨by (with_reducible repeat (first|refine blk_drewN ?_ _|refine blk_drew ?_|refine blk_alloc ?_ _));refine blk_far ?_ NB87_275.out _;(with_reducible repeat (first|refine blk_drewN ?_ _|refine blk_drew ?_|refine blk_alloc ?_ _));exact BK87.out⟩
       have n3_:Aside0 ((w35.setCell ⟨gb86,4,none⟩ (.slice Ao36 t91.length co36)).heap[gb88]? = some (.cells #[.int .i64 0,.string (⟨#[]⟩:ByteArray),.int .i64 0,.slice none 0 0,.slice none 0 0] 25 (0,0))):=⟨by (with_reducible repeat (first|refine blk_drewN ?_ _|refine blk_drew ?_|refine blk_alloc ?_ _));refine blk_far ?_ NB88_275.out _;(with_reducible repeat (first|refine blk_drewN ?_ _|refine blk_drew ?_|refine blk_alloc ?_ _));exact BK88.out⟩
       have n4_:Aside0 ((w35.setCell ⟨gb86,4,none⟩ (.slice Ao36 t91.length co36)).heap[gb86]? = some (.cells #[.int .i64 a0_0,.string a0_1,.int .i64 1,.slice Ao14 t90.length co14,.slice Ao36 t91.length co36] 25 (0,0))):=⟨by (with_reducible repeat (first|refine blk_drewN ?_ _|refine blk_drew ?_|refine blk_alloc ?_ _));refine blk_put (cs:=#[.int .i64 a0_0,.string a0_1,.int .i64 1,.slice Ao14 t90.length co14,.slice none 0 0]) ?_ 4 _ rfl;(with_reducible repeat (first|refine blk_drewN ?_ _|refine blk_drew ?_|refine blk_alloc ?_ _));exact BK86.out⟩
       have n5_:Aside0 (Below w.heap.size w (w35.setCell ⟨gb86,4,none⟩ (.slice Ao36 t91.length co36))):=⟨by repeat (first|(with_reducible first|exact HB.out|apply below_alloc|apply pw_below_drewN|apply below_drew1|refine below_set ?_ GE87.out|refine below_set ?_ GE88.out|refine below_set ?_ GE86.out)|exact HB.out)⟩
       (try clear HO_89)
       (try clear HO93)
       (try clear BK87)
       (try clear BK88)
       (try clear BK86)
       (try clear HB)
       generalize (w35.setCell ⟨gb86,4,none⟩ (.slice Ao36 t91.length co36))=w39 at n0_ n1_ n2_ n3_ n4_ n5_ ⊢
       have HO_89:=n0_
       have HO93:=n1_
       have BK87:=n2_
       have BK88:=n3_
       have BK86:=n4_
       have HB:=n5_
       clear n0_ n1_ n2_ n3_ n4_ n5_
       replace HO_89:=Aside0.mk (Kd.R_drew HO_89.out)
       replace HO93:=Aside0.mk (Kd.R_drew HO93.out)
       replace BK87:=Aside0.mk (blk_drew BK87.out)
       replace BK88:=Aside0.mk (blk_drew BK88.out)
       replace BK86:=Aside0.mk (blk_drew BK86.out)
       replace HB:=Aside0.mk (below_drew1 HB.out)
       refine start_ (n:=10) (S:=fun w' => w'.cell? ⟨gb86,0,none⟩=some (.int .i64 a0_0)∧w'.cell? ⟨gb86,1,none⟩=some (.string a0_1)∧w'.cell? ⟨gb86,2,none⟩=some (.int .i64 1)∧w'.cell? ⟨gb86,3,none⟩=some (.slice Ao14 t90.length co14)∧w'.cell? ⟨gb86,4,none⟩=some (.slice Ao36 t91.length co36)∧w'.cell? ⟨gb87,0,none⟩=some (.int .i64 a0_0)∧w'.cell? ⟨gb87,1,none⟩=some (.string a0_1)∧w'.cell? ⟨gb87,2,none⟩=some (.int .i64 a0_2)∧w'.cell? ⟨gb87,3,none⟩=some (.slice A0_3 l0_3.length c0_3)∧w'.cell? ⟨gb87,4,none⟩=some (.slice A0_4 l0_4.length c0_4)) (ds:=[9]) #[false,false,false,false,false,false,false,false,false,false] (by kernel_rfl) rfl rfl ⟨(blk_cell BK86.out 0).trans rfl,(blk_cell BK86.out 1).trans rfl,(blk_cell BK86.out 2).trans rfl,(blk_cell BK86.out 3).trans rfl,(blk_cell BK86.out 4).trans rfl,(blk_cell BK87.out 0).trans rfl,(blk_cell BK87.out 1).trans rfl,(blk_cell BK87.out 2).trans rfl,(blk_cell BK87.out 3).trans rfl,(blk_cell BK87.out 4).trans rfl⟩ (fun hHeld=>?_);refine with_tabW scrub_Response.tab5 scrub_Response.bits5 (fun HT_ HW_=>?_)
       generalize w39.drew=w40 at HO_89 HO93 BK87 BK88 BK86 HB hHeld ⊢
       refine pure_ (i:=0) (N:=some 36) (v:=?_) (a' := ?_) #[true,false,false,false,false,false,false,false,false,false] rfl rfl (any_of HT_.out (by kernel_rfl)) (fun _ _ _ h=>h) (Or.inl ⟨by rfl,?_⟩) ?_ ?_
       rotate_left
       ·intro w';go_simp;with_reducible rfl
       rotate_left
       ·simp only [Act.put,zqA,zqB,zqC,i64_w,i32_w];rfl
       refine pure_ (i:=2) (N:=some 38) (v:=?_) (a' := ?_) #[true,false,true,false,false,false,false,false,false,false] rfl rfl (any_of HT_.out (by kernel_rfl)) (fun _ _ _ h=>h) (Or.inl ⟨by rfl,?_⟩) ?_ ?_
       rotate_left
       ·intro w';go_simp;with_reducible rfl
       rotate_left
       ·simp only [Act.put,zqA,zqB,zqC,i64_w,i32_w];rfl
       refine take_ (i:=1) (N:=some 37) (v:=?_) (a' := ?_) #[true,true,true,false,false,false,false,false,false,false] rfl rfl (take_ofW HT_.out HW_.out (by kernel_rfl)) (fun _ _ _ h=>h) (Or.inl ⟨by rfl,?_⟩) hHeld ?_ ?_
       rotate_left
       ·rintro w' ⟨s0,s1,s2,s3,s4,s5,s6,s7,s8,s9⟩;go_simp;with_reducible rfl
       rotate_left
       ·simp only [Act.put,zqA,zqB,zqC,i64_w,i32_w];rfl
       refine take_ (i:=3) (N:=some 39) (v:=?_) (a' := ?_) #[true,true,true,true,false,false,false,false,false,false] rfl rfl (take_ofW HT_.out HW_.out (by kernel_rfl)) (fun _ _ _ h=>h) (Or.inl ⟨by rfl,?_⟩) hHeld ?_ ?_
       rotate_left
       ·rintro w' ⟨s0,s1,s2,s3,s4,s5,s6,s7,s8,s9⟩;go_simp;with_reducible rfl
       rotate_left
       ·simp only [Act.put,zqA,zqB,zqC,i64_w,i32_w];rfl
       refine pure_ (i:=4) (N:=some 40) (v:=?_) (a' := ?_) #[true,true,true,true,true,false,false,false,false,false] rfl rfl (any_of HT_.out (by kernel_rfl)) (fun _ _ _ h=>h) (Or.inl ⟨by rfl,?_⟩) ?_ ?_
       rotate_left
       ·intro w';go_simp;with_reducible rfl
       rotate_left
       ·simp only [Act.put,zqA,zqB,zqC,i64_w,i32_w];rfl
       refine one_ (i:=5) (N:=some 41) #[true,true,true,true,true,true,false,false,false,false] rfl rfl (one_of HT_.out (by kernel_rfl)) (by decide) (fun K hK=>?_)
       refine goes_ Tryz.func46 (by kernel_rfl) rfl #[.int .i64 (l0_4.length:Int)] (by rfl) rfl rfl (by (try simp only [List.map_toArray,List.map_cons,List.map_nil]);first|done|rfl|(simp only [List.length_drop,List.length_take];rfl)) ?_
       with_reducible refine (scrub_length.calls (l0_4.length:Int) t96 t283 _ A27.out ?hT).mono ?_;(case hT=>exact HTB.out.below (by repeat (first|(with_reducible first|exact HB.out|apply below_alloc|apply pw_below_drewN|apply below_drew1|refine below_set ?_ GE87.out|refine below_set ?_ GE88.out|refine below_set ?_ GE86.out)|exact HB.out)))
       rintro e w41 ⟨rfl,hb⟩
       refine ⟨_,rfl,?_⟩
       replace HO_89:=Aside0.mk (Kd.R_below (by (with_reducible repeat (first|apply Kd.R_alloc|apply Kd.R_drewN|apply Kd.R_drew));exact HO_89.out) hb)
       replace HO93:=Aside0.mk (Kd.R_below (by (with_reducible repeat (first|apply Kd.R_alloc|apply Kd.R_drewN|apply Kd.R_drew));exact HO93.out) hb)
       replace BK87:=Aside0.mk (blk_below (g:=gb87) (o:=.cells #[.int .i64 a0_0,.string a0_1,.int .i64 a0_2,.slice A0_3 l0_3.length c0_3,.slice A0_4 l0_4.length c0_4] 25 (0,0)) (by (with_reducible repeat (first|refine blk_drewN ?_ _|refine blk_drew ?_|refine blk_alloc ?_ _));exact BK87.out) hb)
       replace BK88:=Aside0.mk (blk_below (g:=gb88) (o:=.cells #[.int .i64 0,.string (⟨#[]⟩:ByteArray),.int .i64 0,.slice none 0 0,.slice none 0 0] 25 (0,0)) (by (with_reducible repeat (first|refine blk_drewN ?_ _|refine blk_drew ?_|refine blk_alloc ?_ _));exact BK88.out) hb)
       replace BK86:=Aside0.mk (blk_below (g:=gb86) (o:=.cells #[.int .i64 a0_0,.string a0_1,.int .i64 1,.slice Ao14 t90.length co14,.slice Ao36 t91.length co36] 25 (0,0)) (by (with_reducible repeat (first|refine blk_drewN ?_ _|refine blk_drew ?_|refine blk_alloc ?_ _));exact BK86.out) hb)
       replace HB:=Aside0.mk (below_step (by repeat (first|(with_reducible first|exact HB.out|apply below_alloc|apply pw_below_drewN|apply below_drew1|refine below_set ?_ GE87.out|refine below_set ?_ GE88.out|refine below_set ?_ GE86.out)|exact HB.out)) hb)
       (try clear hb)
       (try clear hb2)
       (try clear hk)
       (try clear hi)
       refine hK.out _ _ ⟨(blk_cell BK86.out 0).trans rfl,(blk_cell BK86.out 1).trans rfl,(blk_cell BK86.out 2).trans rfl,(blk_cell BK86.out 3).trans rfl,(blk_cell BK86.out 4).trans rfl,(blk_cell BK87.out 0).trans rfl,(blk_cell BK87.out 1).trans rfl,(blk_cell BK87.out 2).trans rfl,(blk_cell BK87.out 3).trans rfl,(blk_cell BK87.out 4).trans rfl⟩ (fun hHeld=>?_)
       clear hK K
       refine norm_ (a' := ?_) ?_ ?_
       rotate_left
       ·show Act.put _ (some 41) _=_
        simp only [Act.put,zqA,zqB,zqC,i64_w,i32_w]
        rfl
       refine one_ (i:=6) (N:=some 42) #[true,true,true,true,true,true,true,false,false,false] rfl rfl (one_of HT_.out (by kernel_rfl)) (by decide) (fun K hK=>?_)
       refine value_ (w1:=?_) (v:=?_) (by rfl) rfl ?_ ?_
       rotate_left 2
       ·go_simp
        constructor
        ·rfl
        ·rfl
       refine hK.out _ _ ⟨(blk_cell (blk_alloc BK86.out _) 0).trans rfl,(blk_cell (blk_alloc BK86.out _) 1).trans rfl,(blk_cell (blk_alloc BK86.out _) 2).trans rfl,(blk_cell (blk_alloc BK86.out _) 3).trans rfl,(blk_cell (blk_alloc BK86.out _) 4).trans rfl,(blk_cell (blk_alloc BK87.out _) 0).trans rfl,(blk_cell (blk_alloc BK87.out _) 1).trans rfl,(blk_cell (blk_alloc BK87.out _) 2).trans rfl,(blk_cell (blk_alloc BK87.out _) 3).trans rfl,(blk_cell (blk_alloc BK87.out _) 4).trans rfl⟩ (fun hHeld=>?_)
       clear hK K
       refine norm_ (a' := ?_) ?_ ?_
       rotate_left
       ·show Act.put _ (some 42) _=_
        simp only [Act.put,zqA,zqB,zqC,i64_w,i32_w]
        rfl
       refine one_ (i:=7) (N:=some 43) #[true,true,true,true,true,true,true,true,false,false] rfl rfl (one_of HT_.out (by kernel_rfl)) (by decide) (fun K hK=>?_)
       refine Kd.R_append_step k55 (w0:=w) w.heap.size (by rfl) (.tmp 37) (.tmp 42) 22 55 (.agg #[(.string ⟨#[]⟩),(.string ⟨#[]⟩)]) 32 rfl Tryz.underlying22 info55 rfl (by decide) (by omega) (.slice Ao14 t90.length co14) t90 (⟨t96,t283⟩:S55) [.string t96,.string t283] (fun _=>True) (fun _=>False) rfl rfl ?aP (fun _ hk=>hk.elim) ?aF ?aO ?aB ?aS ?aL ?_
       (case aP=>exact k55_mkM _ _ _ (⟨t96,t283⟩:S55))
       (case aB=>exact (by repeat (first|(with_reducible first|exact HB.out|apply below_alloc|apply pw_below_drewN|apply below_drew1|refine below_set ?_ GE87.out|refine below_set ?_ GE88.out|refine below_set ?_ GE86.out)|exact HB.out)))
       (case aF=>exact (fun _ _=>trivial))
       (case aO=>exact (by (with_reducible repeat (first|apply Kd.R_alloc|apply Kd.R_drewN|apply Kd.R_drew));exact HO_89.out))
       (case aS=>exact (below_size (by repeat (first|(with_reducible first|exact HB.out|apply below_alloc|apply pw_below_drewN|apply below_drew1|refine below_set ?_ GE87.out|refine below_set ?_ GE88.out|refine below_set ?_ GE86.out)|exact HB.out))))
       (case aL=>have:=LMc28.out;omega)
       intro v285 w42 ho hb hg hat
       rw [← Ny92.out] at ho
       have n0_:=Aside0.mk (blk_grown (g:=gb87) (o:=.cells #[.int .i64 a0_0,.string a0_1,.int .i64 a0_2,.slice A0_3 l0_3.length c0_3,.slice A0_4 l0_4.length c0_4] 25 (0,0)) (by (with_reducible repeat (first|refine blk_drewN ?_ _|refine blk_drew ?_|refine blk_alloc ?_ _));exact BK87.out) hg (Kd.R_ne HO_89.out BK87.out (by decide)))
       have n1_:=Aside0.mk (blk_grown (g:=gb88) (o:=.cells #[.int .i64 0,.string (⟨#[]⟩:ByteArray),.int .i64 0,.slice none 0 0,.slice none 0 0] 25 (0,0)) (by (with_reducible repeat (first|refine blk_drewN ?_ _|refine blk_drew ?_|refine blk_alloc ?_ _));exact BK88.out) hg (Kd.R_ne HO_89.out BK88.out (by decide)))
       have n2_:=Aside0.mk (blk_grown (g:=gb86) (o:=.cells #[.int .i64 a0_0,.string a0_1,.int .i64 1,.slice Ao14 t90.length co14,.slice Ao36 t91.length co36] 25 (0,0)) (by (with_reducible repeat (first|refine blk_drewN ?_ _|refine blk_drew ?_|refine blk_alloc ?_ _));exact BK86.out) hg (Kd.R_ne HO_89.out BK86.out (by decide)))
       have n3_:=Aside0.mk (Kd.R_over' (by (with_reducible repeat (first|apply Kd.R_alloc|apply Kd.R_drewN|apply Kd.R_drew));exact HO93.out) (Kd.R_typed (by (with_reducible repeat (first|apply Kd.R_alloc|apply Kd.R_drewN|apply Kd.R_drew));exact HO_89.out)) (by decide) hg)
       have n4_:=Aside0.mk (hb)
       have n5_:=Aside0.mk (ho)
       clear BK87 BK88 BK86 HO93 HB HO_89
       have BK87:=n0_
       have BK88:=n1_
       have BK86:=n2_
       have HO93:=n3_
       have HB:=n4_
       have HO95:=n5_
       clear n0_ n1_ n2_ n3_ n4_ n5_ ho hb hg hat
       obtain ⟨Ao43,co43,eo43⟩:=Kd.R_slice HO95.out
       (first|subst eo43|(injection eo43 with f1_ f2_ f3_;have f4_:=f1_.symm;have f5_:=f3_.symm;clear f1_ f2_ f3_;subst f4_;subst f5_))
       refine hK.out _ _ ⟨(blk_cell BK86.out 0).trans rfl,(blk_cell BK86.out 1).trans rfl,(blk_cell BK86.out 2).trans rfl,(blk_cell BK86.out 3).trans rfl,(blk_cell BK86.out 4).trans rfl,(blk_cell BK87.out 0).trans rfl,(blk_cell BK87.out 1).trans rfl,(blk_cell BK87.out 2).trans rfl,(blk_cell BK87.out 3).trans rfl,(blk_cell BK87.out 4).trans rfl⟩ (fun hHeld=>?_)
       clear hK K
       refine norm_ (a' := ?_) ?_ ?_
       rotate_left
       ·show Act.put _ (some 43) _=_
        simp only [Act.put,zqA,zqB,zqC,i64_w,i32_w]
        rfl
       refine pure_ (i:=8) (N:=some 44) (v:=?_) (a' := ?_) #[true,true,true,true,true,true,true,true,true,false] rfl rfl (any_of HT_.out (by kernel_rfl)) (fun _ _ _ h=>h) (Or.inl ⟨by rfl,?_⟩) ?_ ?_
       rotate_left
       ·intro w';go_simp;with_reducible rfl
       rotate_left
       ·simp only [Act.put,zqA,zqB,zqC,i64_w,i32_w];rfl
       refine last_ (i:=9) (N:=none) #[true,true,true,true,true,true,true,true,true,true] rfl rfl (one_of HT_.out (by kernel_rfl)) (by decide) (fun K hK=>?_)
       have hs44:w42.cell? ⟨gb86,3,none⟩=some (.slice Ao14 t90.length co14):=(blk_cell BK86.out 3).trans rfl
       have hfs44:=blk_frozen BK86.out 3
       have hns44_0:=NB87_275.out
       have hns44_1:=NB88_275.out
       have hms44_0:=NB86_270.out
       have hms44_1:=NB86_271.out
       refine skip_ (w1:=?_) (by rfl) rfl ?_ ?_
       rotate_left
       ·go_simp
        rfl
       refine hK.out _ _ ?_
       clear hK K
       refine done_ (done_of HT_.out (by kernel_rfl)) ?_
       try go_wp2
       have n0_:Aside0 (Kd.R (Kd.int .u8) 5 (w42.setCell ⟨gb86,3,none⟩ (.slice Ao43 y92.length co43)) w.heap.size (fun _=>True) (.slice Ao36 t91.length co36) t91):=⟨by (with_reducible repeat (first|apply Kd.R_alloc|apply Kd.R_drewN|apply Kd.R_drew));exact Kd.R_mono (Kd.R_far (p:=⟨gb86,3,none⟩) (Kd.R_types HO93.out BK86.out (by decide)) (fun _ hk=>hk.2) (.slice Ao43 y92.length co43)) (fun _ hk=>trivial)⟩
       have n1_:Aside0 (Kd.R k55 55 (w42.setCell ⟨gb86,3,none⟩ (.slice Ao43 y92.length co43)) w.heap.size (fun _=>True) (.slice Ao43 y92.length co43) y92):=⟨by (with_reducible repeat (first|apply Kd.R_alloc|apply Kd.R_drewN|apply Kd.R_drew));exact Kd.R_mono (Kd.R_far (p:=⟨gb86,3,none⟩) (Kd.R_types HO95.out BK86.out (by decide)) (fun _ hk=>hk.2) (.slice Ao43 y92.length co43)) (fun _ hk=>trivial)⟩
       have n2_:Aside0 ((w42.setCell ⟨gb86,3,none⟩ (.slice Ao43 y92.length co43)).heap[gb87]? = some (.cells #[.int .i64 a0_0,.string a0_1,.int .i64 a0_2,.slice A0_3 l0_3.length c0_3,.slice A0_4 l0_4.length c0_4] 25 (0,0))):=⟨by (with_reducible repeat (first|refine blk_drewN ?_ _|refine blk_drew ?_|refine blk_alloc ?_ _));refine blk_far ?_ NB87_275.out _;(with_reducible repeat (first|refine blk_drewN ?_ _|refine blk_drew ?_|refine blk_alloc ?_ _));exact BK87.out⟩
       have n3_:Aside0 ((w42.setCell ⟨gb86,3,none⟩ (.slice Ao43 y92.length co43)).heap[gb88]? = some (.cells #[.int .i64 0,.string (⟨#[]⟩:ByteArray),.int .i64 0,.slice none 0 0,.slice none 0 0] 25 (0,0))):=⟨by (with_reducible repeat (first|refine blk_drewN ?_ _|refine blk_drew ?_|refine blk_alloc ?_ _));refine blk_far ?_ NB88_275.out _;(with_reducible repeat (first|refine blk_drewN ?_ _|refine blk_drew ?_|refine blk_alloc ?_ _));exact BK88.out⟩
       have n4_:Aside0 ((w42.setCell ⟨gb86,3,none⟩ (.slice Ao43 y92.length co43)).heap[gb86]? = some (.cells #[.int .i64 a0_0,.string a0_1,.int .i64 1,.slice Ao43 y92.length co43,.slice Ao36 t91.length co36] 25 (0,0))):=⟨by (with_reducible repeat (first|refine blk_drewN ?_ _|refine blk_drew ?_|refine blk_alloc ?_ _));refine blk_put (cs:=#[.int .i64 a0_0,.string a0_1,.int .i64 1,.slice Ao14 t90.length co14,.slice Ao36 t91.length co36]) ?_ 3 _ rfl;(with_reducible repeat (first|refine blk_drewN ?_ _|refine blk_drew ?_|refine blk_alloc ?_ _));exact BK86.out⟩
       have n5_:Aside0 (Below w.heap.size w (w42.setCell ⟨gb86,3,none⟩ (.slice Ao43 y92.length co43))):=⟨by repeat (first|(with_reducible first|exact HB.out|apply below_alloc|apply pw_below_drewN|apply below_drew1|refine below_set ?_ GE87.out|refine below_set ?_ GE88.out|refine below_set ?_ GE86.out)|exact HB.out)⟩
       (try clear HO93)
       (try clear HO95)
       (try clear BK87)
       (try clear BK88)
       (try clear BK86)
       (try clear HB)
       generalize (w42.setCell ⟨gb86,3,none⟩ (.slice Ao43 y92.length co43))=w45 at n0_ n1_ n2_ n3_ n4_ n5_ ⊢
       have HO93:=n0_
       have HO95:=n1_
       have BK87:=n2_
       have BK88:=n3_
       have BK86:=n4_
       have HB:=n5_
       clear n0_ n1_ n2_ n3_ n4_ n5_
       replace HO93:=Aside0.mk (Kd.R_drew HO93.out)
       replace HO95:=Aside0.mk (Kd.R_drew HO95.out)
       replace BK87:=Aside0.mk (blk_drew BK87.out)
       replace BK88:=Aside0.mk (blk_drew BK88.out)
       replace BK86:=Aside0.mk (blk_drew BK86.out)
       replace HB:=Aside0.mk (below_drew1 HB.out)
       refine start_ (n:=7) (S:=fun w' => w'.cell? ⟨gb86,0,none⟩=some (.int .i64 a0_0)∧w'.cell? ⟨gb86,1,none⟩=some (.string a0_1)∧w'.cell? ⟨gb86,2,none⟩=some (.int .i64 1)∧w'.cell? ⟨gb86,3,none⟩=some (.slice Ao43 y92.length co43)∧w'.cell? ⟨gb86,4,none⟩=some (.slice Ao36 t91.length co36)) (ds:=[6]) #[false,false,false,false,false,false,false] (by kernel_rfl) rfl rfl ⟨(blk_cell BK86.out 0).trans rfl,(blk_cell BK86.out 1).trans rfl,(blk_cell BK86.out 2).trans rfl,(blk_cell BK86.out 3).trans rfl,(blk_cell BK86.out 4).trans rfl⟩ (fun hHeld=>?_)
       generalize w45.drew=w46 at HO93 HO95 BK87 BK88 BK86 HB hHeld ⊢
       refine pure_ (i:=0) (N:=some 46) (v:=?_) (a' := ?_) #[true,false,false,false,false,false,false] rfl rfl (by kernel_rfl) (fun _ _ _ h=>h) (Or.inl ⟨by rfl,?_⟩) ?_ ?_
       rotate_left
       ·intro w';go_simp;with_reducible rfl
       rotate_left
       ·simp only [Act.put,zqA,zqB,zqC,i64_w,i32_w];rfl
       refine take_ (i:=1) (N:=some 47) (v:=?_) (a' := ?_) #[true,true,false,false,false,false,false] rfl rfl (by kernel_rfl) (fun _ _ _ h=>h) (Or.inl ⟨by rfl,?_⟩) hHeld ?_ ?_
       rotate_left
       ·rintro w' ⟨s0,s1,s2,s3,s4⟩;go_simp;with_reducible rfl
       rotate_left
       ·simp only [Act.put,zqA,zqB,zqC,i64_w,i32_w];rfl
       refine one_ (i:=2) (N:=some 48) #[true,true,true,false,false,false,false] rfl rfl (by kernel_rfl) (by decide) (fun K hK=>?_)
       refine goes_ Tryz.func47 (by kernel_rfl) rfl #[] (by rfl) rfl rfl (by (try simp only [List.map_toArray,List.map_cons,List.map_nil]);first|done|rfl|(simp only [List.length_drop,List.length_take];rfl)) ?_
       with_reducible refine (scrub_closing.calls  t94 t288 _ A30.out).mono ?_
       rintro e w47 ⟨rfl,hb⟩
       refine ⟨_,rfl,?_⟩
       replace HO93:=Aside0.mk (Kd.R_below (by (with_reducible repeat (first|apply Kd.R_alloc|apply Kd.R_drewN|apply Kd.R_drew));exact HO93.out) hb)
       replace HO95:=Aside0.mk (Kd.R_below (by (with_reducible repeat (first|apply Kd.R_alloc|apply Kd.R_drewN|apply Kd.R_drew));exact HO95.out) hb)
       replace BK87:=Aside0.mk (blk_below (g:=gb87) (o:=.cells #[.int .i64 a0_0,.string a0_1,.int .i64 a0_2,.slice A0_3 l0_3.length c0_3,.slice A0_4 l0_4.length c0_4] 25 (0,0)) (by (with_reducible repeat (first|refine blk_drewN ?_ _|refine blk_drew ?_|refine blk_alloc ?_ _));exact BK87.out) hb)
       replace BK88:=Aside0.mk (blk_below (g:=gb88) (o:=.cells #[.int .i64 0,.string (⟨#[]⟩:ByteArray),.int .i64 0,.slice none 0 0,.slice none 0 0] 25 (0,0)) (by (with_reducible repeat (first|refine blk_drewN ?_ _|refine blk_drew ?_|refine blk_alloc ?_ _));exact BK88.out) hb)
       replace BK86:=Aside0.mk (blk_below (g:=gb86) (o:=.cells #[.int .i64 a0_0,.string a0_1,.int .i64 1,.slice Ao43 y92.length co43,.slice Ao36 t91.length co36] 25 (0,0)) (by (with_reducible repeat (first|refine blk_drewN ?_ _|refine blk_drew ?_|refine blk_alloc ?_ _));exact BK86.out) hb)
       replace HB:=Aside0.mk (below_step (by repeat (first|(with_reducible first|exact HB.out|apply below_alloc|apply pw_below_drewN|apply below_drew1|refine below_set ?_ GE87.out|refine below_set ?_ GE88.out|refine below_set ?_ GE86.out)|exact HB.out)) hb)
       (try clear hb)
       (try clear hb2)
       (try clear hk)
       (try clear hi)
       refine hK.out _ _ ⟨(blk_cell BK86.out 0).trans rfl,(blk_cell BK86.out 1).trans rfl,(blk_cell BK86.out 2).trans rfl,(blk_cell BK86.out 3).trans rfl,(blk_cell BK86.out 4).trans rfl⟩ (fun hHeld=>?_)
       clear hK K
       refine norm_ (a' := ?_) ?_ ?_
       rotate_left
       ·show Act.put _ (some 48) _=_
        simp only [Act.put,zqA,zqB,zqC,i64_w,i32_w]
        rfl
       refine one_ (i:=3) (N:=some 49) #[true,true,true,true,false,false,false] rfl rfl (by kernel_rfl) (by decide) (fun K hK=>?_)
       refine value_ (w1:=?_) (v:=?_) (by rfl) rfl ?_ ?_
       rotate_left 2
       ·go_simp
        constructor
        ·rfl
        ·rfl
       refine hK.out _ _ ⟨(blk_cell (blk_alloc BK86.out _) 0).trans rfl,(blk_cell (blk_alloc BK86.out _) 1).trans rfl,(blk_cell (blk_alloc BK86.out _) 2).trans rfl,(blk_cell (blk_alloc BK86.out _) 3).trans rfl,(blk_cell (blk_alloc BK86.out _) 4).trans rfl⟩ (fun hHeld=>?_)
       clear hK K
       refine norm_ (a' := ?_) ?_ ?_
       rotate_left
       ·show Act.put _ (some 49) _=_
        simp only [Act.put,zqA,zqB,zqC,i64_w,i32_w]
        rfl
       refine one_ (i:=4) (N:=some 50) #[true,true,true,true,true,false,false] rfl rfl (by kernel_rfl) (by decide) (fun K hK=>?_)
       refine Kd.R_append_step k55 (w0:=w) w.heap.size (by rfl) (.tmp 47) (.tmp 49) 22 55 (.agg #[(.string ⟨#[]⟩),(.string ⟨#[]⟩)]) 32 rfl Tryz.underlying22 info55 rfl (by decide) (by omega) (.slice Ao43 y92.length co43) y92 (⟨t94,t288⟩:S55) [.string t94,.string t288] (fun _=>True) (fun _=>False) rfl rfl ?aP (fun _ hk=>hk.elim) ?aF ?aO ?aB ?aS ?aL ?_
       (case aP=>exact k55_mkM _ _ _ (⟨t94,t288⟩:S55))
       (case aB=>exact (by repeat (first|(with_reducible first|exact HB.out|apply below_alloc|apply pw_below_drewN|apply below_drew1|refine below_set ?_ GE87.out|refine below_set ?_ GE88.out|refine below_set ?_ GE86.out)|exact HB.out)))
       (case aF=>exact (fun _ _=>trivial))
       (case aO=>exact (by (with_reducible repeat (first|apply Kd.R_alloc|apply Kd.R_drewN|apply Kd.R_drew));exact HO95.out))
       (case aS=>exact (below_size (by repeat (first|(with_reducible first|exact HB.out|apply below_alloc|apply pw_below_drewN|apply below_drew1|refine below_set ?_ GE87.out|refine below_set ?_ GE88.out|refine below_set ?_ GE86.out)|exact HB.out))))
       (case aL=>have:=LMc31.out;omega)
       intro v290 w48 ho hb hg hat
       rw [← Ny98.out] at ho
       have n0_:=Aside0.mk (blk_grown (g:=gb87) (o:=.cells #[.int .i64 a0_0,.string a0_1,.int .i64 a0_2,.slice A0_3 l0_3.length c0_3,.slice A0_4 l0_4.length c0_4] 25 (0,0)) (by (with_reducible repeat (first|refine blk_drewN ?_ _|refine blk_drew ?_|refine blk_alloc ?_ _));exact BK87.out) hg (Kd.R_ne HO95.out BK87.out (by decide)))
       have n1_:=Aside0.mk (blk_grown (g:=gb88) (o:=.cells #[.int .i64 0,.string (⟨#[]⟩:ByteArray),.int .i64 0,.slice none 0 0,.slice none 0 0] 25 (0,0)) (by (with_reducible repeat (first|refine blk_drewN ?_ _|refine blk_drew ?_|refine blk_alloc ?_ _));exact BK88.out) hg (Kd.R_ne HO95.out BK88.out (by decide)))
       have n2_:=Aside0.mk (blk_grown (g:=gb86) (o:=.cells #[.int .i64 a0_0,.string a0_1,.int .i64 1,.slice Ao43 y92.length co43,.slice Ao36 t91.length co36] 25 (0,0)) (by (with_reducible repeat (first|refine blk_drewN ?_ _|refine blk_drew ?_|refine blk_alloc ?_ _));exact BK86.out) hg (Kd.R_ne HO95.out BK86.out (by decide)))
       have n3_:=Aside0.mk (Kd.R_over' (by (with_reducible repeat (first|apply Kd.R_alloc|apply Kd.R_drewN|apply Kd.R_drew));exact HO93.out) (Kd.R_typed (by (with_reducible repeat (first|apply Kd.R_alloc|apply Kd.R_drewN|apply Kd.R_drew));exact HO95.out)) (by decide) hg)
       have n4_:=Aside0.mk (hb)
       have n5_:=Aside0.mk (ho)
       clear BK87 BK88 BK86 HO93 HB HO95
       have BK87:=n0_
       have BK88:=n1_
       have BK86:=n2_
       have HO93:=n3_
       have HB:=n4_
       have HO291:=n5_
       clear n0_ n1_ n2_ n3_ n4_ n5_ ho hb hg hat
       obtain ⟨Ao49,co49,eo49⟩:=Kd.R_slice HO291.out
       (first|subst eo49|(injection eo49 with f1_ f2_ f3_;have f4_:=f1_.symm;have f5_:=f3_.symm;clear f1_ f2_ f3_;subst f4_;subst f5_))
       refine hK.out _ _ ⟨(blk_cell BK86.out 0).trans rfl,(blk_cell BK86.out 1).trans rfl,(blk_cell BK86.out 2).trans rfl,(blk_cell BK86.out 3).trans rfl,(blk_cell BK86.out 4).trans rfl⟩ (fun hHeld=>?_)
       clear hK K
       refine norm_ (a' := ?_) ?_ ?_
       rotate_left
       ·show Act.put _ (some 50) _=_
        simp only [Act.put,zqA,zqB,zqC,i64_w,i32_w]
        rfl
       refine pure_ (i:=5) (N:=some 51) (v:=?_) (a' := ?_) #[true,true,true,true,true,true,false] rfl rfl (by kernel_rfl) (fun _ _ _ h=>h) (Or.inl ⟨by rfl,?_⟩) ?_ ?_
       rotate_left
       ·intro w';go_simp;with_reducible rfl
       rotate_left
       ·simp only [Act.put,zqA,zqB,zqC,i64_w,i32_w];rfl
       refine last_ (i:=6) (N:=none) #[true,true,true,true,true,true,true] rfl rfl (by kernel_rfl) (by decide) (fun K hK=>?_)
       have hs50:w48.cell? ⟨gb86,3,none⟩=some (.slice Ao43 y92.length co43):=(blk_cell BK86.out 3).trans rfl
       have hfs50:=blk_frozen BK86.out 3
       have hns50_0:=NB87_275.out
       have hns50_1:=NB88_275.out
       have hms50_0:=NB86_270.out
       have hms50_1:=NB86_271.out
       refine skip_ (w1:=?_) (by rfl) rfl ?_ ?_
       rotate_left
       ·go_simp
        rfl
       refine hK.out _ _ ?_
       clear hK K
       refine done_ (by kernel_rfl) ?_
       have hcz51_0:w48.cell? ⟨gb86,0,none⟩=some (.int .i64 a0_0):=(blk_cell BK86.out 0).trans rfl
       have hcz51_1:w48.cell? ⟨gb86,1,none⟩=some (.string a0_1):=(blk_cell BK86.out 1).trans rfl
       have hcz51_2:w48.cell? ⟨gb86,2,none⟩=some (.int .i64 1):=(blk_cell BK86.out 2).trans rfl
       have hcz51_3:w48.cell? ⟨gb86,3,none⟩=some (.slice Ao43 y92.length co43):=(blk_cell BK86.out 3).trans rfl
       have hcz51_4:w48.cell? ⟨gb86,4,none⟩=some (.slice Ao36 t91.length co36):=(blk_cell BK86.out 4).trans rfl
       have hfz51_0:=blk_frozen BK86.out 0
       have hfz51_1:=blk_frozen BK86.out 1
       have hfz51_2:=blk_frozen BK86.out 2
       have hfz51_3:=blk_frozen BK86.out 3
       have hfz51_4:=blk_frozen BK86.out 4
       have hcz52_0:w48.cell? ⟨gb88,0,none⟩=some (.int .i64 0):=(blk_cell BK88.out 0).trans rfl
       have hcz52_1:w48.cell? ⟨gb88,1,none⟩=some (.string (⟨#[]⟩:ByteArray)):=(blk_cell BK88.out 1).trans rfl
       have hcz52_2:w48.cell? ⟨gb88,2,none⟩=some (.int .i64 0):=(blk_cell BK88.out 2).trans rfl
       have hcz52_3:w48.cell? ⟨gb88,3,none⟩=some (.slice none 0 0):=(blk_cell BK88.out 3).trans rfl
       have hcz52_4:w48.cell? ⟨gb88,4,none⟩=some (.slice none 0 0):=(blk_cell BK88.out 4).trans rfl
       have hfz52_0:=blk_frozen BK88.out 0
       have hfz52_1:=blk_frozen BK88.out 1
       have hfz52_2:=blk_frozen BK88.out 2
       have hfz52_3:=blk_frozen BK88.out 3
       have hfz52_4:=blk_frozen BK88.out 4
       try go_wp2
       refine bodyPost_ret (results_cell_row rfl _ _ gb88 25 #[.int .i64 a0_0,.string a0_1,.int .i64 1,.slice Ao49 y98.length co49,.slice Ao36 t91.length co36] (0,0) _ rfl (by (with_reducible repeat (first|refine blk_drewN ?_ _|refine blk_drew ?_|refine blk_alloc ?_ _));refine blk_put (cs:=#[.int .i64 a0_0,.string a0_1,.int .i64 1,.slice Ao49 y98.length co49,.slice none 0 0]) ?_ 4 _ rfl;(with_reducible repeat (first|refine blk_drewN ?_ _|refine blk_drew ?_|refine blk_alloc ?_ _));refine blk_put (cs:=#[.int .i64 a0_0,.string a0_1,.int .i64 1,.slice none 0 0,.slice none 0 0]) ?_ 3 _ rfl;(with_reducible repeat (first|refine blk_drewN ?_ _|refine blk_drew ?_|refine blk_alloc ?_ _));refine blk_put (cs:=#[.int .i64 a0_0,.string a0_1,.int .i64 0,.slice none 0 0,.slice none 0 0]) ?_ 2 _ rfl;(with_reducible repeat (first|refine blk_drewN ?_ _|refine blk_drew ?_|refine blk_alloc ?_ _));refine blk_put (cs:=#[.int .i64 a0_0,.string (⟨#[]⟩:ByteArray),.int .i64 0,.slice none 0 0,.slice none 0 0]) ?_ 1 _ rfl;(with_reducible repeat (first|refine blk_drewN ?_ _|refine blk_drew ?_|refine blk_alloc ?_ _));refine blk_put (cs:=#[.int .i64 0,.string (⟨#[]⟩:ByteArray),.int .i64 0,.slice none 0 0,.slice none 0 0]) ?_ 0 _ rfl;(with_reducible repeat (first|refine blk_drewN ?_ _|refine blk_drew ?_|refine blk_alloc ?_ _));refine blk_far ?_ NB88_275.out _;(with_reducible repeat (first|refine blk_drewN ?_ _|refine blk_drew ?_|refine blk_alloc ?_ _));exact BK88.out) Tryz.underlying25 rfl (by kernel_rfl)) rfl ?_
       exact ⟨_,_,by first|rfl|(simp [errW_none,errW_some] <;> rfl)|(simp [*,errW_none,errW_some] <;> rfl),by (with_reducible repeat (first|apply Kd.R_alloc|apply Kd.R_drewN|apply Kd.R_drew));exact Kd.R_mono (Kd.R_far (p:=⟨gb88,4,none⟩) (Kd.R_far (p:=⟨gb88,3,none⟩) (Kd.R_far (p:=⟨gb88,2,none⟩) (Kd.R_far (p:=⟨gb88,1,none⟩) (Kd.R_far (p:=⟨gb88,0,none⟩) (Kd.R_far (p:=⟨gb86,3,none⟩) (Kd.R_types (Kd.R_types HO291.out BK86.out (by decide)) BK88.out (by decide)) (fun _ hk=>hk.1.2) (.slice Ao49 y98.length co49)) (fun _ hk=>hk.2) (.int .i64 a0_0)) (fun _ hk=>hk.2) (.string a0_1)) (fun _ hk=>hk.2) (.int .i64 1)) (fun _ hk=>hk.2) (.slice Ao49 y98.length co49)) (fun _ hk=>hk.2) (.slice Ao36 t91.length co36)) (fun _ hk=>trivial),by (with_reducible repeat (first|apply Kd.R_alloc|apply Kd.R_drewN|apply Kd.R_drew));exact Kd.R_mono (Kd.R_far (p:=⟨gb88,4,none⟩) (Kd.R_far (p:=⟨gb88,3,none⟩) (Kd.R_far (p:=⟨gb88,2,none⟩) (Kd.R_far (p:=⟨gb88,1,none⟩) (Kd.R_far (p:=⟨gb88,0,none⟩) (Kd.R_far (p:=⟨gb86,3,none⟩) (Kd.R_types (Kd.R_types HO93.out BK86.out (by decide)) BK88.out (by decide)) (fun _ hk=>hk.1.2) (.slice Ao49 y98.length co49)) (fun _ hk=>hk.2) (.int .i64 a0_0)) (fun _ hk=>hk.2) (.string a0_1)) (fun _ hk=>hk.2) (.int .i64 1)) (fun _ hk=>hk.2) (.slice Ao49 y98.length co49)) (fun _ hk=>hk.2) (.slice Ao36 t91.length co36)) (fun _ hk=>trivial),by repeat (first|(with_reducible first|exact HB.out|apply below_alloc|apply pw_below_drewN|apply below_drew1|refine below_set ?_ GE87.out|refine below_set ?_ GE88.out|refine below_set ?_ GE86.out)|exact HB.out)⟩
      ·rw [if_neg c31] at H
       exact absurd H (by simp)
     ·replace c29:=Bool.eq_false_iff.mpr c29
      subst c29
      have H1:(some (a0_0,a0_1,1,y92,t91))=some (r1,r2,r3,r4,r5):=by rw [if_neg (show ¬ (false=true) by decide)] at H;exact H
      clear H
      have H:=H1
      clear H1
      simp only [Option.some.injEq,Prod.mk.injEq] at H
      obtain ⟨rfl,rfl,rfl,rfl,rfl⟩:=H
      have hnb53:=NB87_271.out
      have hnc53:=NB88_270.out
      have hnb54:=NB87_275.out
      have hnc54:=NB86_270.out
      have hcz55_0:wc.cell? ⟨gb87,0,none⟩=some (.int .i64 a0_0):=(blk_cell BK87.out 0).trans rfl
      have hcz55_1:wc.cell? ⟨gb87,1,none⟩=some (.string a0_1):=(blk_cell BK87.out 1).trans rfl
      have hcz55_2:wc.cell? ⟨gb87,2,none⟩=some (.int .i64 a0_2):=(blk_cell BK87.out 2).trans rfl
      have hcz55_3:wc.cell? ⟨gb87,3,none⟩=some (.slice A0_3 l0_3.length c0_3):=(blk_cell BK87.out 3).trans rfl
      have hcz55_4:wc.cell? ⟨gb87,4,none⟩=some (.slice A0_4 l0_4.length c0_4):=(blk_cell BK87.out 4).trans rfl
      have hfz55_0:=blk_frozen BK87.out 0
      have hfz55_1:=blk_frozen BK87.out 1
      have hfz55_2:=blk_frozen BK87.out 2
      have hfz55_3:=blk_frozen BK87.out 3
      have hfz55_4:=blk_frozen BK87.out 4
      try go_wp2_with (first|((with_reducible refine gate_callee (f:=45) rfl ?_);refine goesL_ (some 34) rfl rfl Tryz.func45 (by kernel_rfl) rfl #[.slice A0_4 l0_4.length c0_4] rfl (by (try simp only [List.map_toArray,List.map_cons,List.map_nil]);first|done|rfl|(simp only [List.length_drop,List.length_take];rfl)) ?_;(with_reducible refine (bytes_Clone.calls _ _ l0_4 t91 _ ?side1 ?side2 A26.out).mono ?_);(case side1=>repeat (first|exact (Kd.C_below HR0_4.out HB.out)|(with_reducible refine Kd.C_alloc ?_ _)|(with_reducible refine Kd.C_drewN ?_ _)|(with_reducible refine Kd.C_drew ?_)));(case side2=>exact HC0_4.out);rintro e w56 ⟨v280,rfl,ho0,hb⟩;(try clear A26);refine ⟨_,rfl,?_⟩;have n0_:=Aside0.mk (Kd.R_below (by (with_reducible repeat (first|apply Kd.R_alloc|apply Kd.R_drewN|apply Kd.R_drew));exact HO_89.out) hb);have n1_:=Aside0.mk (Kd.R_lower ho0 (below_size (by repeat (first|(with_reducible first|exact HB.out|apply below_alloc|apply pw_below_drewN|apply below_drew1|refine below_set ?_ GE87.out|refine below_set ?_ GE88.out|refine below_set ?_ GE86.out)|exact HB.out))));have n2_:=Aside0.mk (blk_below (g:=gb87) (o:=.cells #[.int .i64 a0_0,.string a0_1,.int .i64 a0_2,.slice A0_3 l0_3.length c0_3,.slice A0_4 l0_4.length c0_4] 25 (0,0)) (by (with_reducible repeat (first|refine blk_drewN ?_ _|refine blk_drew ?_|refine blk_alloc ?_ _));exact BK87.out) hb);have n3_:=Aside0.mk (blk_below (g:=gb88) (o:=.cells #[.int .i64 0,.string (⟨#[]⟩:ByteArray),.int .i64 0,.slice none 0 0,.slice none 0 0] 25 (0,0)) (by (with_reducible repeat (first|refine blk_drewN ?_ _|refine blk_drew ?_|refine blk_alloc ?_ _));exact BK88.out) hb);have n4_:=Aside0.mk (blk_below (g:=gb86) (o:=.cells #[.int .i64 a0_0,.string a0_1,.int .i64 1,.slice Ao14 t90.length co14,.slice none 0 0] 25 (0,0)) (by (with_reducible repeat (first|refine blk_drewN ?_ _|refine blk_drew ?_|refine blk_alloc ?_ _));exact BK86.out) hb);have n5_:=Aside0.mk (below_step (by repeat (first|(with_reducible first|exact HB.out|apply below_alloc|apply pw_below_drewN|apply below_drew1|refine below_set ?_ GE87.out|refine below_set ?_ GE88.out|refine below_set ?_ GE86.out)|exact HB.out)) hb);clear HO_89;clear BK87;clear BK88;clear BK86;clear HB;have HO_89:=n0_;have HO93:=n1_;have BK87:=n2_;have BK88:=n3_;have BK86:=n4_;have HB:=n5_;clear n0_ n1_ n2_ n3_ n4_ n5_;(try clear hb);(try clear hb2);(try clear hk);(try clear hi);(try clear ho0);obtain ⟨Ao57,co57,eo57⟩:=Kd.R_slice HO93.out;subst eo57;have hnb58:=NB86_271.out;have hnc58:=NB88_275.out;have hcz59_0:w56.cell? ⟨gb86,0,none⟩=some (.int .i64 a0_0):=(blk_cell BK86.out 0).trans rfl;have hcz59_1:w56.cell? ⟨gb86,1,none⟩=some (.string a0_1):=(blk_cell BK86.out 1).trans rfl;have hcz59_2:w56.cell? ⟨gb86,2,none⟩=some (.int .i64 1):=(blk_cell BK86.out 2).trans rfl;have hcz59_3:w56.cell? ⟨gb86,3,none⟩=some (.slice Ao14 t90.length co14):=(blk_cell BK86.out 3).trans rfl;have hcz59_4:w56.cell? ⟨gb86,4,none⟩=some (.slice none 0 0):=(blk_cell BK86.out 4).trans rfl;have hfz59_0:=blk_frozen BK86.out 0;have hfz59_1:=blk_frozen BK86.out 1;have hfz59_2:=blk_frozen BK86.out 2;have hfz59_3:=blk_frozen BK86.out 3;have hfz59_4:=blk_frozen BK86.out 4))
      have n0_:Aside0 (Kd.R k55 55 (w56.setCell ⟨gb86,4,none⟩ (.slice Ao57 t91.length co57)) w.heap.size (fun _=>True) (.slice Ao14 t90.length co14) t90):=⟨by (with_reducible repeat (first|apply Kd.R_alloc|apply Kd.R_drewN|apply Kd.R_drew));exact Kd.R_mono (Kd.R_far (p:=⟨gb86,4,none⟩) (Kd.R_types HO_89.out BK86.out (by decide)) (fun _ hk=>hk.2) (.slice Ao57 t91.length co57)) (fun _ hk=>trivial)⟩
      have n1_:Aside0 (Kd.R (Kd.int .u8) 5 (w56.setCell ⟨gb86,4,none⟩ (.slice Ao57 t91.length co57)) w.heap.size (fun _=>True) (.slice Ao57 t91.length co57) t91):=⟨by (with_reducible repeat (first|apply Kd.R_alloc|apply Kd.R_drewN|apply Kd.R_drew));exact Kd.R_mono (Kd.R_far (p:=⟨gb86,4,none⟩) (Kd.R_types HO93.out BK86.out (by decide)) (fun _ hk=>hk.2) (.slice Ao57 t91.length co57)) (fun _ hk=>trivial)⟩
      have n2_:Aside0 ((w56.setCell ⟨gb86,4,none⟩ (.slice Ao57 t91.length co57)).heap[gb87]? = some (.cells #[.int .i64 a0_0,.string a0_1,.int .i64 a0_2,.slice A0_3 l0_3.length c0_3,.slice A0_4 l0_4.length c0_4] 25 (0,0))):=⟨by (with_reducible repeat (first|refine blk_drewN ?_ _|refine blk_drew ?_|refine blk_alloc ?_ _));refine blk_far ?_ NB87_275.out _;(with_reducible repeat (first|refine blk_drewN ?_ _|refine blk_drew ?_|refine blk_alloc ?_ _));exact BK87.out⟩
      have n3_:Aside0 ((w56.setCell ⟨gb86,4,none⟩ (.slice Ao57 t91.length co57)).heap[gb88]? = some (.cells #[.int .i64 0,.string (⟨#[]⟩:ByteArray),.int .i64 0,.slice none 0 0,.slice none 0 0] 25 (0,0))):=⟨by (with_reducible repeat (first|refine blk_drewN ?_ _|refine blk_drew ?_|refine blk_alloc ?_ _));refine blk_far ?_ NB88_275.out _;(with_reducible repeat (first|refine blk_drewN ?_ _|refine blk_drew ?_|refine blk_alloc ?_ _));exact BK88.out⟩
      have n4_:Aside0 ((w56.setCell ⟨gb86,4,none⟩ (.slice Ao57 t91.length co57)).heap[gb86]? = some (.cells #[.int .i64 a0_0,.string a0_1,.int .i64 1,.slice Ao14 t90.length co14,.slice Ao57 t91.length co57] 25 (0,0))):=⟨by (with_reducible repeat (first|refine blk_drewN ?_ _|refine blk_drew ?_|refine blk_alloc ?_ _));refine blk_put (cs:=#[.int .i64 a0_0,.string a0_1,.int .i64 1,.slice Ao14 t90.length co14,.slice none 0 0]) ?_ 4 _ rfl;(with_reducible repeat (first|refine blk_drewN ?_ _|refine blk_drew ?_|refine blk_alloc ?_ _));exact BK86.out⟩
      have n5_:Aside0 (Below w.heap.size w (w56.setCell ⟨gb86,4,none⟩ (.slice Ao57 t91.length co57))):=⟨by repeat (first|(with_reducible first|exact HB.out|apply below_alloc|apply pw_below_drewN|apply below_drew1|refine below_set ?_ GE87.out|refine below_set ?_ GE88.out|refine below_set ?_ GE86.out)|exact HB.out)⟩
      (try clear HO_89)
      (try clear HO93)
      (try clear BK87)
      (try clear BK88)
      (try clear BK86)
      (try clear HB)
      generalize (w56.setCell ⟨gb86,4,none⟩ (.slice Ao57 t91.length co57))=w60 at n0_ n1_ n2_ n3_ n4_ n5_ ⊢
      have HO_89:=n0_
      have HO93:=n1_
      have BK87:=n2_
      have BK88:=n3_
      have BK86:=n4_
      have HB:=n5_
      clear n0_ n1_ n2_ n3_ n4_ n5_
      replace HO_89:=Aside0.mk (Kd.R_drew HO_89.out)
      replace HO93:=Aside0.mk (Kd.R_drew HO93.out)
      replace BK87:=Aside0.mk (blk_drew BK87.out)
      replace BK88:=Aside0.mk (blk_drew BK88.out)
      replace BK86:=Aside0.mk (blk_drew BK86.out)
      replace HB:=Aside0.mk (below_drew1 HB.out)
      refine start_ (n:=10) (S:=fun w' => w'.cell? ⟨gb86,0,none⟩=some (.int .i64 a0_0)∧w'.cell? ⟨gb86,1,none⟩=some (.string a0_1)∧w'.cell? ⟨gb86,2,none⟩=some (.int .i64 1)∧w'.cell? ⟨gb86,3,none⟩=some (.slice Ao14 t90.length co14)∧w'.cell? ⟨gb86,4,none⟩=some (.slice Ao57 t91.length co57)∧w'.cell? ⟨gb87,0,none⟩=some (.int .i64 a0_0)∧w'.cell? ⟨gb87,1,none⟩=some (.string a0_1)∧w'.cell? ⟨gb87,2,none⟩=some (.int .i64 a0_2)∧w'.cell? ⟨gb87,3,none⟩=some (.slice A0_3 l0_3.length c0_3)∧w'.cell? ⟨gb87,4,none⟩=some (.slice A0_4 l0_4.length c0_4)) (ds:=[9]) #[false,false,false,false,false,false,false,false,false,false] (by kernel_rfl) rfl rfl ⟨(blk_cell BK86.out 0).trans rfl,(blk_cell BK86.out 1).trans rfl,(blk_cell BK86.out 2).trans rfl,(blk_cell BK86.out 3).trans rfl,(blk_cell BK86.out 4).trans rfl,(blk_cell BK87.out 0).trans rfl,(blk_cell BK87.out 1).trans rfl,(blk_cell BK87.out 2).trans rfl,(blk_cell BK87.out 3).trans rfl,(blk_cell BK87.out 4).trans rfl⟩ (fun hHeld=>?_);refine with_tabW scrub_Response.tab5 scrub_Response.bits5 (fun HT_ HW_=>?_)
      generalize w60.drew=w61 at HO_89 HO93 BK87 BK88 BK86 HB hHeld ⊢
      refine pure_ (i:=0) (N:=some 36) (v:=?_) (a' := ?_) #[true,false,false,false,false,false,false,false,false,false] rfl rfl (any_of HT_.out (by kernel_rfl)) (fun _ _ _ h=>h) (Or.inl ⟨by rfl,?_⟩) ?_ ?_
      rotate_left
      ·intro w';go_simp;with_reducible rfl
      rotate_left
      ·simp only [Act.put,zqA,zqB,zqC,i64_w,i32_w];rfl
      refine pure_ (i:=2) (N:=some 38) (v:=?_) (a' := ?_) #[true,false,true,false,false,false,false,false,false,false] rfl rfl (any_of HT_.out (by kernel_rfl)) (fun _ _ _ h=>h) (Or.inl ⟨by rfl,?_⟩) ?_ ?_
      rotate_left
      ·intro w';go_simp;with_reducible rfl
      rotate_left
      ·simp only [Act.put,zqA,zqB,zqC,i64_w,i32_w];rfl
      refine take_ (i:=1) (N:=some 37) (v:=?_) (a' := ?_) #[true,true,true,false,false,false,false,false,false,false] rfl rfl (take_ofW HT_.out HW_.out (by kernel_rfl)) (fun _ _ _ h=>h) (Or.inl ⟨by rfl,?_⟩) hHeld ?_ ?_
      rotate_left
      ·rintro w' ⟨s0,s1,s2,s3,s4,s5,s6,s7,s8,s9⟩;go_simp;with_reducible rfl
      rotate_left
      ·simp only [Act.put,zqA,zqB,zqC,i64_w,i32_w];rfl
      refine take_ (i:=3) (N:=some 39) (v:=?_) (a' := ?_) #[true,true,true,true,false,false,false,false,false,false] rfl rfl (take_ofW HT_.out HW_.out (by kernel_rfl)) (fun _ _ _ h=>h) (Or.inl ⟨by rfl,?_⟩) hHeld ?_ ?_
      rotate_left
      ·rintro w' ⟨s0,s1,s2,s3,s4,s5,s6,s7,s8,s9⟩;go_simp;with_reducible rfl
      rotate_left
      ·simp only [Act.put,zqA,zqB,zqC,i64_w,i32_w];rfl
      refine pure_ (i:=4) (N:=some 40) (v:=?_) (a' := ?_) #[true,true,true,true,true,false,false,false,false,false] rfl rfl (any_of HT_.out (by kernel_rfl)) (fun _ _ _ h=>h) (Or.inl ⟨by rfl,?_⟩) ?_ ?_
      rotate_left
      ·intro w';go_simp;with_reducible rfl
      rotate_left
      ·simp only [Act.put,zqA,zqB,zqC,i64_w,i32_w];rfl
      refine one_ (i:=5) (N:=some 41) #[true,true,true,true,true,true,false,false,false,false] rfl rfl (one_of HT_.out (by kernel_rfl)) (by decide) (fun K hK=>?_)
      refine goes_ Tryz.func46 (by kernel_rfl) rfl #[.int .i64 (l0_4.length:Int)] (by rfl) rfl rfl (by (try simp only [List.map_toArray,List.map_cons,List.map_nil]);first|done|rfl|(simp only [List.length_drop,List.length_take];rfl)) ?_
      with_reducible refine (scrub_length.calls (l0_4.length:Int) t96 t283 _ A27.out ?hT).mono ?_;(case hT=>exact HTB.out.below (by repeat (first|(with_reducible first|exact HB.out|apply below_alloc|apply pw_below_drewN|apply below_drew1|refine below_set ?_ GE87.out|refine below_set ?_ GE88.out|refine below_set ?_ GE86.out)|exact HB.out)))
      rintro e w62 ⟨rfl,hb⟩
      refine ⟨_,rfl,?_⟩
      replace HO_89:=Aside0.mk (Kd.R_below (by (with_reducible repeat (first|apply Kd.R_alloc|apply Kd.R_drewN|apply Kd.R_drew));exact HO_89.out) hb)
      replace HO93:=Aside0.mk (Kd.R_below (by (with_reducible repeat (first|apply Kd.R_alloc|apply Kd.R_drewN|apply Kd.R_drew));exact HO93.out) hb)
      replace BK87:=Aside0.mk (blk_below (g:=gb87) (o:=.cells #[.int .i64 a0_0,.string a0_1,.int .i64 a0_2,.slice A0_3 l0_3.length c0_3,.slice A0_4 l0_4.length c0_4] 25 (0,0)) (by (with_reducible repeat (first|refine blk_drewN ?_ _|refine blk_drew ?_|refine blk_alloc ?_ _));exact BK87.out) hb)
      replace BK88:=Aside0.mk (blk_below (g:=gb88) (o:=.cells #[.int .i64 0,.string (⟨#[]⟩:ByteArray),.int .i64 0,.slice none 0 0,.slice none 0 0] 25 (0,0)) (by (with_reducible repeat (first|refine blk_drewN ?_ _|refine blk_drew ?_|refine blk_alloc ?_ _));exact BK88.out) hb)
      replace BK86:=Aside0.mk (blk_below (g:=gb86) (o:=.cells #[.int .i64 a0_0,.string a0_1,.int .i64 1,.slice Ao14 t90.length co14,.slice Ao57 t91.length co57] 25 (0,0)) (by (with_reducible repeat (first|refine blk_drewN ?_ _|refine blk_drew ?_|refine blk_alloc ?_ _));exact BK86.out) hb)
      replace HB:=Aside0.mk (below_step (by repeat (first|(with_reducible first|exact HB.out|apply below_alloc|apply pw_below_drewN|apply below_drew1|refine below_set ?_ GE87.out|refine below_set ?_ GE88.out|refine below_set ?_ GE86.out)|exact HB.out)) hb)
      (try clear hb)
      (try clear hb2)
      (try clear hk)
      (try clear hi)
      refine hK.out _ _ ⟨(blk_cell BK86.out 0).trans rfl,(blk_cell BK86.out 1).trans rfl,(blk_cell BK86.out 2).trans rfl,(blk_cell BK86.out 3).trans rfl,(blk_cell BK86.out 4).trans rfl,(blk_cell BK87.out 0).trans rfl,(blk_cell BK87.out 1).trans rfl,(blk_cell BK87.out 2).trans rfl,(blk_cell BK87.out 3).trans rfl,(blk_cell BK87.out 4).trans rfl⟩ (fun hHeld=>?_)
      clear hK K
      refine norm_ (a' := ?_) ?_ ?_
      rotate_left
      ·show Act.put _ (some 41) _=_
       simp only [Act.put,zqA,zqB,zqC,i64_w,i32_w]
       rfl
      refine one_ (i:=6) (N:=some 42) #[true,true,true,true,true,true,true,false,false,false] rfl rfl (one_of HT_.out (by kernel_rfl)) (by decide) (fun K hK=>?_)
      refine value_ (w1:=?_) (v:=?_) (by rfl) rfl ?_ ?_
      rotate_left 2
      ·go_simp
       constructor
       ·rfl
       ·rfl
      refine hK.out _ _ ⟨(blk_cell (blk_alloc BK86.out _) 0).trans rfl,(blk_cell (blk_alloc BK86.out _) 1).trans rfl,(blk_cell (blk_alloc BK86.out _) 2).trans rfl,(blk_cell (blk_alloc BK86.out _) 3).trans rfl,(blk_cell (blk_alloc BK86.out _) 4).trans rfl,(blk_cell (blk_alloc BK87.out _) 0).trans rfl,(blk_cell (blk_alloc BK87.out _) 1).trans rfl,(blk_cell (blk_alloc BK87.out _) 2).trans rfl,(blk_cell (blk_alloc BK87.out _) 3).trans rfl,(blk_cell (blk_alloc BK87.out _) 4).trans rfl⟩ (fun hHeld=>?_)
      clear hK K
      refine norm_ (a' := ?_) ?_ ?_
      rotate_left
      ·show Act.put _ (some 42) _=_
       simp only [Act.put,zqA,zqB,zqC,i64_w,i32_w]
       rfl
      refine one_ (i:=7) (N:=some 43) #[true,true,true,true,true,true,true,true,false,false] rfl rfl (one_of HT_.out (by kernel_rfl)) (by decide) (fun K hK=>?_)
      refine Kd.R_append_step k55 (w0:=w) w.heap.size (by rfl) (.tmp 37) (.tmp 42) 22 55 (.agg #[(.string ⟨#[]⟩),(.string ⟨#[]⟩)]) 32 rfl Tryz.underlying22 info55 rfl (by decide) (by omega) (.slice Ao14 t90.length co14) t90 (⟨t96,t283⟩:S55) [.string t96,.string t283] (fun _=>True) (fun _=>False) rfl rfl ?aP (fun _ hk=>hk.elim) ?aF ?aO ?aB ?aS ?aL ?_
      (case aP=>exact k55_mkM _ _ _ (⟨t96,t283⟩:S55))
      (case aB=>exact (by repeat (first|(with_reducible first|exact HB.out|apply below_alloc|apply pw_below_drewN|apply below_drew1|refine below_set ?_ GE87.out|refine below_set ?_ GE88.out|refine below_set ?_ GE86.out)|exact HB.out)))
      (case aF=>exact (fun _ _=>trivial))
      (case aO=>exact (by (with_reducible repeat (first|apply Kd.R_alloc|apply Kd.R_drewN|apply Kd.R_drew));exact HO_89.out))
      (case aS=>exact (below_size (by repeat (first|(with_reducible first|exact HB.out|apply below_alloc|apply pw_below_drewN|apply below_drew1|refine below_set ?_ GE87.out|refine below_set ?_ GE88.out|refine below_set ?_ GE86.out)|exact HB.out))))
      (case aL=>have:=LMc28.out;omega)
      intro v285 w63 ho hb hg hat
      rw [← Ny92.out] at ho
      have n0_:=Aside0.mk (blk_grown (g:=gb87) (o:=.cells #[.int .i64 a0_0,.string a0_1,.int .i64 a0_2,.slice A0_3 l0_3.length c0_3,.slice A0_4 l0_4.length c0_4] 25 (0,0)) (by (with_reducible repeat (first|refine blk_drewN ?_ _|refine blk_drew ?_|refine blk_alloc ?_ _));exact BK87.out) hg (Kd.R_ne HO_89.out BK87.out (by decide)))
      have n1_:=Aside0.mk (blk_grown (g:=gb88) (o:=.cells #[.int .i64 0,.string (⟨#[]⟩:ByteArray),.int .i64 0,.slice none 0 0,.slice none 0 0] 25 (0,0)) (by (with_reducible repeat (first|refine blk_drewN ?_ _|refine blk_drew ?_|refine blk_alloc ?_ _));exact BK88.out) hg (Kd.R_ne HO_89.out BK88.out (by decide)))
      have n2_:=Aside0.mk (blk_grown (g:=gb86) (o:=.cells #[.int .i64 a0_0,.string a0_1,.int .i64 1,.slice Ao14 t90.length co14,.slice Ao57 t91.length co57] 25 (0,0)) (by (with_reducible repeat (first|refine blk_drewN ?_ _|refine blk_drew ?_|refine blk_alloc ?_ _));exact BK86.out) hg (Kd.R_ne HO_89.out BK86.out (by decide)))
      have n3_:=Aside0.mk (Kd.R_over' (by (with_reducible repeat (first|apply Kd.R_alloc|apply Kd.R_drewN|apply Kd.R_drew));exact HO93.out) (Kd.R_typed (by (with_reducible repeat (first|apply Kd.R_alloc|apply Kd.R_drewN|apply Kd.R_drew));exact HO_89.out)) (by decide) hg)
      have n4_:=Aside0.mk (hb)
      have n5_:=Aside0.mk (ho)
      clear BK87 BK88 BK86 HO93 HB HO_89
      have BK87:=n0_
      have BK88:=n1_
      have BK86:=n2_
      have HO93:=n3_
      have HB:=n4_
      have HO95:=n5_
      clear n0_ n1_ n2_ n3_ n4_ n5_ ho hb hg hat
      obtain ⟨Ao64,co64,eo64⟩:=Kd.R_slice HO95.out
      (first|subst eo64|(injection eo64 with f1_ f2_ f3_;have f4_:=f1_.symm;have f5_:=f3_.symm;clear f1_ f2_ f3_;subst f4_;subst f5_))
      refine hK.out _ _ ⟨(blk_cell BK86.out 0).trans rfl,(blk_cell BK86.out 1).trans rfl,(blk_cell BK86.out 2).trans rfl,(blk_cell BK86.out 3).trans rfl,(blk_cell BK86.out 4).trans rfl,(blk_cell BK87.out 0).trans rfl,(blk_cell BK87.out 1).trans rfl,(blk_cell BK87.out 2).trans rfl,(blk_cell BK87.out 3).trans rfl,(blk_cell BK87.out 4).trans rfl⟩ (fun hHeld=>?_)
      clear hK K
      refine norm_ (a' := ?_) ?_ ?_
      rotate_left
      ·show Act.put _ (some 43) _=_
       simp only [Act.put,zqA,zqB,zqC,i64_w,i32_w]
       rfl
      refine pure_ (i:=8) (N:=some 44) (v:=?_) (a' := ?_) #[true,true,true,true,true,true,true,true,true,false] rfl rfl (any_of HT_.out (by kernel_rfl)) (fun _ _ _ h=>h) (Or.inl ⟨by rfl,?_⟩) ?_ ?_
      rotate_left
      ·intro w';go_simp;with_reducible rfl
      rotate_left
      ·simp only [Act.put,zqA,zqB,zqC,i64_w,i32_w];rfl
      refine last_ (i:=9) (N:=none) #[true,true,true,true,true,true,true,true,true,true] rfl rfl (one_of HT_.out (by kernel_rfl)) (by decide) (fun K hK=>?_)
      have hs65:w63.cell? ⟨gb86,3,none⟩=some (.slice Ao14 t90.length co14):=(blk_cell BK86.out 3).trans rfl
      have hfs65:=blk_frozen BK86.out 3
      have hns65_0:=NB87_275.out
      have hns65_1:=NB88_275.out
      have hms65_0:=NB86_270.out
      have hms65_1:=NB86_271.out
      refine skip_ (w1:=?_) (by rfl) rfl ?_ ?_
      rotate_left
      ·go_simp
       rfl
      refine hK.out _ _ ?_
      clear hK K
      refine done_ (done_of HT_.out (by kernel_rfl)) ?_
      have hcz66_0:w63.cell? ⟨gb86,0,none⟩=some (.int .i64 a0_0):=(blk_cell BK86.out 0).trans rfl
      have hcz66_1:w63.cell? ⟨gb86,1,none⟩=some (.string a0_1):=(blk_cell BK86.out 1).trans rfl
      have hcz66_2:w63.cell? ⟨gb86,2,none⟩=some (.int .i64 1):=(blk_cell BK86.out 2).trans rfl
      have hcz66_3:w63.cell? ⟨gb86,3,none⟩=some (.slice Ao14 t90.length co14):=(blk_cell BK86.out 3).trans rfl
      have hcz66_4:w63.cell? ⟨gb86,4,none⟩=some (.slice Ao57 t91.length co57):=(blk_cell BK86.out 4).trans rfl
      have hfz66_0:=blk_frozen BK86.out 0
      have hfz66_1:=blk_frozen BK86.out 1
      have hfz66_2:=blk_frozen BK86.out 2
      have hfz66_3:=blk_frozen BK86.out 3
      have hfz66_4:=blk_frozen BK86.out 4
      have hcz67_0:w63.cell? ⟨gb88,0,none⟩=some (.int .i64 0):=(blk_cell BK88.out 0).trans rfl
      have hcz67_1:w63.cell? ⟨gb88,1,none⟩=some (.string (⟨#[]⟩:ByteArray)):=(blk_cell BK88.out 1).trans rfl
      have hcz67_2:w63.cell? ⟨gb88,2,none⟩=some (.int .i64 0):=(blk_cell BK88.out 2).trans rfl
      have hcz67_3:w63.cell? ⟨gb88,3,none⟩=some (.slice none 0 0):=(blk_cell BK88.out 3).trans rfl
      have hcz67_4:w63.cell? ⟨gb88,4,none⟩=some (.slice none 0 0):=(blk_cell BK88.out 4).trans rfl
      have hfz67_0:=blk_frozen BK88.out 0
      have hfz67_1:=blk_frozen BK88.out 1
      have hfz67_2:=blk_frozen BK88.out 2
      have hfz67_3:=blk_frozen BK88.out 3
      have hfz67_4:=blk_frozen BK88.out 4
      try go_wp2
      refine bodyPost_ret (results_cell_row rfl _ _ gb88 25 #[.int .i64 a0_0,.string a0_1,.int .i64 1,.slice Ao64 y92.length co64,.slice Ao57 t91.length co57] (0,0) _ rfl (by (with_reducible repeat (first|refine blk_drewN ?_ _|refine blk_drew ?_|refine blk_alloc ?_ _));refine blk_put (cs:=#[.int .i64 a0_0,.string a0_1,.int .i64 1,.slice Ao64 y92.length co64,.slice none 0 0]) ?_ 4 _ rfl;(with_reducible repeat (first|refine blk_drewN ?_ _|refine blk_drew ?_|refine blk_alloc ?_ _));refine blk_put (cs:=#[.int .i64 a0_0,.string a0_1,.int .i64 1,.slice none 0 0,.slice none 0 0]) ?_ 3 _ rfl;(with_reducible repeat (first|refine blk_drewN ?_ _|refine blk_drew ?_|refine blk_alloc ?_ _));refine blk_put (cs:=#[.int .i64 a0_0,.string a0_1,.int .i64 0,.slice none 0 0,.slice none 0 0]) ?_ 2 _ rfl;(with_reducible repeat (first|refine blk_drewN ?_ _|refine blk_drew ?_|refine blk_alloc ?_ _));refine blk_put (cs:=#[.int .i64 a0_0,.string (⟨#[]⟩:ByteArray),.int .i64 0,.slice none 0 0,.slice none 0 0]) ?_ 1 _ rfl;(with_reducible repeat (first|refine blk_drewN ?_ _|refine blk_drew ?_|refine blk_alloc ?_ _));refine blk_put (cs:=#[.int .i64 0,.string (⟨#[]⟩:ByteArray),.int .i64 0,.slice none 0 0,.slice none 0 0]) ?_ 0 _ rfl;(with_reducible repeat (first|refine blk_drewN ?_ _|refine blk_drew ?_|refine blk_alloc ?_ _));refine blk_far ?_ NB88_275.out _;(with_reducible repeat (first|refine blk_drewN ?_ _|refine blk_drew ?_|refine blk_alloc ?_ _));exact BK88.out) Tryz.underlying25 rfl (by kernel_rfl)) rfl ?_
      exact ⟨_,_,by first|rfl|(simp [errW_none,errW_some] <;> rfl)|(simp [*,errW_none,errW_some] <;> rfl),by (with_reducible repeat (first|apply Kd.R_alloc|apply Kd.R_drewN|apply Kd.R_drew));exact Kd.R_mono (Kd.R_far (p:=⟨gb88,4,none⟩) (Kd.R_far (p:=⟨gb88,3,none⟩) (Kd.R_far (p:=⟨gb88,2,none⟩) (Kd.R_far (p:=⟨gb88,1,none⟩) (Kd.R_far (p:=⟨gb88,0,none⟩) (Kd.R_far (p:=⟨gb86,3,none⟩) (Kd.R_types (Kd.R_types HO95.out BK86.out (by decide)) BK88.out (by decide)) (fun _ hk=>hk.1.2) (.slice Ao64 y92.length co64)) (fun _ hk=>hk.2) (.int .i64 a0_0)) (fun _ hk=>hk.2) (.string a0_1)) (fun _ hk=>hk.2) (.int .i64 1)) (fun _ hk=>hk.2) (.slice Ao64 y92.length co64)) (fun _ hk=>hk.2) (.slice Ao57 t91.length co57)) (fun _ hk=>trivial),by (with_reducible repeat (first|apply Kd.R_alloc|apply Kd.R_drewN|apply Kd.R_drew));exact Kd.R_mono (Kd.R_far (p:=⟨gb88,4,none⟩) (Kd.R_far (p:=⟨gb88,3,none⟩) (Kd.R_far (p:=⟨gb88,2,none⟩) (Kd.R_far (p:=⟨gb88,1,none⟩) (Kd.R_far (p:=⟨gb88,0,none⟩) (Kd.R_far (p:=⟨gb86,3,none⟩) (Kd.R_types (Kd.R_types HO93.out BK86.out (by decide)) BK88.out (by decide)) (fun _ hk=>hk.1.2) (.slice Ao64 y92.length co64)) (fun _ hk=>hk.2) (.int .i64 a0_0)) (fun _ hk=>hk.2) (.string a0_1)) (fun _ hk=>hk.2) (.int .i64 1)) (fun _ hk=>hk.2) (.slice Ao64 y92.length co64)) (fun _ hk=>hk.2) (.slice Ao57 t91.length co57)) (fun _ hk=>trivial),by repeat (first|(with_reducible first|exact HB.out|apply below_alloc|apply pw_below_drewN|apply below_drew1|refine below_set ?_ GE87.out|refine below_set ?_ GE88.out|refine below_set ?_ GE86.out)|exact HB.out)⟩
    ·rw [if_neg c28] at H
     exact absurd H (by simp)
   ·replace c25:=Bool.eq_false_iff.mpr c25
    subst c25
    have H1:(if a2=true then ((scrub_closing.f).bind fun bt292=>(if t90.length < 4398046511104 then (some (a0_0,a0_1,1,(t90 ++ [(⟨bt292.1,bt292.2⟩:S55)]),([]:List Int))) else (none))) else (some (a0_0,a0_1,1,t90,([]:List Int))))=some (r1,r2,r3,r4,r5):=by rw [if_neg (show ¬ (false=true) by decide)] at H;exact H
    clear H
    have H:=H1
    clear H1
    by_cases c68:a2=true
    ·subst c68
     have H1:((scrub_closing.f).bind fun bt292=>(if t90.length < 4398046511104 then (some (a0_0,a0_1,1,(t90 ++ [(⟨bt292.1,bt292.2⟩:S55)]),([]:List Int))) else (none)))=some (r1,r2,r3,r4,r5):=by rw [if_pos rfl] at H;exact H
     clear H
     have H:=H1
     clear H1
     replace H:=Option.bind_eq_some_iff.mp H
     obtain ⟨⟨t292,t293⟩,A690,H⟩:=H
     replace H:(if t90.length < 4398046511104 then (some (a0_0,a0_1,1,(t90 ++ [(⟨t292,t293⟩:S55)]),([]:List Int))) else (none))=some (r1,r2,r3,r4,r5):=H
     have A69:=Aside0.mk A690
     clear A690
     by_cases c70:t90.length < 4398046511104
     ·rw [if_pos c70] at H
      have LMc70:=Aside0.mk c70
      clear c70
      obtain ⟨y99,hy99⟩ : ∃ y_:List (S55),y_=(t90 ++ [(⟨t292,t293⟩:S55)]):=⟨_,rfl⟩
      replace H:(some (a0_0,a0_1,1,y99,([]:List Int)))=some (r1,r2,r3,r4,r5):=by first|(rw [hy99];with_reducible exact H)|(have H2_:=(Option.bind_some _ _).symm.trans H;rw [hy99];with_reducible exact H2_)|(have H2_:=(Option.bind_some _ _).symm.trans H;with_reducible exact H2_)|with_reducible exact H|(rw [hy99];exact H)|exact H
      have Ny99:=Aside0.mk hy99
      clear hy99
      simp only [Option.some.injEq,Prod.mk.injEq] at H
      obtain ⟨rfl,rfl,rfl,rfl,rfl⟩:=H
      try go_wp2
      replace HO_89:=Aside0.mk (Kd.R_drew HO_89.out)
      replace BK87:=Aside0.mk (blk_drew BK87.out)
      replace BK88:=Aside0.mk (blk_drew BK88.out)
      replace BK86:=Aside0.mk (blk_drew BK86.out)
      replace HB:=Aside0.mk (below_drew1 HB.out)
      refine start_ (n:=7) (S:=fun w' => w'.cell? ⟨gb86,0,none⟩=some (.int .i64 a0_0)∧w'.cell? ⟨gb86,1,none⟩=some (.string a0_1)∧w'.cell? ⟨gb86,2,none⟩=some (.int .i64 1)∧w'.cell? ⟨gb86,3,none⟩=some (.slice Ao14 t90.length co14)∧w'.cell? ⟨gb86,4,none⟩=some (.slice none 0 0)) (ds:=[6]) #[false,false,false,false,false,false,false] (by kernel_rfl) rfl rfl ⟨(blk_cell BK86.out 0).trans rfl,(blk_cell BK86.out 1).trans rfl,(blk_cell BK86.out 2).trans rfl,(blk_cell BK86.out 3).trans rfl,(blk_cell BK86.out 4).trans rfl⟩ (fun hHeld=>?_)
      generalize wc.drew=w71 at HO_89 BK87 BK88 BK86 HB hHeld ⊢
      refine pure_ (i:=0) (N:=some 46) (v:=?_) (a' := ?_) #[true,false,false,false,false,false,false] rfl rfl (by kernel_rfl) (fun _ _ _ h=>h) (Or.inl ⟨by rfl,?_⟩) ?_ ?_
      rotate_left
      ·intro w';go_simp;with_reducible rfl
      rotate_left
      ·simp only [Act.put,zqA,zqB,zqC,i64_w,i32_w];rfl
      refine take_ (i:=1) (N:=some 47) (v:=?_) (a' := ?_) #[true,true,false,false,false,false,false] rfl rfl (by kernel_rfl) (fun _ _ _ h=>h) (Or.inl ⟨by rfl,?_⟩) hHeld ?_ ?_
      rotate_left
      ·rintro w' ⟨s0,s1,s2,s3,s4⟩;go_simp;with_reducible rfl
      rotate_left
      ·simp only [Act.put,zqA,zqB,zqC,i64_w,i32_w];rfl
      refine one_ (i:=2) (N:=some 48) #[true,true,true,false,false,false,false] rfl rfl (by kernel_rfl) (by decide) (fun K hK=>?_)
      refine goes_ Tryz.func47 (by kernel_rfl) rfl #[] (by rfl) rfl rfl (by (try simp only [List.map_toArray,List.map_cons,List.map_nil]);first|done|rfl|(simp only [List.length_drop,List.length_take];rfl)) ?_
      with_reducible refine (scrub_closing.calls  t292 t293 _ A69.out).mono ?_
      rintro e w72 ⟨rfl,hb⟩
      refine ⟨_,rfl,?_⟩
      replace HO_89:=Aside0.mk (Kd.R_below (by (with_reducible repeat (first|apply Kd.R_alloc|apply Kd.R_drewN|apply Kd.R_drew));exact HO_89.out) hb)
      replace BK87:=Aside0.mk (blk_below (g:=gb87) (o:=.cells #[.int .i64 a0_0,.string a0_1,.int .i64 a0_2,.slice A0_3 l0_3.length c0_3,.slice A0_4 l0_4.length c0_4] 25 (0,0)) (by (with_reducible repeat (first|refine blk_drewN ?_ _|refine blk_drew ?_|refine blk_alloc ?_ _));exact BK87.out) hb)
      replace BK88:=Aside0.mk (blk_below (g:=gb88) (o:=.cells #[.int .i64 0,.string (⟨#[]⟩:ByteArray),.int .i64 0,.slice none 0 0,.slice none 0 0] 25 (0,0)) (by (with_reducible repeat (first|refine blk_drewN ?_ _|refine blk_drew ?_|refine blk_alloc ?_ _));exact BK88.out) hb)
      replace BK86:=Aside0.mk (blk_below (g:=gb86) (o:=.cells #[.int .i64 a0_0,.string a0_1,.int .i64 1,.slice Ao14 t90.length co14,.slice none 0 0] 25 (0,0)) (by (with_reducible repeat (first|refine blk_drewN ?_ _|refine blk_drew ?_|refine blk_alloc ?_ _));exact BK86.out) hb)
      replace HB:=Aside0.mk (below_step (by repeat (first|(with_reducible first|exact HB.out|apply below_alloc|apply pw_below_drewN|apply below_drew1|refine below_set ?_ GE87.out|refine below_set ?_ GE88.out|refine below_set ?_ GE86.out)|exact HB.out)) hb)
      (try clear hb)
      (try clear hb2)
      (try clear hk)
      (try clear hi)
      refine hK.out _ _ ⟨(blk_cell BK86.out 0).trans rfl,(blk_cell BK86.out 1).trans rfl,(blk_cell BK86.out 2).trans rfl,(blk_cell BK86.out 3).trans rfl,(blk_cell BK86.out 4).trans rfl⟩ (fun hHeld=>?_)
      clear hK K
      refine norm_ (a' := ?_) ?_ ?_
      rotate_left
      ·show Act.put _ (some 48) _=_
       simp only [Act.put,zqA,zqB,zqC,i64_w,i32_w]
       rfl
      refine one_ (i:=3) (N:=some 49) #[true,true,true,true,false,false,false] rfl rfl (by kernel_rfl) (by decide) (fun K hK=>?_)
      refine value_ (w1:=?_) (v:=?_) (by rfl) rfl ?_ ?_
      rotate_left 2
      ·go_simp
       constructor
       ·rfl
       ·rfl
      refine hK.out _ _ ⟨(blk_cell (blk_alloc BK86.out _) 0).trans rfl,(blk_cell (blk_alloc BK86.out _) 1).trans rfl,(blk_cell (blk_alloc BK86.out _) 2).trans rfl,(blk_cell (blk_alloc BK86.out _) 3).trans rfl,(blk_cell (blk_alloc BK86.out _) 4).trans rfl⟩ (fun hHeld=>?_)
      clear hK K
      refine norm_ (a' := ?_) ?_ ?_
      rotate_left
      ·show Act.put _ (some 49) _=_
       simp only [Act.put,zqA,zqB,zqC,i64_w,i32_w]
       rfl
      refine one_ (i:=4) (N:=some 50) #[true,true,true,true,true,false,false] rfl rfl (by kernel_rfl) (by decide) (fun K hK=>?_)
      refine Kd.R_append_step k55 (w0:=w) w.heap.size (by rfl) (.tmp 47) (.tmp 49) 22 55 (.agg #[(.string ⟨#[]⟩),(.string ⟨#[]⟩)]) 32 rfl Tryz.underlying22 info55 rfl (by decide) (by omega) (.slice Ao14 t90.length co14) t90 (⟨t292,t293⟩:S55) [.string t292,.string t293] (fun _=>True) (fun _=>False) rfl rfl ?aP (fun _ hk=>hk.elim) ?aF ?aO ?aB ?aS ?aL ?_
      (case aP=>exact k55_mkM _ _ _ (⟨t292,t293⟩:S55))
      (case aB=>exact (by repeat (first|(with_reducible first|exact HB.out|apply below_alloc|apply pw_below_drewN|apply below_drew1|refine below_set ?_ GE87.out|refine below_set ?_ GE88.out|refine below_set ?_ GE86.out)|exact HB.out)))
      (case aF=>exact (fun _ _=>trivial))
      (case aO=>exact (by (with_reducible repeat (first|apply Kd.R_alloc|apply Kd.R_drewN|apply Kd.R_drew));exact HO_89.out))
      (case aS=>exact (below_size (by repeat (first|(with_reducible first|exact HB.out|apply below_alloc|apply pw_below_drewN|apply below_drew1|refine below_set ?_ GE87.out|refine below_set ?_ GE88.out|refine below_set ?_ GE86.out)|exact HB.out))))
      (case aL=>have:=LMc70.out;omega)
      intro v295 w73 ho hb hg hat
      rw [← Ny99.out] at ho
      have n0_:=Aside0.mk (blk_grown (g:=gb87) (o:=.cells #[.int .i64 a0_0,.string a0_1,.int .i64 a0_2,.slice A0_3 l0_3.length c0_3,.slice A0_4 l0_4.length c0_4] 25 (0,0)) (by (with_reducible repeat (first|refine blk_drewN ?_ _|refine blk_drew ?_|refine blk_alloc ?_ _));exact BK87.out) hg (Kd.R_ne HO_89.out BK87.out (by decide)))
      have n1_:=Aside0.mk (blk_grown (g:=gb88) (o:=.cells #[.int .i64 0,.string (⟨#[]⟩:ByteArray),.int .i64 0,.slice none 0 0,.slice none 0 0] 25 (0,0)) (by (with_reducible repeat (first|refine blk_drewN ?_ _|refine blk_drew ?_|refine blk_alloc ?_ _));exact BK88.out) hg (Kd.R_ne HO_89.out BK88.out (by decide)))
      have n2_:=Aside0.mk (blk_grown (g:=gb86) (o:=.cells #[.int .i64 a0_0,.string a0_1,.int .i64 1,.slice Ao14 t90.length co14,.slice none 0 0] 25 (0,0)) (by (with_reducible repeat (first|refine blk_drewN ?_ _|refine blk_drew ?_|refine blk_alloc ?_ _));exact BK86.out) hg (Kd.R_ne HO_89.out BK86.out (by decide)))
      have n3_:=Aside0.mk (hb)
      have n4_:=Aside0.mk (ho)
      clear BK87 BK88 BK86 HB HO_89
      have BK87:=n0_
      have BK88:=n1_
      have BK86:=n2_
      have HB:=n3_
      have HO296:=n4_
      clear n0_ n1_ n2_ n3_ n4_ ho hb hg hat
      obtain ⟨Ao74,co74,eo74⟩:=Kd.R_slice HO296.out
      (first|subst eo74|(injection eo74 with f1_ f2_ f3_;have f4_:=f1_.symm;have f5_:=f3_.symm;clear f1_ f2_ f3_;subst f4_;subst f5_))
      refine hK.out _ _ ⟨(blk_cell BK86.out 0).trans rfl,(blk_cell BK86.out 1).trans rfl,(blk_cell BK86.out 2).trans rfl,(blk_cell BK86.out 3).trans rfl,(blk_cell BK86.out 4).trans rfl⟩ (fun hHeld=>?_)
      clear hK K
      refine norm_ (a' := ?_) ?_ ?_
      rotate_left
      ·show Act.put _ (some 50) _=_
       simp only [Act.put,zqA,zqB,zqC,i64_w,i32_w]
       rfl
      refine pure_ (i:=5) (N:=some 51) (v:=?_) (a' := ?_) #[true,true,true,true,true,true,false] rfl rfl (by kernel_rfl) (fun _ _ _ h=>h) (Or.inl ⟨by rfl,?_⟩) ?_ ?_
      rotate_left
      ·intro w';go_simp;with_reducible rfl
      rotate_left
      ·simp only [Act.put,zqA,zqB,zqC,i64_w,i32_w];rfl
      refine last_ (i:=6) (N:=none) #[true,true,true,true,true,true,true] rfl rfl (by kernel_rfl) (by decide) (fun K hK=>?_)
      have hs75:w73.cell? ⟨gb86,3,none⟩=some (.slice Ao14 t90.length co14):=(blk_cell BK86.out 3).trans rfl
      have hfs75:=blk_frozen BK86.out 3
      have hns75_0:=NB87_275.out
      have hns75_1:=NB88_275.out
      have hms75_0:=NB86_270.out
      have hms75_1:=NB86_271.out
      refine skip_ (w1:=?_) (by rfl) rfl ?_ ?_
      rotate_left
      ·go_simp
       rfl
      refine hK.out _ _ ?_
      clear hK K
      refine done_ (by kernel_rfl) ?_
      have hnb76:=NB86_270.out
      have hnc76:=NB87_275.out
      have hnb77:=NB86_271.out
      have hnc77:=NB88_275.out
      have hcz78_0:w73.cell? ⟨gb86,0,none⟩=some (.int .i64 a0_0):=(blk_cell BK86.out 0).trans rfl
      have hcz78_1:w73.cell? ⟨gb86,1,none⟩=some (.string a0_1):=(blk_cell BK86.out 1).trans rfl
      have hcz78_2:w73.cell? ⟨gb86,2,none⟩=some (.int .i64 1):=(blk_cell BK86.out 2).trans rfl
      have hcz78_3:w73.cell? ⟨gb86,3,none⟩=some (.slice Ao14 t90.length co14):=(blk_cell BK86.out 3).trans rfl
      have hcz78_4:w73.cell? ⟨gb86,4,none⟩=some (.slice none 0 0):=(blk_cell BK86.out 4).trans rfl
      have hfz78_0:=blk_frozen BK86.out 0
      have hfz78_1:=blk_frozen BK86.out 1
      have hfz78_2:=blk_frozen BK86.out 2
      have hfz78_3:=blk_frozen BK86.out 3
      have hfz78_4:=blk_frozen BK86.out 4
      have hnb79:=NB88_270.out
      have hnc79:=NB87_271.out
      have hcz80_0:w73.cell? ⟨gb88,0,none⟩=some (.int .i64 0):=(blk_cell BK88.out 0).trans rfl
      have hcz80_1:w73.cell? ⟨gb88,1,none⟩=some (.string (⟨#[]⟩:ByteArray)):=(blk_cell BK88.out 1).trans rfl
      have hcz80_2:w73.cell? ⟨gb88,2,none⟩=some (.int .i64 0):=(blk_cell BK88.out 2).trans rfl
      have hcz80_3:w73.cell? ⟨gb88,3,none⟩=some (.slice none 0 0):=(blk_cell BK88.out 3).trans rfl
      have hcz80_4:w73.cell? ⟨gb88,4,none⟩=some (.slice none 0 0):=(blk_cell BK88.out 4).trans rfl
      have hfz80_0:=blk_frozen BK88.out 0
      have hfz80_1:=blk_frozen BK88.out 1
      have hfz80_2:=blk_frozen BK88.out 2
      have hfz80_3:=blk_frozen BK88.out 3
      have hfz80_4:=blk_frozen BK88.out 4
      try go_wp2
      refine bodyPost_ret (results_cell_row rfl _ _ gb88 25 #[.int .i64 a0_0,.string a0_1,.int .i64 1,.slice Ao74 y99.length co74,.slice none 0 0] (0,0) _ rfl (by (with_reducible repeat (first|refine blk_drewN ?_ _|refine blk_drew ?_|refine blk_alloc ?_ _));refine blk_put (cs:=#[.int .i64 a0_0,.string a0_1,.int .i64 1,.slice Ao74 y99.length co74,.slice none 0 0]) ?_ 4 _ rfl;(with_reducible repeat (first|refine blk_drewN ?_ _|refine blk_drew ?_|refine blk_alloc ?_ _));refine blk_put (cs:=#[.int .i64 a0_0,.string a0_1,.int .i64 1,.slice none 0 0,.slice none 0 0]) ?_ 3 _ rfl;(with_reducible repeat (first|refine blk_drewN ?_ _|refine blk_drew ?_|refine blk_alloc ?_ _));refine blk_put (cs:=#[.int .i64 a0_0,.string a0_1,.int .i64 0,.slice none 0 0,.slice none 0 0]) ?_ 2 _ rfl;(with_reducible repeat (first|refine blk_drewN ?_ _|refine blk_drew ?_|refine blk_alloc ?_ _));refine blk_put (cs:=#[.int .i64 a0_0,.string (⟨#[]⟩:ByteArray),.int .i64 0,.slice none 0 0,.slice none 0 0]) ?_ 1 _ rfl;(with_reducible repeat (first|refine blk_drewN ?_ _|refine blk_drew ?_|refine blk_alloc ?_ _));refine blk_put (cs:=#[.int .i64 0,.string (⟨#[]⟩:ByteArray),.int .i64 0,.slice none 0 0,.slice none 0 0]) ?_ 0 _ rfl;(with_reducible repeat (first|refine blk_drewN ?_ _|refine blk_drew ?_|refine blk_alloc ?_ _));refine blk_far ?_ NB88_275.out _;(with_reducible repeat (first|refine blk_drewN ?_ _|refine blk_drew ?_|refine blk_alloc ?_ _));exact BK88.out) Tryz.underlying25 rfl (by kernel_rfl)) rfl ?_
      exact ⟨_,_,by first|rfl|(simp [errW_none,errW_some] <;> rfl)|(simp [*,errW_none,errW_some] <;> rfl),by (with_reducible repeat (first|apply Kd.R_alloc|apply Kd.R_drewN|apply Kd.R_drew));exact Kd.R_mono (Kd.R_far (p:=⟨gb88,4,none⟩) (Kd.R_far (p:=⟨gb88,3,none⟩) (Kd.R_far (p:=⟨gb88,2,none⟩) (Kd.R_far (p:=⟨gb88,1,none⟩) (Kd.R_far (p:=⟨gb88,0,none⟩) (Kd.R_far (p:=⟨gb86,3,none⟩) (Kd.R_types (Kd.R_types HO296.out BK86.out (by decide)) BK88.out (by decide)) (fun _ hk=>hk.1.2) (.slice Ao74 y99.length co74)) (fun _ hk=>hk.2) (.int .i64 a0_0)) (fun _ hk=>hk.2) (.string a0_1)) (fun _ hk=>hk.2) (.int .i64 1)) (fun _ hk=>hk.2) (.slice Ao74 y99.length co74)) (fun _ hk=>hk.2) (.slice none 0 0)) (fun _ hk=>trivial),by first|exact Kd.R_nil _ _ _ _ _|exact Kd.N_nil _ _ _ _ _|exact Kd.V_nil _ _ _ _ _|exact Kd.Q_nil _ _ _ _ _|exact Kd.S_nil _ _ _ _ _,by repeat (first|(with_reducible first|exact HB.out|apply below_alloc|apply pw_below_drewN|apply below_drew1|refine below_set ?_ GE87.out|refine below_set ?_ GE88.out|refine below_set ?_ GE86.out)|exact HB.out)⟩
     ·rw [if_neg c70] at H
      exact absurd H (by simp)
    ·replace c68:=Bool.eq_false_iff.mpr c68
     subst c68
     have H1:(some (a0_0,a0_1,1,t90,([]:List Int)))=some (r1,r2,r3,r4,r5):=by rw [if_neg (show ¬ (false=true) by decide)] at H;exact H
     clear H
     have H:=H1
     clear H1
     simp only [Option.some.injEq,Prod.mk.injEq] at H
     obtain ⟨rfl,rfl,rfl,rfl,rfl⟩:=H
     have hnb81:=NB86_270.out
     have hnc81:=NB87_275.out
     have hnb82:=NB86_271.out
     have hnc82:=NB88_275.out
     have hcz83_0:wc.cell? ⟨gb86,0,none⟩=some (.int .i64 a0_0):=(blk_cell BK86.out 0).trans rfl
     have hcz83_1:wc.cell? ⟨gb86,1,none⟩=some (.string a0_1):=(blk_cell BK86.out 1).trans rfl
     have hcz83_2:wc.cell? ⟨gb86,2,none⟩=some (.int .i64 1):=(blk_cell BK86.out 2).trans rfl
     have hcz83_3:wc.cell? ⟨gb86,3,none⟩=some (.slice Ao14 t90.length co14):=(blk_cell BK86.out 3).trans rfl
     have hcz83_4:wc.cell? ⟨gb86,4,none⟩=some (.slice none 0 0):=(blk_cell BK86.out 4).trans rfl
     have hfz83_0:=blk_frozen BK86.out 0
     have hfz83_1:=blk_frozen BK86.out 1
     have hfz83_2:=blk_frozen BK86.out 2
     have hfz83_3:=blk_frozen BK86.out 3
     have hfz83_4:=blk_frozen BK86.out 4
     have hnb84:=NB88_270.out
     have hnc84:=NB87_271.out
     have hcz85_0:wc.cell? ⟨gb88,0,none⟩=some (.int .i64 0):=(blk_cell BK88.out 0).trans rfl
     have hcz85_1:wc.cell? ⟨gb88,1,none⟩=some (.string (⟨#[]⟩:ByteArray)):=(blk_cell BK88.out 1).trans rfl
     have hcz85_2:wc.cell? ⟨gb88,2,none⟩=some (.int .i64 0):=(blk_cell BK88.out 2).trans rfl
     have hcz85_3:wc.cell? ⟨gb88,3,none⟩=some (.slice none 0 0):=(blk_cell BK88.out 3).trans rfl
     have hcz85_4:wc.cell? ⟨gb88,4,none⟩=some (.slice none 0 0):=(blk_cell BK88.out 4).trans rfl
     have hfz85_0:=blk_frozen BK88.out 0
     have hfz85_1:=blk_frozen BK88.out 1
     have hfz85_2:=blk_frozen BK88.out 2
     have hfz85_3:=blk_frozen BK88.out 3
     have hfz85_4:=blk_frozen BK88.out 4
     go_wp2
     refine bodyPost_ret (results_cell_row rfl _ _ gb88 25 #[.int .i64 a0_0,.string a0_1,.int .i64 1,.slice Ao14 t90.length co14,.slice none 0 0] (0,0) _ rfl (by (with_reducible repeat (first|refine blk_drewN ?_ _|refine blk_drew ?_|refine blk_alloc ?_ _));refine blk_put (cs:=#[.int .i64 a0_0,.string a0_1,.int .i64 1,.slice Ao14 t90.length co14,.slice none 0 0]) ?_ 4 _ rfl;(with_reducible repeat (first|refine blk_drewN ?_ _|refine blk_drew ?_|refine blk_alloc ?_ _));refine blk_put (cs:=#[.int .i64 a0_0,.string a0_1,.int .i64 1,.slice none 0 0,.slice none 0 0]) ?_ 3 _ rfl;(with_reducible repeat (first|refine blk_drewN ?_ _|refine blk_drew ?_|refine blk_alloc ?_ _));refine blk_put (cs:=#[.int .i64 a0_0,.string a0_1,.int .i64 0,.slice none 0 0,.slice none 0 0]) ?_ 2 _ rfl;(with_reducible repeat (first|refine blk_drewN ?_ _|refine blk_drew ?_|refine blk_alloc ?_ _));refine blk_put (cs:=#[.int .i64 a0_0,.string (⟨#[]⟩:ByteArray),.int .i64 0,.slice none 0 0,.slice none 0 0]) ?_ 1 _ rfl;(with_reducible repeat (first|refine blk_drewN ?_ _|refine blk_drew ?_|refine blk_alloc ?_ _));refine blk_put (cs:=#[.int .i64 0,.string (⟨#[]⟩:ByteArray),.int .i64 0,.slice none 0 0,.slice none 0 0]) ?_ 0 _ rfl;(with_reducible repeat (first|refine blk_drewN ?_ _|refine blk_drew ?_|refine blk_alloc ?_ _));exact BK88.out) Tryz.underlying25 rfl (by kernel_rfl)) rfl ?_
     exact ⟨_,_,by first|rfl|(simp [errW_none,errW_some] <;> rfl)|(simp [*,errW_none,errW_some] <;> rfl),by (with_reducible repeat (first|apply Kd.R_alloc|apply Kd.R_drewN|apply Kd.R_drew));exact Kd.R_mono (Kd.R_far (p:=⟨gb88,4,none⟩) (Kd.R_far (p:=⟨gb88,3,none⟩) (Kd.R_far (p:=⟨gb88,2,none⟩) (Kd.R_far (p:=⟨gb88,1,none⟩) (Kd.R_far (p:=⟨gb88,0,none⟩) (Kd.R_types HO_89.out BK88.out (by decide)) (fun _ hk=>hk.2) (.int .i64 a0_0)) (fun _ hk=>hk.2) (.string a0_1)) (fun _ hk=>hk.2) (.int .i64 1)) (fun _ hk=>hk.2) (.slice Ao14 t90.length co14)) (fun _ hk=>hk.2) (.slice none 0 0)) (fun _ hk=>trivial),by first|exact Kd.R_nil _ _ _ _ _|exact Kd.N_nil _ _ _ _ _|exact Kd.V_nil _ _ _ _ _|exact Kd.Q_nil _ _ _ _ _|exact Kd.S_nil _ _ _ _ _,by repeat (first|(with_reducible first|exact HB.out|apply below_alloc|apply pw_below_drewN|apply below_drew1|refine below_set ?_ GE87.out|refine below_set ?_ GE88.out|refine below_set ?_ GE86.out)|exact HB.out)⟩
end Go.Proofs.YtfjeinnemimjoaaGreatDoor.P
namespace Go.Proofs.YtfjeinnemimjoaaGreatDoor.P
open Go.RowKit Go.Proofs.YtfjeinnemimjoaaGreatDoorW.PrintWords Go.Proofs.YtfjeinnemimjoaaGreatDoorW.PrintLast Go.Proofs.YtfjeinnemimjoaaGreatDoorW.PrintMore
attribute [local go_sem] max2_int min2_int max_two min_two max_three min_three max_four min_four   -- for this text's walks alone
set_option linter.unusedVariables false
set_option linter.unusedSimpArgs false
/-- A row of bytes that a constant was turned into reads as these bytes. -/
theorem C_const (W : World) (e : Nat) (xs : List Int) (fr : Nat × Nat) (hm : xs.length ≤ 9223372036854775807) :
    Kd.C (Kd.int .u8) (W.alloc (.cells (nums .u8 xs).toArray e fr)) (some ⟨W.heap.size, 0, none⟩) xs.length xs := by
  refine Kd.C_of_reads (d := (0 : Int)) (h1 := fun _ => rfl) ⟨rfl, hm, fun _ => ⟨_, rfl, fun j hj => ?_⟩⟩
  have hl : (nums .u8 xs).length = xs.length := nums_length _ _
  have : (W.alloc (.cells (nums .u8 xs).toArray e fr)).heap[W.heap.size]? = some (.cells (nums .u8 xs).toArray e fr) := by
    show (W.heap.push _)[W.heap.size]? = _
    simp
  rw [add_plain]
  rw [cell_of_row _ _ _ _ _ _ this]
  simp [nums, List.getD_eq_getElem?_getD, List.getElem?_eq_getElem hj]
end Go.Proofs.YtfjeinnemimjoaaGreatDoor.P
namespace Go.Proofs.YtfjeinnemimjoaaGreatDoor.P
open Go.RowKit Go.Proofs.YtfjeinnemimjoaaGreatDoorW.PrintWords Go.Proofs.YtfjeinnemimjoaaGreatDoorW.PrintLast Go.Proofs.YtfjeinnemimjoaaGreatDoorW.PrintMore
attribute [local go_sem] max2_int min2_int max_two min_two max_three min_three max_four min_four
set_option linter.unusedVariables false
set_option linter.unusedSimpArgs false
set_option maxHeartbeats 4000000 in
set_option maxRecDepth 100000 in
theorem field_Without_1.callsOf (B:Nat) (name:ByteArray) (w:World) (hc:w.cell? ⟨B,0,none⟩=some (.string name)):TestOf 127 #[.pointer (some ⟨B,0,none⟩)] Value.string (fun n=>sign_Same.f n name) w:=fun W x b hb h=>by
 have hB:B < w.heap.size:=World.block_lt_of_cell? w _ hc
 have hcell:W.cell? ⟨B,0,none⟩=some (.string name):=(hb.cell (p:=⟨B,0,none⟩) hB).trans hc
 have HS:=Aside0.mk h
 clear hc h hb
 show Calls Tryz.prog 127 #[.string x,.pointer (some ⟨B,0,none⟩)] W _
 go_enter Tryz.func127,Tryz.ntmps127
 go_wp2_with (go_at_call 102;refine (sign_Same.calls x name b W HS.out).mono ?_;rintro e w' ⟨rfl,hb'⟩)
 go_ret
 exact ⟨rfl,hb'⟩
def field_Without.l0:Nat → List (S55) → List ByteArray → List (S55) → Int → Option (List (S55))
 | 0,_,_,_,_=>none
 | k + 1,x0,x1,x5,x10=>if x10 < (x0.length:Int) then (if 0 ≤ x10 then ((anyO (fun n=>sign_Same.f n (rd_T55 x0 x10).f0) x1).bind fun t=>(if t=true then (field_Without.l0 k x0 x1 x5 (wrap64 (x10 + 1))) else (if x5.length < 4398046511104 then (field_Without.l0 k x0 x1 (x5 ++ [(⟨(rd_T55 x0 x10).f0,(rd_T55 x0 x10).f1⟩:S55)]) (wrap64 (x10 + 1))) else (none)))) else (none)) else (some x5)
def field_Without.f (k:Nat) (l0:List (S55)) (l1:List ByteArray):Option (List (S55)):=field_Without.l0 k l0 l1 [] 0
set_option maxHeartbeats 8000000 in
set_option maxRecDepth 100000 in
theorem field_Without.calls (k:Nat) (A0:Option Addr) (c0:Nat) (l0:List (S55)) (A1:Option Addr) (c1:Nat) (l1:List ByteArray) (r:List (S55)) (w:World) (hr0:Kd.C k55 w A0 l0.length l0) (hc0:l0.length ≤ c0) (hr1:Kd.C Kd.string w A1 l1.length l1) (hc1:l1.length ≤ c1) (h:field_Without.f k l0 l1=some r) :
  Calls Tryz.prog 81 #[.slice A0 l0.length c0,.slice A1 l1.length c1] w fun e w' => ∃ v0_:Value,e = .returned (v0_)∧Kd.R k55 55 w' w.heap.size (fun _=>True) v0_ r∧Below w.heap.size w w' := by
 have hu:=Tryz.underlying55
 have HR0:=Aside0.mk hr0
 have HR1:=Aside0.mk hr1
 have HC1:=Aside0.mk hc1
 have H' := Aside0.mk (show field_Without.l0 k l0 l1 [] 0=some r from h)
 have EG:=Aside0.mk (show ∀ args w,(callFunc 127 args).run Tryz.prog w = .ok (.enter 127 args) w from enters_of Tryz.func127 (by kernel_rfl) rfl)
 clear hr0 hr1 hc1 h
 go_enter Tryz.func81,Tryz.ntmps81
 go_wp2_with fail
 go_loopg [5,10] k (fun kq v5 v10 w' => ∃ (x5:List (S55)) (x10:Int),v10 = .int .i64 x10∧Aside0 (field_Without.l0 kq l0 l1 x5 x10=some r)∧Aside0 (kq ≤ k)∧Aside0 (Kd.R k55 55 w' w.heap.size (fun _=>True) v5 x5)∧Aside0 (Below w.heap.size w w'))
 case atStart=>exact ⟨[],0,rfl,H',⟨Nat.le_refl _⟩,⟨Kd.R_nil _ _ _ _ _⟩,⟨Below.refl _ _⟩⟩
 case round =>
  clear H'
  obtain ⟨x5,x10,rfl,HA,HK1,HO,HB⟩:=hrel
  cases gk with
  | zero=>exact absurd HA.out (by simp [field_Without.l0])
  | succ k1 =>
   have H:=HA.out
   clear HA
   simp only [field_Without.l0] at H
   by_cases c4:x10 < (l0.length:Int)
   ·rw [if_pos c4] at H
    have c4b0:decide (x10 < (l0.length:Int))=true:=decide_eq_true c4
    by_cases c5:0 ≤ x10
    ·rw [if_pos c5] at H
     obtain ⟨t,hany,H⟩:=Option.bind_eq_some_iff.mp H
     have HANY:=Aside0.mk hany
     have HN:=Aside0.mk H
     clear hany H
     obtain ⟨ad,e0,hx0,hx1⟩:=at_T55 HR0.out x10 c5 c4
     cases e0
     replace hx0:=(HB.out.cell (World.block_lt_of_cell? w _ hx0)).trans hx0
     replace hx1:=(HB.out.cell (World.block_lt_of_cell? w _ hx1)).trans hx1
     replace c4:=eq_true c4
     replace c5:=eq_true c5
     have hcell:(wr.alloc (.cells #[.string (rd_T55 l0 x10).f0,.string (rd_T55 l0 x10).f1] 55)).cell? ⟨wr.heap.size,0,none⟩=some (.string (rd_T55 l0 x10).f0):=(blk_cell (blk_new wr _) 0).trans rfl
     have hcell2:(wr.alloc (.cells #[.string (rd_T55 l0 x10).f0,.string (rd_T55 l0 x10).f1] 55)).cell? ⟨wr.heap.size,1,none⟩=some (.string (rd_T55 l0 x10).f1):=(blk_cell (blk_new wr _) 1).trans rfl
     have HCE:=Aside0.mk hcell
     have HCE2:=Aside0.mk hcell2
     clear hcell hcell2
     cases t with
     | true =>
      have H1:field_Without.l0 k1 l0 l1 x5 (wrap64 (x10 + 1))=some r:=by have h:=HN.out;rw [if_pos rfl] at h;exact h
      have H' := Aside0.mk H1
      clear H1 HN
      go_wp2_with (go_at_call 99;refine (slices_ContainsFunc_string_string.callsOf (fun n=>sign_Same.f n (rd_T55 l0 x10).f0) 127 #[.pointer (some ⟨wr.heap.size,0,none⟩)] EG.out A1 c1 l1 true _ (Kd.C_alloc (Kd.C_below HR1.out HB.out) _) HC1.out (field_Without_1.callsOf wr.heap.size _ _ HCE.out) HANY.out).mono ?_;rintro e w1 ⟨rfl,hb⟩;have n0:=Aside0.mk (Kd.R_below (Kd.R_alloc HO.out _) hb);have n1:=Aside0.mk (below_step (below_alloc HB.out _) hb);clear HO HB;have HO:=n0;have HB:=n1;clear n0 n1 hb)
      go_roundg k1
      case measure=>have:=HK1.out;omega
      case rel=>exact ⟨x5,wrap64 (x10 + 1),(by first|rfl|(simp;done)),H',⟨by have:=HK1.out;omega⟩,HO,HB⟩
     | false =>
      have H1:(if x5.length < 4398046511104 then (field_Without.l0 k1 l0 l1 (x5 ++ [(⟨(rd_T55 l0 x10).f0,(rd_T55 l0 x10).f1⟩:S55)]) (wrap64 (x10 + 1))) else none)=some r:=by have h:=HN.out;rw [if_neg (by decide)] at h;exact h
      clear HN
      by_cases c9:x5.length < 4398046511104
      ·rw [if_pos c9] at H1
       have LM:=Aside0.mk c9
       have H' := Aside0.mk H1
       clear H1 c9
       go_wp2_with (first
        | (go_at_call 99;refine (slices_ContainsFunc_string_string.callsOf (fun n=>sign_Same.f n (rd_T55 l0 x10).f0) 127 #[.pointer (some ⟨wr.heap.size,0,none⟩)] EG.out A1 c1 l1 false _ (Kd.C_alloc (Kd.C_below HR1.out HB.out) _) HC1.out (field_Without_1.callsOf wr.heap.size _ _ HCE.out) HANY.out).mono ?_;rintro e w1 ⟨rfl,hb⟩;have n0:=Aside0.mk (Kd.R_below (Kd.R_alloc HO.out _) hb);have n1:=Aside0.mk (below_step (below_alloc HB.out _) hb);have hy0:=pw_cell_below hb HCE.out;have hy1:=pw_cell_below hb HCE2.out;clear HO HB;have HO:=n0;have HB:=n1;clear n0 n1 hb)
        | ((with_reducible refine gate_builtin (b:=.append) (xs:=#[.tmp 18,.tmp 20]) rfl ?_);at_builtin;refine Kd.R_append k55 (w0:=w) w.heap.size rfl (.tmp 18) (.tmp 20) 22 55 (.agg #[(.string ⟨#[]⟩),(.string ⟨#[]⟩)]) 32 rfl Tryz.underlying22 info55 rfl (by decide) (by omega) u5 x5 (⟨(rd_T55 l0 x10).f0,(rd_T55 l0 x10).f1⟩:S55) [.string ((rd_T55 l0 x10).f0),.string ((rd_T55 l0 x10).f1)] (fun _=>True) (fun _=>False) rfl rfl ?aP (fun _ hk=>hk.elim) ?aF ?aO ?aB ?aS ?aL ?_;(case aP=>exact k55_mkM _ _ _ (⟨(rd_T55 l0 x10).f0,(rd_T55 l0 x10).f1⟩:S55));(case aB=>exact (by repeat (first|(with_reducible first|exact HB.out|apply below_alloc|apply pw_below_drewN|apply below_drew1)|exact HB.out)));(case aF=>exact (fun _ _=>trivial));(case aO=>exact (by (with_reducible repeat (first|apply Kd.R_alloc|apply Kd.R_drewN|apply Kd.R_drew));exact HO.out));(case aS=>exact (below_size (by repeat (first|(with_reducible first|exact HB.out|apply below_alloc|apply pw_below_drewN|apply below_drew1)|exact HB.out))));(case aL=>have:=LM.out;omega);intro v3 w3 ho hb hg hat;have n0_:=Aside0.mk (hb);have n1_:=Aside0.mk (ho);clear HB;clear HO;have HB:=n0_;have HO:=n1_;clear n0_ n1_;clear ho hb hg hat))
       go_roundg k1
       case measure=>have:=HK1.out;omega
       case rel=>exact ⟨_,wrap64 (x10 + 1),(by first|rfl|(simp;done)),H',⟨by have:=HK1.out;omega⟩,HO,HB⟩
      ·rw [if_neg c9] at H1
       cases H1
    ·rw [if_neg c5] at H
     exact absurd H (by simp)
   ·rw [if_neg c4] at H
    have c4b0:decide (x10 < (l0.length:Int))=false:=decide_eq_false c4
    clear c4
    obtain rfl:=Option.some.inj H
    go_wp2
    go_ret
    exact ⟨_,by first|rfl|(simp;done),HO.out,HB.out⟩
def slices_Clone_string_string.f (l0:List ByteArray):Option (List ByteArray):=if l0.length ≤ 8796093022207 then some l0 else none
set_option maxHeartbeats 4000000 in
set_option maxRecDepth 100000 in
theorem slices_Clone_string_string.calls (A0:Option Addr) (c0:Nat) (l0:List ByteArray) (r:List ByteArray) (w:World) (hr0:Kd.C Kd.string w A0 l0.length l0) (hc0:l0.length ≤ c0) (h:slices_Clone_string_string.f l0=some r) :
  Calls Tryz.prog 80 #[.slice A0 l0.length c0] w fun e w' => ∃ v0_:Value,e = .returned (v0_)∧Kd.R Kd.string 9 w' w.heap.size (fun _=>True) v0_ r∧Below w.heap.size w w' := by
 have hl:l0.length ≤ 8796093022207∧l0=r:=by
  unfold slices_Clone_string_string.f at h
  split at h
  ·exact ⟨by assumption,by simpa using h⟩
  ·cases h
 obtain ⟨hl,rfl⟩:=hl
 clear h
 have HR:=Aside0.mk hr0
 cases A0 with
 | none =>
  have he:l0=[]:=by
   cases l0 with
   | nil=>rfl
   | cons x y=>obtain ⟨ad,e,_⟩:=hr0.2.2 (by simp);cases e
  subst he
  clear HR hr0
  have hnil : ∀ W:World,(binOp .eql 44 (.slice none 0 c0) (.slice none 0 0)).run Tryz.prog W = .ok (.bool true) W:=fun W=>by
   simp only [binOp]
   simp [Op.equal,Op.maxDepth,Lib.run_equalIn_slice_nil W 9999 44 _ none 0 c0 0 0 Tryz.underlying44]
  go_enter Tryz.func80,Tryz.ntmps80
  go_wp2
  go_ret
  exact ⟨_,rfl,Kd.R_nil _ _ _ _ _,Below.refl _ _⟩
 | some ad =>
  have HL:=Aside0.mk hl
  have hnil : ∀ W:World,(binOp .eql 44 (.slice (some ad) l0.length c0) (.slice none 0 0)).run Tryz.prog W = .ok (.bool false) W:=fun W=>by
   simp only [binOp]
   simp [Op.equal,Op.maxDepth,Lib.run_equalIn_slice_nil W 9999 44 _ (some ad) l0.length c0 0 0 Tryz.underlying44]
  have HB:=Aside0.mk (Below.refl w.heap.size w)
  clear hr0 hl hc0
  go_enter Tryz.func80,Tryz.ntmps80
  go_wp2_with (first
   | ((with_reducible refine gate_dst (N:=5) rfl ?_);refine Kd.R_lit Kd.string _ 9 ?hg (N:=5) ?hd (xs:=([]:List ByteArray)) (inner:=[]) (ok:=fun _=>True) (okp:=fun _=>True) ?hr ?hp (fun _ hk=>hk) trivial (Below.refl _ _) (Nat.le_refl _) (by simp) ?_;(case hd=>rfl);(case hg=>rfl);(case hr=>first|(go_simp;done)|(go_simp;rfl));(case hp=>exact (Reps.none _ _));intro v5 w2 ho3 hb hg_ hnew_;clear hg_ hnew_;have HO5:=Aside0.mk (Kd.R_lower ho3 (below_size (by repeat (first|(with_reducible first|exact HB.out|apply below_alloc|apply pw_below_drewN|apply below_drew1)|exact HB.out))));have n1_:=Aside0.mk (below_step (by repeat (first|(with_reducible first|exact HB.out|apply below_alloc|apply pw_below_drewN|apply below_drew1)|exact HB.out)) hb);clear HB;have HB:=n1_;clear n1_;clear hb ho3)
   | ((with_reducible refine gate_builtin (b:=.append) (xs:=#[.tmp 5,.tmp 6]) rfl ?_);at_builtin;refine Kd.R_append_rows Kd.string (w0:=w) w.heap.size rfl (.tmp 5) (.tmp 6) 44 9 (.string ⟨#[]⟩) 16 rfl Tryz.underlying44 info9 rfl (by decide) (by omega) v5 [] l0 _ _ _ (fun _=>True) (fun _=>False) rfl rfl ?aO ?aR (fun _ _ h=>h) (fun _ h=>h.elim) (fun _ _=>trivial) ?aB ?aS ?aL ?_;(case aO=>exact HO5.out);(case aR=>exact Kd.C_below HR.out HB.out);(case aB=>exact HB.out);(case aS=>exact HB.out.size);(case aL=>have:=HL.out;simp only [List.length_nil];omega);intro v3 w3 ho hb3 hg3 hat;have HO7:=Aside0.mk ho;have HB7:=Aside0.mk hb3;clear ho hb3 hg3 hat))
  go_ret
  exact ⟨_,by first|rfl|(simp;done),HO7.out,HB7.out⟩
end Go.Proofs.YtfjeinnemimjoaaGreatDoor.P
