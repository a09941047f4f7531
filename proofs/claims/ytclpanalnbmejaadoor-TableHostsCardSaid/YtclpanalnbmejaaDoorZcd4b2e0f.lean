/- Each function below answers as its Lean twin says; plain lemmas; a row where its theorem stands. No further condition. (Laid by this repo's pack.py out of its texts and of the print's words.) -/
import Derived.Test.YtclpanalnbmejaaDoorZ1cca9b69
import Derived.Test.YtclpanalnbmejaaDoorZc58affb2
import Derived.Test.YtclpanalnbmejaaDoorZa88b56ee
import Derived.Deep.RegionHeld3
import Derived.Lib.IndexBytes
import Derived.Lib.Strings
import Derived.Lib.SlTrimSet
import Derived.Lib.LastIndexByte
namespace Go.Proofs.YtclpanalnbmejaaDoor.P
open Go.RowKit Go.Proofs.YtclpanalnbmejaaDoorW.PrintWords Go.Proofs.YtclpanalnbmejaaDoorW.PrintLast Go.Proofs.YtclpanalnbmejaaDoorW.PrintMore
attribute [local go_sem] max2_int min2_int max_two min_two max_three min_three max_four min_four
set_option linter.unusedVariables false
set_option linter.unusedSimpArgs false
def tollbarlaw09_alive.f (k:Nat)  : Option (Bool):=(table_Read.f k (⟨#[115,108,111,116,32,97,32,49,48,48,48,32,50,32,50,32,53,32,53,32,54,52,32,97,46,101,120,97,109,112,108,101,32,98,10]⟩:ByteArray)).bind fun bt192=>((table_Write.f k bt192.1).bind fun bt196=>((table_Read.f k (⟨#[115,108,111,116,32,97,10]⟩:ByteArray)).bind fun bt198=>(if bt192.2=0 then (if (bt192.1.length:Int)=1 then (if 0 < (bt192.1.length:Int) then (if ((rd_T26 bt192.1 0).f7)=64 then (if (((rd_T26 bt192.1 0).f1).length:Int)=2 then (if bt196.2=0 then (if bt196.1.toList=([115,108,111,116,32,97,32,49,48,48,48,32,50,32,50,32,53,32,53,32,54,52,32,97,46,101,120,97,109,112,108,101,32,98,10]:List UInt8) then (if bt198.2=20 then ((table_Right.f k bt192.1).bind fun t204=>(if t204=true then ((table_Right.f k ([]:List (S26))).bind fun t205=>(if t205=true then (some false) else ((table_Find.f k bt192.1 (⟨#[98]⟩:ByteArray)).bind fun t206=>(if t206=0 then ((table_Find.f k bt192.1 (⟨#[99]⟩:ByteArray)).bind fun t207=>(if t207=(-1) then ((table_Named.f bt192.1 (⟨#[97]⟩:ByteArray)).bind fun t208=>(if t208=0 then ((table_Name.f k (⟨#[97,45,49]⟩:ByteArray)).bind fun t209=>(if t209=true then ((table_Name.f k (⟨#[49,97]⟩:ByteArray)).bind fun t210=>(some (!t210))) else (some false))) else (some false))) else (some false))) else (some false))))) else (some false))) else (some false)) else (some false)) else (some false)) else (some false)) else (some false)) else (none)) else (some false)) else (some false))))
theorem tollbarlaw09_alive.mono : ∀ k,LeO (tollbarlaw09_alive.f k ) (tollbarlaw09_alive.f (k + 1) ):=by
 intro  k
 unfold tollbarlaw09_alive.f
 repeat' first
  | (with_reducible exact table_Find.mono _ _ _)
  | (with_reducible exact table_Name.mono _ _)
  | (with_reducible exact table_Read.mono _ _)
  | (with_reducible exact table_Right.mono _ _)
  | (with_reducible exact table_Write.mono _ _)
  | (with_reducible exact LeO.refl _)
  | (with_reducible exact LeO.none _)
  | (with_reducible refine LeO.ite ?_ ?_)
  | (with_reducible refine LeO.bind ?_ (fun _=>?_))
  | exact table_Find.mono _ _ _
  | exact table_Name.mono _ _
  | exact table_Read.mono _ _
  | exact table_Right.mono _ _
  | exact table_Write.mono _ _
  | exact LeO.none _
  | refine LeO.ite ?_ ?_
  | refine LeO.bind ?_ (fun _=>?_)
set_option maxHeartbeats 8000000 in
set_option maxRecDepth 100000 in
theorem tollbarlaw09_alive.calls (k:Nat)  (r:Bool) (w:World) (h:tollbarlaw09_alive.f k  = some r) (hr:r=true) (ht:Tabs w) :
 Calls Tryd.prog 8 #[] w fun e w' => e = .returned (.bool r)∧Below w.heap.size w w' := by
 have HTB:=Aside0.mk ht
 clear ht
 have HRT:=Aside0.mk hr
 clear hr
 have HB:=Aside0.mk (Below.refl w.heap.size w)
 unfold tollbarlaw09_alive.f at h
 have H:=h
 clear h
 replace H:=Option.bind_eq_some_iff.mp H
 obtain ⟨⟨t19,t49⟩,A10,H⟩:=H
 try dsimp only at H
 have A1:=Aside0.mk A10
 clear A10
 replace H:=Option.bind_eq_some_iff.mp H
 obtain ⟨⟨t46,t50⟩,A20,H⟩:=H
 try dsimp only at H
 have A2:=Aside0.mk A20
 clear A20
 replace H:=Option.bind_eq_some_iff.mp H
 obtain ⟨⟨t51,t52⟩,A30,H⟩:=H
 try dsimp only at H
 have A3:=Aside0.mk A30
 clear A30
 by_cases c4:t49=0;rotate_left
 ·rw [if_neg c4] at H
  have c4b0:=beq_eq_false_iff_ne.mpr c4
  have c4b1:=bne_iff_ne.mpr c4
  exact absurd ((Option.some.inj H).trans HRT.out) zb34
 rw [if_pos c4] at H
 have c4b0:=beq_iff_eq.mpr c4
 have c4b1:=bne_eq_false_iff_eq.mpr c4
 clear c4
 by_cases c5:(t19.length:Int)=1
 ·rw [if_pos c5] at H
  have c5b0:=beq_iff_eq.mpr c5
  have c5b1:=bne_eq_false_iff_eq.mpr c5
  clear c5
  by_cases c6:0 < (t19.length:Int);rotate_left
  ·rw [if_neg c6] at H
   exact absurd H zb24
  rw [if_pos c6] at H
  have c6b0:=decide_eq_true c6
  have c6b1:decide (0 < t19.length)=true:=decide_eq_true zb10
  clear c6
  by_cases c7:((rd_T26 t19 0).f7)=64;rotate_left
  ·rw [if_neg c7] at H
   have c7b0:=beq_eq_false_iff_ne.mpr c7
   have c7b1:=bne_iff_ne.mpr c7
   exact absurd ((Option.some.inj H).trans HRT.out) zb34
  rw [if_pos c7] at H
  have c7b0:=beq_iff_eq.mpr c7
  have c7b1:=bne_eq_false_iff_eq.mpr c7
  clear c7
  by_cases c8:(((rd_T26 t19 0).f1).length:Int)=2
  ·rw [if_pos c8] at H
   have c8b0:=beq_iff_eq.mpr c8
   have c8b1:=bne_eq_false_iff_eq.mpr c8
   clear c8
   by_cases c9:t50=0;rotate_left
   ·rw [if_neg c9] at H
    have c9b0:=beq_eq_false_iff_ne.mpr c9
    have c9b1:=bne_iff_ne.mpr c9
    exact absurd ((Option.some.inj H).trans HRT.out) zb34
   rw [if_pos c9] at H
   have c9b0:=beq_iff_eq.mpr c9
   have c9b1:=bne_eq_false_iff_eq.mpr c9
   clear c9
   by_cases c10:t46.toList=([115,108,111,116,32,97,32,49,48,48,48,32,50,32,50,32,53,32,53,32,54,52,32,97,46,101,120,97,109,112,108,101,32,98,10]:List UInt8)
   ·rw [if_pos c10] at H
    have c10b0:=beq_iff_eq.mpr c10
    have c10b1:=bne_eq_false_iff_eq.mpr c10
    clear c10
    by_cases c11:t52=20;rotate_left
    ·rw [if_neg c11] at H
     have c11b0:=beq_eq_false_iff_ne.mpr c11
     have c11b1:=bne_iff_ne.mpr c11
     exact absurd ((Option.some.inj H).trans HRT.out) zb34
    rw [if_pos c11] at H
    have c11b0:=beq_iff_eq.mpr c11
    have c11b1:=bne_eq_false_iff_eq.mpr c11
    clear c11
    replace H:=Option.bind_eq_some_iff.mp H
    obtain ⟨t48,A53,H⟩:=H
    try dsimp only at H
    have A12:=Aside0.mk A53
    clear A53
    by_cases c13:t48=true
    ·subst c13
     rw [if_pos rfl] at H
     replace H:=Option.bind_eq_some_iff.mp H
     obtain ⟨t47,A54,H⟩:=H
     try dsimp only at H
     have A14:=Aside0.mk A54
     clear A54
     by_cases c15:t47=true
     ·subst c15
      rw [if_pos rfl] at H
      exact absurd ((Option.some.inj H).trans HRT.out) zb34
     replace c15:=Bool.eq_false_iff.mpr c15
     subst c15
     rw [if_neg (show ¬ (false=true) by decide)] at H
     replace H:=Option.bind_eq_some_iff.mp H
     obtain ⟨t44,A55,H⟩:=H
     try dsimp only at H
     have A22:=Aside0.mk A55
     clear A55
     by_cases c23:t44=0;rotate_left
     ·rw [if_neg c23] at H
      have c23b0:=beq_eq_false_iff_ne.mpr c23
      have c23b1:=bne_iff_ne.mpr c23
      exact absurd ((Option.some.inj H).trans HRT.out) zb34
     rw [if_pos c23] at H
     have c23b0:=beq_iff_eq.mpr c23
     have c23b1:=bne_eq_false_iff_eq.mpr c23
     clear c23
     replace H:=Option.bind_eq_some_iff.mp H
     obtain ⟨t42,A56,H⟩:=H
     try dsimp only at H
     have A24:=Aside0.mk A56
     clear A56
     by_cases c25:t42=(-1)
     ·rw [if_pos c25] at H
      have c25b0:=beq_iff_eq.mpr c25
      have c25b1:=bne_eq_false_iff_eq.mpr c25
      clear c25
      replace H:=Option.bind_eq_some_iff.mp H
      obtain ⟨t41,A57,H⟩:=H
      try dsimp only at H
      have A26:=Aside0.mk A57
      clear A57
      by_cases c27:t41=0;rotate_left
      ·rw [if_neg c27] at H
       have c27b0:=beq_eq_false_iff_ne.mpr c27
       have c27b1:=bne_iff_ne.mpr c27
       exact absurd ((Option.some.inj H).trans HRT.out) zb34
      rw [if_pos c27] at H
      have c27b0:=beq_iff_eq.mpr c27
      have c27b1:=bne_eq_false_iff_eq.mpr c27
      clear c27
      replace H:=Option.bind_eq_some_iff.mp H
      obtain ⟨t43,A58,H⟩:=H
      try dsimp only at H
      have A28:=Aside0.mk A58
      clear A58
      by_cases c29:t43=true
      ·subst c29
       rw [if_pos rfl] at H
       replace H:=Option.bind_eq_some_iff.mp H
       obtain ⟨t40,A59,H⟩:=H
       try dsimp only at H
       have A30:=Aside0.mk A59
       clear A59
       obtain rfl:=Option.some.inj H
       go_enter Tryd.func8,Tryd.ntmps8
       go_wp2_with (first|((with_reducible refine gate_callee (f:=17) rfl ?_);refine goesL_ (some 10) rfl rfl Tryd.func17 zb23 rfl #[.string (⟨#[115,108,111,116,32,97,32,49,48,48,48,32,50,32,50,32,53,32,53,32,54,52,32,97,46,101,120,97,109,112,108,101,32,98,10]⟩:ByteArray)] rfl zb2 ?_;(with_reducible refine (table_Read.calls k (⟨#[115,108,111,116,32,97,32,49,48,48,48,32,50,32,50,32,53,32,53,32,54,52,32,97,46,101,120,97,109,112,108,101,32,98,10]⟩:ByteArray) t19 t49 _ A1.out ?hT).mono ?_);(case hT=>exact HTB.out.below zb0);rintro e w31 ⟨v60,rfl,ho0,hb⟩;(try clear A1);refine ⟨_,rfl,?_⟩;have HO21:=Aside0.mk (Kd.S_lower ho0 (below_size zb0));replace HB:=Aside0.mk (below_step zb0 hb);try clear hb ho0;obtain ⟨Ao32,co32,eo32⟩:=Kd.S_slice HO21.out;subst eo32)|((with_reducible refine gate_callee (f:=15) rfl ?_);refine goesL_ (some 15) rfl rfl Tryd.func15 zb23 rfl #[.slice Ao32 t19.length co32] rfl zb2 ?_;(with_reducible refine (table_Write.calls k _ _ t19 t46 t50 _ ?side1 ?side2 A2.out ?hT).mono ?_);(case hT=>exact HTB.out.below zb0);(case side1=>exact zb16);(case side2=>exact (Kd.S_reads' HO21.out).2.1);rintro e w33 ⟨rfl,hb⟩;(try clear A2);refine ⟨_,rfl,?_⟩;replace HO21:=Aside0.mk (Kd.S_below zb15 hb);replace HB:=Aside0.mk (below_step zb0 hb);(try clear hb))|((with_reducible refine gate_callee (f:=17) rfl ?_);refine goesL_ (some 19) rfl rfl Tryd.func17 zb23 rfl #[.string (⟨#[115,108,111,116,32,97,10]⟩:ByteArray)] rfl zb2 ?_;(with_reducible refine (table_Read.calls k (⟨#[115,108,111,116,32,97,10]⟩:ByteArray) t51 t52 _ A3.out ?hT).mono ?_);(case hT=>exact HTB.out.below zb0);rintro e w34 ⟨v61,rfl,ho0,hb⟩;(try clear A3);refine ⟨_,rfl,?_⟩;have HO45:=Aside0.mk (Kd.S_lower (Kd.S_new' ho0 (Kd.S_lt zb15)) (below_size zb0));replace HO21:=Aside0.mk (Kd.S_elder' zb15 (Kd.S_base ho0) hb);replace HB:=Aside0.mk (below_step zb0 hb);try clear hb ho0;have p16:0 ≤ (0:Int):=zb10;have q16:0 < (t19.length:Int):=of_decide_eq_true zb3;obtain ⟨ad16,A16_1,c16_1,e16,hx16_0,hx16_1,hx16_2,hx16_3,hx16_4,hx16_5,hx16_6,hx16_7,hl16_1,hi16_1⟩:=at_T26 (Kd.S_reads' HO21.out).2.2 0 p16 q16;cases e16;obtain ⟨ce16,hce16,hMe16,hcc16⟩:=Kd.S_get HO21.out z26 0 p16 (by first|exact q16|exact of_decide_eq_true (by first|(with_reducible assumption)|assumption)|(have e_:=(Kd.S_reads' HO21.out).1;omega));obtain ⟨ve16_1,rfl,ge16_1⟩:=k26_openM hMe16;have hv16_1:=hcc16 1 _ rfl;rw [add_field _ _ 1 zb10] at hv16_1;replace hv16_1:=Option.some.inj (hv16_1.symm.trans hx16_1);rw [hv16_1] at ge16_1;have HL16_1:=Aside0.mk (show Kd.R Kd.string 9 _ _ _ _ ((rd_T26 t19 0).f1) from ge16_1);clear hv16_1 ge16_1;clear hcc16 hce16;have qi16:(0 < t19.length)=True:=eq_true zb10;(try rw [show ((0:Int)).toNat=0 from rfl] at hx16_0);(try rw [show 0 * 8=0 from rfl] at hx16_0);(try rw [Addr.add_zero'] at hx16_0);(try rw [show ((0:Int)).toNat=0 from rfl] at hx16_1);(try rw [show 0 * 8=0 from rfl] at hx16_1);(try rw [Addr.add_zero'] at hx16_1);(try rw [show ((0:Int)).toNat=0 from rfl] at hx16_2);(try rw [show 0 * 8=0 from rfl] at hx16_2);(try rw [Addr.add_zero'] at hx16_2);(try rw [show ((0:Int)).toNat=0 from rfl] at hx16_3);(try rw [show 0 * 8=0 from rfl] at hx16_3);(try rw [Addr.add_zero'] at hx16_3);(try rw [show ((0:Int)).toNat=0 from rfl] at hx16_4);(try rw [show 0 * 8=0 from rfl] at hx16_4);(try rw [Addr.add_zero'] at hx16_4);(try rw [show ((0:Int)).toNat=0 from rfl] at hx16_5);(try rw [show 0 * 8=0 from rfl] at hx16_5);(try rw [Addr.add_zero'] at hx16_5);(try rw [show ((0:Int)).toNat=0 from rfl] at hx16_6);(try rw [show 0 * 8=0 from rfl] at hx16_6);(try rw [Addr.add_zero'] at hx16_6);(try rw [show ((0:Int)).toNat=0 from rfl] at hx16_7);(try rw [show 0 * 8=0 from rfl] at hx16_7);(try rw [Addr.add_zero'] at hx16_7);have HR16_1:=Aside0.mk hi16_1;have HC16_1:=Aside0.mk hl16_1;clear hi16_1 hl16_1;replace p16:=eq_true p16;replace q16:=eq_true q16;have p18:0 ≤ (0:Int):=zb10;have q18:0 < (t19.length:Int):=of_decide_eq_true zb3;obtain ⟨ad18,A18_1,c18_1,e18,hx18_0,hx18_1,hx18_2,hx18_3,hx18_4,hx18_5,hx18_6,hx18_7,hl18_1,hi18_1⟩:=at_T26 (Kd.S_reads' HO21.out).2.2 0 p18 q18;obtain rfl:ad16=ad18:=(by injection e18);obtain ⟨ce18,hce18,hMe18,hcc18⟩:=Kd.S_get HO21.out z26 0 p18 (by first|exact q18|exact of_decide_eq_true (by first|(with_reducible assumption)|assumption)|(have e_:=(Kd.S_reads' HO21.out).1;omega));obtain ⟨ve18_1,rfl,ge18_1⟩:=k26_openM hMe18;have hv18_1:=hcc18 1 _ rfl;rw [add_field _ _ 1 zb10] at hv18_1;replace hv18_1:=Option.some.inj (hv18_1.symm.trans hx18_1);rw [hv18_1] at ge18_1;have HL18_1:=Aside0.mk (show Kd.R Kd.string 9 _ _ _ _ ((rd_T26 t19 0).f1) from ge18_1);clear hv18_1 ge18_1;clear hcc18 hce18;have qi18:(0 < t19.length)=True:=eq_true zb10;(try rw [show ((0:Int)).toNat=0 from rfl] at hx18_0);(try rw [show 0 * 8=0 from rfl] at hx18_0);(try rw [Addr.add_zero'] at hx18_0);(try rw [show ((0:Int)).toNat=0 from rfl] at hx18_1);(try rw [show 0 * 8=0 from rfl] at hx18_1);(try rw [Addr.add_zero'] at hx18_1);(try rw [show ((0:Int)).toNat=0 from rfl] at hx18_2);(try rw [show 0 * 8=0 from rfl] at hx18_2);(try rw [Addr.add_zero'] at hx18_2);(try rw [show ((0:Int)).toNat=0 from rfl] at hx18_3);(try rw [show 0 * 8=0 from rfl] at hx18_3);(try rw [Addr.add_zero'] at hx18_3);(try rw [show ((0:Int)).toNat=0 from rfl] at hx18_4);(try rw [show 0 * 8=0 from rfl] at hx18_4);(try rw [Addr.add_zero'] at hx18_4);(try rw [show ((0:Int)).toNat=0 from rfl] at hx18_5);(try rw [show 0 * 8=0 from rfl] at hx18_5);(try rw [Addr.add_zero'] at hx18_5);(try rw [show ((0:Int)).toNat=0 from rfl] at hx18_6);(try rw [show 0 * 8=0 from rfl] at hx18_6);(try rw [Addr.add_zero'] at hx18_6);(try rw [show ((0:Int)).toNat=0 from rfl] at hx18_7);(try rw [show 0 * 8=0 from rfl] at hx18_7);(try rw [Addr.add_zero'] at hx18_7);have HR18_1:=Aside0.mk hi18_1;have HC18_1:=Aside0.mk hl18_1;clear hi18_1 hl18_1;replace p18:=eq_true p18;replace q18:=eq_true q18;have ea_:=Option.some.inj (hx16_1.symm.trans hx18_1);injection ea_ with ea_ en_ ec_;subst ea_;subst ec_;clear en_)|(go_at_call 9;(with_reducible refine (table_Right.calls k _ _ t19 true _ ?side1 ?side2 A12.out).mono ?_);(case side1=>exact zb16);(case side2=>exact (Kd.S_reads' HO21.out).2.1);rintro e w35 ⟨rfl,hb⟩;(try clear A12);replace HO21:=Aside0.mk (Kd.S_below zb15 hb);replace HO45:=Aside0.mk (Kd.S_below zb27 hb);replace HL16_1:=Aside0.mk (Kd.R_below zb25 hb);replace HL18_1:=Aside0.mk (Kd.R_below zb26 hb);replace HR16_1:=Aside0.mk (Kd.C_below zb12 hb);replace HR18_1:=Aside0.mk (Kd.C_below zb13 hb);replace HB:=Aside0.mk (below_step zb0 hb);(try clear hb))|(go_at_call 9;(refine (table_Right.calls k _ _ ([]:List (S26)) false _ ?side1 ?side2 A14.out).mono ?_);(case side1=>exact Kd.C_nil _ _);(case side2=>exact Nat.le_refl _);rintro e w36 ⟨rfl,hb⟩;(try clear A14);replace HO21:=Aside0.mk (Kd.S_below zb15 hb);replace HO45:=Aside0.mk (Kd.S_below zb27 hb);replace HL16_1:=Aside0.mk (Kd.R_below zb25 hb);replace HL18_1:=Aside0.mk (Kd.R_below zb26 hb);replace HR16_1:=Aside0.mk (Kd.C_below zb12 hb);replace HR18_1:=Aside0.mk (Kd.C_below zb13 hb);replace HB:=Aside0.mk (below_step zb0 hb);(try clear hb))|(go_at_call 11;(with_reducible refine (table_Find.calls k _ _ t19 (⟨#[98]⟩:ByteArray) t44 _ ?side1 ?side2 A22.out).mono ?_);(case side1=>exact zb16);(case side2=>exact (Kd.S_reads' HO21.out).2.1);rintro e w37 ⟨rfl,hb⟩;(try clear A22);replace HO21:=Aside0.mk (Kd.S_below zb15 hb);replace HO45:=Aside0.mk (Kd.S_below zb27 hb);replace HL16_1:=Aside0.mk (Kd.R_below zb25 hb);replace HL18_1:=Aside0.mk (Kd.R_below zb26 hb);replace HR16_1:=Aside0.mk (Kd.C_below zb12 hb);replace HR18_1:=Aside0.mk (Kd.C_below zb13 hb);replace HB:=Aside0.mk (below_step zb0 hb);(try clear hb))|(go_at_call 11;(with_reducible refine (table_Find.calls k _ _ t19 (⟨#[99]⟩:ByteArray) t42 _ ?side1 ?side2 A24.out).mono ?_);(case side1=>exact zb16);(case side2=>exact (Kd.S_reads' HO21.out).2.1);rintro e w38 ⟨rfl,hb⟩;(try clear A24);replace HO21:=Aside0.mk (Kd.S_below zb15 hb);replace HO45:=Aside0.mk (Kd.S_below zb27 hb);replace HL16_1:=Aside0.mk (Kd.R_below zb25 hb);replace HL18_1:=Aside0.mk (Kd.R_below zb26 hb);replace HR16_1:=Aside0.mk (Kd.C_below zb12 hb);replace HR18_1:=Aside0.mk (Kd.C_below zb13 hb);replace HB:=Aside0.mk (below_step zb0 hb);(try clear hb))|(go_at_call 13;(with_reducible refine (table_Named.calls _ _ t19 (⟨#[97]⟩:ByteArray) t41 _ ?side1 ?side2 A26.out).mono ?_);(case side1=>exact zb16);(case side2=>exact (Kd.S_reads' HO21.out).2.1);rintro e w39 ⟨rfl,hb⟩;(try clear A26);replace HO21:=Aside0.mk (Kd.S_below zb15 hb);replace HO45:=Aside0.mk (Kd.S_below zb27 hb);replace HL16_1:=Aside0.mk (Kd.R_below zb25 hb);replace HL18_1:=Aside0.mk (Kd.R_below zb26 hb);replace HR16_1:=Aside0.mk (Kd.C_below zb12 hb);replace HR18_1:=Aside0.mk (Kd.C_below zb13 hb);replace HB:=Aside0.mk (below_step zb0 hb);(try clear hb))|(go_at_call 19;(with_reducible refine (table_Name.calls k (⟨#[97,45,49]⟩:ByteArray) true _ A28.out).mono ?_);rintro e w' ⟨rfl,⟨nd,rfl⟩⟩;(try clear A28))|(go_at_call 19;(with_reducible refine (table_Name.calls k (⟨#[49,97]⟩:ByteArray) t40 _ A30.out).mono ?_);rintro e w' ⟨rfl,⟨nd,rfl⟩⟩;(try clear A30)))
       go_ret
       exact ⟨zb4,zb0⟩
      ·replace c29:=Bool.eq_false_iff.mpr c29
       subst c29
       rw [if_neg (show ¬ (false=true) by decide)] at H
       exact absurd ((Option.some.inj H).trans HRT.out) zb34
     ·rw [if_neg c25] at H
      have c25b0:=beq_eq_false_iff_ne.mpr c25
      have c25b1:=bne_iff_ne.mpr c25
      exact absurd ((Option.some.inj H).trans HRT.out) zb34
    ·replace c13:=Bool.eq_false_iff.mpr c13
     subst c13
     rw [if_neg (show ¬ (false=true) by decide)] at H
     exact absurd ((Option.some.inj H).trans HRT.out) zb34
   ·rw [if_neg c10] at H
    have c10b0:=beq_eq_false_iff_ne.mpr c10
    have c10b1:=bne_iff_ne.mpr c10
    exact absurd ((Option.some.inj H).trans HRT.out) zb34
  ·rw [if_neg c8] at H
   have c8b0:=beq_eq_false_iff_ne.mpr c8
   have c8b1:=bne_iff_ne.mpr c8
   exact absurd ((Option.some.inj H).trans HRT.out) zb34
 ·rw [if_neg c5] at H
  have c5b0:=beq_eq_false_iff_ne.mpr c5
  have c5b1:=bne_iff_ne.mpr c5
  exact absurd ((Option.some.inj H).trans HRT.out) zb34
def thX (x:S26) (hs:List ByteArray):S26:=⟨x.f0,hs,x.f2,x.f3,x.f4,x.f5,x.f6,x.f7⟩
def thY (x:S26) (n:ByteArray):S26:=⟨n,x.f1,x.f2,x.f3,x.f4,x.f5,x.f6,x.f7⟩
/-- What the law asks of a right table. -/
def thD (k:Nat) (l0:List (S26)) (i c:Int):Bool:=decide (0 ≤ i∧i < (l0.length:Int)∧0 ≤ c∧c < (l0.length:Int)∧l0.length ≤ 16∧0 < (rd_T26 l0 c).f1.length∧(rd_T26 l0 i).f1.length ≤ 1000) && ((List.range l0.length).all (fun n=>decide (table_Named.f l0 (rd_T26 l0 (n:Int)).f0=some (n:Int)) && (rd_T26 l0 (n:Int)).f1.all fun h=>decide (table_Find.f k l0 h=some (n:Int))) && (decide (table_Right.f k (l0.set i.toNat (thX (rd_T26 l0 i) ((rd_T26 l0 i).f1 ++ [rdOf ByteArray.empty (rd_T26 l0 c).f1 0])))=some false) && (decide (table_Right.f k (l0.set i.toNat (thY (rd_T26 l0 i) (rd_T26 l0 c).f0))=some (i == c)) && decide (table_Right.f k []=some false))))
def tollbarlaw09_TableHosts.f (k:Nat) (l0:List (S26)) (a1:Int) (a2:Int):Option Bool:=(tollbarlaw09_alive.f k).bind fun b0=>if b0=true then (table_Right.f k l0).bind fun b=>if b=true then (if thD k l0 (Int.tmod (Go.bits .and .i64 a1 1023) (l0.length:Int)) (Int.tmod (Go.bits .and .i64 a2 1023) (l0.length:Int))=true then some true else none) else some true else none
/-- A row of one text,as a literal lays it. -/
theorem th_C1 (W:World) (g e:Nat) (h:ByteArray) (fr:Nat × Nat) (hb:W.heap[g]? = some (.cells #[.string h] e fr)):Kd.C Kd.string W (some ⟨g,0,none⟩) 1 [h]:=by
 refine ⟨rfl,by decide,fun _=>⟨_,rfl,fun j x hj=>⟨[.string x],rfl,rfl,fun i u hu=>?_⟩⟩⟩
 rcases j with _|j
 ·rcases i with _|i
  ·simp only [List.getElem?_cons_zero,Option.some.injEq] at hj hu
   subst hj
   subst hu
   rw [add_plain,cell_of_row _ _ _ _ _ _ hb]
   rfl
  simp at hu
 simp at hj
theorem th_R0 (W:World) (g e base:Nat) (hb:W.heap[g]? = some (.cells #[] e (0,0))) (hg:base ≤ g):Kd.R Kd.string e W base (fun _=>True) (.slice (some ⟨g,0,none⟩) 0 0) [] :=
 ⟨fun _ _=>trivial,[],⟨rfl,.inr ⟨g,0,#[],rfl,hg,hb,Nat.le_refl _,Nat.zero_le _,rfl,rfl⟩⟩,Reps.none _ _⟩
theorem th_new1 (w:World) (o o' : Obj):((w.alloc o).alloc o').heap[w.heap.size + 1]? = some o' := by
 have hs:(w.alloc o).heap.size=w.heap.size + 1:=Array.size_push ..
 rw [← hs]
 exact blk_new _ _
set_option maxHeartbeats 16000000 in
set_option maxRecDepth 100000 in
theorem tollbarlaw09_TableHosts.calls (k:Nat) (A0:Option Addr) (c0:Nat) (l0:List (S26)) (a1:Int) (a2:Int) (r:Bool) (w:World) (hr0:Kd.C k26 w A0 l0.length l0) (hc0:l0.length ≤ c0) (h:tollbarlaw09_TableHosts.f k l0 a1 a2=some r) (hr:r=true) (ht:Tabs w) :
 Calls Tryd.prog 5 #[.slice A0 l0.length c0,.int .i64 a1,.int .i64 a2] w fun e w' => e = .returned (.bool r)∧Below w.heap.size w w' := by
 subst hr
 have HR:=Aside0.mk hr0
 have HC:=Aside0.mk hc0
 have HT:=Aside0.mk ht
 clear hr0 hc0 ht
 unfold tollbarlaw09_TableHosts.f at h
 obtain ⟨b0,hb0_,h'⟩:=Option.bind_eq_some_iff.1 h
 clear h
 cases b0
 ·rw [if_neg zb24] at h'
  cases h'
 rw [if_pos rfl] at h'
 have H0:=Aside0.mk hb0_
 clear hb0_
 obtain ⟨b,hb_,h⟩:=Option.bind_eq_some_iff.1 h'
 clear h'
 have HB:=Aside0.mk hb_
 clear hb_
 cases b
 ·clear h
  go_enter Tryd.func5,Tryd.ntmps5
  go_wp2_with (first
   | (go_at_call 8;(with_reducible refine (tollbarlaw09_alive.calls k true _ H0.out rfl HT.out).mono ?_);rintro E w1 ⟨rfl,hb⟩;have L1:=Aside0.mk hb;clear hb)
   | (go_at_call 9;(with_reducible refine (table_Right.calls k A0 c0 l0 false _ (Kd.C_below HR.out L1.out) HC.out HB.out).mono ?_);rintro E w2 ⟨rfl,hb⟩;have L2:=Aside0.mk (below_step L1.out hb);clear hb))
  go_ret
  exact ⟨rfl,L2.out⟩
 rw [if_pos rfl] at h
 obtain ⟨ji,hji⟩ : ∃ j,Int.tmod (Go.bits .and .i64 a1 1023) (l0.length:Int)=j:=⟨_,rfl⟩
 obtain ⟨jc,hjc⟩ : ∃ j,Int.tmod (Go.bits .and .i64 a2 1023) (l0.length:Int)=j:=⟨_,rfl⟩
 rw [hji,hjc] at h
 split at h
 rotate_left
 ·cases h
 rename_i hd
 clear h
 unfold thD at hd
 simp only [Bool.and_eq_true,decide_eq_true_iff] at hd
 obtain ⟨⟨i0,i1,k0,k1,h16,hh0,hh1⟩,hN,hR1,hR2,hR3⟩:=hd
 have HI:=Aside0.mk (show 0 ≤ ji∧ji < (l0.length:Int)∧0 ≤ jc∧jc < (l0.length:Int)∧l0.length ≤ 16∧0 < (rd_T26 l0 jc).f1.length∧(rd_T26 l0 ji).f1.length ≤ 1000 from ⟨i0,i1,k0,k1,h16,hh0,hh1⟩)
 have HN:=Aside0.mk hN
 have HR1:=Aside0.mk hR1
 have HR2:=Aside0.mk hR2
 have HR3:=Aside0.mk hR3
 have lz1:((l0.length:Int) == 0)=false:=beq_eq_false_iff_ne.2 zb10
 have lz2:(l0.length == 0)=false:=beq_eq_false_iff_ne.2 zb10
 have lz3:(l0=[])=False:=eq_false (fun e=>by rw [e] at i1;simp only [List.length_nil] at i1;omega)
 have lz4:((l0.length:Int)=0)=False:=eq_false zb10
 clear i0 i1 k0 k1 h16 hh0 hh1 hN hR1 hR2 hR3
 go_enter Tryd.func5,Tryd.ntmps5
 go_wp2_with (first
  | (go_at_call 8;(with_reducible refine (tollbarlaw09_alive.calls k true _ H0.out rfl HT.out).mono ?_);rintro E w1 ⟨rfl,hb⟩;have L1:=Aside0.mk hb;clear hb)
  | (go_at_call 9;(with_reducible refine (table_Right.calls k A0 c0 l0 true _ (Kd.C_below HR.out L1.out) HC.out HB.out).mono ?_);rintro E w2 ⟨rfl,hb⟩;have L2:=Aside0.mk (below_step L1.out hb);clear hb))
 have M0:=Aside0.mk (Below.refl w2.heap.size w2)
 go_loopg [20] l0.length (fun kq v wr => ∃ (x:Int),v = .int .i64 x∧Aside0 (0 ≤ x∧x ≤ l0.length∧(l0.length:Int) - x ≤ kq)∧Aside0 (Below w2.heap.size w2 wr))
 case atStart=>exact ⟨0,rfl,⟨zb10⟩,M0⟩
 case round =>
  obtain ⟨x,rfl,HX,M3⟩:=hrel
  clear M0
  obtain ⟨wo,hwo⟩ : ∃ wo,wo=wr:=⟨wr,rfl⟩
  subst hwo
  obtain ⟨gq,hgq⟩ : ∃ gq,gq=gk:=⟨gk,rfl⟩
  subst hgq
  have LW:=Aside0.mk (below_step L2.out M3.out)
  by_cases c4:x < (l0.length:Int)
  ·have c4b0:=decide_eq_true c4
   have hlt:x.toNat < l0.length:=by have:=HX.out;omega
   have hrd:rd_T26 l0 x=l0[x.toNat]:=by unfold rd_T26;rw [List.getD_eq_getElem?_getD,List.getElem?_eq_getElem hlt];rfl
   obtain ⟨ad,A1,c1,he,h0,h1,h2,h3,h4,h5,h6,h7,lc1,hC1⟩:=at_T26 HR.out x HX.out.1 c4
   replace h0:=(LW.out.cell (World.block_lt_of_cell? w _ h0)).trans h0
   replace h1:=(LW.out.cell (World.block_lt_of_cell? w _ h1)).trans h1
   replace h2:=(LW.out.cell (World.block_lt_of_cell? w _ h2)).trans h2
   replace h3:=(LW.out.cell (World.block_lt_of_cell? w _ h3)).trans h3
   replace h4:=(LW.out.cell (World.block_lt_of_cell? w _ h4)).trans h4
   replace h5:=(LW.out.cell (World.block_lt_of_cell? w _ h5)).trans h5
   replace h6:=(LW.out.cell (World.block_lt_of_cell? w _ h6)).trans h6
   replace h7:=(LW.out.cell (World.block_lt_of_cell? w _ h7)).trans h7
   have hnn0:=List.all_eq_true.1 HN.out x.toNat (List.mem_range.2 hlt)
   rw [show ((x.toNat:Nat):Int)=x from Int.toNat_of_nonneg HX.out.1,Bool.and_eq_true] at hnn0
   have hnn:table_Named.f l0 (rd_T26 l0 x).f0=some x ∧ ∀ h ∈ (rd_T26 l0 x).f1,table_Find.f k l0 h=some x:=⟨of_decide_eq_true hnn0.1,fun h hh=>of_decide_eq_true (List.all_eq_true.1 hnn0.2 h hh)⟩
   clear hnn0
   obtain ⟨y,hy⟩ : ∃ y,rd_T26 l0 x=y:=⟨_,rfl⟩
   rw [hy] at h0 h1 h2 h3 h4 h5 h6 h7 lc1 hC1 hnn
   have HN1:=Aside0.mk hnn.1
   have HN2:=Aside0.mk hnn.2
   have HLC:=Aside0.mk lc1
   have HC1:=Aside0.mk hC1
   have p8:(0 ≤ x)=True:=eq_true HX.out.1
   have q8:(x < (l0.length:Int))=True:=eq_true c4
   clear hnn lc1 hC1 hlt hrd hy c4
   subst he
   have m0:(wo.alloc (.cells #[.string y.f0,.slice A1 y.f1.length c1,.int .i64 y.f2,.int .i64 y.f3,.int .i64 y.f4,.int .i64 y.f5,.int .i64 y.f6,.int .i64 y.f7] 26 (0,0))).cell? ⟨wo.heap.size,0,none⟩=some (.string y.f0):=(blk_cell (blk_new wo _) 0).trans rfl
   have m1:(wo.alloc (.cells #[.string y.f0,.slice A1 y.f1.length c1,.int .i64 y.f2,.int .i64 y.f3,.int .i64 y.f4,.int .i64 y.f5,.int .i64 y.f6,.int .i64 y.f7] 26 (0,0))).cell? ⟨wo.heap.size,1,none⟩=some (.slice A1 y.f1.length c1):=(blk_cell (blk_new wo _) 1).trans rfl
   have m2:(wo.alloc (.cells #[.string y.f0,.slice A1 y.f1.length c1,.int .i64 y.f2,.int .i64 y.f3,.int .i64 y.f4,.int .i64 y.f5,.int .i64 y.f6,.int .i64 y.f7] 26 (0,0))).cell? ⟨wo.heap.size,2,none⟩=some (.int .i64 y.f2):=(blk_cell (blk_new wo _) 2).trans rfl
   have m3:(wo.alloc (.cells #[.string y.f0,.slice A1 y.f1.length c1,.int .i64 y.f2,.int .i64 y.f3,.int .i64 y.f4,.int .i64 y.f5,.int .i64 y.f6,.int .i64 y.f7] 26 (0,0))).cell? ⟨wo.heap.size,3,none⟩=some (.int .i64 y.f3):=(blk_cell (blk_new wo _) 3).trans rfl
   have m4:(wo.alloc (.cells #[.string y.f0,.slice A1 y.f1.length c1,.int .i64 y.f2,.int .i64 y.f3,.int .i64 y.f4,.int .i64 y.f5,.int .i64 y.f6,.int .i64 y.f7] 26 (0,0))).cell? ⟨wo.heap.size,4,none⟩=some (.int .i64 y.f4):=(blk_cell (blk_new wo _) 4).trans rfl
   have m5:(wo.alloc (.cells #[.string y.f0,.slice A1 y.f1.length c1,.int .i64 y.f2,.int .i64 y.f3,.int .i64 y.f4,.int .i64 y.f5,.int .i64 y.f6,.int .i64 y.f7] 26 (0,0))).cell? ⟨wo.heap.size,5,none⟩=some (.int .i64 y.f5):=(blk_cell (blk_new wo _) 5).trans rfl
   have m6:(wo.alloc (.cells #[.string y.f0,.slice A1 y.f1.length c1,.int .i64 y.f2,.int .i64 y.f3,.int .i64 y.f4,.int .i64 y.f5,.int .i64 y.f6,.int .i64 y.f7] 26 (0,0))).cell? ⟨wo.heap.size,6,none⟩=some (.int .i64 y.f6):=(blk_cell (blk_new wo _) 6).trans rfl
   have m7:(wo.alloc (.cells #[.string y.f0,.slice A1 y.f1.length c1,.int .i64 y.f2,.int .i64 y.f3,.int .i64 y.f4,.int .i64 y.f5,.int .i64 y.f6,.int .i64 y.f7] 26 (0,0))).cell? ⟨wo.heap.size,7,none⟩=some (.int .i64 y.f7):=(blk_cell (blk_new wo _) 7).trans rfl
   have BY4:=Aside0.mk (blk_new wo (.cells #[.string y.f0,.slice A1 y.f1.length c1,.int .i64 y.f2,.int .i64 y.f3,.int .i64 y.f4,.int .i64 y.f5,.int .i64 y.f6,.int .i64 y.f7] 26 (0,0)))
   have M4:=Aside0.mk (below_alloc (Below.refl wo.heap.size wo) (.cells #[.string y.f0,.slice A1 y.f1.length c1,.int .i64 y.f2,.int .i64 y.f3,.int .i64 y.f4,.int .i64 y.f5,.int .i64 y.f6,.int .i64 y.f7] 26 (0,0)))
   go_wp2_with (first
    | (go_at_call 13;(with_reducible refine (table_Named.calls (some ad) c0 l0 y.f0 x _ (Kd.C_below HR.out (below_step LW.out M4.out)) HC.out HN1.out).mono ?_);rintro E w3 ⟨rfl,hb⟩;have BY5:=Aside0.mk (blk_below BY4.out hb);have M5:=Aside0.mk (below_step M4.out hb);have n1:w3.cell? ⟨wo.heap.size,1,none⟩=some (.slice A1 y.f1.length c1):=(blk_cell BY5.out 1).trans rfl;clear hb))
   go_loopg [34] y.f1.length (fun kq v wi => ∃ (z:Int),v = .int .i64 z∧Aside0 (0 ≤ z∧z ≤ y.f1.length∧(y.f1.length:Int) - z ≤ kq)∧Aside0 (Below wo.heap.size wo wi))
   case atStart=>exact ⟨0,rfl,⟨zb10⟩,M5⟩
   case round =>
    obtain ⟨z,rfl,HZ,M6⟩:=hrel
    clear M5 n1
    by_cases c5:z < (y.f1.length:Int);rotate_left
    ·have c5b0:=decide_eq_false c5
     clear c5
     go_wp2
     go_roundg (gq - 1)
     case measure=>have:=HX.out;have:=of_eq_true q8;omega
     case rel =>
      have hx8:=HX.out
      have hq8:=of_eq_true q8
      have hl:=HI.out.2.2.2.2.1
      have hw:wrap64 (x + 1)=x + 1:=by unfold wrap64;omega
      exact ⟨wrap64 (x + 1),zb18,⟨by rw [hw];omega⟩,⟨below_step M3.out M6.out⟩⟩
    have c5b0:=decide_eq_true c5
    have hlz:z.toNat < y.f1.length:=by have:=HZ.out;omega
    have hrz:rdOf ByteArray.empty y.f1 z=y.f1[z.toNat]:=by simp [rdOf,List.getD_eq_getElem?_getD,List.getElem?_eq_getElem hlz]
    have LZ:=Aside0.mk (below_step LW.out M6.out)
    obtain ⟨ae,hae,g0⟩:=Kd.at_string HC1.out z HZ.out.1 c5
    replace g0:=(LZ.out.cell (World.block_lt_of_cell? w _ g0)).trans g0
    have hf:=HN2.out (rdOf ByteArray.empty y.f1 z) (by rw [hrz];exact List.getElem_mem hlz)
    obtain ⟨hs,hhs⟩ : ∃ hs,rdOf ByteArray.empty y.f1 z=hs:=⟨_,rfl⟩
    rw [hhs] at g0 hf
    have HF:=Aside0.mk hf
    have p9:(0 ≤ z)=True:=eq_true HZ.out.1
    have q9:(z < (y.f1.length:Int))=True:=eq_true c5
    have G9:=Aside0.mk c5
    clear hf hhs hrz hlz c5
    subst hae
    go_wp2_with (first
     | (go_at_call 11;(with_reducible refine (table_Find.calls k (some ad) c0 l0 hs x _ (Kd.C_below HR.out LZ.out) HC.out HF.out).mono ?_);rintro E w4 ⟨rfl,hb⟩;have M7:=Aside0.mk (below_step M6.out hb);clear hb))
    go_roundg (gk - 1)
    case measure=>have:=HZ.out;have:=G9.out;omega
    case rel =>
     have hx8:=HZ.out
     have hq8:=G9.out
     have hcB:=HC1.out.2.1
     have hw:wrap64 (z + 1)=z + 1:=by unfold wrap64;omega
     exact ⟨wrap64 (z + 1),zb18,⟨by rw [hw];omega⟩,M7⟩
  have c4b0:=decide_eq_false c4
  clear c4 HX
  have hl1:0 < l0.length:=by have:=HI.out;omega
  obtain ⟨ad,Ai,ci,he,_,e1,_,_,_,_,_,_,lci,hCi⟩:=at_T26 HR.out ji HI.out.1 HI.out.2.1
  obtain ⟨ad2,Ac,cc,he2,f0,f1,_,_,_,_,_,_,lcc,hCc⟩:=at_T26 HR.out jc HI.out.2.2.1 HI.out.2.2.2.1
  rw [he] at he2
  injection he2 with he2
  subst he2
  obtain ⟨ah,hah,g0⟩:=Kd.at_string hCc 0 zb10 (by have:=HI.out;omega)
  obtain ⟨xi,hxi⟩ : ∃ y,rd_T26 l0 ji=y:=⟨_,rfl⟩
  obtain ⟨xc,hxc⟩ : ∃ y,rd_T26 l0 jc=y:=⟨_,rfl⟩
  obtain ⟨h0,hh0⟩ : ∃ y,rdOf ByteArray.empty xc.f1 0=y:=⟨_,rfl⟩
  rw [hxi] at e1 lci hCi
  rw [hxc] at f0 f1 lcc hCc g0
  rw [hh0] at g0
  have HXI:=Aside0.mk hxi
  have HXC:=Aside0.mk hxc
  have HH0:=Aside0.mk hh0
  have E1:=Aside0.mk e1
  have F0:=Aside0.mk f0
  have F1:=Aside0.mk f1
  have G0:=Aside0.mk g0
  have HCI:=Aside0.mk hCi
  have HLI:=Aside0.mk lci
  have ip:(0 ≤ ji)=True:=eq_true HI.out.1
  have iq:(ji < (l0.length:Int))=True:=eq_true HI.out.2.1
  have cp:(0 ≤ jc)=True:=eq_true HI.out.2.2.1
  have cq:(jc < (l0.length:Int))=True:=eq_true HI.out.2.2.2.1
  have hx1:(0 < xc.f1.length)=True:=eq_true (by rw [← hxc];exact HI.out.2.2.2.2.2.1)
  have hx2:((0:Int) < (xc.f1.length:Int))=True:=eq_true (by have:=of_eq_true hx1;omega)
  clear e1 f0 f1 g0 hCi lci lcc hCc hxi hxc hh0 hl1
  subst he
  subst hah
  go_wp2_with (first
   | ((with_reducible refine gate_dst (N:=55) rfl ?_);refine Kd.N_lit k26 _ 26 ?hg (N' := 55) ?hd (xs:=[]) (inner:=[]) (ok:=fun _=>True) (okp:=fun _=>False) ?hr ?hp (fun _ h=>h.elim) trivial (Below.refl _ _) (Nat.le_refl _) zb24 ?_;(case hd=>rfl);(case hg=>rfl);(case hr=>first|(go_simp;done)|(go_simp;rfl));(case hp=>exact (Reps.none _ _));intro v5 w5 ho hb hg_ hnew_;have NO5:=Aside0.mk ho;have NB5:=Aside0.mk hb;have NN5:=Aside0.mk hnew_;clear ho hb hg_ hnew_)
   | ((with_reducible refine gate_builtin (b:=.append) (xs:=#[.tmp 55,.tmp 56]) rfl ?_);at_builtin;refine Kd.N_append_rows k26 (w0:=wo) wo.heap.size rfl (.tmp 55) (.tmp 56) 22 26 (.agg #[(.string ⟨#[]⟩),(.slice none 0 0),(.int .i64 0),(.int .i64 0),(.int .i64 0),(.int .i64 0),(.int .i64 0),(.int .i64 0)]) 88 rfl Tryd.underlying22 info26 rfl zb34 zb10 v5 [] l0 _ _ _ (fun _=>True) (fun k_=>k_ < wo.heap.size) rfl rfl ?aO ?aF ?aK (fun _ _=>trivial) ?aB ?aS ?aL ?_;(case aO=>exact NO5.out);(case aF=>exact Kd.F_mono (Kd.F_below (Kd.C_F (Kd.heap_iso _ (Kd.heap_pair Kd.heap_string (Kd.heap_pair (Kd.heap_slice _ Kd.heap_string) (Kd.heap_pair (Kd.heap_int .i64) (Kd.heap_pair (Kd.heap_int .i64) (Kd.heap_pair (Kd.heap_int .i64) (Kd.heap_pair (Kd.heap_int .i64) (Kd.heap_pair (Kd.heap_int .i64) (Kd.heap_int .i64))))))))) HR.out) (below_step LW.out NB5.out)) (fun k_ hk=>Nat.lt_of_lt_of_le hk LW.out.size));(case aK=>intro k_ hk;obtain ⟨b_,hb_,hle_⟩:=NN5.out;exact ⟨trivial,fun he_=>by rw [hb_] at he_;injection he_ with he_;omega⟩);(case aB=>exact NB5.out);(case aS=>exact NB5.out.size);(case aL=>have:=HI.out;simp only [List.length_nil];omega);intro v6 w6 ho hb hg hat;rw [List.nil_append] at ho;obtain ⟨gt,cap,rfl,hgb,hgl,cs,hcs⟩:=Kd.N_form ho (by have:=HI.out;omega);have HBG:=Aside0.mk hcs;have HGL:=Aside0.mk hgl;have NO6:=Aside0.mk ho;have NB6:=Aside0.mk hb;have GB:=Aside0.mk hgb;clear ho hb hg hat hcs hgl hgb))
  obtain ⟨hq,hhq⟩ : ∃ q,xi.f1 ++ [h0]=q:=⟨_,rfl⟩
  have HHQ:=Aside0.mk hhq
  clear hhq
  have LW6:=Aside0.mk (below_step LW.out NB6.out)
  have e1:=(LW6.out.cell (World.block_lt_of_cell? w _ E1.out)).trans E1.out
  have f1:=(LW6.out.cell (World.block_lt_of_cell? w _ F1.out)).trans F1.out
  have g0:=(LW6.out.cell (World.block_lt_of_cell? w _ G0.out)).trans G0.out
  have gz:w6.cell? ah=some (.string h0):=by rw [show Int.toNat 0=0 from rfl,Addr.add_zero'] at g0;exact g0
  have ne1:(ad.add (ji.toNat * 8)).block ≠ gt:=by have:=World.block_lt_of_cell? w _ E1.out;have:=LW.out.size;have:=GB.out;dsimp only at *;omega
  have ne2:(ad.add (jc.toNat * 8)).block ≠ gt:=by have:=World.block_lt_of_cell? w _ F1.out;have:=LW.out.size;have:=GB.out;dsimp only at *;omega
  have ne3:ah.block ≠ gt:=by have h1_:=World.block_lt_of_cell? w _ G0.out;rw [show Int.toNat 0=0 from rfl,Addr.add_zero'] at h1_;have:=LW.out.size;have:=GB.out;omega
  have NE:=Aside0.mk (And.intro ne1 (And.intro ne2 ne3))
  clear ne1 ne2 ne3 g0
  obtain ⟨ec,hecl,hecF,hecc,hecf⟩:=Kd.N_elem NO6.out z26 ji HI.out.1 HI.out.2.1
  have hxi2:l0.getD ji.toNat z26=xi:=by have:=HXI.out;exact this
  rw [hxi2] at hecF
  obtain ⟨Ae,ce,rfl,hle,hFe⟩:=k26_openF hecF
  have EC1:=Aside0.mk (show w6.cell? ⟨gt,ji.toNat * 8 + 1,none⟩=some (.slice Ae xi.f1.length ce) from hecc 1 _ rfl)
  have BG6:=Aside0.mk (HBG.out)
  have BZ6:=Aside0.mk (Below.refl w6.heap.size w6)
  have E6:=Aside0.mk e1
  have F6:=Aside0.mk f1
  have G6:=Aside0.mk gz
  have e1d:w6.drew.cell? ⟨(ad.add (ji.toNat * 8)).block,(ad.add (ji.toNat * 8)).off + 1,none⟩=some (.slice Ai xi.f1.length ci):=e1
  have f1d:w6.drew.cell? ⟨(ad.add (jc.toNat * 8)).block,(ad.add (jc.toNat * 8)).off + 1,none⟩=some (.slice (some ah) xc.f1.length cc):=f1
  have gzd:w6.drew.cell? ah=some (.string h0):=gz
  clear e1 f1 gz hecl hecF hecc hecf hle hFe hxi2
  go_region_held3 (fun w' => w'.cell? ⟨(ad.add (ji.toNat * 8)).block,(ad.add (ji.toNat * 8)).off + 1,none⟩=some (.slice Ai xi.f1.length ci)∧w'.cell? ⟨(ad.add (jc.toNat * 8)).block,(ad.add (jc.toNat * 8)).off + 1,none⟩=some (.slice (some ah) xc.f1.length cc)∧w'.cell? ah=some (.string h0)) (first|exact ⟨(cell_far NE.out.1 _).trans x21_1,(cell_far NE.out.2.1 _).trans x21_2,(cell_far NE.out.2.2 _).trans x21_3⟩|exact ⟨((show Below w6.heap.size w6 _ from by repeat (first|apply below_alloc|apply below_drew1|exact BZ21.out|exact BZ20.out|exact BZ6.out)).cell (World.block_lt_of_cell? w6 _ E6.out)).trans E6.out,((show Below w6.heap.size w6 _ from by repeat (first|apply below_alloc|apply below_drew1|exact BZ21.out|exact BZ20.out|exact BZ6.out)).cell (World.block_lt_of_cell? w6 _ F6.out)).trans F6.out,((show Below w6.heap.size w6 _ from by repeat (first|apply below_alloc|apply below_drew1|exact BZ21.out|exact BZ20.out|exact BZ6.out)).cell (World.block_lt_of_cell? w6 _ G6.out)).trans G6.out⟩)
   (first
    | (refine Kd.R_append_rows_step Kd.string (w0:=w6) w6.heap.size (by rfl) (.tmp 60) (.tmp 65) 24 9 (.string ⟨#[]⟩) 16 rfl Tryd.underlying24 info9 rfl zb34 zb10 _ ([]:List ByteArray) xi.f1 _ _ _ (fun _=>True) (fun _=>False) rfl rfl ?aO ?aR (fun _ _ h=>h) (fun _ h=>h.elim) (fun _ _=>trivial) ?aB ?aS ?aL ?_;(case aO=>first|exact th_R0 _ _ _ _ (blk_drew (blk_new _ _)) (Nat.le_refl _)|exact th_R0 _ _ _ _ (blk_drew (blk_alloc (blk_new _ _) _)) (Nat.le_refl _)|exact th_R0 _ _ _ _ (blk_drew (th_new1 w6 _ _)) (Nat.le_succ _));(case aR=>exact Kd.C_below HCI.out (below_step LW6.out zb47));(case aB=>exact zb47);(case aS=>exact below_size zb47);(case aL=>have:=HI.out.2.2.2.2.2.2;rw [HXI.out] at this;simp only [List.length_nil];omega);intro v20 w20 ho hb hg hat;rw [List.nil_append] at ho;have RO20:=Aside0.mk ho;have BZ20:=Aside0.mk hb;have x20_1:=(hb.cell (World.block_lt_of_cell? w6 _ E6.out)).trans E6.out;have x20_2:=(hb.cell (World.block_lt_of_cell? w6 _ F6.out)).trans F6.out;have x20_3:=(hb.cell (World.block_lt_of_cell? w6 _ G6.out)).trans G6.out;(first|have LQ:=Aside0.mk (blk_grown (g:=w6.heap.size + 1) (o:=(.cells #[.string h0] 9 (0,0))) (by exact th_new1 w6 (.cells #[] 9 (0,0)) (.cells #[.string h0] 9 (0,0))) hg (show some (w6.heap.size + 1) ≠ (Value.slice (some ⟨w6.heap.size,0,none⟩) 0 0).ownBlock from fun he_=>by simp only [Value.ownBlock,Option.some.injEq] at he_;omega))|have LQ:=Aside0.mk (blk_grown (g:=w6.heap.size) (o:=(.cells #[.string h0] 9 (0,0))) (by exact blk_alloc (blk_new w6 (.cells #[.string h0] 9 (0,0))) (.cells #[] 9 (0,0))) hg (show some (w6.heap.size) ≠ (Value.slice (some ⟨w6.heap.size + 1,0,none⟩) 0 0).ownBlock from fun he_=>by simp only [Value.ownBlock,Option.some.injEq] at he_;omega))|skip);clear ho hb hg hat)
    | (refine Kd.R_append_rows_step Kd.string (w0:=w6) w6.heap.size (by rfl) (.tmp 66) (.tmp 74) 24 9 (.string ⟨#[]⟩) 16 rfl Tryd.underlying24 info9 rfl zb34 zb10 v20 xi.f1 [h0] _ _ _ (fun _=>True) (fun _=>False) rfl rfl ?aO ?aR (fun _ _ h=>h) (fun _ h=>h.elim) (fun _ _=>trivial) ?aB ?aS ?aL ?_;(case aO=>first|exact RO20.out|exact Kd.R_alloc RO20.out _|exact Kd.R_drew (Kd.R_alloc RO20.out _)|exact Kd.R_drew RO20.out);(case aR=>first|exact th_C1 _ _ _ _ _ LQ.out|exact th_C1 _ _ _ _ _ (blk_new _ _)|exact th_C1 _ _ _ _ _ (blk_drew (blk_new _ _)));(case aB=>(repeat (first|apply below_alloc|apply below_drew1|exact BZ20.out)));(case aS=>exact below_size (by repeat (first|apply below_alloc|apply below_drew1|exact BZ20.out)));(case aL=>have:=HI.out.2.2.2.2.2.2;rw [HXI.out] at this;omega);intro v21 w21 ho hb hg hat;rw [HHQ.out] at ho;obtain ⟨Aq,cq,rfl⟩:=Kd.R_slice ho;have RO21:=Aside0.mk ho;have BZ21:=Aside0.mk hb;have x21_1:=(hb.cell (World.block_lt_of_cell? w6 _ E6.out)).trans E6.out;have x21_2:=(hb.cell (World.block_lt_of_cell? w6 _ F6.out)).trans F6.out;have x21_3:=(hb.cell (World.block_lt_of_cell? w6 _ G6.out)).trans G6.out;have t21:=(hb.cell (World.block_lt_of_cell? w6 _ EC1.out)).trans EC1.out;have z21:=blk_frozen (blk_below BG6.out hb) (ji.toNat * 8 + 1);clear ho hb hg hat))
  all_goals
   have hxi2:l0.getD ji.toNat z26=xi:=by have:=HXI.out;exact this
   have hxc2:l0.getD jc.toNat z26=xc:=by have:=HXC.out;exact this
   have N21:=Kd.N_below NO6.out BZ21.out
   obtain ⟨ec,hecl,hecF,hecc,hecf⟩:=Kd.N_elem N21 z26 ji HI.out.1 HI.out.2.1
   rw [hxi2] at hecF
   obtain ⟨Ae2,ce2,rfl,hle,hFe⟩:=k26_openF hecF
   have FQ:=Kd.R_F (Kd.R_mono (ok' := fun k_=>w6.heap.size ≤ k_) (Kd.R_bound RO21.out) (fun k_ hk=>hk.2.1))
   have MQ:=k26_mkF w21 (fun k_=>w6.heap.size ≤ k_) (thX xi hq) (A1:=Aq) (c1:=cq) (Kd.R_reads' RO21.out).2.1 FQ
   have NS:=(Kd.N_seg N21 ji HI.out.1 HI.out.2.1 (seg:=[.slice Aq hq.length cq]) (j:=1) hecl hecc (show 1 + 1 ≤ 8 from by decide) (x' := thX xi hq) MQ (fun k_ hk=>⟨trivial,by have:=HGL.out;omega⟩)).1
   have TW:=Aside0.mk (show Kd.N k26 26 (w21.setCell ⟨gt,ji.toNat * 8 + 1,none⟩ (.slice Aq hq.length cq)) wo.heap.size (fun _=>True) (.slice (some ⟨gt,0,none⟩) l0.length cap) (l0.set ji.toNat (thX xi hq)) from NS)
   have NBW:=Aside0.mk ((below_step NB6.out BZ21.out).setCell (p:=⟨gt,ji.toNat * 8 + 1,none⟩) GB.out (.slice Aq hq.length cq))
   have LWP:=Aside0.mk (below_step LW.out NBW.out)
   clear hecl hecF hecc hecf hle hFe FQ MQ NS N21
   generalize w21.setCell ⟨gt,ji.toNat * 8 + 1,none⟩ (.slice Aq hq.length cq)=wp at TW NBW LWP ⊢
   obtain ⟨l1,hl1⟩ : ∃ l,l0.set ji.toNat (thX xi hq)=l:=⟨_,rfl⟩
   obtain ⟨l2,hl2⟩ : ∃ l,l0.set ji.toNat (thY xi xc.f0)=l:=⟨_,rfl⟩
   have HL1:=Aside0.mk (show l1.length=l0.length from by rw [← hl1,List.length_set])
   have HL2:=Aside0.mk (show l2.length=l0.length from by rw [← hl2,List.length_set])
   have HS2:=Aside0.mk hl2
   have HR1' := Aside0.mk (show table_Right.f k l1=some false from by have:=HR1.out;rw [HXI.out,HXC.out,HH0.out,HHQ.out,hl1] at this;exact this)
   have HR2' := Aside0.mk (show table_Right.f k l2=some (ji == jc) from by have:=HR2.out;rw [HXI.out,HXC.out,hl2] at this;exact this)
   rw [hl1] at TW
   clear hl1 hl2 hxc2
   go_wp2_with (first
    | ((with_reducible refine gate_dst (N:=78) rfl ?_);refine Kd.N_lit k26 _ 26 ?hg (N' := 78) ?hd (xs:=[]) (inner:=[]) (ok:=fun _=>True) (okp:=fun _=>False) ?hr ?hp (fun _ h=>h.elim) trivial (Below.refl _ _) (Nat.le_refl _) zb24 ?_;(case hd=>rfl);(case hg=>rfl);(case hr=>first|(go_simp;done)|(go_simp;rfl));(case hp=>exact (Reps.none _ _));intro v7 w7 ho hb hg_ hnew_;have NO7:=Aside0.mk ho;have NB7:=Aside0.mk hb;have NN7:=Aside0.mk hnew_;clear ho hb hg_ hnew_)
    | ((with_reducible refine gate_builtin (b:=.append) (xs:=#[.tmp 78,.tmp 79]) rfl ?_);at_builtin;refine Kd.N_append_rows k26 (w0:=wp) wp.heap.size rfl (.tmp 78) (.tmp 79) 22 26 (.agg #[(.string ⟨#[]⟩),(.slice none 0 0),(.int .i64 0),(.int .i64 0),(.int .i64 0),(.int .i64 0),(.int .i64 0),(.int .i64 0)]) 88 rfl Tryd.underlying22 info26 rfl zb34 zb10 v7 [] l0 _ _ _ (fun _=>True) (fun k_=>k_ < wp.heap.size) rfl rfl ?aO ?aF ?aK (fun _ _=>trivial) ?aB ?aS ?aL ?_;(case aO=>exact NO7.out);(case aF=>exact Kd.F_mono (Kd.F_below (Kd.C_F (Kd.heap_iso _ (Kd.heap_pair Kd.heap_string (Kd.heap_pair (Kd.heap_slice _ Kd.heap_string) (Kd.heap_pair (Kd.heap_int .i64) (Kd.heap_pair (Kd.heap_int .i64) (Kd.heap_pair (Kd.heap_int .i64) (Kd.heap_pair (Kd.heap_int .i64) (Kd.heap_pair (Kd.heap_int .i64) (Kd.heap_int .i64))))))))) HR.out) (below_step LWP.out NB7.out)) (fun k_ hk=>Nat.lt_of_lt_of_le hk LWP.out.size));(case aK=>intro k_ hk;obtain ⟨b_,hb_,hle_⟩:=NN7.out;exact ⟨trivial,fun he_=>by rw [hb_] at he_;injection he_ with he_;omega⟩);(case aB=>exact NB7.out);(case aS=>exact NB7.out.size);(case aL=>have:=HI.out;simp only [List.length_nil];omega);intro v8 w8 ho hb hg hat;rw [List.nil_append] at ho;obtain ⟨g2,cap2,rfl,hgb,hgl,cs2,hcs⟩:=Kd.N_form ho (by have:=HI.out;omega);have NO8:=Aside0.mk ho;have NB8:=Aside0.mk hb;have LW8:=Aside0.mk (below_step LWP.out hb);have x8:=(LW8.out.cell (World.block_lt_of_cell? w _ F0.out)).trans F0.out;have GG:=Aside0.mk hgb;have EL:=Aside0.mk (Kd.N_elem ho z26 ji HI.out.1 HI.out.2.1);have s8:w8.cell? ⟨g2,ji.toNat * 8,none⟩=some (.string xi.f0):=(by obtain ⟨ec,hecl,hecF,hecc,hecf⟩:=EL.out;rw [hxi2] at hecF;obtain ⟨Ae2,ce2,rfl,hle,hFe⟩:=k26_openF hecF;exact hecc 0 _ rfl);have z8:w8.frozen? ⟨g2,ji.toNat * 8,none⟩=false:=blk_frozen hcs _;have N22:=Aside0.mk (show Kd.N k26 26 (w8.setCell ⟨g2,ji.toNat * 8,none⟩ (.string xc.f0)) wp.heap.size (fun _=>True) (.slice (some ⟨g2,0,none⟩) l0.length cap2) l2 from (by obtain ⟨ec,hecl,hecF,hecc,hecf⟩:=EL.out;rw [hxi2] at hecF;obtain ⟨Ae2,ce2,rfl,hle,hFe⟩:=k26_openF hecF;rw [← HS2.out];exact (Kd.N_seg ho ji HI.out.1 HI.out.2.1 (seg:=[.string xc.f0]) (j:=0) hecl hecc (show 0 + 1 ≤ 8 from by decide) (x' := thY xi xc.f0) (k26_mkF w8 (fun k_=>True∧k_ ≠ g2) (thY xi xc.f0) (A1:=Ae2) (c1:=ce2) hle hFe) (fun k_ hk=>hk)).1));have T22:=Aside0.mk (Kd.N_far (Kd.N_below (Kd.N_elderB TW.out g2 hgb) hb) (p:=⟨g2,ji.toNat * 8,none⟩) (fun k_ hk=>hk.2) (.string xc.f0));have L22:=Aside0.mk (LW8.out.setCell (p:=⟨g2,ji.toNat * 8,none⟩) (Nat.le_trans LWP.out.size hgb) (.string xc.f0));clear ho hb hg hat hcs hgl hgb EL)
    | (go_at_call 9;(have RT1:=table_Right.calls k (some ⟨gt,0,none⟩) cap l1 false _ (Kd.N_reads' T22.out).2.2 (by rw [HL1.out];exact (Kd.N_reads' T22.out).2.1) HR1'.out;rw [HL1.out] at RT1;with_reducible refine RT1.mono ?_);rintro E w9 ⟨rfl,hb⟩;have L23:=Aside0.mk (below_step L22.out hb);have N23:=Aside0.mk (Kd.N_below N22.out hb);clear hb T22)
    | (go_at_call 9;(have RT1:=table_Right.calls k (some ⟨g2,0,none⟩) cap2 l2 (ji == jc) _ (Kd.N_reads' N23.out).2.2 (by rw [HL2.out];exact (Kd.N_reads' N23.out).2.1) HR2'.out;rw [HL2.out] at RT1;with_reducible refine RT1.mono ?_);rintro E w10 ⟨rfl,hb⟩;have L24:=Aside0.mk (below_step L23.out hb);clear hb N23 N22)
    | (go_at_call 9;(have RT1:=table_Right.calls k (some ad) c0 [] false w10 ⟨rfl,Nat.zero_le _,fun h=>absurd h (Nat.lt_irrefl 0)⟩ (Nat.zero_le _) HR3.out;rw [List.length_nil] at RT1;with_reducible refine RT1.mono ?_);rintro E w11 ⟨rfl,hb⟩;have L25:=Aside0.mk (below_step L24.out hb);clear hb))
   go_ret
   exact ⟨zb18,L25.out⟩
end Go.Proofs.YtclpanalnbmejaaDoor.P
namespace Go.Proofs.YtclpanalnbmejaaDoor.Pure
open Go.RowKit Go.Proofs.YtclpanalnbmejaaDoor.P Go.Proofs.YtclpanalnbmejaaDoorW.PrintWords Go.Proofs.YtclpanalnbmejaaDoorW.PrintLast Go.Proofs.YtclpanalnbmejaaDoorW.PrintMore
set_option linter.unusedVariables false
set_option linter.unusedSimpArgs false
theorem up {α:Type} {g:Nat → Option α} (hm : ∀ k,LeO (g k) (g (k + 1))) {n:Nat} {r:α} (h:g n=some r) : ∀ d,g (n + d)=some r
 | 0=>h
 | d + 1=>hm _ _ (up hm h d)
theorem up_to {α:Type} {g:Nat → Option α} (hm : ∀ k,LeO (g k) (g (k + 1))) {n k:Nat} {r:α} (h:g n=some r) (hk:n ≤ k):g k=some r:=by
 obtain ⟨d,rfl⟩ : ∃ d,k=n + d:=⟨k - n,by omega⟩
 exact up hm h d
theorem alive9_at:tollbarlaw09_alive.f 100=some true:=by kernel_rfl
theorem alive9_f (k:Nat) (hk:100 ≤ k):tollbarlaw09_alive.f k=some true:=up_to (fun k=>tollbarlaw09_alive.mono k) alive9_at hk
theorem and_mask (x : Int) (j : Nat) (hj : j ≤ 62) : Go.bits .and .i64 x (2 ^ j - 1) = x % 2 ^ j := by
  have hpos : 0 < 2 ^ j := Nat.two_pow_pos j
  have hlt : 2 ^ j ≤ 2 ^ 62 := Nat.pow_le_pow_right (by decide) hj
  have hc : ((2 : Int) ^ j - 1) = ((2 ^ j - 1 : Nat) : Int) := by rw [Int.natCast_sub hpos]; simp
  have hb : (2 ^ j - 1) % 2 ^ 64 = 2 ^ j - 1 := Nat.mod_eq_of_lt (by omega)
  have hd : ((2 : Int) ^ j) ∣ 2 ^ 64 := ⟨2 ^ (64 - j), by rw [← Int.pow_add]; congr 1; omega⟩
  have hk : (BitVec.ofInt 64 x &&& BitVec.ofInt 64 ((2 ^ j - 1 : Nat) : Int)).toNat = (x % ((2 ^ 64 : Nat) : Int)).toNat % 2 ^ j := by
    rw [BitVec.toNat_and, BitVec.ofInt_natCast, BitVec.toNat_ofNat, hb, Nat.and_two_pow_sub_one_eq_mod, BitVec.toNat_ofInt]
  have hg : bits .and .i64 x (2 ^ j - 1) = IntKind.i64.wrap (((BitVec.ofInt 64 x &&& BitVec.ofInt 64 ((2 ^ j - 1 : Nat) : Int)).toNat : Nat) : Int) := by rw [hc]; rfl
  have hx : (((x % ((2 ^ 64 : Nat) : Int)).toNat % 2 ^ j : Nat) : Int) = x % 2 ^ j := by
    rw [Int.natCast_emod, Int.toNat_of_nonneg (Int.emod_nonneg _ (by decide))]
    have := Int.emod_emod_of_dvd x hd
    simpa using this
  rw [hg, hk, hx, IntKind.wrap_i64]
  have h1 : 0 ≤ x % (2 : Int) ^ j := Int.emod_nonneg _ (by have : (0 : Int) < 2 ^ j := by exact_mod_cast hpos
                                                           omega)
  have h2 : x % (2 : Int) ^ j < 2 ^ j := Int.emod_lt_of_pos _ (by exact_mod_cast hpos)
  have h3 : (2 : Int) ^ j ≤ 2 ^ 62 := by exact_mod_cast hlt
  have h4 : (2 : Int) ^ 62 = 4611686018427387904 := by decide
  omega
theorem toList_data (s:ByteArray):s.toList=s.data.toList:=by
 simp [ByteArray.toList_eq]
def mkS (l:List UInt8):ByteArray:=⟨l.toArray⟩
theorem mkS_data (l:List UInt8):(mkS l).data.toList=l:=by simp [mkS]
theorem mkS_self (s:ByteArray):mkS s.data.toList=s:=by simp [mkS]
theorem mkS_size (l:List UInt8):(mkS l).size=l.length:=by rw [← data_length,mkS_data]
theorem Host_some (l:List UInt8) (hn:l.length ≤ 140737488355328) : ∃ u,line_Host.f (mkS l)=some (hostEnd (mkS u)):=by
 unfold line_Host.f
 rw [if_pos (by rw [mkS_size];exact hn)]
 exact ⟨(hostCut (strOfNums ((bytesOf (mkS l)).map foldC))).data.toList,by rw [mkS_self]⟩
/-- A test of each,and of any. -/
theorem anyO_eq {α:Type} (q:α → Option Bool) (p:α → Bool) : ∀ l:List α,(∀ x ∈ l,q x=some (p x)) → anyO q l=some (l.any p)
 | [],_=>rfl
 | x :: r,h=>by
  simp only [anyO,List.any_cons]
  rw [h x (List.mem_cons_self ..),Option.bind_some]
  cases hp:p x
  ·rw [if_neg (by simp)]
   simp only [Bool.false_or]
   exact anyO_eq q p r (fun y hy=>h y (List.mem_cons_of_mem _ hy))
  ·rw [if_pos rfl]
   rfl
def nameC (c:Int):Bool:=decide (97 ≤ c∧c ≤ 122) || (decide (48 ≤ c∧c ≤ 57) || decide (c=45))
def nameR (s:ByteArray):Nat → Nat → Bool
 | 0,_=>true
 | d + 1,i=>nameC (bt s i) && nameR s d (i + 1)
/-- Is a text a name? -/
def tblName (s:ByteArray):Bool:=decide (1 ≤ s.size∧s.size ≤ 30) && (decide (97 ≤ bt s 0∧bt s 0 ≤ 122) && nameR s s.size 0)
theorem name_step (k:Nat) (s:ByteArray) (i:Nat) (hi:i < s.size) (hs:s.size ≤ 140737488355328):table_Name.l0 (k + 1) s (s.size:Int) (i:Int)=if nameC (bt s i)=true then table_Name.l0 k s (s.size:Int) ((i + 1:Nat):Int) else some false:=by
 rw [table_Name.l0,if_pos (by omega),if_pos (by omega),if_pos (by omega)]
 have hw:wrap64 ((i:Int) + 1)=((i + 1:Nat):Int):=by unfold wrap64;omega
 rw [hw]
 obtain ⟨c,hc⟩ : ∃ c,bt s i=c:=⟨_,rfl⟩
 rw [hc]
 unfold nameC
 simp only [Bool.or_eq_true,decide_eq_true_eq]
 repeat' split
 all_goals first|rfl|(exfalso;omega)
theorem name_l0 (s:ByteArray) (hs:s.size ≤ 140737488355328) : ∀ (d k i:Nat),i + d=s.size → d < k → table_Name.l0 k s (s.size:Int) (i:Int)=some (nameR s d i)
 | d,0,_,_,h=>by omega
 | 0,k + 1,i,h,_=>by
  rw [table_Name.l0,if_neg (by omega)]
  rfl
 | d + 1,k + 1,i,h,hk=>by
  rw [name_step k s i (by omega) hs,name_l0 s hs d k (i + 1) (by omega) (by omega),nameR]
  cases nameC (bt s i) <;> rfl
theorem name_f (s:ByteArray) (hs:s.size ≤ 140737488355328) (k:Nat) (hk:40 ≤ k):table_Name.f k s=some (tblName s):=by
 obtain ⟨m,rfl⟩ : ∃ m,k=m + 1:=⟨k - 1,by omega⟩
 unfold table_Name.f tblName
 by_cases h0:s.toList=[]
 ·rw [if_pos h0]
  have hz:s.size=0:=by rw [← data_length,← toList_data,h0];rfl
  rw [table_Name.j0,if_pos rfl,hz]
  rfl
 ·rw [if_neg h0]
  have hz:1 ≤ s.size:=by
   rcases Nat.eq_zero_or_pos s.size with h|h
   ·exfalso
    apply h0
    rw [toList_data]
    exact List.length_eq_zero_iff.1 (by rw [data_length];exact h)
   ·exact h
  by_cases h1:(s.size:Int) > 30
  ·rw [if_pos h1,table_Name.j0,if_pos rfl,decide_eq_false (by omega)]
   rfl
  ·rw [if_neg h1,if_pos (by omega),decide_eq_true (show 1 ≤ s.size∧s.size ≤ 30 by omega),Bool.true_and]
   by_cases h2:bt s 0 < 97
   ·rw [if_pos h2,table_Name.j0,if_pos rfl,decide_eq_false (by omega)]
    rfl
   ·rw [if_neg h2,table_Name.j0]
    by_cases h3:bt s 0 > 122
    ·rw [decide_eq_true h3,if_pos rfl,decide_eq_false (by omega)]
     rfl
    ·rw [decide_eq_false h3,if_neg (by simp),decide_eq_true (show 97 ≤ bt s 0∧bt s 0 ≤ 122 by omega),Bool.true_and]
     exact name_l0 s hs s.size m 0 (by omega) (by omega)
/-- Is a text a host as it is told? -/
def hostB (h:ByteArray):Bool:=match line_Host.f h with
 | some p=>p.2 && (p.1.toList == h.toList)
 | none=>false
theorem right2_f (h:ByteArray) (hs:h.size ≤ 140737488355328):table_right_2.f h=some (!hostB h):=by
 obtain ⟨u,hu⟩:=Host_some h.data.toList (by rw [data_length];exact hs)
 rw [mkS_self] at hu
 unfold table_right_2.f hostB
 rw [hu,Option.bind_some]
 dsimp only
 cases (hostEnd (mkS u)).2
 ·rfl
 ·rw [if_pos rfl]
  rfl
def numB (a lo hi:Int):Bool:=decide (lo ≤ a∧a ≤ hi)
theorem right1_f (a lo hi:Int):table_right_1.f a lo hi=some (!numB a lo hi):=by
 unfold table_right_1.f numB
 by_cases h:a < lo
 ·rw [if_pos h,decide_eq_false (by omega)]
  rfl
 ·rw [if_neg h]
  by_cases h2:a > hi
  ·rw [decide_eq_true h2,decide_eq_false (by omega)]
   rfl
  ·rw [decide_eq_false h2,decide_eq_true (by omega)]
   rfl
def numsB (x:S26):Bool:=numB x.f2 256 1048576 && (numB x.f3 1 64 && (numB x.f4 1 64 && (numB x.f5 1 1048576 && (numB x.f6 1 1048576 && numB x.f7 1 1048576))))
/-- Is a slot right? -/
def slotB (x:S26):Bool:=tblName x.f0 && (numsB x && (x.f1.all hostB && decide (1 ≤ x.f1.length∧x.f1.length ≤ 8)))
theorem right_f (x:S26) (h0:x.f0.size ≤ 140737488355328) (h1 : ∀ h ∈ x.f1,h.size ≤ 140737488355328) (k:Nat) (hk:40 ≤ k):table_right.f k x.f0 x.f1 x.f2 x.f3 x.f4 x.f5 x.f6 x.f7=some (slotB x):=by
 unfold table_right.f table_bounds.f
 rw [Option.bind_some,anyO_eq _ (fun (b:S53) => !numB b.f0 b.f1 b.f2) _ (fun b _=>right1_f _ _ _),Option.bind_some,anyO_eq _ (fun h => !hostB h) _ (fun h hh=>right2_f h (h1 h hh)),Option.bind_some,name_f _ h0 k hk,Option.bind_some]
 have e1:([(⟨x.f2,256,1048576⟩:S53),⟨x.f3,1,64⟩,⟨x.f4,1,64⟩,⟨x.f5,1,1048576⟩,⟨x.f6,1,1048576⟩,⟨x.f7,1,1048576⟩].any fun b => !numB b.f0 b.f1 b.f2) = !numsB x:=by
  unfold numsB
  simp only [List.any_cons,List.any_nil,Bool.or_false,Bool.not_and]
 have e2:(x.f1.any fun h => !hostB h) = !(x.f1.all hostB):=by
  rw [List.all_eq_not_any_not,Bool.not_not]
 rw [e1,e2]
 unfold slotB
 cases tblName x.f0
 ·rfl
 ·cases numsB x
  ·rfl
  ·cases x.f1.all hostB
   ·rfl
   ·simp only [Bool.not_true,Bool.true_and,if_true,Bool.false_eq_true,if_false]
    by_cases hl:1 ≤ x.f1.length
    ·rw [if_pos hl]
     congr 1
     rw [decide_eq_decide]
     omega
    ·rw [if_neg hl,decide_eq_false (by omega)]
theorem hasB_in (S:List ByteArray) (s:ByteArray):hasB S s=true ↔ s ∈ S:=by
 unfold hasB
 rw [List.any_eq_true]
 constructor
 ·rintro ⟨t,ht,he⟩
  have he:=beq_iff_eq.1 he
  rw [toList_data,toList_data] at he
  rw [← mkS_self s,← he,mkS_self]
  exact ht
 ·intro h
  exact ⟨s,h,beq_self_eq_true _⟩
theorem unlike_iff : ∀ (l S:List ByteArray),unlikeB S l=true ↔ l.Nodup ∧ ∀ x ∈ l,x ∉ S
 | [],S=>by simp [unlikeB]
 | x :: r,S=>by
  rw [unlikeB]
  by_cases h:hasB S x=true
  ·rw [if_pos h]
   constructor
   ·intro h2
    cases h2
   ·intro h2
    exact absurd ((hasB_in S x).1 h) (h2.2 x (List.mem_cons_self ..))
  ·rw [if_neg h,unlike_iff r (S ++ [x]),List.nodup_cons]
   have h3:x ∉ S:=fun h4=>h ((hasB_in S x).2 h4)
   constructor
   ·rintro ⟨h1,h2⟩
    refine ⟨⟨fun h4=>?_,h1⟩,fun y hy=>?_⟩
    ·exact h2 x h4 (by simp)
    ·rcases List.mem_cons.1 hy with rfl|hy
     ·exact h3
     ·intro h4
      exact h2 y hy (by simp [h4])
   ·rintro ⟨⟨h1,h2⟩,h5⟩
    refine ⟨h2,fun y hy h4=>?_⟩
    rcases List.mem_append.1 h4 with h4|h4
    ·exact h5 y (List.mem_cons_of_mem _ hy) h4
    ·rw [List.mem_singleton] at h4
     rw [h4] at hy
     exact h1 hy
/-- Is a table right? -/
def rightT (t:List (S26)):Bool:=decide (1 ≤ t.length∧t.length ≤ 16) && (t.all slotB && (unlikeB [] (t.map (·.f0)) && unlikeB [] (t.flatMap (·.f1))))
def FitT (t:List (S26)):Prop := ∀ x ∈ t,x.f0.size ≤ 140737488355328 ∧ ∀ h ∈ x.f1,h.size ≤ 140737488355328
theorem slot_hosts {x:S26} (h:slotB x=true):x.f1.length ≤ 8∧1 ≤ x.f1.length:=by
 unfold slotB at h
 simp only [Bool.and_eq_true,decide_eq_true_iff] at h
 exact ⟨h.2.2.2.2,h.2.2.2.1⟩
theorem rd_slot (t:List (S26)) (i:Nat) (h:i < t.length):rd_T26 t (i:Int)=t[i]:=by
 unfold rd_T26
 rw [Int.toNat_natCast,List.getD_eq_getElem?_getD,List.getElem?_eq_getElem h]
 rfl
theorem Right_l0 (t:List (S26)) (hf:FitT t) (hl:t.length ≤ 16) : ∀ (d k i:Nat) (ns hs:List ByteArray),i + d=t.length → d + 42 ≤ k → ns.length ≤ i → hs.length ≤ 8 * i → (∀ s ∈ ns,s.size ≤ 140737488355328) → (∀ s ∈ hs,s.size ≤ 140737488355328) →
 table_Right.l0 k ns hs t (t.length:Int) (i:Int)=some ((t.drop i).all slotB && (unlikeB [] (ns ++ (t.drop i).map (·.f0)) && unlikeB [] (hs ++ (t.drop i).flatMap (·.f1))))
 | d,0,_,_,_,_,h,_,_,_,_=>by omega
 | 0,k + 1,i,ns,hs,h,hk,h1,h2,h3,h4=>by
  have hu : ∀ l:List ByteArray,l.length ≤ 1000 → (∀ s ∈ l,s.size ≤ 140737488355328) → table_unlike_string.f l=some (unlikeB [] l):=fun l hl hs=>by unfold table_unlike_string.f;rw [if_pos ⟨by omega,hs⟩]
  rw [table_Right.l0,if_neg (by omega),hu ns (by omega) h3,Option.bind_some,hu hs (by omega) h4,Option.bind_some,List.drop_of_length_le (by omega)]
  simp only [List.all_nil,List.map_nil,List.flatMap_nil,List.append_nil,Bool.true_and]
  cases unlikeB [] ns <;> rfl
 | d + 1,k + 1,i,ns,hs,h,hk,h1,h2,h3,h4=>by
  have hi:i < t.length:=by omega
  have hm:t[i] ∈ t:=List.getElem_mem hi
  have hw:wrap64 ((i:Int) + 1)=((i + 1:Nat):Int):=by unfold wrap64;omega
  rw [table_Right.l0,if_pos (by omega),if_pos (by omega),if_pos (by omega),rd_slot t i hi,right_f t[i] (hf _ hm).1 (hf _ hm).2 k (by omega),Option.bind_some,List.drop_eq_getElem_cons hi,List.all_cons,List.map_cons,List.flatMap_cons]
  cases hb:slotB t[i]
  ·rfl
  ·have hh:=slot_hosts hb
   rw [if_pos rfl,if_pos (by omega),if_pos (by omega),hw,Right_l0 t hf hl d k (i + 1) _ _ (by omega) (by omega) (by simp only [List.length_append,List.length_cons,List.length_nil];omega) (by rw [List.length_append];omega) (fun s hs_=>by
    rcases List.mem_append.1 hs_ with h5|h5
    ·exact h3 s h5
    ·rw [List.mem_singleton.1 h5];exact (hf _ hm).1) (fun s hs_=>by
    rcases List.mem_append.1 hs_ with h5|h5
    ·exact h4 s h5
    ·exact (hf _ hm).2 s h5),Bool.true_and,List.append_assoc,List.append_assoc,List.singleton_append]
theorem Right_f (t:List (S26)) (hf:FitT t) (k:Nat) (hk:60 ≤ k):table_Right.f k t=some (rightT t):=by
 obtain ⟨m,rfl⟩ : ∃ m,k=m + 1:=⟨k - 1,by omega⟩
 unfold table_Right.f rightT
 by_cases h1:(t.length:Int) < 1
 ·rw [if_pos h1,table_Right.j0,if_pos rfl,decide_eq_false (by omega)]
  rfl
 ·rw [if_neg h1,table_Right.j0]
  by_cases h2:(t.length:Int) > 16
  ·rw [decide_eq_true h2,if_pos rfl,decide_eq_false (by omega)]
   rfl
  ·rw [decide_eq_false h2,if_neg (by simp),decide_eq_true (show 1 ≤ t.length∧t.length ≤ 16 by omega),Bool.true_and]
   exact Right_l0 t hf (by omega) t.length m 0 [] [] (by omega) (by omega) (by simp) (by simp) (by simp) (by simp)
theorem hasB_cons (y:ByteArray) (S:List ByteArray) (s:ByteArray):hasB (y :: S) s=(y.toList == s.toList || hasB S s):=rfl
theorem rdOf_at (l:List ByteArray) (i:Nat) (h:i < l.length):rdOf ByteArray.empty l (i:Int)=l[i]:=by simp [rdOf,List.getD_eq_getElem?_getD,List.getElem?_eq_getElem h]
def idxB {α:Type} (p:α → Bool):List α → Int → Int
 | [],_ => -1
 | x :: r,i=>if p x=true then i else idxB p r (i + 1)
theorem idxO_eq {α:Type} (q:α → Option Bool) (p:α → Bool) : ∀ (l:List α) (i:Int),(∀ x ∈ l,q x=some (p x)) → idxO q l i=some (idxB p l i)
 | [],_,_=>rfl
 | x :: r,i,h=>by
  rw [idxO,idxB,h x (List.mem_cons_self ..),Option.bind_some]
  by_cases hp:p x=true
  ·rw [if_pos hp,if_pos hp]
  ·rw [if_neg hp,if_neg hp]
   exact idxO_eq q p r (i + 1) (fun y hy=>h y (List.mem_cons_of_mem _ hy))
theorem index_l0 (l:List ByteArray) (hl:l.length ≤ 140737488355328) (a:ByteArray) (d:Nat) : ∀ (k i:Nat),i + d=l.length → d + 1 ≤ k → ∃ j,slices_Index_string_string.l0 k l a (l.length:Int) (i:Int)=some j∧decide (j ≥ 0)=hasB (l.drop i) a:=by
 induction d with
 | zero =>
  intro k i h hk
  obtain ⟨k,rfl⟩ : ∃ m,k=m + 1:=⟨k - 1,by omega⟩
  refine ⟨-1,?_,?_⟩
  ·rw [slices_Index_string_string.l0,if_neg (by omega)]
  ·rw [List.drop_of_length_le (by omega)]
   rfl
 | succ d ih =>
  intro k i h hk
  obtain ⟨k,rfl⟩ : ∃ m,k=m + 1:=⟨k - 1,by omega⟩
  have hi:i < l.length:=by omega
  have hw:wrap64 ((i:Int) + 1)=((i + 1:Nat):Int):=by unfold wrap64;omega
  obtain ⟨j,h1,h2⟩:=ih k (i + 1) (by omega) (by omega)
  rw [slices_Index_string_string.l0,if_pos (by omega),if_pos (by omega),if_pos (by omega),rdOf_at l i hi,hw,h1,List.drop_eq_getElem_cons hi,hasB_cons]
  by_cases e:a.toList=l[i].toList
  ·exact ⟨i,by rw [if_pos e],by rw [beq_iff_eq.2 e.symm,decide_eq_true (by omega)];rfl⟩
  ·exact ⟨j,by rw [if_neg e],by rw [h2,beq_eq_false_iff_ne.2 (fun x=>e x.symm),Bool.false_or]⟩
theorem Contains_f (l:List ByteArray) (hl:l.length ≤ 140737488355328) (a:ByteArray) (k:Nat) (hk:l.length + 1 ≤ k):slices_Contains_string_string.f k l a=some (hasB l a):=by
 obtain ⟨j,h1,h2⟩:=index_l0 l hl a l.length k 0 (by omega) hk
 unfold slices_Contains_string_string.f slices_Index_string_string.f
 rw [show (0:Int)=((0:Nat):Int) from rfl,h1,Option.bind_some]
 rw [List.drop_zero] at h2
 exact congrArg some h2
theorem Find_f (t:List (S26)) (a:ByteArray) (k:Nat) (hk : ∀ x ∈ t,x.f1.length + 1 ≤ k∧x.f1.length ≤ 140737488355328):table_Find.f k t a=some (idxB (fun x=>hasB x.f1 a) t 0):=by
 unfold table_Find.f
 exact idxO_eq _ _ t 0 (fun x hx=>Contains_f x.f1 (hk x hx).2 a k (hk x hx).1)
theorem Named_f (t:List (S26)) (a:ByteArray):table_Named.f t a=some (idxB (fun x=>x.f0.toList == a.toList) t 0):=by
 unfold table_Named.f
 exact idxO_eq _ _ t 0 (fun x hx=>rfl)
theorem right_iff (t:List (S26)):rightT t=true ↔ (1 ≤ t.length∧t.length ≤ 16)∧t.all slotB=true∧(t.map (·.f0)).Nodup∧(t.flatMap (·.f1)).Nodup:=by
 unfold rightT
 simp only [Bool.and_eq_true,decide_eq_true_iff,unlike_iff,List.not_mem_nil,not_false_iff,implies_true,and_true]
theorem bytes_eq {a b:ByteArray} (h:a.toList=b.toList):a=b:=by
 rw [toList_data,toList_data] at h
 rw [← mkS_self a,h,mkS_self]
theorem idx_at {α:Type} (p:α → Bool) : ∀ (l:List α) (n:Nat) (i:Int) (h:n < l.length),(∀ x ∈ l.take n,p x=false) → p l[n]=true → idxB p l i=i + n
 | [],n,_,h,_,_=>by simp at h
 | x :: r,0,i,_,_,h=>by
  rw [idxB,if_pos (show p x=true from h)]
  omega
 | x :: r,n + 1,i,hl,h1,h2=>by
  rw [idxB,if_neg (by rw [h1 x (by rw [List.take_succ_cons];exact List.mem_cons_self ..)];simp),idx_at p r n (i + 1) (by simpa using hl) (fun y hy=>h1 y (by rw [List.take_succ_cons];exact List.mem_cons_of_mem _ hy)) (by simpa using h2)]
  omega
/-- In a right table no other slot has a slot's name,or one of its hosts. -/
theorem other_parts {A C:List (S26)} {x:S26} (h:rightT (A ++ x :: C)=true):(∀ y ∈ A ++ C,y.f0 ≠ x.f0) ∧ ∀ y ∈ A ++ C,∀ a ∈ x.f1,a ∉ y.f1:=by
 rw [right_iff] at h
 obtain ⟨_,_,h3,h4⟩:=h
 rw [List.map_append,List.map_cons,List.nodup_append,List.nodup_cons] at h3
 rw [List.flatMap_append,List.flatMap_cons,List.nodup_append,List.nodup_append] at h4
 obtain ⟨a1,⟨a2,a3⟩,a4⟩:=h3
 obtain ⟨b1,⟨b2,b3,b4⟩,b5⟩:=h4
 refine ⟨fun y hy e=>?_,fun y hy a ha hm=>?_⟩
 ·rcases List.mem_append.1 hy with hy|hy
  ·exact a4 y.f0 (List.mem_map.2 ⟨y,hy,rfl⟩) x.f0 (List.mem_cons_self ..) e
  ·exact a2 (List.mem_map.2 ⟨y,hy,e⟩)
 ·rcases List.mem_append.1 hy with hy|hy
  ·exact b5 a (List.mem_flatMap.2 ⟨y,hy,hm⟩) a (List.mem_append_left _ ha) rfl
  ·exact b4 a ha a (List.mem_flatMap.2 ⟨y,hy,hm⟩) rfl
theorem right_all {t:List (S26)} (h:rightT t=true):1 ≤ t.length∧t.length ≤ 16∧t.all slotB=true:=by
 unfold rightT at h
 simp only [Bool.and_eq_true,decide_eq_true_iff] at h
 exact ⟨h.1.1,h.1.2,h.2.1⟩
theorem hosts_named (t:List (S26)) (hr:rightT t=true) (n:Nat) (hn:n < t.length):table_Named.f t t[n].f0=some (n:Int):=by
 have e:t=t.take n ++ t[n] :: t.drop (n + 1):=by rw [← List.drop_eq_getElem_cons hn,List.take_append_drop]
 have hr2:=hr
 rw [e] at hr2
 obtain ⟨o1,o2⟩:=other_parts hr2
 rw [Named_f,idx_at _ t n 0 hn (fun x hx=>beq_eq_false_iff_ne.2 fun e=>o1 x (List.mem_append_left _ hx) (bytes_eq e)) (beq_self_eq_true _),Int.zero_add]
theorem hosts_find (t:List (S26)) (hr:rightT t=true) (n:Nat) (hn:n < t.length) (a:ByteArray) (ha:a ∈ t[n].f1) (k:Nat) (hk:100 ≤ k):table_Find.f k t a=some (n:Int):=by
 have e:t=t.take n ++ t[n] :: t.drop (n + 1):=by rw [← List.drop_eq_getElem_cons hn,List.take_append_drop]
 have hr2:=hr
 rw [e] at hr2
 obtain ⟨o1,o2⟩:=other_parts hr2
 obtain ⟨_,_,h3⟩:=right_all hr
 rw [Find_f t a k (fun x hx=>by have:=slot_hosts (List.all_eq_true.1 h3 x hx);omega),idx_at _ t n 0 hn (fun x hx=>by
  rw [Bool.eq_false_iff]
  intro hc
  exact o2 x (List.mem_append_left _ hx) a ha ((hasB_in _ _).1 hc)) ((hasB_in _ _).2 ha),Int.zero_add]
theorem set_parts (t:List (S26)) (i:Nat) (hi:i < t.length) (y:S26):t.set i y=t.take i ++ y :: t.drop (i + 1):=by
 rw [List.set_eq_take_append_cons_drop,if_pos hi]
theorem hosts_twice (t : List (S26)) (i c : Nat) (hi : i < t.length) (hc : c < t.length) (h : ByteArray) (hh : h ∈ t[c].f1) : rightT (t.set i (thX t[i] (t[i].f1 ++ [h]))) = false := by
  rw [Bool.eq_false_iff]
  intro hr
  rw [set_parts t i hi, right_iff] at hr
  obtain ⟨_, _, _, h4⟩ := hr
  rw [List.flatMap_append, List.flatMap_cons, List.nodup_append, List.nodup_append] at h4
  obtain ⟨b1, ⟨b2, b3, b4⟩, b5⟩ := h4
  have hx : h ∈ (thX t[i] (t[i].f1 ++ [h])).f1 := by
    show h ∈ t[i].f1 ++ [h]
    simp
  rcases Nat.lt_trichotomy c i with hlt | heq | hgt
  · have hm : t[c] ∈ t.take i := by
      have : c < (t.take i).length := by rw [List.length_take]; omega
      have e : (t.take i)[c] = t[c] := List.getElem_take
      rw [← e]
      exact List.getElem_mem this
    exact b5 h (List.mem_flatMap.2 ⟨_, hm, hh⟩) h (List.mem_append_left _ hx) rfl
  · subst heq
    have hd : (t[c].f1 ++ [h]).Nodup := b2
    rw [List.nodup_append] at hd
    exact hd.2.2 h hh h (by simp) rfl
  · have hm : t[c] ∈ t.drop (i + 1) := by
      have : c - (i + 1) < (t.drop (i + 1)).length := by rw [List.length_drop]; omega
      have e : (t.drop (i + 1))[c - (i + 1)] = t[c] := by rw [List.getElem_drop]; congr 1; omega
      rw [← e]
      exact List.getElem_mem this
    exact b4 h hx h (List.mem_flatMap.2 ⟨_, hm, hh⟩) rfl
theorem hosts_same (t : List (S26)) (hr : rightT t = true) (i c : Nat) (hi : i < t.length) (hc : c < t.length) : rightT (t.set i (thY t[i] t[c].f0)) = ((i : Int) == (c : Int)) := by
  by_cases e : i = c
  · subst e
    rw [show thY t[i] t[i].f0 = t[i] from rfl, List.set_getElem_self, hr, beq_self_eq_true]
  · rw [beq_eq_false_iff_ne.2 (fun h => e (by omega)), Bool.eq_false_iff]
    intro hr2
    rw [set_parts t i hi, right_iff] at hr2
    obtain ⟨_, _, h3, _⟩ := hr2
    rw [List.map_append, List.map_cons, List.nodup_append, List.nodup_cons] at h3
    obtain ⟨a1, ⟨a2, a3⟩, a4⟩ := h3
    rcases Nat.lt_or_ge c i with hlt | hge
    · have hm : t[c] ∈ t.take i := by
        have : c < (t.take i).length := by rw [List.length_take]; omega
        have e : (t.take i)[c] = t[c] := List.getElem_take
        rw [← e]
        exact List.getElem_mem this
      exact a4 t[c].f0 (List.mem_map.2 ⟨_, hm, rfl⟩) t[c].f0 (List.mem_cons_self ..) rfl
    · have hm : t[c] ∈ t.drop (i + 1) := by
        have : c - (i + 1) < (t.drop (i + 1)).length := by rw [List.length_drop]; omega
        have e : (t.drop (i + 1))[c - (i + 1)] = t[c] := by rw [List.getElem_drop]; congr 1; omega
        rw [← e]
        exact List.getElem_mem this
      exact a2 (List.mem_map.2 ⟨_, hm, rfl⟩)
theorem fit_set {t:List (S26)} (hf:FitT t) (i:Nat) (y:S26) (h0:y.f0.size ≤ 140737488355328) (h1 : ∀ h ∈ y.f1,h.size ≤ 140737488355328):FitT (t.set i y):=fun x hx=>by
 rcases List.mem_or_eq_of_mem_set hx with hx|hx
 ·exact hf x hx
 ·rw [hx]
  exact ⟨h0,h1⟩
theorem hosts_thD (t : List (S26)) (hf : FitT t) (hr : rightT t = true) (i c : Nat) (hi : i < t.length) (hc : c < t.length) (k : Nat) (hk : 100 ≤ k) : thD k t (i : Int) (c : Int) = true := by
  obtain ⟨h1, h2, h3⟩ := right_all hr
  have hI := slot_hosts (List.all_eq_true.1 h3 _ (List.getElem_mem hi))
  have hC := slot_hosts (List.all_eq_true.1 h3 _ (List.getElem_mem hc))
  have fi := hf _ (List.getElem_mem hi)
  have fc := hf _ (List.getElem_mem hc)
  have h0 : rdOf ByteArray.empty t[c].f1 0 = t[c].f1[0]'(by omega) := rdOf_at _ 0 (by omega)
  have hm : t[c].f1[0]'(by omega) ∈ t[c].f1 := List.getElem_mem _
  unfold thD
  rw [rd_slot t i hi, rd_slot t c hc, h0, Int.toNat_natCast]
  simp only [Bool.and_eq_true, decide_eq_true_iff]
  refine ⟨⟨by omega, by omega, by omega, by omega, by omega, by omega, by omega⟩, List.all_eq_true.2 fun n hn => ?_, ?_, ?_, ?_⟩
  · have hn := List.mem_range.1 hn
    rw [rd_slot t n hn, Bool.and_eq_true]
    exact ⟨decide_eq_true (hosts_named t hr n hn), List.all_eq_true.2 fun a ha => decide_eq_true (hosts_find t hr n hn a ha k hk)⟩
  · rw [Right_f _ (fit_set hf i (thX t[i] (t[i].f1 ++ [t[c].f1[0]'(by omega)])) fi.1 (fun h hh => by
      rcases List.mem_append.1 (show h ∈ t[i].f1 ++ [t[c].f1[0]'(by omega)] from hh) with hh | hh
      · exact fi.2 h hh
      · rw [List.mem_singleton.1 hh]
        exact fc.2 _ hm)) k (by omega), hosts_twice t i c hi hc _ hm]
  · rw [Right_f _ (fit_set hf i (thY t[i] t[c].f0) fc.1 fi.2) k (by omega), hosts_same t hr i c hi hc]
  · rw [Right_f [] (fun x hx => by cases hx) k (by omega)]
    rfl
theorem TableHosts (t:List (S26)) (a1 a2:Int)
 (ht:t.length ≤ 140737488351232∧t.length ≤ maxLen ∧ ∀ x ∈ t,(x.f0.size ≤ 140737488351232∧x.f0.size ≤ maxLen)∧((x.f1.length ≤ 140737488351232∧x.f1.length ≤ maxLen ∧ ∀ y ∈ x.f1,y.size ≤ 140737488351232∧y.size ≤ maxLen)∧((Lit.int .i64 x.f2).wf=true∧((Lit.int .i64 x.f3).wf=true∧((Lit.int .i64 x.f4).wf=true∧((Lit.int .i64 x.f5).wf=true∧((Lit.int .i64 x.f6).wf=true∧(Lit.int .i64 x.f7).wf=true)))))))
 (_:(Lit.int .i64 a1).wf=true) (_:(Lit.int .i64 a2).wf=true) : ∃ k,tollbarlaw09_TableHosts.f k t a1 a2=some true:=by
 refine ⟨200,?_⟩
 have hf:FitT t:=fun x hx=>⟨Nat.le_trans (ht.2.2 x hx).1.1 (by decide),fun y hy=>Nat.le_trans ((ht.2.2 x hx).2.1.2.2 y hy).1 (by decide)⟩
 unfold tollbarlaw09_TableHosts.f
 rw [alive9_f _ (by omega),Option.bind_some,if_pos rfl,Right_f t hf 200 (by omega),Option.bind_some]
 by_cases hr:rightT t=true
 rotate_left
 ·rw [if_neg hr]
 rw [if_pos hr]
 have hl:=(right_all hr).1
 have m1:Go.bits .and .i64 a1 1023=a1 % 1024:=and_mask a1 10 (by decide)
 have m2:Go.bits .and .i64 a2 1023=a2 % 1024:=and_mask a2 10 (by decide)
 obtain ⟨v1,hv1⟩ : ∃ v:Nat,a1 % 1024=v:=⟨(a1 % 1024).toNat,by omega⟩
 obtain ⟨v2,hv2⟩ : ∃ v:Nat,a2 % 1024=v:=⟨(a2 % 1024).toNat,by omega⟩
 have t1:Int.tmod (v1:Int) (t.length:Int)=((v1 % t.length:Nat):Int):=(Int.ofNat_tmod v1 t.length).symm
 have t2:Int.tmod (v2:Int) (t.length:Int)=((v2 % t.length:Nat):Int):=(Int.ofNat_tmod v2 t.length).symm
 rw [m1,m2,hv1,hv2,t1,t2,hosts_thD t hf hr _ _ (Nat.mod_lt _ (by omega)) (Nat.mod_lt _ (by omega)) 200 (by omega),if_pos rfl]
end Go.Proofs.YtclpanalnbmejaaDoor.Pure
