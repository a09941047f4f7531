/- Each function below answers as its Lean twin says; plain lemmas; a row where its theorem stands. No further condition. (Laid by this repo's pack.py out of its texts and of the print's words.) -/
import Derived.Test.YtclpanalnbmejaaDoorZ6b04bf30
import Derived.Test.YtclpanalnbmejaaDoorZ957746e2
import Derived.Test.YtclpanalnbmejaaDoorZ4393a821
import Derived.Lib.IndexBytes
import Derived.Lib.Strings
import Derived.Lib.SlTrimSet
import Derived.Lib.LastIndexByte
namespace Go.Proofs.YtclpanalnbmejaaDoor.P
open Go.RowKit Go.Proofs.YtclpanalnbmejaaDoorW.PrintWords Go.Proofs.YtclpanalnbmejaaDoorW.PrintLast Go.Proofs.YtclpanalnbmejaaDoorW.PrintMore
attribute [local go_sem] max2_int min2_int max_two min_two max_three min_three max_four min_four
set_option linter.unusedVariables false
set_option linter.unusedSimpArgs false
def tollbarlaw09_alive.f (k:Nat)  : Option (Bool):=(table_Read.f k (⟨#[115,108,111,116,32,97,32,49,48,48,48,32,50,32,50,32,53,32,53,32,54,52,32,97,46,101,120,97,109,112,108,101,32,98,10]⟩:ByteArray)).bind fun bt192=>((table_Write.f k bt192.1).bind fun bt196=>((table_Read.f k (⟨#[115,108,111,116,32,97,10]⟩:ByteArray)).bind fun bt198=>(if bt192.2=0 then (if (bt192.1.length:Int)=1 then (if 0 < (bt192.1.length:Int) then (if ((rd_T26 bt192.1 0).f7)=64 then (if (((rd_T26 bt192.1 0).f1).length:Int)=2 then (if bt196.2=0 then (if bt196.1.toList=([115,108,111,116,32,97,32,49,48,48,48,32,50,32,50,32,53,32,53,32,54,52,32,97,46,101,120,97,109,112,108,101,32,98,10]:List UInt8) then (if bt198.2=20 then ((table_Right.f k bt192.1).bind fun t204=>(if t204=true then ((table_Right.f k ([]:List (S26))).bind fun t205=>(if t205=true then (some false) else ((table_Find.f k bt192.1 (⟨#[98]⟩:ByteArray)).bind fun t206=>(if t206=0 then ((table_Find.f k bt192.1 (⟨#[99]⟩:ByteArray)).bind fun t207=>(if t207=(-1) then ((table_Named.f bt192.1 (⟨#[97]⟩:ByteArray)).bind fun t208=>(if t208=0 then ((table_Name.f k (⟨#[97,45,49]⟩:ByteArray)).bind fun t209=>(if t209=true then ((table_Name.f k (⟨#[49,97]⟩:ByteArray)).bind fun t210=>(some (!t210))) else (some false))) else (some false))) else (some false))) else (some false))))) else (some false))) else (some false)) else (some false)) else (some false)) else (some false)) else (some false)) else (none)) else (some false)) else (some false))))
theorem tollbarlaw09_alive.mono : ∀ k,LeO (tollbarlaw09_alive.f k ) (tollbarlaw09_alive.f (k + 1) ):=by
 intro  k
 unfold tollbarlaw09_alive.f
 repeat' first
  | (with_reducible exact table_Find.mono _ _ _)
  | (with_reducible exact table_Name.mono _ _)
  | (with_reducible exact table_Read.mono _ _)
  | (with_reducible exact table_Right.mono _ _)
  | (with_reducible exact table_Write.mono _ _)
  | (with_reducible exact LeO.refl _)
  | (with_reducible exact LeO.none _)
  | (with_reducible refine LeO.ite ?_ ?_)
  | (with_reducible refine LeO.bind ?_ (fun _=>?_))
  | exact table_Find.mono _ _ _
  | exact table_Name.mono _ _
  | exact table_Read.mono _ _
  | exact table_Right.mono _ _
  | exact table_Write.mono _ _
  | exact LeO.none _
  | refine LeO.ite ?_ ?_
  | refine LeO.bind ?_ (fun _=>?_)
set_option maxHeartbeats 8000000 in
set_option maxRecDepth 100000 in
theorem tollbarlaw09_alive.calls (k:Nat)  (r:Bool) (w:World) (h:tollbarlaw09_alive.f k  = some r) (hr:r=true) (ht:Tabs w) :
 Calls Tryd.prog 8 #[] w fun e w' => e = .returned (.bool r)∧Below w.heap.size w w' := by
 have HTB:=Aside0.mk ht
 clear ht
 have HRT:=Aside0.mk hr
 clear hr
 have HB:=Aside0.mk (Below.refl w.heap.size w)
 unfold tollbarlaw09_alive.f at h
 have H:=h
 clear h
 replace H:=Option.bind_eq_some_iff.mp H
 obtain ⟨⟨t19,t49⟩,A10,H⟩:=H
 try dsimp only at H
 have A1:=Aside0.mk A10
 clear A10
 replace H:=Option.bind_eq_some_iff.mp H
 obtain ⟨⟨t46,t50⟩,A20,H⟩:=H
 try dsimp only at H
 have A2:=Aside0.mk A20
 clear A20
 replace H:=Option.bind_eq_some_iff.mp H
 obtain ⟨⟨t51,t52⟩,A30,H⟩:=H
 try dsimp only at H
 have A3:=Aside0.mk A30
 clear A30
 by_cases c4:t49=0;rotate_left
 ·rw [if_neg c4] at H
  have c4b0:=beq_eq_false_iff_ne.mpr c4
  have c4b1:=bne_iff_ne.mpr c4
  exact absurd ((Option.some.inj H).trans HRT.out) zb40
 rw [if_pos c4] at H
 have c4b0:=beq_iff_eq.mpr c4
 have c4b1:=bne_eq_false_iff_eq.mpr c4
 clear c4
 by_cases c5:(t19.length:Int)=1
 ·rw [if_pos c5] at H
  have c5b0:=beq_iff_eq.mpr c5
  have c5b1:=bne_eq_false_iff_eq.mpr c5
  clear c5
  by_cases c6:0 < (t19.length:Int);rotate_left
  ·rw [if_neg c6] at H
   exact absurd H zb26
  rw [if_pos c6] at H
  have c6b0:=decide_eq_true c6
  have c6b1:decide (0 < t19.length)=true:=decide_eq_true zb11
  clear c6
  by_cases c7:((rd_T26 t19 0).f7)=64;rotate_left
  ·rw [if_neg c7] at H
   have c7b0:=beq_eq_false_iff_ne.mpr c7
   have c7b1:=bne_iff_ne.mpr c7
   exact absurd ((Option.some.inj H).trans HRT.out) zb40
  rw [if_pos c7] at H
  have c7b0:=beq_iff_eq.mpr c7
  have c7b1:=bne_eq_false_iff_eq.mpr c7
  clear c7
  by_cases c8:(((rd_T26 t19 0).f1).length:Int)=2
  ·rw [if_pos c8] at H
   have c8b0:=beq_iff_eq.mpr c8
   have c8b1:=bne_eq_false_iff_eq.mpr c8
   clear c8
   by_cases c9:t50=0;rotate_left
   ·rw [if_neg c9] at H
    have c9b0:=beq_eq_false_iff_ne.mpr c9
    have c9b1:=bne_iff_ne.mpr c9
    exact absurd ((Option.some.inj H).trans HRT.out) zb40
   rw [if_pos c9] at H
   have c9b0:=beq_iff_eq.mpr c9
   have c9b1:=bne_eq_false_iff_eq.mpr c9
   clear c9
   by_cases c10:t46.toList=([115,108,111,116,32,97,32,49,48,48,48,32,50,32,50,32,53,32,53,32,54,52,32,97,46,101,120,97,109,112,108,101,32,98,10]:List UInt8)
   ·rw [if_pos c10] at H
    have c10b0:=beq_iff_eq.mpr c10
    have c10b1:=bne_eq_false_iff_eq.mpr c10
    clear c10
    by_cases c11:t52=20;rotate_left
    ·rw [if_neg c11] at H
     have c11b0:=beq_eq_false_iff_ne.mpr c11
     have c11b1:=bne_iff_ne.mpr c11
     exact absurd ((Option.some.inj H).trans HRT.out) zb40
    rw [if_pos c11] at H
    have c11b0:=beq_iff_eq.mpr c11
    have c11b1:=bne_eq_false_iff_eq.mpr c11
    clear c11
    replace H:=Option.bind_eq_some_iff.mp H
    obtain ⟨t48,A53,H⟩:=H
    try dsimp only at H
    have A12:=Aside0.mk A53
    clear A53
    by_cases c13:t48=true
    ·subst c13
     rw [if_pos rfl] at H
     replace H:=Option.bind_eq_some_iff.mp H
     obtain ⟨t47,A54,H⟩:=H
     try dsimp only at H
     have A14:=Aside0.mk A54
     clear A54
     by_cases c15:t47=true
     ·subst c15
      rw [if_pos rfl] at H
      exact absurd ((Option.some.inj H).trans HRT.out) zb40
     replace c15:=Bool.eq_false_iff.mpr c15
     subst c15
     rw [if_neg (show ¬ (false=true) by decide)] at H
     replace H:=Option.bind_eq_some_iff.mp H
     obtain ⟨t44,A55,H⟩:=H
     try dsimp only at H
     have A22:=Aside0.mk A55
     clear A55
     by_cases c23:t44=0;rotate_left
     ·rw [if_neg c23] at H
      have c23b0:=beq_eq_false_iff_ne.mpr c23
      have c23b1:=bne_iff_ne.mpr c23
      exact absurd ((Option.some.inj H).trans HRT.out) zb40
     rw [if_pos c23] at H
     have c23b0:=beq_iff_eq.mpr c23
     have c23b1:=bne_eq_false_iff_eq.mpr c23
     clear c23
     replace H:=Option.bind_eq_some_iff.mp H
     obtain ⟨t42,A56,H⟩:=H
     try dsimp only at H
     have A24:=Aside0.mk A56
     clear A56
     by_cases c25:t42=(-1)
     ·rw [if_pos c25] at H
      have c25b0:=beq_iff_eq.mpr c25
      have c25b1:=bne_eq_false_iff_eq.mpr c25
      clear c25
      replace H:=Option.bind_eq_some_iff.mp H
      obtain ⟨t41,A57,H⟩:=H
      try dsimp only at H
      have A26:=Aside0.mk A57
      clear A57
      by_cases c27:t41=0;rotate_left
      ·rw [if_neg c27] at H
       have c27b0:=beq_eq_false_iff_ne.mpr c27
       have c27b1:=bne_iff_ne.mpr c27
       exact absurd ((Option.some.inj H).trans HRT.out) zb40
      rw [if_pos c27] at H
      have c27b0:=beq_iff_eq.mpr c27
      have c27b1:=bne_eq_false_iff_eq.mpr c27
      clear c27
      replace H:=Option.bind_eq_some_iff.mp H
      obtain ⟨t43,A58,H⟩:=H
      try dsimp only at H
      have A28:=Aside0.mk A58
      clear A58
      by_cases c29:t43=true
      ·subst c29
       rw [if_pos rfl] at H
       replace H:=Option.bind_eq_some_iff.mp H
       obtain ⟨t40,A59,H⟩:=H
       try dsimp only at H
       have A30:=Aside0.mk A59
       clear A59
       obtain rfl:=Option.some.inj H
       go_enter Tryd.func8,Tryd.ntmps8
       go_wp2_with (first|((with_reducible refine gate_callee (f:=17) rfl ?_);refine goesL_ (some 10) rfl rfl Tryd.func17 zb23 rfl #[.string (⟨#[115,108,111,116,32,97,32,49,48,48,48,32,50,32,50,32,53,32,53,32,54,52,32,97,46,101,120,97,109,112,108,101,32,98,10]⟩:ByteArray)] rfl zb2 ?_;(with_reducible refine (table_Read.calls k (⟨#[115,108,111,116,32,97,32,49,48,48,48,32,50,32,50,32,53,32,53,32,54,52,32,97,46,101,120,97,109,112,108,101,32,98,10]⟩:ByteArray) t19 t49 _ A1.out ?hT).mono ?_);(case hT=>exact HTB.out.below zb0);rintro e w31 ⟨v60,rfl,ho0,hb⟩;(try clear A1);refine ⟨_,rfl,?_⟩;have HO21:=Aside0.mk (Kd.S_lower ho0 (below_size zb0));replace HB:=Aside0.mk (below_step zb0 hb);try clear hb ho0;obtain ⟨Ao32,co32,eo32⟩:=Kd.S_slice HO21.out;subst eo32)|((with_reducible refine gate_callee (f:=15) rfl ?_);refine goesL_ (some 15) rfl rfl Tryd.func15 zb23 rfl #[.slice Ao32 t19.length co32] rfl zb2 ?_;(with_reducible refine (table_Write.calls k _ _ t19 t46 t50 _ ?side1 ?side2 A2.out ?hT).mono ?_);(case hT=>exact HTB.out.below zb0);(case side1=>exact zb16);(case side2=>exact (Kd.S_reads' HO21.out).2.1);rintro e w33 ⟨rfl,hb⟩;(try clear A2);refine ⟨_,rfl,?_⟩;replace HO21:=Aside0.mk (Kd.S_below zb15 hb);replace HB:=Aside0.mk (below_step zb0 hb);(try clear hb))|((with_reducible refine gate_callee (f:=17) rfl ?_);refine goesL_ (some 19) rfl rfl Tryd.func17 zb23 rfl #[.string (⟨#[115,108,111,116,32,97,10]⟩:ByteArray)] rfl zb2 ?_;(with_reducible refine (table_Read.calls k (⟨#[115,108,111,116,32,97,10]⟩:ByteArray) t51 t52 _ A3.out ?hT).mono ?_);(case hT=>exact HTB.out.below zb0);rintro e w34 ⟨v61,rfl,ho0,hb⟩;(try clear A3);refine ⟨_,rfl,?_⟩;have HO45:=Aside0.mk (Kd.S_lower (Kd.S_new' ho0 (Kd.S_lt zb15)) (below_size zb0));replace HO21:=Aside0.mk (Kd.S_elder' zb15 (Kd.S_base ho0) hb);replace HB:=Aside0.mk (below_step zb0 hb);try clear hb ho0;have p16:0 ≤ (0:Int):=zb11;have q16:0 < (t19.length:Int):=of_decide_eq_true zb3;obtain ⟨ad16,A16_1,c16_1,e16,hx16_0,hx16_1,hx16_2,hx16_3,hx16_4,hx16_5,hx16_6,hx16_7,hl16_1,hi16_1⟩:=at_T26 (Kd.S_reads' HO21.out).2.2 0 p16 q16;cases e16;obtain ⟨ce16,hce16,hMe16,hcc16⟩:=Kd.S_get HO21.out z26 0 p16 (by first|exact q16|exact of_decide_eq_true (by first|(with_reducible assumption)|assumption)|(have e_:=(Kd.S_reads' HO21.out).1;omega));obtain ⟨ve16_1,rfl,ge16_1⟩:=k26_openM hMe16;have hv16_1:=hcc16 1 _ rfl;rw [add_field _ _ 1 zb11] at hv16_1;replace hv16_1:=Option.some.inj (hv16_1.symm.trans hx16_1);rw [hv16_1] at ge16_1;have HL16_1:=Aside0.mk (show Kd.R Kd.string 9 _ _ _ _ ((rd_T26 t19 0).f1) from ge16_1);clear hv16_1 ge16_1;clear hcc16 hce16;have qi16:(0 < t19.length)=True:=eq_true zb11;(try rw [show ((0:Int)).toNat=0 from rfl] at hx16_0);(try rw [show 0 * 8=0 from rfl] at hx16_0);(try rw [Addr.add_zero'] at hx16_0);(try rw [show ((0:Int)).toNat=0 from rfl] at hx16_1);(try rw [show 0 * 8=0 from rfl] at hx16_1);(try rw [Addr.add_zero'] at hx16_1);(try rw [show ((0:Int)).toNat=0 from rfl] at hx16_2);(try rw [show 0 * 8=0 from rfl] at hx16_2);(try rw [Addr.add_zero'] at hx16_2);(try rw [show ((0:Int)).toNat=0 from rfl] at hx16_3);(try rw [show 0 * 8=0 from rfl] at hx16_3);(try rw [Addr.add_zero'] at hx16_3);(try rw [show ((0:Int)).toNat=0 from rfl] at hx16_4);(try rw [show 0 * 8=0 from rfl] at hx16_4);(try rw [Addr.add_zero'] at hx16_4);(try rw [show ((0:Int)).toNat=0 from rfl] at hx16_5);(try rw [show 0 * 8=0 from rfl] at hx16_5);(try rw [Addr.add_zero'] at hx16_5);(try rw [show ((0:Int)).toNat=0 from rfl] at hx16_6);(try rw [show 0 * 8=0 from rfl] at hx16_6);(try rw [Addr.add_zero'] at hx16_6);(try rw [show ((0:Int)).toNat=0 from rfl] at hx16_7);(try rw [show 0 * 8=0 from rfl] at hx16_7);(try rw [Addr.add_zero'] at hx16_7);have HR16_1:=Aside0.mk hi16_1;have HC16_1:=Aside0.mk hl16_1;clear hi16_1 hl16_1;replace p16:=eq_true p16;replace q16:=eq_true q16;have p18:0 ≤ (0:Int):=zb11;have q18:0 < (t19.length:Int):=of_decide_eq_true zb3;obtain ⟨ad18,A18_1,c18_1,e18,hx18_0,hx18_1,hx18_2,hx18_3,hx18_4,hx18_5,hx18_6,hx18_7,hl18_1,hi18_1⟩:=at_T26 (Kd.S_reads' HO21.out).2.2 0 p18 q18;obtain rfl:ad16=ad18:=(by injection e18);obtain ⟨ce18,hce18,hMe18,hcc18⟩:=Kd.S_get HO21.out z26 0 p18 (by first|exact q18|exact of_decide_eq_true (by first|(with_reducible assumption)|assumption)|(have e_:=(Kd.S_reads' HO21.out).1;omega));obtain ⟨ve18_1,rfl,ge18_1⟩:=k26_openM hMe18;have hv18_1:=hcc18 1 _ rfl;rw [add_field _ _ 1 zb11] at hv18_1;replace hv18_1:=Option.some.inj (hv18_1.symm.trans hx18_1);rw [hv18_1] at ge18_1;have HL18_1:=Aside0.mk (show Kd.R Kd.string 9 _ _ _ _ ((rd_T26 t19 0).f1) from ge18_1);clear hv18_1 ge18_1;clear hcc18 hce18;have qi18:(0 < t19.length)=True:=eq_true zb11;(try rw [show ((0:Int)).toNat=0 from rfl] at hx18_0);(try rw [show 0 * 8=0 from rfl] at hx18_0);(try rw [Addr.add_zero'] at hx18_0);(try rw [show ((0:Int)).toNat=0 from rfl] at hx18_1);(try rw [show 0 * 8=0 from rfl] at hx18_1);(try rw [Addr.add_zero'] at hx18_1);(try rw [show ((0:Int)).toNat=0 from rfl] at hx18_2);(try rw [show 0 * 8=0 from rfl] at hx18_2);(try rw [Addr.add_zero'] at hx18_2);(try rw [show ((0:Int)).toNat=0 from rfl] at hx18_3);(try rw [show 0 * 8=0 from rfl] at hx18_3);(try rw [Addr.add_zero'] at hx18_3);(try rw [show ((0:Int)).toNat=0 from rfl] at hx18_4);(try rw [show 0 * 8=0 from rfl] at hx18_4);(try rw [Addr.add_zero'] at hx18_4);(try rw [show ((0:Int)).toNat=0 from rfl] at hx18_5);(try rw [show 0 * 8=0 from rfl] at hx18_5);(try rw [Addr.add_zero'] at hx18_5);(try rw [show ((0:Int)).toNat=0 from rfl] at hx18_6);(try rw [show 0 * 8=0 from rfl] at hx18_6);(try rw [Addr.add_zero'] at hx18_6);(try rw [show ((0:Int)).toNat=0 from rfl] at hx18_7);(try rw [show 0 * 8=0 from rfl] at hx18_7);(try rw [Addr.add_zero'] at hx18_7);have HR18_1:=Aside0.mk hi18_1;have HC18_1:=Aside0.mk hl18_1;clear hi18_1 hl18_1;replace p18:=eq_true p18;replace q18:=eq_true q18;have ea_:=Option.some.inj (hx16_1.symm.trans hx18_1);injection ea_ with ea_ en_ ec_;subst ea_;subst ec_;clear en_)|(go_at_call 9;(with_reducible refine (table_Right.calls k _ _ t19 true _ ?side1 ?side2 A12.out).mono ?_);(case side1=>exact zb16);(case side2=>exact (Kd.S_reads' HO21.out).2.1);rintro e w35 ⟨rfl,hb⟩;(try clear A12);replace HO21:=Aside0.mk (Kd.S_below zb15 hb);replace HO45:=Aside0.mk (Kd.S_below zb27 hb);replace HL16_1:=Aside0.mk (Kd.R_below zb24 hb);replace HL18_1:=Aside0.mk (Kd.R_below zb25 hb);replace HR16_1:=Aside0.mk (Kd.C_below zb12 hb);replace HR18_1:=Aside0.mk (Kd.C_below zb13 hb);replace HB:=Aside0.mk (below_step zb0 hb);(try clear hb))|(go_at_call 9;(refine (table_Right.calls k _ _ ([]:List (S26)) false _ ?side1 ?side2 A14.out).mono ?_);(case side1=>exact Kd.C_nil _ _);(case side2=>exact Nat.le_refl _);rintro e w36 ⟨rfl,hb⟩;(try clear A14);replace HO21:=Aside0.mk (Kd.S_below zb15 hb);replace HO45:=Aside0.mk (Kd.S_below zb27 hb);replace HL16_1:=Aside0.mk (Kd.R_below zb24 hb);replace HL18_1:=Aside0.mk (Kd.R_below zb25 hb);replace HR16_1:=Aside0.mk (Kd.C_below zb12 hb);replace HR18_1:=Aside0.mk (Kd.C_below zb13 hb);replace HB:=Aside0.mk (below_step zb0 hb);(try clear hb))|(go_at_call 11;(with_reducible refine (table_Find.calls k _ _ t19 (⟨#[98]⟩:ByteArray) t44 _ ?side1 ?side2 A22.out).mono ?_);(case side1=>exact zb16);(case side2=>exact (Kd.S_reads' HO21.out).2.1);rintro e w37 ⟨rfl,hb⟩;(try clear A22);replace HO21:=Aside0.mk (Kd.S_below zb15 hb);replace HO45:=Aside0.mk (Kd.S_below zb27 hb);replace HL16_1:=Aside0.mk (Kd.R_below zb24 hb);replace HL18_1:=Aside0.mk (Kd.R_below zb25 hb);replace HR16_1:=Aside0.mk (Kd.C_below zb12 hb);replace HR18_1:=Aside0.mk (Kd.C_below zb13 hb);replace HB:=Aside0.mk (below_step zb0 hb);(try clear hb))|(go_at_call 11;(with_reducible refine (table_Find.calls k _ _ t19 (⟨#[99]⟩:ByteArray) t42 _ ?side1 ?side2 A24.out).mono ?_);(case side1=>exact zb16);(case side2=>exact (Kd.S_reads' HO21.out).2.1);rintro e w38 ⟨rfl,hb⟩;(try clear A24);replace HO21:=Aside0.mk (Kd.S_below zb15 hb);replace HO45:=Aside0.mk (Kd.S_below zb27 hb);replace HL16_1:=Aside0.mk (Kd.R_below zb24 hb);replace HL18_1:=Aside0.mk (Kd.R_below zb25 hb);replace HR16_1:=Aside0.mk (Kd.C_below zb12 hb);replace HR18_1:=Aside0.mk (Kd.C_below zb13 hb);replace HB:=Aside0.mk (below_step zb0 hb);(try clear hb))|(go_at_call 13;(with_reducible refine (table_Named.calls _ _ t19 (⟨#[97]⟩:ByteArray) t41 _ ?side1 ?side2 A26.out).mono ?_);(case side1=>exact zb16);(case side2=>exact (Kd.S_reads' HO21.out).2.1);rintro e w39 ⟨rfl,hb⟩;(try clear A26);replace HO21:=Aside0.mk (Kd.S_below zb15 hb);replace HO45:=Aside0.mk (Kd.S_below zb27 hb);replace HL16_1:=Aside0.mk (Kd.R_below zb24 hb);replace HL18_1:=Aside0.mk (Kd.R_below zb25 hb);replace HR16_1:=Aside0.mk (Kd.C_below zb12 hb);replace HR18_1:=Aside0.mk (Kd.C_below zb13 hb);replace HB:=Aside0.mk (below_step zb0 hb);(try clear hb))|(go_at_call 19;(with_reducible refine (table_Name.calls k (⟨#[97,45,49]⟩:ByteArray) true _ A28.out).mono ?_);rintro e w' ⟨rfl,⟨nd,rfl⟩⟩;(try clear A28))|(go_at_call 19;(with_reducible refine (table_Name.calls k (⟨#[49,97]⟩:ByteArray) t40 _ A30.out).mono ?_);rintro e w' ⟨rfl,⟨nd,rfl⟩⟩;(try clear A30)))
       go_ret
       exact ⟨zb4,zb0⟩
      ·replace c29:=Bool.eq_false_iff.mpr c29
       subst c29
       rw [if_neg (show ¬ (false=true) by decide)] at H
       exact absurd ((Option.some.inj H).trans HRT.out) zb40
     ·rw [if_neg c25] at H
      have c25b0:=beq_eq_false_iff_ne.mpr c25
      have c25b1:=bne_iff_ne.mpr c25
      exact absurd ((Option.some.inj H).trans HRT.out) zb40
    ·replace c13:=Bool.eq_false_iff.mpr c13
     subst c13
     rw [if_neg (show ¬ (false=true) by decide)] at H
     exact absurd ((Option.some.inj H).trans HRT.out) zb40
   ·rw [if_neg c10] at H
    have c10b0:=beq_eq_false_iff_ne.mpr c10
    have c10b1:=bne_iff_ne.mpr c10
    exact absurd ((Option.some.inj H).trans HRT.out) zb40
  ·rw [if_neg c8] at H
   have c8b0:=beq_eq_false_iff_ne.mpr c8
   have c8b1:=bne_iff_ne.mpr c8
   exact absurd ((Option.some.inj H).trans HRT.out) zb40
 ·rw [if_neg c5] at H
  have c5b0:=beq_eq_false_iff_ne.mpr c5
  have c5b1:=bne_iff_ne.mpr c5
  exact absurd ((Option.some.inj H).trans HRT.out) zb40
mutual
def tollbarlaw09_TableTurns.j0:Nat → List (S26) → Int → Int → Bool → Option (Bool)
 | 0,_,_,_,_=>none
 | k + 1,x0,x1,x2,x28=>if x28=true then (some true) else (tollbarlaw09_TableTurns.l0 k x0 x1 x2 x0 (x0.length:Int) 0)
def tollbarlaw09_TableTurns.l0:Nat → List (S26) → Int → Int → List (S26) → Int → Int → Option (Bool)
 | 0,_,_,_,_,_,_=>none
 | k + 1,x0,x1,x2,x29,x30,x31=>if x31 < x30 then (if 0 ≤ x31 then (if x31 < (x29.length:Int) then (if (((rd_T26 x29 x31).f1).length:Int) > 20 then (some true) else (tollbarlaw09_TableTurns.l0 k x0 x1 x2 x29 x30 (wrap64 (x31 + 1)))) else (none)) else (none)) else (if (x0.length:Int)=0 then (none) else ((some (([]:List (S26)):List (S26))).bind fun y383=>(if 0 ≤ (Int.tmod (Go.bits .and .i64 x1 1023) (x0.length:Int)) then (if (Int.tmod (Go.bits .and .i64 x1 1023) (x0.length:Int)) ≤ (x0.length:Int) then ((some (x0.drop ((Int.tmod (Go.bits .and .i64 x1 1023) (x0.length:Int)):Int).toNat:List (S26))).bind fun y386=>(if y383.length + y386.length < 1599289640401 then ((some (y383 ++ y386:List (S26))).bind fun y391=>((some (x0.take ((Int.tmod (Go.bits .and .i64 x1 1023) (x0.length:Int)):Int).toNat:List (S26))).bind fun y394=>(if y391.length + y394.length < 1599289640401 then ((some (y391 ++ y394:List (S26))).bind fun y399=>((table_Right.f k y399).bind fun t402=>((table_Right.f k x0).bind fun t403=>(if (t402 != t403)=true then (some false) else ((table_Right.f k x0).bind fun t404=>(if t404=true then ((table_Write.f k (x0.take ((Int.tmod (Go.bits .and .i64 x1 1023) (x0.length:Int)):Int).toNat)).bind fun bt410=>((table_Write.f k (x0.drop ((Int.tmod (Go.bits .and .i64 x1 1023) (x0.length:Int)):Int).toNat)).bind fun bt417=>((table_Write.f k y399).bind fun bt419=>(if (Int.tmod (Go.bits .and .i64 x1 1023) (x0.length:Int))=0 then (tollbarlaw09_TableTurns.j2 k x0 x2 (⟨#[]⟩:ByteArray) 0 bt417.1 bt417.2 bt419.1 bt419.2) else (tollbarlaw09_TableTurns.j2 k x0 x2 bt410.1 bt410.2 bt417.1 bt417.2 bt419.1 bt419.2))))) else (some true))))))) else (none)))) else (none))) else (none)) else (none))))
def tollbarlaw09_TableTurns.j2:Nat → List (S26) → Int → ByteArray → Int → ByteArray → Int → ByteArray → Int → Option (Bool)
 | 0,_,_,_,_,_,_,_,_=>none
 | k + 1,x0,x2,x11,x12,x13,x14,x15,x16=>if x12=0 then (if x14=0 then (if x16=0 then (if x13.size + x11.size ≤ 9223372036854775807 then (tollbarlaw09_TableTurns.j3 k x0 x2 (x15.toList != (x13 ++ x11).toList)) else (none)) else (tollbarlaw09_TableTurns.j3 k x0 x2 true)) else (tollbarlaw09_TableTurns.j3 k x0 x2 true)) else (tollbarlaw09_TableTurns.j3 k x0 x2 true)
def tollbarlaw09_TableTurns.j3:Nat → List (S26) → Int → Bool → Option (Bool)
 | 0,_,_,_=>none
 | k + 1,x0,x2,x99=>if x99=true then (some false) else (if (x0.length:Int)=0 then (none) else ((some (([]:List (S26)):List (S26))).bind fun y421=>(if 0 ≤ (Int.tmod (Go.bits .and .i64 x2 1023) (x0.length:Int)) then (if (Int.tmod (Go.bits .and .i64 x2 1023) (x0.length:Int)) ≤ (x0.length:Int) then ((some (x0.take ((Int.tmod (Go.bits .and .i64 x2 1023) (x0.length:Int)):Int).toNat:List (S26))).bind fun y424=>(if y421.length + y424.length < 1599289640401 then ((some (y421 ++ y424:List (S26))).bind fun y429=>(if 0 ≤ (wrap64 ((Int.tmod (Go.bits .and .i64 x2 1023) (x0.length:Int)) + 1)) then (if (wrap64 ((Int.tmod (Go.bits .and .i64 x2 1023) (x0.length:Int)) + 1)) ≤ (x0.length:Int) then ((some (x0.drop ((wrap64 ((Int.tmod (Go.bits .and .i64 x2 1023) (x0.length:Int)) + 1)):Int).toNat:List (S26))).bind fun y432=>(if y429.length + y432.length < 1599289640401 then ((some (y429 ++ y432:List (S26))).bind fun y437=>((table_Right.f k y437).bind fun t440=>(if (t440 == (decide ((x0.length:Int) > 1)))=true then (if (Int.tmod (Go.bits .and .i64 x2 1023) (x0.length:Int)) < (x0.length:Int) then ((table_Named.f y437 ((rd_T26 x0 (Int.tmod (Go.bits .and .i64 x2 1023) (x0.length:Int))).f0)).bind fun t442=>(if t442=(-1) then (if 0 < (((rd_T26 x0 (Int.tmod (Go.bits .and .i64 x2 1023) (x0.length:Int))).f1).length:Int) then ((table_Find.f k y437 (rdOf ByteArray.empty ((rd_T26 x0 (Int.tmod (Go.bits .and .i64 x2 1023) (x0.length:Int))).f1) 0)).bind fun t445=>(some (t445 == (-1)))) else (none)) else (some false))) else (none)) else (some false)))) else (none))) else (none)) else (none))) else (none))) else (none)) else (none))))
end
def tollbarlaw09_TableTurns.f (k:Nat) (l0:List (S26)) (a1:Int) (a2:Int):Option (Bool):=(tollbarlaw09_alive.f k).bind fun t380=>(if t380=true then (if (l0.length:Int) > 16 then (tollbarlaw09_TableTurns.j0 k l0 a1 a2 true) else (tollbarlaw09_TableTurns.j0 k l0 a1 a2 ((l0.length:Int) == 0))) else (some false))
def tollbarlaw09_TableTurns.T12:Bool × List (List Nat × List Nat):=(true,[([],[]),([],[]),([],[]),([1,2],[1,2]),([0,3],[0,3]),([],[]),([],[]),([5,6],[5,6]),([4,7,4],[4,7]),([8,8,0,1,2,3,4,5,6,7,8],[8])])
def tollbarlaw09_TableTurns.B12:List Nat:=[0,0,0,6,15,0,0,96,255,511]
theorem tollbarlaw09_TableTurns.tab12:rtab .any (opsOf Tryd.f6 12)=tollbarlaw09_TableTurns.T12:=by kernel_rfl
theorem tollbarlaw09_TableTurns.bits12:waitsOk tollbarlaw09_TableTurns.T12.2 tollbarlaw09_TableTurns.B12=true:=by kernel_rfl
def tollbarlaw09_TableTurns.T25:Bool × List (List Nat × List Nat):=(true,[([],[]),([],[]),([],[]),([1,2],[1,2]),([0,3],[0,3]),([],[]),([],[]),([6],[6]),([5,7],[5,7]),([4,8,4],[4,8]),([9,9,0,1,2,3,4,5,6,7,8,9],[9])])
def tollbarlaw09_TableTurns.B25:List Nat:=[0,0,0,6,15,0,0,64,224,511,1023]
theorem tollbarlaw09_TableTurns.tab25:rtab .any (opsOf Tryd.f6 25)=tollbarlaw09_TableTurns.T25:=by kernel_rfl
theorem tollbarlaw09_TableTurns.bits25:waitsOk tollbarlaw09_TableTurns.T25.2 tollbarlaw09_TableTurns.B25=true:=by kernel_rfl
set_option maxHeartbeats 8000000 in
set_option maxRecDepth 100000 in
theorem tollbarlaw09_TableTurns.callsV (k:Nat) (P0_:Nat → Prop) (A0:Option Addr) (c0:Nat) (l0:List (S26)) (a1:Int) (a2:Int) (r:Bool) (w:World) (hs0:Kd.V k26 26 w w.heap.size (fun k_=>P0_ k_) (.slice A0 l0.length c0) l0) (h:tollbarlaw09_TableTurns.f k l0 a1 a2=some r) (hr:r=true) (ht:Tabs w) :
 Calls Tryd.prog 6 #[.slice A0 l0.length c0,.int .i64 a1,.int .i64 a2] w fun e w' => e = .returned (.bool r)∧Below w.heap.size w w' := by
 have HTB:=Aside0.mk ht
 clear ht
 have HRT:=Aside0.mk hr
 clear hr
 have hu26:=Tryd.underlying26
 have HO0:=Aside0.mk (show Kd.V k26 26 w w.heap.size (fun k_=>(P0_ k_ ∨ w.heap.size ≤ k_)) (.slice A0 l0.length c0) l0 from Kd.V_mono hs0 (fun k_ hk=>.inl hk))
 have HB:=Aside0.mk (Below.refl w.heap.size w)
 have H:((tollbarlaw09_alive.f k).bind fun t380=>(if t380=true then (if (l0.length:Int) > 16 then (tollbarlaw09_TableTurns.j0 k l0 a1 a2 true) else (tollbarlaw09_TableTurns.j0 k l0 a1 a2 ((l0.length:Int) == 0))) else (some false)))=some r:=h
 clear h
 replace H:=Option.bind_eq_some_iff.mp H
 obtain ⟨t380,A40,H⟩:=H
 try dsimp only at H
 have A4:=Aside0.mk A40
 clear A40
 by_cases c5:t380=true;rotate_left
 ·replace c5:=Bool.eq_false_iff.mpr c5
  subst c5
  rw [if_neg (show ¬ (false=true) by decide)] at H
  exact absurd ((Option.some.inj H).trans HRT.out) (by decide)
 subst c5
 rw [if_pos rfl] at H
 have HC6:=Aside0.mk H
 clear H
 go_enter Tryd.func6,Tryd.ntmps6
 go_upto_region 3 with (first|((with_reducible refine gate_callee (f:=8) rfl ?_);refine goesL_ (some 19) rfl rfl Tryd.func8 (by kernel_rfl) rfl #[] rfl (by (try simp only [List.map_toArray,List.map_cons,List.map_nil]);first|done|rfl|(simp only [List.length_drop,List.length_take];rfl)) ?_;(with_reducible refine (tollbarlaw09_alive.calls k  true _ A4.out rfl ?hT).mono ?_);(case hT=>exact HTB.out.below (by repeat (first|(with_reducible first|exact HB.out|apply below_alloc|apply pw_below_drewN|apply below_drew1|refine below_set ?_ GE34.out)|exact HB.out)));rintro e w7 ⟨rfl,hb⟩;refine ⟨_,rfl,?_⟩;replace HO0:=Aside0.mk (Kd.V_below (by (with_reducible repeat (first|apply Kd.V_alloc|apply Kd.V_drewN|apply Kd.V_drew));exact HO0.out) hb);replace HB:=Aside0.mk (below_step (by repeat (first|(with_reducible first|exact HB.out|apply below_alloc|apply pw_below_drewN|apply below_drew1)|exact HB.out)) hb);(try clear hb)))
 (try simp only [Act.put,zqA,zqB,zqC])
 go_cut [28] (fun v28 wc => ∃ (kq:Nat) (x28_5:Bool),v28 = .bool x28_5∧Aside0 (tollbarlaw09_TableTurns.j0 kq l0 a1 a2 x28_5=some r)∧Aside0 (kq ≤ k)∧Aside0 (Kd.V k26 26 wc w.heap.size (fun k_=>(P0_ k_ ∨ w.heap.size ≤ k_)) (.slice A0 l0.length c0) l0)∧Aside0 (Below w.heap.size w wc))
 case first =>
  have H:=HC6.out
  clear HC6
  by_cases c8:(l0.length:Int) > 16
  ·rw [if_pos c8] at H
   have c8b0:decide (16 < (l0.length:Int))=true:=decide_eq_true c8
   have c8b1:decide (16 < l0.length)=true:=decide_eq_true (by omega)
   clear c8
   (first|rw [c8b0]|(simp only [i64_w,i32_w];rw [c8b0])|rw [c8b1]|skip)
   have H' := Aside0.mk H
   clear H
   go_wp2
   go_meet
   case rel=>exact ⟨_,(true),(by first|rfl|(simp;done)|(simp [*];done)),H',⟨by first|omega|exact Nat.le_refl _⟩,⟨by (with_reducible repeat (first|apply Kd.V_alloc|apply Kd.V_drewN|apply Kd.V_drew));exact HO0.out⟩,⟨by repeat (first|(with_reducible first|exact HB.out|apply below_alloc|apply pw_below_drewN|apply below_drew1)|exact HB.out)⟩⟩
  rw [if_neg c8] at H
  have c8b0:decide (16 < (l0.length:Int))=false:=decide_eq_false c8
  have c8b1:decide (16 < l0.length)=false:=decide_eq_false (by omega)
  clear c8
  (first|rw [c8b0]|(simp only [i64_w,i32_w];rw [c8b0])|rw [c8b1]|skip)
  have H' := Aside0.mk H
  clear H
  go_wp2
  go_meet
  case rel=>exact ⟨_,(((l0.length:Int) == 0)),(by first|rfl|(simp;done)|(simp [*];done)),H',⟨by first|omega|exact Nat.le_refl _⟩,⟨by (with_reducible repeat (first|apply Kd.V_alloc|apply Kd.V_drewN|apply Kd.V_drew));exact HO0.out⟩,⟨by repeat (first|(with_reducible first|exact HB.out|apply below_alloc|apply pw_below_drewN|apply below_drew1)|exact HB.out)⟩⟩
 case rest =>
  clear HC6
  try clear p2
  try clear c5
  try clear c6
  try clear c8
  try clear c8b0
  try clear c8b1
  obtain ⟨kq,x28_5,rfl,HA,HJ5,HO_0,HB⟩:=hcut
  cases kq with
  | zero=>exact absurd HA.out (by simp [tollbarlaw09_TableTurns.j0])
  | succ kj5 =>
   have H:=HA.out
   clear HA
   simp only [tollbarlaw09_TableTurns.j0] at H
   by_cases c9:x28_5=true
   ·subst c9
    rw [if_pos rfl] at H
    obtain rfl:=Option.some.inj H
    go_wp2
    go_ret
    exact ⟨by first|rfl|(simp [errW_none,errW_some] <;> rfl)|(simp [*,errW_none,errW_some] <;> rfl),by repeat (first|(with_reducible first|exact HB.out|apply below_alloc|apply pw_below_drewN|apply below_drew1)|exact HB.out)⟩
   replace c9:=Bool.eq_false_iff.mpr c9
   subst c9
   rw [if_neg (show ¬ (false=true) by decide)] at H
   have H' := Aside0.mk H
   clear H
   go_wp2
   go_loopg [31] kj5 (fun kq v31 w' => ∃ (x31_2:Int),v31 = .int .i64 x31_2∧Aside0 (tollbarlaw09_TableTurns.l0 kq l0 a1 a2 l0 (l0.length:Int) x31_2=some r)∧Aside0 (kq ≤ kj5)∧Aside0 (Kd.V k26 26 w' w.heap.size (fun k_=>(P0_ k_ ∨ w.heap.size ≤ k_)) (.slice A0 l0.length c0) l0)∧Aside0 (Kd.V k26 26 w' w.heap.size (fun k_=>(P0_ k_ ∨ w.heap.size ≤ k_)) (.slice A0 l0.length c0) l0)∧Aside0 (Below w.heap.size w w'))
   case atStart=>exact ⟨(0),(by first|rfl|(simp;done)|(simp [*];done)),H',⟨Nat.le_refl _⟩,⟨by (with_reducible repeat (first|apply Kd.V_alloc|apply Kd.V_drewN|apply Kd.V_drew));exact HO_0.out⟩,⟨by (with_reducible repeat (first|apply Kd.V_alloc|apply Kd.V_drewN|apply Kd.V_drew));exact HO_0.out⟩,⟨by repeat (first|(with_reducible first|exact HB.out|apply below_alloc|apply pw_below_drewN|apply below_drew1)|exact HB.out)⟩⟩
   case round =>
    clear H'
    try clear p2
    try clear c5
    try clear c6
    try clear c8
    try clear c8b0
    try clear c8b1
    try clear c9
    try clear p2
    obtain ⟨x31_2,rfl,HA,HK2,HO_0,HO_29,HB⟩:=hrel
    cases gk with
    | zero=>exact absurd HA.out (by simp [tollbarlaw09_TableTurns.l0])
    | succ k2 =>
     have H:=HA.out
     clear HA
     simp only [tollbarlaw09_TableTurns.l0] at H
     by_cases c10:x31_2 < (l0.length:Int)
     ·rw [if_pos c10] at H
      have c10b0:=decide_eq_true c10
      clear c10
      by_cases c11:0 ≤ x31_2;rotate_left
      ·rw [if_neg c11] at H
       exact absurd H (by simp)
      rw [if_pos c11] at H
      have c11b0:=decide_eq_true c11
      clear c11
      by_cases c12:x31_2 < (l0.length:Int)
      ·rw [if_pos c12] at H
       have c12b0:=decide_eq_true c12
       clear c12
       by_cases c13:(((rd_T26 l0 x31_2).f1).length:Int) > 20
       ·rw [if_pos c13] at H
        have c13b0:decide (20 < (((rd_T26 l0 x31_2).f1).length:Int))=true:=decide_eq_true c13
        have c13b1:decide (20 < ((rd_T26 l0 x31_2).f1).length)=true:=decide_eq_true (by omega)
        clear c13
        obtain rfl:=Option.some.inj H
        have p33:0 ≤ (x31_2:Int):=of_decide_eq_true (by first|(with_reducible assumption)|assumption)
        have q33:x31_2 < (l0.length:Int):=of_decide_eq_true (by first|(with_reducible assumption)|assumption)
        obtain ⟨ad33,A33_1,c33_1,e33,hx33_0,hx33_1,hx33_2,hx33_3,hx33_4,hx33_5,hx33_6,hx33_7,hl33_1,hi33_1⟩:=at_T26 (Kd.V_reads' HO_29.out).2.2 x31_2 p33 q33
        cases e33
        obtain ⟨ce33,hce33,hMe33,hcc33⟩:=Kd.V_get HO_29.out z26 x31_2 p33 (by first|exact q33|exact of_decide_eq_true (by first|(with_reducible assumption)|assumption)|(have e_:=(Kd.V_reads' HO_29.out).1;omega))
        obtain ⟨ua33_1,uc33_1,rfl,ul33_1,ge33_1⟩:=k26_openF hMe33
        have hv33_1:=hcc33 1 _ rfl
        rw [add_field _ _ 1 (by omega)] at hv33_1
        replace hv33_1:=Option.some.inj (hv33_1.symm.trans hx33_1)
        injection hv33_1 with hva_ hvn_ hvc_
        rw [hva_] at ge33_1
        rw [hvc_] at ul33_1
        have HL33_1:=Aside0.mk (show Kd.V Kd.string 9 _ w.heap.size _ _ ((rd_T26 l0 x31_2).f1) from Kd.V_mk ul33_1 ge33_1)
        clear hva_ hvn_ hvc_ ge33_1 ul33_1 hcc33 hce33
        have HR33_1:=Aside0.mk hi33_1
        have HC33_1:=Aside0.mk hl33_1
        clear hi33_1 hl33_1
        replace p33:=eq_true p33
        replace q33:=eq_true q33
        go_wp2_with (first|((with_reducible refine gate_dst (N:=8) rfl ?_);(try (refine gate_guard (by rfl) ?_;dsimp only));refine box_event rfl (N:=8) rfl (cs:=#[.string (⟨#[]⟩:ByteArray),.slice none 0 0,.int .i64 0,.int .i64 0,.int .i64 0,.int .i64 0,.int .i64 0,.int .i64 0]) (t:=26) zS ?_;intro gb34 hg w14 hbox hb;replace HO_0:=Aside0.mk (Kd.V_below (Kd.V_elderB (by (with_reducible repeat (first|apply Kd.V_alloc|apply Kd.V_drewN|apply Kd.V_drew));exact HO_0.out) gb34 (Nat.le_of_eq hg.symm)) hb);replace HO_29:=Aside0.mk (Kd.V_below (Kd.V_elderB (by (with_reducible repeat (first|apply Kd.V_alloc|apply Kd.V_drewN|apply Kd.V_drew));exact HO_29.out) gb34 (Nat.le_of_eq hg.symm)) hb);replace HL33_1:=Aside0.mk (Kd.V_below (Kd.V_elderB (by (with_reducible repeat (first|apply Kd.V_alloc|apply Kd.V_drewN|apply Kd.V_drew));exact HL33_1.out) gb34 (Nat.le_of_eq hg.symm)) hb);replace HR33_1:=Aside0.mk (Kd.C_below (by repeat (first|(with_reducible exact HR33_1.out)|(with_reducible refine Kd.C_alloc ?_ _)|(with_reducible refine Kd.C_drewN ?_ _)|(with_reducible refine Kd.C_drew ?_)|exact HR33_1.out)) hb);have BK34:=Aside0.mk (hbox);have GW34:=zG hg (by repeat (first|(with_reducible first|exact HB.out|apply below_alloc|apply pw_below_drewN|apply below_drew1)|exact HB.out));have GE34:=GW34;replace HB:=Aside0.mk (below_step (by repeat (first|(with_reducible first|exact HB.out|apply below_alloc|apply pw_below_drewN|apply below_drew1)|exact HB.out)) hb);clear hb hbox hg;have hcz15_0:w14.cell? ⟨gb34,0,none⟩=some (.string (⟨#[]⟩:ByteArray)):=(blk_cell BK34.out 0).trans rfl;have hcz15_1:w14.cell? ⟨gb34,1,none⟩=some (.slice none 0 0):=(blk_cell BK34.out 1).trans rfl;have hcz15_2:w14.cell? ⟨gb34,2,none⟩=some (.int .i64 0):=(blk_cell BK34.out 2).trans rfl;have hcz15_3:w14.cell? ⟨gb34,3,none⟩=some (.int .i64 0):=(blk_cell BK34.out 3).trans rfl;have hcz15_4:w14.cell? ⟨gb34,4,none⟩=some (.int .i64 0):=(blk_cell BK34.out 4).trans rfl;have hcz15_5:w14.cell? ⟨gb34,5,none⟩=some (.int .i64 0):=(blk_cell BK34.out 5).trans rfl;have hcz15_6:w14.cell? ⟨gb34,6,none⟩=some (.int .i64 0):=(blk_cell BK34.out 6).trans rfl;have hcz15_7:w14.cell? ⟨gb34,7,none⟩=some (.int .i64 0):=(blk_cell BK34.out 7).trans rfl;have hfz15_0:=blk_frozen BK34.out 0;have hfz15_1:=blk_frozen BK34.out 1;have hfz15_2:=blk_frozen BK34.out 2;have hfz15_3:=blk_frozen BK34.out 3;have hfz15_4:=blk_frozen BK34.out 4;have hfz15_5:=blk_frozen BK34.out 5;have hfz15_6:=blk_frozen BK34.out 6;have hfz15_7:=blk_frozen BK34.out 7))
        go_ret
        exact ⟨by first|rfl|(simp [errW_none,errW_some] <;> rfl)|(simp [*,errW_none,errW_some] <;> rfl),by repeat (first|(with_reducible first|exact HB.out|apply below_alloc|apply pw_below_drewN|apply below_drew1|refine below_set ?_ GE34.out)|exact HB.out)⟩
       rw [if_neg c13] at H
       have c13b0:decide (20 < (((rd_T26 l0 x31_2).f1).length:Int))=false:=decide_eq_false c13
       have c13b1:decide (20 < ((rd_T26 l0 x31_2).f1).length)=false:=decide_eq_false (by omega)
       clear c13
       have H' := Aside0.mk H
       clear H
       have p33:0 ≤ (x31_2:Int):=of_decide_eq_true (by first|(with_reducible assumption)|assumption)
       have q33:x31_2 < (l0.length:Int):=of_decide_eq_true (by first|(with_reducible assumption)|assumption)
       obtain ⟨ad33,A33_1,c33_1,e33,hx33_0,hx33_1,hx33_2,hx33_3,hx33_4,hx33_5,hx33_6,hx33_7,hl33_1,hi33_1⟩:=at_T26 (Kd.V_reads' HO_29.out).2.2 x31_2 p33 q33
       cases e33
       obtain ⟨ce33,hce33,hMe33,hcc33⟩:=Kd.V_get HO_29.out z26 x31_2 p33 (by first|exact q33|exact of_decide_eq_true (by first|(with_reducible assumption)|assumption)|(have e_:=(Kd.V_reads' HO_29.out).1;omega))
       obtain ⟨ua33_1,uc33_1,rfl,ul33_1,ge33_1⟩:=k26_openF hMe33
       have hv33_1:=hcc33 1 _ rfl
       rw [add_field _ _ 1 (by omega)] at hv33_1
       replace hv33_1:=Option.some.inj (hv33_1.symm.trans hx33_1)
       injection hv33_1 with hva_ hvn_ hvc_
       rw [hva_] at ge33_1
       rw [hvc_] at ul33_1
       have HL33_1:=Aside0.mk (show Kd.V Kd.string 9 _ w.heap.size _ _ ((rd_T26 l0 x31_2).f1) from Kd.V_mk ul33_1 ge33_1)
       clear hva_ hvn_ hvc_ ge33_1 ul33_1 hcc33 hce33
       have HR33_1:=Aside0.mk hi33_1
       have HC33_1:=Aside0.mk hl33_1
       clear hi33_1 hl33_1
       replace p33:=eq_true p33
       replace q33:=eq_true q33
       go_wp2_with (first|((with_reducible refine gate_dst (N:=8) rfl ?_);(try (refine gate_guard (by rfl) ?_;dsimp only));refine box_event rfl (N:=8) rfl (cs:=#[.string (⟨#[]⟩:ByteArray),.slice none 0 0,.int .i64 0,.int .i64 0,.int .i64 0,.int .i64 0,.int .i64 0,.int .i64 0]) (t:=26) zS ?_;intro gb34 hg w16 hbox hb;replace HO_0:=Aside0.mk (Kd.V_below (Kd.V_elderB (by (with_reducible repeat (first|apply Kd.V_alloc|apply Kd.V_drewN|apply Kd.V_drew));exact HO_0.out) gb34 (Nat.le_of_eq hg.symm)) hb);replace HO_29:=Aside0.mk (Kd.V_below (Kd.V_elderB (by (with_reducible repeat (first|apply Kd.V_alloc|apply Kd.V_drewN|apply Kd.V_drew));exact HO_29.out) gb34 (Nat.le_of_eq hg.symm)) hb);replace HL33_1:=Aside0.mk (Kd.V_below (Kd.V_elderB (by (with_reducible repeat (first|apply Kd.V_alloc|apply Kd.V_drewN|apply Kd.V_drew));exact HL33_1.out) gb34 (Nat.le_of_eq hg.symm)) hb);replace HR33_1:=Aside0.mk (Kd.C_below (by repeat (first|(with_reducible exact HR33_1.out)|(with_reducible refine Kd.C_alloc ?_ _)|(with_reducible refine Kd.C_drewN ?_ _)|(with_reducible refine Kd.C_drew ?_)|exact HR33_1.out)) hb);have BK34:=Aside0.mk (hbox);have GW34:=zG hg (by repeat (first|(with_reducible first|exact HB.out|apply below_alloc|apply pw_below_drewN|apply below_drew1)|exact HB.out));have GE34:=GW34;replace HB:=Aside0.mk (below_step (by repeat (first|(with_reducible first|exact HB.out|apply below_alloc|apply pw_below_drewN|apply below_drew1)|exact HB.out)) hb);clear hb hbox hg;have hcz17_0:w16.cell? ⟨gb34,0,none⟩=some (.string (⟨#[]⟩:ByteArray)):=(blk_cell BK34.out 0).trans rfl;have hcz17_1:w16.cell? ⟨gb34,1,none⟩=some (.slice none 0 0):=(blk_cell BK34.out 1).trans rfl;have hcz17_2:w16.cell? ⟨gb34,2,none⟩=some (.int .i64 0):=(blk_cell BK34.out 2).trans rfl;have hcz17_3:w16.cell? ⟨gb34,3,none⟩=some (.int .i64 0):=(blk_cell BK34.out 3).trans rfl;have hcz17_4:w16.cell? ⟨gb34,4,none⟩=some (.int .i64 0):=(blk_cell BK34.out 4).trans rfl;have hcz17_5:w16.cell? ⟨gb34,5,none⟩=some (.int .i64 0):=(blk_cell BK34.out 5).trans rfl;have hcz17_6:w16.cell? ⟨gb34,6,none⟩=some (.int .i64 0):=(blk_cell BK34.out 6).trans rfl;have hcz17_7:w16.cell? ⟨gb34,7,none⟩=some (.int .i64 0):=(blk_cell BK34.out 7).trans rfl;have hfz17_0:=blk_frozen BK34.out 0;have hfz17_1:=blk_frozen BK34.out 1;have hfz17_2:=blk_frozen BK34.out 2;have hfz17_3:=blk_frozen BK34.out 3;have hfz17_4:=blk_frozen BK34.out 4;have hfz17_5:=blk_frozen BK34.out 5;have hfz17_6:=blk_frozen BK34.out 6;have hfz17_7:=blk_frozen BK34.out 7))
       go_roundg k2
       case measure=>have:=HJ5.out;have:=HK2.out;omega
       case rel=>exact ⟨(wrap64 (x31_2 + 1)),(by first|rfl|(simp;done)|(simp [*];done)),H',⟨by have:=HJ5.out;have:=HK2.out;omega⟩,⟨by (with_reducible repeat (first|apply Kd.V_alloc|apply Kd.V_drewN|apply Kd.V_drew));exact Kd.V_mono (Kd.V_far (p:=⟨gb34,7,none⟩) (Kd.V_far (p:=⟨gb34,6,none⟩) (Kd.V_far (p:=⟨gb34,5,none⟩) (Kd.V_far (p:=⟨gb34,4,none⟩) (Kd.V_far (p:=⟨gb34,3,none⟩) (Kd.V_far (p:=⟨gb34,2,none⟩) (Kd.V_far (p:=⟨gb34,1,none⟩) (Kd.V_far (p:=⟨gb34,0,none⟩) (Kd.V_mono HO_0.out (fun k_ hk=>(⟨hk,hk.2⟩:_∧k_ ≠ gb34))) (fun _ hk=>hk.2) (.string ((rd_T26 l0 x31_2).f0))) (fun _ hk=>hk.2) (.slice A33_1 ((rd_T26 l0 x31_2).f1).length c33_1)) (fun _ hk=>hk.2) (.int .i64 ((rd_T26 l0 x31_2).f2))) (fun _ hk=>hk.2) (.int .i64 ((rd_T26 l0 x31_2).f3))) (fun _ hk=>hk.2) (.int .i64 ((rd_T26 l0 x31_2).f4))) (fun _ hk=>hk.2) (.int .i64 ((rd_T26 l0 x31_2).f5))) (fun _ hk=>hk.2) (.int .i64 ((rd_T26 l0 x31_2).f6))) (fun _ hk=>hk.2) (.int .i64 ((rd_T26 l0 x31_2).f7))) (fun _ hk=>hk.1.1)⟩,⟨by (with_reducible repeat (first|apply Kd.V_alloc|apply Kd.V_drewN|apply Kd.V_drew));exact Kd.V_mono (Kd.V_far (p:=⟨gb34,7,none⟩) (Kd.V_far (p:=⟨gb34,6,none⟩) (Kd.V_far (p:=⟨gb34,5,none⟩) (Kd.V_far (p:=⟨gb34,4,none⟩) (Kd.V_far (p:=⟨gb34,3,none⟩) (Kd.V_far (p:=⟨gb34,2,none⟩) (Kd.V_far (p:=⟨gb34,1,none⟩) (Kd.V_far (p:=⟨gb34,0,none⟩) (Kd.V_mono HO_29.out (fun k_ hk=>(⟨hk,hk.2⟩:_∧k_ ≠ gb34))) (fun _ hk=>hk.2) (.string ((rd_T26 l0 x31_2).f0))) (fun _ hk=>hk.2) (.slice A33_1 ((rd_T26 l0 x31_2).f1).length c33_1)) (fun _ hk=>hk.2) (.int .i64 ((rd_T26 l0 x31_2).f2))) (fun _ hk=>hk.2) (.int .i64 ((rd_T26 l0 x31_2).f3))) (fun _ hk=>hk.2) (.int .i64 ((rd_T26 l0 x31_2).f4))) (fun _ hk=>hk.2) (.int .i64 ((rd_T26 l0 x31_2).f5))) (fun _ hk=>hk.2) (.int .i64 ((rd_T26 l0 x31_2).f6))) (fun _ hk=>hk.2) (.int .i64 ((rd_T26 l0 x31_2).f7))) (fun _ hk=>hk.1.1)⟩,⟨by repeat (first|(with_reducible first|exact HB.out|apply below_alloc|apply pw_below_drewN|apply below_drew1|refine below_set ?_ GE34.out)|exact HB.out)⟩⟩
      ·rw [if_neg c12] at H
       exact absurd H (by simp)
     rw [if_neg c10] at H
     have c10b0:=decide_eq_false c10
     clear c10
     by_cases c18:(l0.length:Int)=0
     ·rw [if_pos c18] at H
      exact absurd H (by simp)
     rw [if_neg c18] at H
     have c18b0:=beq_eq_false_iff_ne.mpr c18
     have c18b1:=bne_iff_ne.mpr c18
     have c18b2 : ¬ (l0=[]):=fun h_=>c18 (by rw [h_];rfl)
     obtain ⟨y383,hy383⟩ : ∃ y_:List (S26),y_=(([]:List (S26))):=⟨_,rfl⟩
     replace H:(if 0 ≤ (Int.tmod (Go.bits .and .i64 a1 1023) (l0.length:Int)) then (if (Int.tmod (Go.bits .and .i64 a1 1023) (l0.length:Int)) ≤ (l0.length:Int) then ((some (l0.drop ((Int.tmod (Go.bits .and .i64 a1 1023) (l0.length:Int)):Int).toNat:List (S26))).bind fun y386=>(if y383.length + y386.length < 1599289640401 then ((some (y383 ++ y386:List (S26))).bind fun y391=>((some (l0.take ((Int.tmod (Go.bits .and .i64 a1 1023) (l0.length:Int)):Int).toNat:List (S26))).bind fun y394=>(if y391.length + y394.length < 1599289640401 then ((some (y391 ++ y394:List (S26))).bind fun y399=>((table_Right.f k2 y399).bind fun t402=>((table_Right.f k2 l0).bind fun t403=>(if (t402 != t403)=true then (some false) else ((table_Right.f k2 l0).bind fun t404=>(if t404=true then ((table_Write.f k2 (l0.take ((Int.tmod (Go.bits .and .i64 a1 1023) (l0.length:Int)):Int).toNat)).bind fun bt410=>((table_Write.f k2 (l0.drop ((Int.tmod (Go.bits .and .i64 a1 1023) (l0.length:Int)):Int).toNat)).bind fun bt35=>((table_Write.f k2 y399).bind fun bt36=>(if (Int.tmod (Go.bits .and .i64 a1 1023) (l0.length:Int))=0 then (tollbarlaw09_TableTurns.j2 k2 l0 a2 (⟨#[]⟩:ByteArray) 0 bt35.1 bt35.2 bt36.1 bt36.2) else (tollbarlaw09_TableTurns.j2 k2 l0 a2 bt410.1 bt410.2 bt35.1 bt35.2 bt36.1 bt36.2))))) else (some true))))))) else (none)))) else (none))) else (none)) else (none))=some r:=by first|(rw [hy383];with_reducible exact H)|(have H2_:=(Option.bind_some _ _).symm.trans H;rw [hy383];with_reducible exact H2_)|(have H2_:=(Option.bind_some _ _).symm.trans H;with_reducible exact H2_)|with_reducible exact H|(rw [hy383];exact H)|exact H
     have Ny383:=Aside0.mk hy383
     clear hy383
     obtain ⟨ji19,hji19⟩ : ∃ j_:Int,(Int.tmod (Go.bits .and .i64 a1 1023) (l0.length:Int))=j_:=⟨_,rfl⟩
     replace H:(if 0 ≤ (ji19) then (if (ji19) ≤ (l0.length:Int) then ((some (l0.drop ((ji19):Int).toNat:List (S26))).bind fun y386=>(if y383.length + y386.length < 1599289640401 then ((some (y383 ++ y386:List (S26))).bind fun y391=>((some (l0.take ((ji19):Int).toNat:List (S26))).bind fun y394=>(if y391.length + y394.length < 1599289640401 then ((some (y391 ++ y394:List (S26))).bind fun y399=>((table_Right.f k2 y399).bind fun t402=>((table_Right.f k2 l0).bind fun t403=>(if (t402 != t403)=true then (some false) else ((table_Right.f k2 l0).bind fun t404=>(if t404=true then ((table_Write.f k2 (l0.take ((ji19):Int).toNat)).bind fun bt410=>((table_Write.f k2 (l0.drop ((ji19):Int).toNat)).bind fun bt35=>((table_Write.f k2 y399).bind fun bt36=>(if (ji19)=0 then (tollbarlaw09_TableTurns.j2 k2 l0 a2 (⟨#[]⟩:ByteArray) 0 bt35.1 bt35.2 bt36.1 bt36.2) else (tollbarlaw09_TableTurns.j2 k2 l0 a2 bt410.1 bt410.2 bt35.1 bt35.2 bt36.1 bt36.2))))) else (some true))))))) else (none)))) else (none))) else (none)) else (none))=some r:=by first|(rw [hji19] at H;exact H)|(simp only [hji19] at H ⊢;exact H)
     by_cases c20:0 ≤ (ji19)
     ·rw [if_pos c20] at H
      have c20b0:=eq_true c20
      have c20b1:=decide_eq_true c20
      clear c20
      by_cases c21:(ji19) ≤ (l0.length:Int)
      ·rw [if_pos c21] at H
       have c21b0:=eq_true c21
       have c21b1:=decide_eq_true c21
       clear c21
       obtain ⟨y386,hy386⟩ : ∃ y_:List (S26),y_=(l0.drop ((ji19):Int).toNat):=⟨_,rfl⟩
       replace H:(if y383.length + y386.length < 1599289640401 then ((some (y383 ++ y386:List (S26))).bind fun y391=>((some (l0.take ((ji19):Int).toNat:List (S26))).bind fun y394=>(if y391.length + y394.length < 1599289640401 then ((some (y391 ++ y394:List (S26))).bind fun y399=>((table_Right.f k2 y399).bind fun t402=>((table_Right.f k2 l0).bind fun t403=>(if (t402 != t403)=true then (some false) else ((table_Right.f k2 l0).bind fun t404=>(if t404=true then ((table_Write.f k2 (l0.take ((ji19):Int).toNat)).bind fun bt410=>((table_Write.f k2 (l0.drop ((ji19):Int).toNat)).bind fun bt35=>((table_Write.f k2 y399).bind fun bt36=>(if (ji19)=0 then (tollbarlaw09_TableTurns.j2 k2 l0 a2 (⟨#[]⟩:ByteArray) 0 bt35.1 bt35.2 bt36.1 bt36.2) else (tollbarlaw09_TableTurns.j2 k2 l0 a2 bt410.1 bt410.2 bt35.1 bt35.2 bt36.1 bt36.2))))) else (some true))))))) else (none)))) else (none))=some r:=by first|(rw [hy386];with_reducible exact H)|(have H2_:=(Option.bind_some _ _).symm.trans H;rw [hy386];with_reducible exact H2_)|(have H2_:=(Option.bind_some _ _).symm.trans H;with_reducible exact H2_)|with_reducible exact H|(rw [hy386];exact H)|exact H
       have Ny386:=Aside0.mk hy386
       clear hy386
       by_cases c22:y383.length + y386.length < 1599289640401;rotate_left
       ·rw [if_neg c22] at H
        exact absurd H (by simp)
       rw [if_pos c22] at H
       have LMc22:=Aside0.mk c22
       clear c22
       obtain ⟨y391,hy391⟩ : ∃ y_:List (S26),y_=(y383 ++ y386):=⟨_,rfl⟩
       replace H:((some (l0.take ((ji19):Int).toNat:List (S26))).bind fun y394=>(if y391.length + y394.length < 1599289640401 then ((some (y391 ++ y394:List (S26))).bind fun y399=>((table_Right.f k2 y399).bind fun t402=>((table_Right.f k2 l0).bind fun t403=>(if (t402 != t403)=true then (some false) else ((table_Right.f k2 l0).bind fun t404=>(if t404=true then ((table_Write.f k2 (l0.take ((ji19):Int).toNat)).bind fun bt410=>((table_Write.f k2 (l0.drop ((ji19):Int).toNat)).bind fun bt35=>((table_Write.f k2 y399).bind fun bt36=>(if (ji19)=0 then (tollbarlaw09_TableTurns.j2 k2 l0 a2 (⟨#[]⟩:ByteArray) 0 bt35.1 bt35.2 bt36.1 bt36.2) else (tollbarlaw09_TableTurns.j2 k2 l0 a2 bt410.1 bt410.2 bt35.1 bt35.2 bt36.1 bt36.2))))) else (some true))))))) else (none)))=some r:=by first|(rw [hy391];with_reducible exact H)|(have H2_:=(Option.bind_some _ _).symm.trans H;rw [hy391];with_reducible exact H2_)|(have H2_:=(Option.bind_some _ _).symm.trans H;with_reducible exact H2_)|with_reducible exact H|(rw [hy391];exact H)|exact H
       have Ny391:=Aside0.mk hy391
       clear hy391
       have c23b0:=eq_true (of_decide_eq_true (by first|(with_reducible assumption)|assumption):0 ≤ (ji19))
       have c24b0:=eq_true (of_decide_eq_true (by first|(with_reducible assumption)|assumption):(ji19) ≤ (l0.length:Int))
       obtain ⟨y394,hy394⟩ : ∃ y_:List (S26),y_=(l0.take ((ji19):Int).toNat):=⟨_,rfl⟩
       replace H:(if y391.length + y394.length < 1599289640401 then ((some (y391 ++ y394:List (S26))).bind fun y399=>((table_Right.f k2 y399).bind fun t402=>((table_Right.f k2 l0).bind fun t403=>(if (t402 != t403)=true then (some false) else ((table_Right.f k2 l0).bind fun t404=>(if t404=true then ((table_Write.f k2 (l0.take ((ji19):Int).toNat)).bind fun bt410=>((table_Write.f k2 (l0.drop ((ji19):Int).toNat)).bind fun bt35=>((table_Write.f k2 y399).bind fun bt36=>(if (ji19)=0 then (tollbarlaw09_TableTurns.j2 k2 l0 a2 (⟨#[]⟩:ByteArray) 0 bt35.1 bt35.2 bt36.1 bt36.2) else (tollbarlaw09_TableTurns.j2 k2 l0 a2 bt410.1 bt410.2 bt35.1 bt35.2 bt36.1 bt36.2))))) else (some true))))))) else (none))=some r:=by first|(rw [hy394];with_reducible exact H)|(have H2_:=(Option.bind_some _ _).symm.trans H;rw [hy394];with_reducible exact H2_)|(have H2_:=(Option.bind_some _ _).symm.trans H;with_reducible exact H2_)|with_reducible exact H|(rw [hy394];exact H)|exact H
       have Ny394:=Aside0.mk hy394
       clear hy394
       by_cases c25:y391.length + y394.length < 1599289640401
       ·rw [if_pos c25] at H
        have LMc25:=Aside0.mk c25
        clear c25
        obtain ⟨y399,hy399⟩ : ∃ y_:List (S26),y_=(y391 ++ y394):=⟨_,rfl⟩
        replace H:((table_Right.f k2 y399).bind fun t402=>((table_Right.f k2 l0).bind fun t403=>(if (t402 != t403)=true then (some false) else ((table_Right.f k2 l0).bind fun t404=>(if t404=true then ((table_Write.f k2 (l0.take ((ji19):Int).toNat)).bind fun bt410=>((table_Write.f k2 (l0.drop ((ji19):Int).toNat)).bind fun bt35=>((table_Write.f k2 y399).bind fun bt36=>(if (ji19)=0 then (tollbarlaw09_TableTurns.j2 k2 l0 a2 (⟨#[]⟩:ByteArray) 0 bt35.1 bt35.2 bt36.1 bt36.2) else (tollbarlaw09_TableTurns.j2 k2 l0 a2 bt410.1 bt410.2 bt35.1 bt35.2 bt36.1 bt36.2))))) else (some true))))))=some r:=by first|(rw [hy399];with_reducible exact H)|(have H2_:=(Option.bind_some _ _).symm.trans H;rw [hy399];with_reducible exact H2_)|(have H2_:=(Option.bind_some _ _).symm.trans H;with_reducible exact H2_)|with_reducible exact H|(rw [hy399];exact H)|exact H
        have Ny399:=Aside0.mk hy399
        clear hy399
        replace H:=Option.bind_eq_some_iff.mp H
        obtain ⟨t402,A260,H⟩:=H
        try dsimp only at H
        have A26:=Aside0.mk A260
        clear A260
        replace H:=Option.bind_eq_some_iff.mp H
        obtain ⟨t403,A270,H⟩:=H
        try dsimp only at H
        have A27:=Aside0.mk A270
        clear A270
        by_cases c28:(t402 != t403)=true
        ·rw [if_pos c28] at H
         have c28b0:(t402 != t403)=true:=c28
         (try (have c28b1:decide (t402=t403)=false:=by simpa using c28))
         (try (have c28b2:(t402 == t403)=false:=by simpa using c28))
         (try (have c28b3 : ¬ (t402=t403):=by simpa using c28))
         clear c28
         exact absurd ((Option.some.inj H).trans HRT.out) (by decide)
        rw [if_neg c28] at H
        have c28b0:(t402 != t403)=false:=by simpa using c28
        (try (have c28b1:decide (t402=t403)=true:=by simpa using c28))
        (try (have c28b2:(t402 == t403)=true:=by simpa using c28))
        clear c28
        replace H:=Option.bind_eq_some_iff.mp H
        obtain ⟨t404,A390,H⟩:=H
        try dsimp only at H
        have A39:=Aside0.mk A390
        clear A390
        by_cases c40:t404=true;rotate_left
        ·replace c40:=Bool.eq_false_iff.mpr c40
         subst c40
         rw [if_neg (show ¬ (false=true) by decide)] at H
         obtain rfl:=Option.some.inj H
         try go_wp2
         replace HO_0:=Aside0.mk (Kd.V_drew HO_0.out)
         replace HO_29:=Aside0.mk (Kd.V_drew HO_29.out)
         replace HB:=Aside0.mk (below_drew1 HB.out)
         have q119:((ji19):Int) ≤ ((l0.length:Int):Int):=of_decide_eq_true (by first|(with_reducible assumption)|assumption)
         obtain ⟨i0119,hi0119,_,hsz119,_⟩:=info_parts info26
         have hroom119:l0.length ≤ c0:=(Kd.V_reads' HO_0.out).2.1
         have hC119:Kd.F k26 _ _ A0 l0.length l0:=(Kd.V_at (base:=w.heap.size) HO_0.out).2.2
         have q0119:(0:Int) ≤ ((ji19):Int):=of_decide_eq_true (by first|(with_reducible assumption)|assumption)
         have hcut119:=cut_from (P:=Tryd.prog) 22 26 .i64 Tryd.underlying22 hi0119 8 hsz119 A0 l0.length c0 (ji19) q0119 q119
         have hr119:=Kd.F_cut (m:=((ji19):Int).toNat) (c:=c0) hC119 (by omega) hroom119
         obtain ⟨A119,hA119⟩ : ∃ A1,A1=(if c0=((ji19):Int).toNat then A0 else (A0:Option Addr).map (·.add (((ji19):Int).toNat * 8))):=⟨_,rfl⟩
         obtain ⟨c119,hc119⟩ : ∃ c1,c1=c0 - ((ji19):Int).toNat:=⟨_,rfl⟩
         have hy119:y386.length=l0.length - ((ji19):Int).toNat:=(by rw [Ny386.out,List.length_drop] <;> omega)
         rw [show (l0).drop ((ji19):Int).toNat=y386 from Ny386.out.symm] at hr119
         replace hr119:Kd.F k26 _ _ A119 y386.length y386:=(by rw [hA119];exact hr119)
         rw [← hy119,← hA119,← hc119] at hcut119
         have HO390:=Aside0.mk (show Kd.V k26 26 _ w.heap.size _ (.slice A119 y386.length c119) y386 from Kd.V_mk (by rw [hy119,hc119];exact Nat.sub_le_sub_right hroom119 _) hr119)
         have HC390:=Aside0.mk (show y386.length ≤ c119 from by rw [hy119,hc119];exact Nat.sub_le_sub_right hroom119 _)
         clear hr119 hC119 hroom119 hi0119 hsz119 hc119
         have KY119:=Aside0.mk hy119
         have KA119:=Aside0.mk hA119
         clear hy119 hA119
         replace q119:=eq_true q119
         have q120:((ji19):Int) ≤ ((l0.length:Int):Int):=of_decide_eq_true (by first|(with_reducible assumption)|assumption)
         obtain ⟨i0120,hi0120,_,hsz120,_⟩:=info_parts info26
         have hroom120:l0.length ≤ c0:=(Kd.V_reads' HO_0.out).2.1
         have hC120:Kd.F k26 _ _ A0 l0.length l0:=(Kd.V_at (base:=w.heap.size) HO_0.out).2.2
         have hcut120:=cut_to (P:=Tryd.prog) 22 26 .i64 Tryd.underlying22 hi0120 A0 l0.length c0 (ji19) (of_decide_eq_true (by first|(with_reducible assumption)|assumption)) q120 hroom120
         have hr120:=Kd.F_take (m:=((ji19):Int).toNat) hC120 (by omega)
         have hy120:y394.length=((ji19):Int).toNat:=(by rw [Ny394.out,List.length_take];omega)
         rw [← Ny394.out] at hr120
         rw [← hy120] at hcut120
         have HO398:=Aside0.mk (show Kd.V k26 26 _ w.heap.size _ (.slice A0 y394.length c0) y394 from Kd.V_mk (by omega) hr120)
         have HC398:=Aside0.mk (show y394.length ≤ c0 from by omega)
         clear hr120 hC120 hroom120 hi0120 hsz120
         have KY120:=Aside0.mk hy120
         clear hy120
         replace q120:=eq_true q120
         refine start_ (n:=10) (S:=fun w' => True) (ds:=[]) (zl 10 0) (by kernel_rfl) rfl rfl trivial (fun hHeld=>?_);refine with_tabW tollbarlaw09_TableTurns.tab12 tollbarlaw09_TableTurns.bits12 (fun HT_ HW_=>?_)
         generalize wr.drew=w118 at HO_0 HO_29 HB HO390 HO398 hHeld ⊢
         refine zpu 1 (N:=some 46) (zl 10 2) HT_.out rfl rfl ?_
         refine zpu 2 (N:=some 47) (zl 10 6) HT_.out rfl rfl ?_
         refine zpu 3 (N:=some 48) (zl 10 14) HT_.out rfl rfl ?_
         refine zpu 5 (N:=some 50) (zl 10 46) HT_.out rfl rfl ?_
         refine zpu 6 (N:=some 51) (zl 10 110) HT_.out rfl rfl ?_
         refine zpu 7 (N:=some 52) (zl 10 238) HT_.out rfl rfl ?_
         refine one_ (i:=0) (N:=some 45) (zl 10 239) rfl rfl (one_of HT_.out (by kernel_rfl)) (by decide) (fun K hK=>?_)
         refine Kd.N_lit_step k26 _ 26 ?hg (N' := 45) ?hd (xs:=([]:List (S26))) (inner:=[]) (ok:=(fun k_=>(P0_ k_ ∨ w.heap.size ≤ k_))) (okp:=(fun k_=>(P0_ k_ ∨ w.heap.size ≤ k_))) ?hr ?hp (fun _ hk=>hk) ((show ∀ k_,w118.heap.size ≤ k_ → (fun k_=>(P0_ k_ ∨ w.heap.size ≤ k_)) k_ from fun k_ hk=>(.inr (Nat.le_trans (below_size (by repeat (first|(with_reducible first|exact HB.out|apply below_alloc|apply pw_below_drewN|apply below_drew1)|exact HB.out))) hk))) _ (Nat.le_refl _)) (Below.refl _ _) (Nat.le_refl _) (by simp) ?_;(case hd=>rfl);(case hg=>rfl);(case hr=>first|(go_simp;done)|(go_simp;rfl));(case hp=>exact (Reps.none _ _))
         intro v384 w121 ho122 hb hg_ hnew_
         clear hg_ hnew_
         (first|rw [← Ny383.out] at ho122|(simp only [Int.reduceToNat] at ho122;rw [← Ny383.out] at ho122))
         have n0_:=Aside0.mk (Kd.V_elder' (by (with_reducible repeat (first|apply Kd.V_alloc|apply Kd.V_drewN|apply Kd.V_drew));exact HO_0.out) (Kd.N_base ho122) hb)
         have n1_:=Aside0.mk (Kd.V_elder' (by (with_reducible repeat (first|apply Kd.V_alloc|apply Kd.V_drewN|apply Kd.V_drew));exact HO_29.out) (Kd.N_base ho122) hb)
         have n2_:=Aside0.mk (Kd.V_elder' (by (with_reducible repeat (first|apply Kd.V_alloc|apply Kd.V_drewN|apply Kd.V_drew));exact HO390.out) (Kd.N_base ho122) hb)
         have n3_:=Aside0.mk (Kd.V_elder' (by (with_reducible repeat (first|apply Kd.V_alloc|apply Kd.V_drewN|apply Kd.V_drew));exact HO398.out) (Kd.N_base ho122) hb)
         have n4_:=Aside0.mk (Kd.N_lower ho122 (below_size (by repeat (first|(with_reducible first|exact HB.out|apply below_alloc|apply pw_below_drewN|apply below_drew1)|exact HB.out))))
         have n5_:=Aside0.mk (below_step (by repeat (first|(with_reducible first|exact HB.out|apply below_alloc|apply pw_below_drewN|apply below_drew1)|exact HB.out)) hb)
         clear HO_0 HO_29 HO390 HO398 HB
         have HO_0:=n0_
         have HO_29:=n1_
         have HO390:=n2_
         have HO398:=n3_
         have HO385:=n4_
         have HB:=n5_
         clear n0_ n1_ n2_ n3_ n4_ n5_ hb ho122
         refine hK.out _ _ trivial (fun hHeld=>?_)
         clear hK K
         refine norm_ (a' := ?_) ?_ ?_
         rotate_left
         ·show Act.put _ (some 45) _=_
          simp only [Act.put,zqA,zqB,zqC,i64_w,i32_w]
          rfl
         refine one_ (i:=4) (N:=some 49) (zl 10 255) rfl rfl (one_of HT_.out (by kernel_rfl)) (by decide) (fun K hK=>?_)
         refine Kd.N_append_rows_step k26 (w0:=w) w.heap.size (by rfl) (.tmp 45) (.tmp 48) 22 26 (.agg #[(.string ⟨#[]⟩),(.slice none 0 0),(.int .i64 0),(.int .i64 0),(.int .i64 0),(.int .i64 0),(.int .i64 0),(.int .i64 0)]) 88 rfl Tryd.underlying22 info26 rfl (by decide) (by omega) v384 y383 y386 _ _ _ (fun k_=>(P0_ k_ ∨ w.heap.size ≤ k_)) (fun k_=>((fun k_=>(P0_ k_ ∨ w.heap.size ≤ k_))) k_∧some k_ ≠ (v384:Value).ownBlock) rfl rfl ?aO ?aR (fun _ hk=>hk) ?aF ?aB ?aS ?aL ?_
         (case aR=>exact (by skip;exact Kd.V_F (Kd.V_mono (ok' := (fun k_=>((fun k_=>(P0_ k_ ∨ w.heap.size ≤ k_))) k_∧some k_ ≠ (v384:Value).ownBlock)) (HO390.out) (fun k_ hk=>⟨hk.1,hk.2⟩))))
         (case aB=>exact (by repeat (first|(with_reducible first|exact HB.out|apply below_alloc|apply pw_below_drewN|apply below_drew1)|exact HB.out)))
         (case aF=>exact (fun k_ hk=>(.inr (Nat.le_trans (below_size (by repeat (first|(with_reducible first|exact HB.out|apply below_alloc|apply pw_below_drewN|apply below_drew1)|exact HB.out))) hk))))
         (case aO=>exact (by (with_reducible repeat (first|apply Kd.N_alloc|apply Kd.N_drewN|apply Kd.N_drew));exact HO385.out))
         (case aS=>exact (below_size (by repeat (first|(with_reducible first|exact HB.out|apply below_alloc|apply pw_below_drewN|apply below_drew1)|exact HB.out))))
         (case aL=>have:=LMc22.out;omega)
         intro v392 w123 ho hb hg hat
         rw [← Ny391.out] at ho
         have n0_:=Aside0.mk (Kd.V_afterv (ok:=(fun k_=>(P0_ k_ ∨ w.heap.size ≤ k_))) (by (with_reducible repeat (first|apply Kd.V_alloc|apply Kd.V_drewN|apply Kd.V_drew));exact HO_0.out) hg hat)
         have n1_:=Aside0.mk (Kd.V_afterv (ok:=(fun k_=>(P0_ k_ ∨ w.heap.size ≤ k_))) (by (with_reducible repeat (first|apply Kd.V_alloc|apply Kd.V_drewN|apply Kd.V_drew));exact HO_29.out) hg hat)
         have n2_:=Aside0.mk (Kd.V_afterv (ok:=(fun k_=>(P0_ k_ ∨ w.heap.size ≤ k_))) (by (with_reducible repeat (first|apply Kd.V_alloc|apply Kd.V_drewN|apply Kd.V_drew));exact HO390.out) hg hat)
         have n3_:=Aside0.mk (Kd.V_afterv (ok:=(fun k_=>(P0_ k_ ∨ w.heap.size ≤ k_))) (by (with_reducible repeat (first|apply Kd.V_alloc|apply Kd.V_drewN|apply Kd.V_drew));exact HO398.out) hg hat)
         have n4_:=Aside0.mk (hb)
         have n5_:=Aside0.mk (ho)
         clear HO_0 HO_29 HO390 HO398 HB HO385
         have HO_0:=n0_
         have HO_29:=n1_
         have HO390:=n2_
         have HO398:=n3_
         have HB:=n4_
         have HO393:=n5_
         clear n0_ n1_ n2_ n3_ n4_ n5_ ho hb hg hat
         refine hK.out _ _ trivial (fun hHeld=>?_)
         clear hK K
         refine norm_ (a' := ?_) ?_ ?_
         rotate_left
         ·show Act.put _ (some 49) _=_
          simp only [Act.put,zqA,zqB,zqC,i64_w,i32_w]
          rfl
         refine one_ (i:=8) (N:=some 53) (zl 10 511) rfl rfl (one_of HT_.out (by kernel_rfl)) (by decide) (fun K hK=>?_)
         refine Kd.N_append_rows_step k26 (w0:=w) w.heap.size (by rfl) (.tmp 49) (.tmp 52) 22 26 (.agg #[(.string ⟨#[]⟩),(.slice none 0 0),(.int .i64 0),(.int .i64 0),(.int .i64 0),(.int .i64 0),(.int .i64 0),(.int .i64 0)]) 88 rfl Tryd.underlying22 info26 rfl (by decide) (by omega) v392 y391 y394 _ _ _ (fun k_=>(P0_ k_ ∨ w.heap.size ≤ k_)) (fun k_=>((fun k_=>(P0_ k_ ∨ w.heap.size ≤ k_))) k_∧some k_ ≠ (v392:Value).ownBlock) rfl rfl ?aO ?aR (fun _ hk=>hk) ?aF ?aB ?aS ?aL ?_
         (case aR=>exact (by skip;exact Kd.V_F (Kd.V_mono (ok' := (fun k_=>((fun k_=>(P0_ k_ ∨ w.heap.size ≤ k_))) k_∧some k_ ≠ (v392:Value).ownBlock)) (HO398.out) (fun k_ hk=>⟨hk.1,hk.2⟩))))
         (case aB=>exact (by repeat (first|(with_reducible first|exact HB.out|apply below_alloc|apply pw_below_drewN|apply below_drew1)|exact HB.out)))
         (case aF=>exact (fun k_ hk=>(.inr (Nat.le_trans (below_size (by repeat (first|(with_reducible first|exact HB.out|apply below_alloc|apply pw_below_drewN|apply below_drew1)|exact HB.out))) hk))))
         (case aO=>exact (by (with_reducible repeat (first|apply Kd.N_alloc|apply Kd.N_drewN|apply Kd.N_drew));exact HO393.out))
         (case aS=>exact (below_size (by repeat (first|(with_reducible first|exact HB.out|apply below_alloc|apply pw_below_drewN|apply below_drew1)|exact HB.out))))
         (case aL=>have:=LMc25.out;omega)
         intro v400 w124 ho hb hg hat
         rw [← Ny399.out] at ho
         have n0_:=Aside0.mk (Kd.V_afterv (ok:=(fun k_=>(P0_ k_ ∨ w.heap.size ≤ k_))) (by (with_reducible repeat (first|apply Kd.V_alloc|apply Kd.V_drewN|apply Kd.V_drew));exact HO_0.out) hg hat)
         have n1_:=Aside0.mk (Kd.V_afterv (ok:=(fun k_=>(P0_ k_ ∨ w.heap.size ≤ k_))) (by (with_reducible repeat (first|apply Kd.V_alloc|apply Kd.V_drewN|apply Kd.V_drew));exact HO_29.out) hg hat)
         have n2_:=Aside0.mk (Kd.V_afterv (ok:=(fun k_=>(P0_ k_ ∨ w.heap.size ≤ k_))) (by (with_reducible repeat (first|apply Kd.V_alloc|apply Kd.V_drewN|apply Kd.V_drew));exact HO390.out) hg hat)
         have n3_:=Aside0.mk (Kd.V_afterv (ok:=(fun k_=>(P0_ k_ ∨ w.heap.size ≤ k_))) (by (with_reducible repeat (first|apply Kd.V_alloc|apply Kd.V_drewN|apply Kd.V_drew));exact HO398.out) hg hat)
         have n4_:=Aside0.mk (hb)
         have n5_:=Aside0.mk (ho)
         clear HO_0 HO_29 HO390 HO398 HB HO393
         have HO_0:=n0_
         have HO_29:=n1_
         have HO390:=n2_
         have HO398:=n3_
         have HB:=n4_
         have HO401:=n5_
         clear n0_ n1_ n2_ n3_ n4_ n5_ ho hb hg hat
         refine hK.out _ _ trivial (fun hHeld=>?_)
         clear hK K
         refine norm_ (a' := ?_) ?_ ?_
         rotate_left
         ·show Act.put _ (some 53) _=_
          simp only [Act.put,zqA,zqB,zqC,i64_w,i32_w]
          rfl
         refine zpu 9 (N:=some 10) (zl 10 1023) HT_.out rfl rfl ?_
         refine done_ (done_of HT_.out (by kernel_rfl)) ?_
         obtain ⟨Ao125,co125,eo125⟩:=Kd.N_slice HO401.out
         subst eo125
         try go_wp2_with (first|((with_reducible refine gate_callee (f:=9) rfl ?_);refine goesL_ (some 55) rfl rfl Tryd.func9 (by kernel_rfl) rfl #[.slice Ao125 y399.length co125] rfl (by (try simp only [List.map_toArray,List.map_cons,List.map_nil]);first|done|rfl|(simp only [List.length_drop,List.length_take];rfl)) ?_;(with_reducible refine (table_Right.calls k2 _ _ y399 t402 _ ?side1 ?side2 A26.out).mono ?_);(case side1=>repeat (first|exact (Kd.N_reads' HO401.out).2.2|(with_reducible refine Kd.C_alloc ?_ _)|(with_reducible refine Kd.C_drewN ?_ _)|(with_reducible refine Kd.C_drew ?_)));(case side2=>exact (Kd.N_reads' HO401.out).2.1);rintro e w126 ⟨rfl,hb⟩;(try clear A26);refine ⟨_,rfl,?_⟩;replace HO_0:=Aside0.mk (Kd.V_below (by (with_reducible repeat (first|apply Kd.V_alloc|apply Kd.V_drewN|apply Kd.V_drew));exact HO_0.out) hb);replace HO_29:=Aside0.mk (Kd.V_below (by (with_reducible repeat (first|apply Kd.V_alloc|apply Kd.V_drewN|apply Kd.V_drew));exact HO_29.out) hb);replace HO390:=Aside0.mk (Kd.V_below (by (with_reducible repeat (first|apply Kd.V_alloc|apply Kd.V_drewN|apply Kd.V_drew));exact HO390.out) hb);replace HO398:=Aside0.mk (Kd.V_below (by (with_reducible repeat (first|apply Kd.V_alloc|apply Kd.V_drewN|apply Kd.V_drew));exact HO398.out) hb);replace HO401:=Aside0.mk (Kd.N_below (by (with_reducible repeat (first|apply Kd.N_alloc|apply Kd.N_drewN|apply Kd.N_drew));exact HO401.out) hb);replace HB:=Aside0.mk (below_step (by repeat (first|(with_reducible first|exact HB.out|apply below_alloc|apply pw_below_drewN|apply below_drew1)|exact HB.out)) hb);(try clear hb))|((with_reducible refine gate_callee (f:=9) rfl ?_);refine goesL_ (some 57) rfl rfl Tryd.func9 (by kernel_rfl) rfl #[.slice A0 l0.length c0] rfl (by (try simp only [List.map_toArray,List.map_cons,List.map_nil]);first|done|rfl|(simp only [List.length_drop,List.length_take];rfl)) ?_;(with_reducible refine (table_Right.calls k2 _ _ l0 t403 _ ?side1 ?side2 A27.out).mono ?_);(case side1=>repeat (first|exact (Kd.V_reads' HO_0.out).2.2|(with_reducible refine Kd.C_alloc ?_ _)|(with_reducible refine Kd.C_drewN ?_ _)|(with_reducible refine Kd.C_drew ?_)));(case side2=>exact (Kd.V_reads' HO_0.out).2.1);rintro e w127 ⟨rfl,hb⟩;(try clear A27);refine ⟨_,rfl,?_⟩;replace HO_0:=Aside0.mk (Kd.V_below (by (with_reducible repeat (first|apply Kd.V_alloc|apply Kd.V_drewN|apply Kd.V_drew));exact HO_0.out) hb);replace HO_29:=Aside0.mk (Kd.V_below (by (with_reducible repeat (first|apply Kd.V_alloc|apply Kd.V_drewN|apply Kd.V_drew));exact HO_29.out) hb);replace HO390:=Aside0.mk (Kd.V_below (by (with_reducible repeat (first|apply Kd.V_alloc|apply Kd.V_drewN|apply Kd.V_drew));exact HO390.out) hb);replace HO398:=Aside0.mk (Kd.V_below (by (with_reducible repeat (first|apply Kd.V_alloc|apply Kd.V_drewN|apply Kd.V_drew));exact HO398.out) hb);replace HO401:=Aside0.mk (Kd.N_below (by (with_reducible repeat (first|apply Kd.N_alloc|apply Kd.N_drewN|apply Kd.N_drew));exact HO401.out) hb);replace HB:=Aside0.mk (below_step (by repeat (first|(with_reducible first|exact HB.out|apply below_alloc|apply pw_below_drewN|apply below_drew1)|exact HB.out)) hb);(try clear hb))|((with_reducible refine gate_callee (f:=9) rfl ?_);refine goesL_ (some 60) rfl rfl Tryd.func9 (by kernel_rfl) rfl #[.slice A0 l0.length c0] rfl (by (try simp only [List.map_toArray,List.map_cons,List.map_nil]);first|done|rfl|(simp only [List.length_drop,List.length_take];rfl)) ?_;(with_reducible refine (table_Right.calls k2 _ _ l0 false _ ?side1 ?side2 A39.out).mono ?_);(case side1=>repeat (first|exact (Kd.V_reads' HO_0.out).2.2|(with_reducible refine Kd.C_alloc ?_ _)|(with_reducible refine Kd.C_drewN ?_ _)|(with_reducible refine Kd.C_drew ?_)));(case side2=>exact (Kd.V_reads' HO_0.out).2.1);rintro e w128 ⟨rfl,hb⟩;(try clear A39);refine ⟨_,rfl,?_⟩;replace HO_0:=Aside0.mk (Kd.V_below (by (with_reducible repeat (first|apply Kd.V_alloc|apply Kd.V_drewN|apply Kd.V_drew));exact HO_0.out) hb);replace HO_29:=Aside0.mk (Kd.V_below (by (with_reducible repeat (first|apply Kd.V_alloc|apply Kd.V_drewN|apply Kd.V_drew));exact HO_29.out) hb);replace HO390:=Aside0.mk (Kd.V_below (by (with_reducible repeat (first|apply Kd.V_alloc|apply Kd.V_drewN|apply Kd.V_drew));exact HO390.out) hb);replace HO398:=Aside0.mk (Kd.V_below (by (with_reducible repeat (first|apply Kd.V_alloc|apply Kd.V_drewN|apply Kd.V_drew));exact HO398.out) hb);replace HO401:=Aside0.mk (Kd.N_below (by (with_reducible repeat (first|apply Kd.N_alloc|apply Kd.N_drewN|apply Kd.N_drew));exact HO401.out) hb);replace HB:=Aside0.mk (below_step (by repeat (first|(with_reducible first|exact HB.out|apply below_alloc|apply pw_below_drewN|apply below_drew1)|exact HB.out)) hb);(try clear hb)))
         go_ret
         exact ⟨by first|rfl|(simp [errW_none,errW_some] <;> rfl)|(simp only [← hji19];first|rfl|(simp [errW_none,errW_some] <;> rfl))|(simp [*,errW_none,errW_some] <;> rfl),by repeat (first|(with_reducible first|exact HB.out|apply below_alloc|apply pw_below_drewN|apply below_drew1)|exact HB.out)⟩
        subst c40
        rw [if_pos rfl] at H
        have c41b0:=eq_true (of_decide_eq_true (by first|(with_reducible assumption)|assumption):0 ≤ (ji19))
        have c42b0:=eq_true (of_decide_eq_true (by first|(with_reducible assumption)|assumption):(ji19) ≤ (l0.length:Int))
        obtain ⟨y405,hy405⟩ : ∃ y_:List (S26),y_=(l0.take ((ji19):Int).toNat):=⟨_,rfl⟩
        replace H:((table_Write.f k2 y405).bind fun bt410=>((table_Write.f k2 (l0.drop ((ji19):Int).toNat)).bind fun bt35=>((table_Write.f k2 y399).bind fun bt36=>(if (ji19)=0 then (tollbarlaw09_TableTurns.j2 k2 l0 a2 (⟨#[]⟩:ByteArray) 0 bt35.1 bt35.2 bt36.1 bt36.2) else (tollbarlaw09_TableTurns.j2 k2 l0 a2 bt410.1 bt410.2 bt35.1 bt35.2 bt36.1 bt36.2)))))=some r:=by first|(rw [hy405];with_reducible exact H)|(have H2_:=(Option.bind_some _ _).symm.trans H;rw [hy405];with_reducible exact H2_)|(have H2_:=(Option.bind_some _ _).symm.trans H;with_reducible exact H2_)|with_reducible exact H|(rw [hy405];exact H)|exact H
        have Ny405:=Aside0.mk hy405
        clear hy405
        replace H:=Option.bind_eq_some_iff.mp H
        obtain ⟨⟨t410,t411⟩,A430,H⟩:=H
        try dsimp only at H
        have A43:=Aside0.mk A430
        clear A430
        have c44b0:=eq_true (of_decide_eq_true (by first|(with_reducible assumption)|assumption):0 ≤ (ji19))
        have c45b0:=eq_true (of_decide_eq_true (by first|(with_reducible assumption)|assumption):(ji19) ≤ (l0.length:Int))
        obtain ⟨y412,hy412⟩ : ∃ y_:List (S26),y_=(l0.drop ((ji19):Int).toNat):=⟨_,rfl⟩
        replace H:((table_Write.f k2 y412).bind fun bt35=>((table_Write.f k2 y399).bind fun bt36=>(if (ji19)=0 then (tollbarlaw09_TableTurns.j2 k2 l0 a2 (⟨#[]⟩:ByteArray) 0 bt35.1 bt35.2 bt36.1 bt36.2) else (tollbarlaw09_TableTurns.j2 k2 l0 a2 t410 t411 bt35.1 bt35.2 bt36.1 bt36.2))))=some r:=by first|(rw [hy412];with_reducible exact H)|(have H2_:=(Option.bind_some _ _).symm.trans H;rw [hy412];with_reducible exact H2_)|(have H2_:=(Option.bind_some _ _).symm.trans H;with_reducible exact H2_)|with_reducible exact H|(rw [hy412];exact H)|exact H
        have Ny412:=Aside0.mk hy412
        clear hy412
        replace H:=Option.bind_eq_some_iff.mp H
        obtain ⟨⟨t35,t418⟩,A460,H⟩:=H
        try dsimp only at H
        have A46:=Aside0.mk A460
        clear A460
        replace H:=Option.bind_eq_some_iff.mp H
        obtain ⟨⟨t36,t420⟩,A470,H⟩:=H
        try dsimp only at H
        have A47:=Aside0.mk A470
        clear A470
        have HC48:=Aside0.mk H
        clear H
        try go_wp2
        replace HO_0:=Aside0.mk (Kd.V_drew HO_0.out)
        replace HO_29:=Aside0.mk (Kd.V_drew HO_29.out)
        replace HB:=Aside0.mk (below_drew1 HB.out)
        have q50:((ji19):Int) ≤ ((l0.length:Int):Int):=of_decide_eq_true (by first|(with_reducible assumption)|assumption)
        obtain ⟨i050,hi050,_,hsz50,_⟩:=info_parts info26
        have hroom50:l0.length ≤ c0:=(Kd.V_reads' HO_0.out).2.1
        have hC50:Kd.F k26 _ _ A0 l0.length l0:=(Kd.V_at (base:=w.heap.size) HO_0.out).2.2
        have q050:(0:Int) ≤ ((ji19):Int):=of_decide_eq_true (by first|(with_reducible assumption)|assumption)
        have hcut50:=cut_from (P:=Tryd.prog) 22 26 .i64 Tryd.underlying22 hi050 8 hsz50 A0 l0.length c0 (ji19) q050 q50
        have hr50:=Kd.F_cut (m:=((ji19):Int).toNat) (c:=c0) hC50 (by omega) hroom50
        obtain ⟨A50,hA50⟩ : ∃ A1,A1=(if c0=((ji19):Int).toNat then A0 else (A0:Option Addr).map (·.add (((ji19):Int).toNat * 8))):=⟨_,rfl⟩
        obtain ⟨c50,hc50⟩ : ∃ c1,c1=c0 - ((ji19):Int).toNat:=⟨_,rfl⟩
        have hy50:y386.length=l0.length - ((ji19):Int).toNat:=(by rw [Ny386.out,List.length_drop] <;> omega)
        rw [show (l0).drop ((ji19):Int).toNat=y386 from Ny386.out.symm] at hr50
        replace hr50:Kd.F k26 _ _ A50 y386.length y386:=(by rw [hA50];exact hr50)
        rw [← hy50,← hA50,← hc50] at hcut50
        have HO390:=Aside0.mk (show Kd.V k26 26 _ w.heap.size _ (.slice A50 y386.length c50) y386 from Kd.V_mk (by rw [hy50,hc50];exact Nat.sub_le_sub_right hroom50 _) hr50)
        have HC390:=Aside0.mk (show y386.length ≤ c50 from by rw [hy50,hc50];exact Nat.sub_le_sub_right hroom50 _)
        clear hr50 hC50 hroom50 hi050 hsz50 hc50
        have KY50:=Aside0.mk hy50
        have KA50:=Aside0.mk hA50
        clear hy50 hA50
        replace q50:=eq_true q50
        have q51:((ji19):Int) ≤ ((l0.length:Int):Int):=of_decide_eq_true (by first|(with_reducible assumption)|assumption)
        obtain ⟨i051,hi051,_,hsz51,_⟩:=info_parts info26
        have hroom51:l0.length ≤ c0:=(Kd.V_reads' HO_0.out).2.1
        have hC51:Kd.F k26 _ _ A0 l0.length l0:=(Kd.V_at (base:=w.heap.size) HO_0.out).2.2
        have hcut51:=cut_to (P:=Tryd.prog) 22 26 .i64 Tryd.underlying22 hi051 A0 l0.length c0 (ji19) (of_decide_eq_true (by first|(with_reducible assumption)|assumption)) q51 hroom51
        have hr51:=Kd.F_take (m:=((ji19):Int).toNat) hC51 (by omega)
        have hy51:y394.length=((ji19):Int).toNat:=(by rw [Ny394.out,List.length_take];omega)
        rw [← Ny394.out] at hr51
        rw [← hy51] at hcut51
        have HO398:=Aside0.mk (show Kd.V k26 26 _ w.heap.size _ (.slice A0 y394.length c0) y394 from Kd.V_mk (by omega) hr51)
        have HC398:=Aside0.mk (show y394.length ≤ c0 from by omega)
        clear hr51 hC51 hroom51 hi051 hsz51
        have KY51:=Aside0.mk hy51
        clear hy51
        replace q51:=eq_true q51
        refine start_ (n:=10) (S:=fun w' => True) (ds:=[]) (zl 10 0) (by kernel_rfl) rfl rfl trivial (fun hHeld=>?_);refine with_tabW tollbarlaw09_TableTurns.tab12 tollbarlaw09_TableTurns.bits12 (fun HT_ HW_=>?_)
        generalize wr.drew=w49 at HO_0 HO_29 HB HO390 HO398 hHeld ⊢
        refine zpu 1 (N:=some 46) (zl 10 2) HT_.out rfl rfl ?_
        refine zpu 2 (N:=some 47) (zl 10 6) HT_.out rfl rfl ?_
        refine zpu 3 (N:=some 48) (zl 10 14) HT_.out rfl rfl ?_
        refine zpu 5 (N:=some 50) (zl 10 46) HT_.out rfl rfl ?_
        refine zpu 6 (N:=some 51) (zl 10 110) HT_.out rfl rfl ?_
        refine zpu 7 (N:=some 52) (zl 10 238) HT_.out rfl rfl ?_
        refine one_ (i:=0) (N:=some 45) (zl 10 239) rfl rfl (one_of HT_.out (by kernel_rfl)) (by decide) (fun K hK=>?_)
        refine Kd.N_lit_step k26 _ 26 ?hg (N' := 45) ?hd (xs:=([]:List (S26))) (inner:=[]) (ok:=(fun k_=>(P0_ k_ ∨ w.heap.size ≤ k_))) (okp:=(fun k_=>(P0_ k_ ∨ w.heap.size ≤ k_))) ?hr ?hp (fun _ hk=>hk) ((show ∀ k_,w49.heap.size ≤ k_ → (fun k_=>(P0_ k_ ∨ w.heap.size ≤ k_)) k_ from fun k_ hk=>(.inr (Nat.le_trans (below_size (by repeat (first|(with_reducible first|exact HB.out|apply below_alloc|apply pw_below_drewN|apply below_drew1)|exact HB.out))) hk))) _ (Nat.le_refl _)) (Below.refl _ _) (Nat.le_refl _) (by simp) ?_;(case hd=>rfl);(case hg=>rfl);(case hr=>first|(go_simp;done)|(go_simp;rfl));(case hp=>exact (Reps.none _ _))
        intro v384 w52 ho53 hb hg_ hnew_
        clear hg_ hnew_
        (first|rw [← Ny383.out] at ho53|(simp only [Int.reduceToNat] at ho53;rw [← Ny383.out] at ho53))
        have n0_:=Aside0.mk (Kd.V_elder' (by (with_reducible repeat (first|apply Kd.V_alloc|apply Kd.V_drewN|apply Kd.V_drew));exact HO_0.out) (Kd.N_base ho53) hb)
        have n1_:=Aside0.mk (Kd.V_elder' (by (with_reducible repeat (first|apply Kd.V_alloc|apply Kd.V_drewN|apply Kd.V_drew));exact HO_29.out) (Kd.N_base ho53) hb)
        have n2_:=Aside0.mk (Kd.V_elder' (by (with_reducible repeat (first|apply Kd.V_alloc|apply Kd.V_drewN|apply Kd.V_drew));exact HO390.out) (Kd.N_base ho53) hb)
        have n3_:=Aside0.mk (Kd.V_elder' (by (with_reducible repeat (first|apply Kd.V_alloc|apply Kd.V_drewN|apply Kd.V_drew));exact HO398.out) (Kd.N_base ho53) hb)
        have n4_:=Aside0.mk (Kd.N_lower ho53 (below_size (by repeat (first|(with_reducible first|exact HB.out|apply below_alloc|apply pw_below_drewN|apply below_drew1)|exact HB.out))))
        have n5_:=Aside0.mk (below_step (by repeat (first|(with_reducible first|exact HB.out|apply below_alloc|apply pw_below_drewN|apply below_drew1)|exact HB.out)) hb)
        clear HO_0 HO_29 HO390 HO398 HB
        have HO_0:=n0_
        have HO_29:=n1_
        have HO390:=n2_
        have HO398:=n3_
        have HO385:=n4_
        have HB:=n5_
        clear n0_ n1_ n2_ n3_ n4_ n5_ hb ho53
        refine hK.out _ _ trivial (fun hHeld=>?_)
        clear hK K
        refine norm_ (a' := ?_) ?_ ?_
        rotate_left
        ·show Act.put _ (some 45) _=_
         simp only [Act.put,zqA,zqB,zqC,i64_w,i32_w]
         rfl
        refine one_ (i:=4) (N:=some 49) (zl 10 255) rfl rfl (one_of HT_.out (by kernel_rfl)) (by decide) (fun K hK=>?_)
        refine Kd.N_append_rows_step k26 (w0:=w) w.heap.size (by rfl) (.tmp 45) (.tmp 48) 22 26 (.agg #[(.string ⟨#[]⟩),(.slice none 0 0),(.int .i64 0),(.int .i64 0),(.int .i64 0),(.int .i64 0),(.int .i64 0),(.int .i64 0)]) 88 rfl Tryd.underlying22 info26 rfl (by decide) (by omega) v384 y383 y386 _ _ _ (fun k_=>(P0_ k_ ∨ w.heap.size ≤ k_)) (fun k_=>((fun k_=>(P0_ k_ ∨ w.heap.size ≤ k_))) k_∧some k_ ≠ (v384:Value).ownBlock) rfl rfl ?aO ?aR (fun _ hk=>hk) ?aF ?aB ?aS ?aL ?_
        (case aR=>exact (by skip;exact Kd.V_F (Kd.V_mono (ok' := (fun k_=>((fun k_=>(P0_ k_ ∨ w.heap.size ≤ k_))) k_∧some k_ ≠ (v384:Value).ownBlock)) (HO390.out) (fun k_ hk=>⟨hk.1,hk.2⟩))))
        (case aB=>exact (by repeat (first|(with_reducible first|exact HB.out|apply below_alloc|apply pw_below_drewN|apply below_drew1)|exact HB.out)))
        (case aF=>exact (fun k_ hk=>(.inr (Nat.le_trans (below_size (by repeat (first|(with_reducible first|exact HB.out|apply below_alloc|apply pw_below_drewN|apply below_drew1)|exact HB.out))) hk))))
        (case aO=>exact (by (with_reducible repeat (first|apply Kd.N_alloc|apply Kd.N_drewN|apply Kd.N_drew));exact HO385.out))
        (case aS=>exact (below_size (by repeat (first|(with_reducible first|exact HB.out|apply below_alloc|apply pw_below_drewN|apply below_drew1)|exact HB.out))))
        (case aL=>have:=LMc22.out;omega)
        intro v392 w54 ho hb hg hat
        rw [← Ny391.out] at ho
        have n0_:=Aside0.mk (Kd.V_afterv (ok:=(fun k_=>(P0_ k_ ∨ w.heap.size ≤ k_))) (by (with_reducible repeat (first|apply Kd.V_alloc|apply Kd.V_drewN|apply Kd.V_drew));exact HO_0.out) hg hat)
        have n1_:=Aside0.mk (Kd.V_afterv (ok:=(fun k_=>(P0_ k_ ∨ w.heap.size ≤ k_))) (by (with_reducible repeat (first|apply Kd.V_alloc|apply Kd.V_drewN|apply Kd.V_drew));exact HO_29.out) hg hat)
        have n2_:=Aside0.mk (Kd.V_afterv (ok:=(fun k_=>(P0_ k_ ∨ w.heap.size ≤ k_))) (by (with_reducible repeat (first|apply Kd.V_alloc|apply Kd.V_drewN|apply Kd.V_drew));exact HO390.out) hg hat)
        have n3_:=Aside0.mk (Kd.V_afterv (ok:=(fun k_=>(P0_ k_ ∨ w.heap.size ≤ k_))) (by (with_reducible repeat (first|apply Kd.V_alloc|apply Kd.V_drewN|apply Kd.V_drew));exact HO398.out) hg hat)
        have n4_:=Aside0.mk (hb)
        have n5_:=Aside0.mk (ho)
        clear HO_0 HO_29 HO390 HO398 HB HO385
        have HO_0:=n0_
        have HO_29:=n1_
        have HO390:=n2_
        have HO398:=n3_
        have HB:=n4_
        have HO393:=n5_
        clear n0_ n1_ n2_ n3_ n4_ n5_ ho hb hg hat
        refine hK.out _ _ trivial (fun hHeld=>?_)
        clear hK K
        refine norm_ (a' := ?_) ?_ ?_
        rotate_left
        ·show Act.put _ (some 49) _=_
         simp only [Act.put,zqA,zqB,zqC,i64_w,i32_w]
         rfl
        refine one_ (i:=8) (N:=some 53) (zl 10 511) rfl rfl (one_of HT_.out (by kernel_rfl)) (by decide) (fun K hK=>?_)
        refine Kd.N_append_rows_step k26 (w0:=w) w.heap.size (by rfl) (.tmp 49) (.tmp 52) 22 26 (.agg #[(.string ⟨#[]⟩),(.slice none 0 0),(.int .i64 0),(.int .i64 0),(.int .i64 0),(.int .i64 0),(.int .i64 0),(.int .i64 0)]) 88 rfl Tryd.underlying22 info26 rfl (by decide) (by omega) v392 y391 y394 _ _ _ (fun k_=>(P0_ k_ ∨ w.heap.size ≤ k_)) (fun k_=>((fun k_=>(P0_ k_ ∨ w.heap.size ≤ k_))) k_∧some k_ ≠ (v392:Value).ownBlock) rfl rfl ?aO ?aR (fun _ hk=>hk) ?aF ?aB ?aS ?aL ?_
        (case aR=>exact (by skip;exact Kd.V_F (Kd.V_mono (ok' := (fun k_=>((fun k_=>(P0_ k_ ∨ w.heap.size ≤ k_))) k_∧some k_ ≠ (v392:Value).ownBlock)) (HO398.out) (fun k_ hk=>⟨hk.1,hk.2⟩))))
        (case aB=>exact (by repeat (first|(with_reducible first|exact HB.out|apply below_alloc|apply pw_below_drewN|apply below_drew1)|exact HB.out)))
        (case aF=>exact (fun k_ hk=>(.inr (Nat.le_trans (below_size (by repeat (first|(with_reducible first|exact HB.out|apply below_alloc|apply pw_below_drewN|apply below_drew1)|exact HB.out))) hk))))
        (case aO=>exact (by (with_reducible repeat (first|apply Kd.N_alloc|apply Kd.N_drewN|apply Kd.N_drew));exact HO393.out))
        (case aS=>exact (below_size (by repeat (first|(with_reducible first|exact HB.out|apply below_alloc|apply pw_below_drewN|apply below_drew1)|exact HB.out))))
        (case aL=>have:=LMc25.out;omega)
        intro v400 w55 ho hb hg hat
        rw [← Ny399.out] at ho
        have n0_:=Aside0.mk (Kd.V_afterv (ok:=(fun k_=>(P0_ k_ ∨ w.heap.size ≤ k_))) (by (with_reducible repeat (first|apply Kd.V_alloc|apply Kd.V_drewN|apply Kd.V_drew));exact HO_0.out) hg hat)
        have n1_:=Aside0.mk (Kd.V_afterv (ok:=(fun k_=>(P0_ k_ ∨ w.heap.size ≤ k_))) (by (with_reducible repeat (first|apply Kd.V_alloc|apply Kd.V_drewN|apply Kd.V_drew));exact HO_29.out) hg hat)
        have n2_:=Aside0.mk (Kd.V_afterv (ok:=(fun k_=>(P0_ k_ ∨ w.heap.size ≤ k_))) (by (with_reducible repeat (first|apply Kd.V_alloc|apply Kd.V_drewN|apply Kd.V_drew));exact HO390.out) hg hat)
        have n3_:=Aside0.mk (Kd.V_afterv (ok:=(fun k_=>(P0_ k_ ∨ w.heap.size ≤ k_))) (by (with_reducible repeat (first|apply Kd.V_alloc|apply Kd.V_drewN|apply Kd.V_drew));exact HO398.out) hg hat)
        have n4_:=Aside0.mk (hb)
        have n5_:=Aside0.mk (ho)
        clear HO_0 HO_29 HO390 HO398 HB HO393
        have HO_0:=n0_
        have HO_29:=n1_
        have HO390:=n2_
        have HO398:=n3_
        have HB:=n4_
        have HO401:=n5_
        clear n0_ n1_ n2_ n3_ n4_ n5_ ho hb hg hat
        refine hK.out _ _ trivial (fun hHeld=>?_)
        clear hK K
        refine norm_ (a' := ?_) ?_ ?_
        rotate_left
        ·show Act.put _ (some 53) _=_
         simp only [Act.put,zqA,zqB,zqC,i64_w,i32_w]
         rfl
        refine zpu 9 (N:=some 10) (zl 10 1023) HT_.out rfl rfl ?_
        refine done_ (done_of HT_.out (by kernel_rfl)) ?_
        obtain ⟨Ao56,co56,eo56⟩:=Kd.N_slice HO401.out
        subst eo56
        (try clear hcut50)
        (try clear hcut51)
        go_upto_if 82 with (first|((with_reducible refine gate_callee (f:=9) rfl ?_);refine goesL_ (some 55) rfl rfl Tryd.func9 (by kernel_rfl) rfl #[.slice Ao56 y399.length co56] rfl (by (try simp only [List.map_toArray,List.map_cons,List.map_nil]);first|done|rfl|(simp only [List.length_drop,List.length_take];rfl)) ?_;(with_reducible refine (table_Right.calls k2 _ _ y399 t402 _ ?side1 ?side2 A26.out).mono ?_);(case side1=>repeat (first|exact (Kd.N_reads' HO401.out).2.2|(with_reducible refine Kd.C_alloc ?_ _)|(with_reducible refine Kd.C_drewN ?_ _)|(with_reducible refine Kd.C_drew ?_)));(case side2=>exact (Kd.N_reads' HO401.out).2.1);rintro e w57 ⟨rfl,hb⟩;refine ⟨_,rfl,?_⟩;have n0_:=Aside0.mk (Kd.V_below (by (with_reducible repeat (first|apply Kd.V_alloc|apply Kd.V_drewN|apply Kd.V_drew));exact HO_0.out) hb);have n1_:=Aside0.mk (Kd.V_below (by (with_reducible repeat (first|apply Kd.V_alloc|apply Kd.V_drewN|apply Kd.V_drew));exact HO_29.out) hb);have n2_:=Aside0.mk (Kd.V_below (by (with_reducible repeat (first|apply Kd.V_alloc|apply Kd.V_drewN|apply Kd.V_drew));exact HO390.out) hb);have n3_:=Aside0.mk (Kd.V_below (by (with_reducible repeat (first|apply Kd.V_alloc|apply Kd.V_drewN|apply Kd.V_drew));exact HO398.out) hb);have n4_:=Aside0.mk (Kd.N_below (by (with_reducible repeat (first|apply Kd.N_alloc|apply Kd.N_drewN|apply Kd.N_drew));exact HO401.out) hb);have n5_:=Aside0.mk (below_step (by repeat (first|(with_reducible first|exact HB.out|apply below_alloc|apply pw_below_drewN|apply below_drew1)|exact HB.out)) hb);clear HO_0;clear HO_29;clear HO390;clear HO398;clear HO401;clear HB;have HO_0:=n0_;have HO_29:=n1_;have HO390:=n2_;have HO398:=n3_;have HO401:=n4_;have HB:=n5_;clear n0_ n1_ n2_ n3_ n4_ n5_;(try clear hb);(try clear hb2);(try clear hk);(try clear hi))|((with_reducible refine gate_callee (f:=9) rfl ?_);refine goesL_ (some 57) rfl rfl Tryd.func9 (by kernel_rfl) rfl #[.slice A0 l0.length c0] rfl (by (try simp only [List.map_toArray,List.map_cons,List.map_nil]);first|done|rfl|(simp only [List.length_drop,List.length_take];rfl)) ?_;(with_reducible refine (table_Right.calls k2 _ _ l0 t403 _ ?side1 ?side2 A27.out).mono ?_);(case side1=>repeat (first|exact (Kd.V_reads' HO_0.out).2.2|(with_reducible refine Kd.C_alloc ?_ _)|(with_reducible refine Kd.C_drewN ?_ _)|(with_reducible refine Kd.C_drew ?_)));(case side2=>exact (Kd.V_reads' HO_0.out).2.1);rintro e w58 ⟨rfl,hb⟩;refine ⟨_,rfl,?_⟩;have n0_:=Aside0.mk (Kd.V_below (by (with_reducible repeat (first|apply Kd.V_alloc|apply Kd.V_drewN|apply Kd.V_drew));exact HO_0.out) hb);have n1_:=Aside0.mk (Kd.V_below (by (with_reducible repeat (first|apply Kd.V_alloc|apply Kd.V_drewN|apply Kd.V_drew));exact HO_29.out) hb);have n2_:=Aside0.mk (Kd.V_below (by (with_reducible repeat (first|apply Kd.V_alloc|apply Kd.V_drewN|apply Kd.V_drew));exact HO390.out) hb);have n3_:=Aside0.mk (Kd.V_below (by (with_reducible repeat (first|apply Kd.V_alloc|apply Kd.V_drewN|apply Kd.V_drew));exact HO398.out) hb);have n4_:=Aside0.mk (Kd.N_below (by (with_reducible repeat (first|apply Kd.N_alloc|apply Kd.N_drewN|apply Kd.N_drew));exact HO401.out) hb);have n5_:=Aside0.mk (below_step (by repeat (first|(with_reducible first|exact HB.out|apply below_alloc|apply pw_below_drewN|apply below_drew1)|exact HB.out)) hb);clear HO_0;clear HO_29;clear HO390;clear HO398;clear HO401;clear HB;have HO_0:=n0_;have HO_29:=n1_;have HO390:=n2_;have HO398:=n3_;have HO401:=n4_;have HB:=n5_;clear n0_ n1_ n2_ n3_ n4_ n5_;(try clear hb);(try clear hb2);(try clear hk);(try clear hi))|((with_reducible refine gate_callee (f:=9) rfl ?_);refine goesL_ (some 60) rfl rfl Tryd.func9 (by kernel_rfl) rfl #[.slice A0 l0.length c0] rfl (by (try simp only [List.map_toArray,List.map_cons,List.map_nil]);first|done|rfl|(simp only [List.length_drop,List.length_take];rfl)) ?_;(with_reducible refine (table_Right.calls k2 _ _ l0 true _ ?side1 ?side2 A39.out).mono ?_);(case side1=>repeat (first|exact (Kd.V_reads' HO_0.out).2.2|(with_reducible refine Kd.C_alloc ?_ _)|(with_reducible refine Kd.C_drewN ?_ _)|(with_reducible refine Kd.C_drew ?_)));(case side2=>exact (Kd.V_reads' HO_0.out).2.1);rintro e w59 ⟨rfl,hb⟩;refine ⟨_,rfl,?_⟩;have n0_:=Aside0.mk (Kd.V_below (by (with_reducible repeat (first|apply Kd.V_alloc|apply Kd.V_drewN|apply Kd.V_drew));exact HO_0.out) hb);have n1_:=Aside0.mk (Kd.V_below (by (with_reducible repeat (first|apply Kd.V_alloc|apply Kd.V_drewN|apply Kd.V_drew));exact HO_29.out) hb);have n2_:=Aside0.mk (Kd.V_below (by (with_reducible repeat (first|apply Kd.V_alloc|apply Kd.V_drewN|apply Kd.V_drew));exact HO390.out) hb);have n3_:=Aside0.mk (Kd.V_below (by (with_reducible repeat (first|apply Kd.V_alloc|apply Kd.V_drewN|apply Kd.V_drew));exact HO398.out) hb);have n4_:=Aside0.mk (Kd.N_below (by (with_reducible repeat (first|apply Kd.N_alloc|apply Kd.N_drewN|apply Kd.N_drew));exact HO401.out) hb);have n5_:=Aside0.mk (below_step (by repeat (first|(with_reducible first|exact HB.out|apply below_alloc|apply pw_below_drewN|apply below_drew1)|exact HB.out)) hb);clear HO_0;clear HO_29;clear HO390;clear HO398;clear HO401;clear HB;have HO_0:=n0_;have HO_29:=n1_;have HO390:=n2_;have HO398:=n3_;have HO401:=n4_;have HB:=n5_;clear n0_ n1_ n2_ n3_ n4_ n5_;(try clear hb);(try clear hb2);(try clear hk);(try clear hi);have q60:((ji19):Int) ≤ ((l0.length:Int):Int):=of_decide_eq_true (by first|(with_reducible assumption)|assumption);obtain ⟨i060,hi060,_,hsz60,_⟩:=info_parts info26;have hroom60:l0.length ≤ c0:=(Kd.V_reads' HO_0.out).2.1;have hC60:Kd.F k26 _ _ A0 l0.length l0:=(Kd.V_at (base:=w.heap.size) HO_0.out).2.2;have hcut60:=cut_to (P:=Tryd.prog) 22 26 .i64 Tryd.underlying22 hi060 A0 l0.length c0 (ji19) (of_decide_eq_true (by first|(with_reducible assumption)|assumption)) q60 hroom60;have hr60:=Kd.F_take (m:=((ji19):Int).toNat) hC60 (by omega);have hy60:y405.length=((ji19):Int).toNat:=(by rw [Ny405.out,List.length_take];omega);rw [← Ny405.out] at hr60;rw [← hy60] at hcut60;have HO409:=Aside0.mk (show Kd.V k26 26 _ w.heap.size _ (.slice A0 y405.length c0) y405 from Kd.V_mk (by omega) hr60);have HC409:=Aside0.mk (show y405.length ≤ c0 from by omega);clear hr60 hC60 hroom60 hi060 hsz60;have KY60:=Aside0.mk hy60;clear hy60;replace q60:=eq_true q60)|((with_reducible refine gate_callee (f:=15) rfl ?_);refine goesL_ (some 66) rfl rfl Tryd.func15 (by kernel_rfl) rfl #[.slice A0 y405.length c0] rfl (by (try simp only [List.map_toArray,List.map_cons,List.map_nil]);first|done|rfl|(simp only [List.length_drop,List.length_take];rfl)) ?_;(with_reducible refine (table_Write.calls k2 _ _ y405 t410 t411 _ ?side1 ?side2 A43.out ?hT).mono ?_);(case hT=>exact HTB.out.below (by repeat (first|(with_reducible first|exact HB.out|apply below_alloc|apply pw_below_drewN|apply below_drew1|refine below_set ?_ GE34.out)|exact HB.out)));(case side1=>repeat (first|exact (Kd.V_reads' HO409.out).2.2|(with_reducible refine Kd.C_alloc ?_ _)|(with_reducible refine Kd.C_drewN ?_ _)|(with_reducible refine Kd.C_drew ?_)));(case side2=>exact (Kd.V_reads' HO409.out).2.1);rintro e w61 ⟨rfl,hb⟩;refine ⟨_,rfl,?_⟩;have n0_:=Aside0.mk (Kd.V_below (by (with_reducible repeat (first|apply Kd.V_alloc|apply Kd.V_drewN|apply Kd.V_drew));exact HO_0.out) hb);have n1_:=Aside0.mk (Kd.V_below (by (with_reducible repeat (first|apply Kd.V_alloc|apply Kd.V_drewN|apply Kd.V_drew));exact HO_29.out) hb);have n2_:=Aside0.mk (Kd.V_below (by (with_reducible repeat (first|apply Kd.V_alloc|apply Kd.V_drewN|apply Kd.V_drew));exact HO390.out) hb);have n3_:=Aside0.mk (Kd.V_below (by (with_reducible repeat (first|apply Kd.V_alloc|apply Kd.V_drewN|apply Kd.V_drew));exact HO398.out) hb);have n4_:=Aside0.mk (Kd.N_below (by (with_reducible repeat (first|apply Kd.N_alloc|apply Kd.N_drewN|apply Kd.N_drew));exact HO401.out) hb);have n5_:=Aside0.mk (Kd.V_below (by (with_reducible repeat (first|apply Kd.V_alloc|apply Kd.V_drewN|apply Kd.V_drew));exact HO409.out) hb);have n6_:=Aside0.mk (below_step (by repeat (first|(with_reducible first|exact HB.out|apply below_alloc|apply pw_below_drewN|apply below_drew1)|exact HB.out)) hb);clear HO_0;clear HO_29;clear HO390;clear HO398;clear HO401;clear HO409;clear HB;have HO_0:=n0_;have HO_29:=n1_;have HO390:=n2_;have HO398:=n3_;have HO401:=n4_;have HO409:=n5_;have HB:=n6_;clear n0_ n1_ n2_ n3_ n4_ n5_ n6_;(try clear hb);(try clear hb2);(try clear hk);(try clear hi);have q62:((ji19):Int) ≤ ((l0.length:Int):Int):=of_decide_eq_true (by first|(with_reducible assumption)|assumption);obtain ⟨i062,hi062,_,hsz62,_⟩:=info_parts info26;have hroom62:l0.length ≤ c0:=(Kd.V_reads' HO_0.out).2.1;have hC62:Kd.F k26 _ _ A0 l0.length l0:=(Kd.V_at (base:=w.heap.size) HO_0.out).2.2;have q062:(0:Int) ≤ ((ji19):Int):=of_decide_eq_true (by first|(with_reducible assumption)|assumption);have hcut62:=cut_from (P:=Tryd.prog) 22 26 .i64 Tryd.underlying22 hi062 8 hsz62 A0 l0.length c0 (ji19) q062 q62;have hr62:=Kd.F_cut (m:=((ji19):Int).toNat) (c:=c0) hC62 (by omega) hroom62;obtain ⟨A62,hA62⟩ : ∃ A1,A1=(if c0=((ji19):Int).toNat then A0 else (A0:Option Addr).map (·.add (((ji19):Int).toNat * 8))):=⟨_,rfl⟩;obtain ⟨c62,hc62⟩ : ∃ c1,c1=c0 - ((ji19):Int).toNat:=⟨_,rfl⟩;have hy62:y412.length=l0.length - ((ji19):Int).toNat:=(by rw [Ny412.out,List.length_drop] <;> omega);rw [show (l0).drop ((ji19):Int).toNat=y412 from Ny412.out.symm] at hr62;replace hr62:Kd.F k26 _ _ A62 y412.length y412:=(by rw [hA62];exact hr62);rw [← hy62,← hA62,← hc62] at hcut62;have HO416:=Aside0.mk (show Kd.V k26 26 _ w.heap.size _ (.slice A62 y412.length c62) y412 from Kd.V_mk (by rw [hy62,hc62];exact Nat.sub_le_sub_right hroom62 _) hr62);have HC416:=Aside0.mk (show y412.length ≤ c62 from by rw [hy62,hc62];exact Nat.sub_le_sub_right hroom62 _);clear hr62 hC62 hroom62 hi062 hsz62 hc62;have KY62:=Aside0.mk hy62;have KA62:=Aside0.mk hA62;clear hy62 hA62;replace q62:=eq_true q62)|((with_reducible refine gate_callee (f:=15) rfl ?_);refine goesL_ (some 73) rfl rfl Tryd.func15 (by kernel_rfl) rfl #[.slice A62 y412.length c62] rfl (by (try simp only [List.map_toArray,List.map_cons,List.map_nil]);first|done|rfl|(simp only [List.length_drop,List.length_take];rfl)) ?_;(with_reducible refine (table_Write.calls k2 _ _ y412 t35 t418 _ ?side1 ?side2 A46.out ?hT).mono ?_);(case hT=>exact HTB.out.below (by repeat (first|(with_reducible first|exact HB.out|apply below_alloc|apply pw_below_drewN|apply below_drew1|refine below_set ?_ GE34.out)|exact HB.out)));(case side1=>repeat (first|exact (Kd.V_reads' HO416.out).2.2|(with_reducible refine Kd.C_alloc ?_ _)|(with_reducible refine Kd.C_drewN ?_ _)|(with_reducible refine Kd.C_drew ?_)));(case side2=>exact (Kd.V_reads' HO416.out).2.1);rintro e w63 ⟨rfl,hb⟩;refine ⟨_,rfl,?_⟩;have n0_:=Aside0.mk (Kd.V_below (by (with_reducible repeat (first|apply Kd.V_alloc|apply Kd.V_drewN|apply Kd.V_drew));exact HO_0.out) hb);have n1_:=Aside0.mk (Kd.V_below (by (with_reducible repeat (first|apply Kd.V_alloc|apply Kd.V_drewN|apply Kd.V_drew));exact HO_29.out) hb);have n2_:=Aside0.mk (Kd.V_below (by (with_reducible repeat (first|apply Kd.V_alloc|apply Kd.V_drewN|apply Kd.V_drew));exact HO390.out) hb);have n3_:=Aside0.mk (Kd.V_below (by (with_reducible repeat (first|apply Kd.V_alloc|apply Kd.V_drewN|apply Kd.V_drew));exact HO398.out) hb);have n4_:=Aside0.mk (Kd.N_below (by (with_reducible repeat (first|apply Kd.N_alloc|apply Kd.N_drewN|apply Kd.N_drew));exact HO401.out) hb);have n5_:=Aside0.mk (Kd.V_below (by (with_reducible repeat (first|apply Kd.V_alloc|apply Kd.V_drewN|apply Kd.V_drew));exact HO409.out) hb);have n6_:=Aside0.mk (Kd.V_below (by (with_reducible repeat (first|apply Kd.V_alloc|apply Kd.V_drewN|apply Kd.V_drew));exact HO416.out) hb);have n7_:=Aside0.mk (below_step (by repeat (first|(with_reducible first|exact HB.out|apply below_alloc|apply pw_below_drewN|apply below_drew1)|exact HB.out)) hb);clear HO_0;clear HO_29;clear HO390;clear HO398;clear HO401;clear HO409;clear HO416;clear HB;have HO_0:=n0_;have HO_29:=n1_;have HO390:=n2_;have HO398:=n3_;have HO401:=n4_;have HO409:=n5_;have HO416:=n6_;have HB:=n7_;clear n0_ n1_ n2_ n3_ n4_ n5_ n6_ n7_;(try clear hb);(try clear hb2);(try clear hk);(try clear hi))|((with_reducible refine gate_callee (f:=15) rfl ?_);refine goesL_ (some 78) rfl rfl Tryd.func15 (by kernel_rfl) rfl #[.slice Ao56 y399.length co56] rfl (by (try simp only [List.map_toArray,List.map_cons,List.map_nil]);first|done|rfl|(simp only [List.length_drop,List.length_take];rfl)) ?_;(with_reducible refine (table_Write.calls k2 _ _ y399 t36 t420 _ ?side1 ?side2 A47.out ?hT).mono ?_);(case hT=>exact HTB.out.below (by repeat (first|(with_reducible first|exact HB.out|apply below_alloc|apply pw_below_drewN|apply below_drew1|refine below_set ?_ GE34.out)|exact HB.out)));(case side1=>repeat (first|exact (Kd.N_reads' HO401.out).2.2|(with_reducible refine Kd.C_alloc ?_ _)|(with_reducible refine Kd.C_drewN ?_ _)|(with_reducible refine Kd.C_drew ?_)));(case side2=>exact (Kd.N_reads' HO401.out).2.1);rintro e w64 ⟨rfl,hb⟩;refine ⟨_,rfl,?_⟩;have n0_:=Aside0.mk (Kd.V_below (by (with_reducible repeat (first|apply Kd.V_alloc|apply Kd.V_drewN|apply Kd.V_drew));exact HO_0.out) hb);have n1_:=Aside0.mk (Kd.V_below (by (with_reducible repeat (first|apply Kd.V_alloc|apply Kd.V_drewN|apply Kd.V_drew));exact HO_29.out) hb);have n2_:=Aside0.mk (Kd.V_below (by (with_reducible repeat (first|apply Kd.V_alloc|apply Kd.V_drewN|apply Kd.V_drew));exact HO390.out) hb);have n3_:=Aside0.mk (Kd.V_below (by (with_reducible repeat (first|apply Kd.V_alloc|apply Kd.V_drewN|apply Kd.V_drew));exact HO398.out) hb);have n4_:=Aside0.mk (Kd.N_below (by (with_reducible repeat (first|apply Kd.N_alloc|apply Kd.N_drewN|apply Kd.N_drew));exact HO401.out) hb);have n5_:=Aside0.mk (Kd.V_below (by (with_reducible repeat (first|apply Kd.V_alloc|apply Kd.V_drewN|apply Kd.V_drew));exact HO409.out) hb);have n6_:=Aside0.mk (Kd.V_below (by (with_reducible repeat (first|apply Kd.V_alloc|apply Kd.V_drewN|apply Kd.V_drew));exact HO416.out) hb);have n7_:=Aside0.mk (below_step (by repeat (first|(with_reducible first|exact HB.out|apply below_alloc|apply pw_below_drewN|apply below_drew1)|exact HB.out)) hb);clear HO_0;clear HO_29;clear HO390;clear HO398;clear HO401;clear HO409;clear HO416;clear HB;have HO_0:=n0_;have HO_29:=n1_;have HO390:=n2_;have HO398:=n3_;have HO401:=n4_;have HO409:=n5_;have HO416:=n6_;have HB:=n7_;clear n0_ n1_ n2_ n3_ n4_ n5_ n6_ n7_;(try clear hb);(try clear hb2);(try clear hk);(try clear hi)))
        (try simp only [Act.put,zqA,zqB,zqC])
        go_cut [11,12] (fun v11 v12 wc => ∃ (kq:Nat) (x11_47:ByteArray) (x12_47:Int),v11 = .string x11_47∧v12 = .int .i64 x12_47∧Aside0 (tollbarlaw09_TableTurns.j2 kq l0 a2 x11_47 x12_47 t35 t418 t36 t420=some r)∧Aside0 (kq ≤ k2)∧Aside0 (Kd.V k26 26 wc w.heap.size (fun k_=>(P0_ k_ ∨ w.heap.size ≤ k_)) (.slice A0 l0.length c0) l0)∧Aside0 (Below w.heap.size w wc))
        case first =>
         have H:=HC48.out
         clear HC48
         by_cases c65:(ji19)=0;rotate_left
         ·rw [if_neg c65] at H
          have c65b0:=beq_eq_false_iff_ne.mpr c65
          have c65b1:=bne_iff_ne.mpr c65
          (first|rw [c65b0]|(simp only [i64_w,i32_w];rw [c65b0])|rw [c65b1]|skip)
          have H' := Aside0.mk H
          clear H
          go_wp2
          go_meet
          case rel=>exact ⟨_,(t410),(t411),(by first|rfl|(simp;done)|(simp [*];done)),(by first|rfl|(simp;done)|(simp [*];done)),H',⟨by have:=HJ5.out;have:=HK2.out;first|omega|exact Nat.le_refl _⟩,⟨by (with_reducible repeat (first|apply Kd.V_alloc|apply Kd.V_drewN|apply Kd.V_drew));exact Kd.V_mono HO_0.out (fun _ hk=>hk.1)⟩,⟨by repeat (first|(with_reducible first|exact HB.out|apply below_alloc|apply pw_below_drewN|apply below_drew1)|exact HB.out)⟩⟩
         rw [if_pos c65] at H
         have c65b0:=beq_iff_eq.mpr c65
         have c65b1:=bne_eq_false_iff_eq.mpr c65
         clear c65
         (first|rw [c65b0]|(simp only [i64_w,i32_w];rw [c65b0])|rw [c65b1]|skip)
         have H' := Aside0.mk H
         clear H
         go_wp2
         go_meet
         case rel=>exact ⟨_,((⟨#[]⟩:ByteArray)),(0),(by first|rfl|(simp;done)|(simp [*];done)),(by first|rfl|(simp;done)|(simp [*];done)),H',⟨by have:=HJ5.out;have:=HK2.out;first|omega|exact Nat.le_refl _⟩,⟨by (with_reducible repeat (first|apply Kd.V_alloc|apply Kd.V_drewN|apply Kd.V_drew));exact Kd.V_mono HO_0.out (fun _ hk=>hk.1)⟩,⟨by repeat (first|(with_reducible first|exact HB.out|apply below_alloc|apply pw_below_drewN|apply below_drew1)|exact HB.out)⟩⟩
        case rest =>
         clear HC48
         try clear c1
         try clear c2
         try clear p2
         try clear c3
         try clear p3
         try clear q3
         try clear hx3
         try clear c4
         try clear c5
         try clear q5
         try clear c6
         try clear p6
         try clear q6
         try clear c9
         try clear c10
         try clear c10b0
         try clear c11
         try clear c12
         try clear c15
         try clear c18
         try clear c18b0
         try clear c18b1
         try clear c18b2
         try clear c20
         try clear c20b0
         try clear c20b1
         try clear c21
         try clear c21b0
         try clear c21b1
         try clear c22
         try clear c23
         try clear c23b0
         try clear c24
         try clear c24b0
         try clear c25
         try clear c28
         try clear c28b0
         try clear c28b1
         try clear c28b2
         try clear c30
         try clear q30
         try clear q31
         try clear c38
         try clear p38
         try clear q38
         try clear hx38
         try clear c40
         try clear c41
         try clear c41b0
         try clear c42
         try clear c42b0
         try clear c44
         try clear c44b0
         try clear c45
         try clear c45b0
         try clear c50
         try clear q50
         try clear q51
         try clear q60
         try clear c62
         try clear q62
         try clear p64
         try clear c65
         try clear c65b0
         try clear c65b1
         try clear hcz17_0
         try clear hcz17_1
         try clear hcz17_2
         try clear hcz17_3
         try clear hcz17_4
         try clear hcz17_5
         try clear hcz17_6
         try clear hcz17_7
         try clear hfz17_0
         try clear hfz17_1
         try clear hfz17_2
         try clear hfz17_3
         try clear hfz17_4
         try clear hfz17_5
         try clear hfz17_6
         try clear hfz17_7
         try clear hx33_0
         try clear hx33_1
         try clear hx33_2
         try clear hx33_3
         try clear hx33_4
         try clear hx33_5
         try clear hx33_6
         try clear hx33_7
         try clear p33
         try clear q030
         try clear q050
         try clear q062
         try clear q30
         try clear q31
         try clear q33
         try clear q50
         try clear q51
         try clear q60
         try clear q62
         obtain ⟨kq,x11_47,x12_47,rfl,rfl,HA,HJ47,HO_0,HB⟩:=hcut
         cases kq with
         | zero=>exact absurd HA.out (by simp [tollbarlaw09_TableTurns.j2])
         | succ kj47 =>
          have H:=HA.out
          clear HA
          simp only [tollbarlaw09_TableTurns.j2] at H
          have HC66:=Aside0.mk H
          clear H
          go_upto_region 22 with (fail)
          go_cut [99] (fun v99 wc => ∃ (kq:Nat) (x99_65:Bool),v99 = .bool x99_65∧Aside0 (tollbarlaw09_TableTurns.j3 kq l0 a2 x99_65=some r)∧Aside0 (kq ≤ kj47)∧Aside0 (Kd.V k26 26 wc w.heap.size (fun k_=>(P0_ k_ ∨ w.heap.size ≤ k_)) (.slice A0 l0.length c0) l0)∧Aside0 (Below w.heap.size w wc))
          case first =>
           have H:=HC66.out
           clear HC66
           by_cases c67:x12_47=0;rotate_left
           ·rw [if_neg c67] at H
            have c67b0:=beq_eq_false_iff_ne.mpr c67
            have c67b1:=bne_iff_ne.mpr c67
            (first|rw [c67b0]|(simp only [i64_w,i32_w];rw [c67b0])|rw [c67b1]|skip)
            have H' := Aside0.mk H
            clear H
            go_wp2
            go_meet
            case rel=>exact ⟨_,(true),(by first|rfl|(simp;done)|(simp [*];done)),H',⟨by have:=HJ5.out;have:=HK2.out;have:=HJ47.out;first|omega|exact Nat.le_refl _⟩,⟨by (with_reducible repeat (first|apply Kd.V_alloc|apply Kd.V_drewN|apply Kd.V_drew));exact HO_0.out⟩,⟨by repeat (first|(with_reducible first|exact HB.out|apply below_alloc|apply pw_below_drewN|apply below_drew1)|exact HB.out)⟩⟩
           rw [if_pos c67] at H
           have c67b0:=beq_iff_eq.mpr c67
           have c67b1:=bne_eq_false_iff_eq.mpr c67
           clear c67
           (first|rw [c67b0]|(simp only [i64_w,i32_w];rw [c67b0])|rw [c67b1]|skip)
           by_cases c68:t418=0
           ·rw [if_pos c68] at H
            have c68b0:=beq_iff_eq.mpr c68
            have c68b1:=bne_eq_false_iff_eq.mpr c68
            clear c68
            by_cases c69:t420=0;rotate_left
            ·rw [if_neg c69] at H
             have c69b0:=beq_eq_false_iff_ne.mpr c69
             have c69b1:=bne_iff_ne.mpr c69
             have H' := Aside0.mk H
             clear H
             go_wp2
             go_meet
             case rel=>exact ⟨_,(true),(by first|rfl|(simp;done)|(simp [*];done)),H',⟨by have:=HJ5.out;have:=HK2.out;have:=HJ47.out;first|omega|exact Nat.le_refl _⟩,⟨by (with_reducible repeat (first|apply Kd.V_alloc|apply Kd.V_drewN|apply Kd.V_drew));exact HO_0.out⟩,⟨by repeat (first|(with_reducible first|exact HB.out|apply below_alloc|apply pw_below_drewN|apply below_drew1)|exact HB.out)⟩⟩
            rw [if_pos c69] at H
            have c69b0:=beq_iff_eq.mpr c69
            have c69b1:=bne_eq_false_iff_eq.mpr c69
            clear c69
            by_cases c70:t35.size + x11_47.size ≤ 9223372036854775807
            ·rw [if_pos c70] at H
             have c70b0:=eq_true c70
             have c70b1:=decide_eq_true c70
             try have c70b2:(9223372036854775807 < t35.size + x11_47.size)=False:=eq_false (Nat.not_lt.2 c70)
             have H' := Aside0.mk H
             clear H
             go_wp2
             go_meet
             case rel=>exact ⟨_,((t36.toList != (t35 ++ x11_47).toList)),(by first|rfl|(simp;done)|(simp [*];done)),H',⟨by have:=HJ5.out;have:=HK2.out;have:=HJ47.out;first|omega|exact Nat.le_refl _⟩,⟨by (with_reducible repeat (first|apply Kd.V_alloc|apply Kd.V_drewN|apply Kd.V_drew));exact HO_0.out⟩,⟨by repeat (first|(with_reducible first|exact HB.out|apply below_alloc|apply pw_below_drewN|apply below_drew1)|exact HB.out)⟩⟩
            ·rw [if_neg c70] at H
             exact absurd H (by simp)
           ·rw [if_neg c68] at H
            have c68b0:=beq_eq_false_iff_ne.mpr c68
            have c68b1:=bne_iff_ne.mpr c68
            have H' := Aside0.mk H
            clear H
            go_wp2
            go_meet
            case rel=>exact ⟨_,(true),(by first|rfl|(simp;done)|(simp [*];done)),H',⟨by have:=HJ5.out;have:=HK2.out;have:=HJ47.out;first|omega|exact Nat.le_refl _⟩,⟨by (with_reducible repeat (first|apply Kd.V_alloc|apply Kd.V_drewN|apply Kd.V_drew));exact HO_0.out⟩,⟨by repeat (first|(with_reducible first|exact HB.out|apply below_alloc|apply pw_below_drewN|apply below_drew1)|exact HB.out)⟩⟩
          case rest =>
           clear HC66
           try clear c1
           try clear c2
           try clear p2
           try clear c3
           try clear p3
           try clear q3
           try clear hx3
           try clear c4
           try clear c5
           try clear q5
           try clear c6
           try clear p6
           try clear q6
           try clear c7
           try clear c9
           try clear c10
           try clear c10b0
           try clear c11
           try clear c12
           try clear c15
           try clear c18
           try clear c18b0
           try clear c18b1
           try clear c18b2
           try clear c20
           try clear c20b0
           try clear c20b1
           try clear c21
           try clear c21b0
           try clear c21b1
           try clear c22
           try clear c23
           try clear c23b0
           try clear c24
           try clear c24b0
           try clear c25
           try clear c28
           try clear c28b0
           try clear c28b1
           try clear c28b2
           try clear c30
           try clear q30
           try clear q31
           try clear c38
           try clear p38
           try clear q38
           try clear hx38
           try clear c40
           try clear c41
           try clear c41b0
           try clear c42
           try clear c42b0
           try clear c44
           try clear c44b0
           try clear c45
           try clear c45b0
           try clear c50
           try clear q50
           try clear q51
           try clear q60
           try clear c62
           try clear q62
           try clear p64
           try clear c65
           try clear c65b0
           try clear c65b1
           try clear c67
           try clear c67b0
           try clear c67b1
           try clear c68
           try clear c68b0
           try clear c68b1
           try clear c69
           try clear c69b0
           try clear c69b1
           try clear c70
           try clear c70b0
           try clear c70b1
           try clear c70b2
           try clear hcz17_0
           try clear hcz17_1
           try clear hcz17_2
           try clear hcz17_3
           try clear hcz17_4
           try clear hcz17_5
           try clear hcz17_6
           try clear hcz17_7
           try clear hfz17_0
           try clear hfz17_1
           try clear hfz17_2
           try clear hfz17_3
           try clear hfz17_4
           try clear hfz17_5
           try clear hfz17_6
           try clear hfz17_7
           try clear hx33_0
           try clear hx33_1
           try clear hx33_2
           try clear hx33_3
           try clear hx33_4
           try clear hx33_5
           try clear hx33_6
           try clear hx33_7
           try clear p2
           try clear p3
           try clear p38
           try clear p33
           try clear p6
           try clear p64
           try clear q030
           try clear q050
           try clear q062
           try clear q3
           try clear q30
           try clear q31
           try clear q38
           try clear q33
           try clear q5
           try clear q50
           try clear q51
           try clear q6
           try clear q60
           try clear q62
           obtain ⟨kq,x99_65,rfl,HA,HJ65,HO_0,HB⟩:=hcut
           cases kq with
           | zero=>exact absurd HA.out (by simp [tollbarlaw09_TableTurns.j3])
           | succ kj65 =>
            have H:=HA.out
            clear HA
            simp only [tollbarlaw09_TableTurns.j3] at H
            by_cases c71:x99_65=true
            ·subst c71
             rw [if_pos rfl] at H
             exact absurd ((Option.some.inj H).trans HRT.out) (by decide)
            replace c71:=Bool.eq_false_iff.mpr c71
            subst c71
            rw [if_neg (show ¬ (false=true) by decide)] at H
            by_cases c72:(l0.length:Int)=0
            ·rw [if_pos c72] at H
             exact absurd H (by simp)
            rw [if_neg c72] at H
            have c72b0:=beq_eq_false_iff_ne.mpr c72
            have c72b1:=bne_iff_ne.mpr c72
            have c72b2 : ¬ (l0=[]):=fun h_=>c72 (by rw [h_];rfl)
            obtain ⟨y421,hy421⟩ : ∃ y_:List (S26),y_=(([]:List (S26))):=⟨_,rfl⟩
            replace H:(if 0 ≤ (Int.tmod (Go.bits .and .i64 a2 1023) (l0.length:Int)) then (if (Int.tmod (Go.bits .and .i64 a2 1023) (l0.length:Int)) ≤ (l0.length:Int) then ((some (l0.take ((Int.tmod (Go.bits .and .i64 a2 1023) (l0.length:Int)):Int).toNat:List (S26))).bind fun y424=>(if y421.length + y424.length < 1599289640401 then ((some (y421 ++ y424:List (S26))).bind fun y429=>(if 0 ≤ (wrap64 ((Int.tmod (Go.bits .and .i64 a2 1023) (l0.length:Int)) + 1)) then (if (wrap64 ((Int.tmod (Go.bits .and .i64 a2 1023) (l0.length:Int)) + 1)) ≤ (l0.length:Int) then ((some (l0.drop ((wrap64 ((Int.tmod (Go.bits .and .i64 a2 1023) (l0.length:Int)) + 1)):Int).toNat:List (S26))).bind fun y432=>(if y429.length + y432.length < 1599289640401 then ((some (y429 ++ y432:List (S26))).bind fun y437=>((table_Right.f kj65 y437).bind fun t440=>(if (t440 == (decide ((l0.length:Int) > 1)))=true then (if (Int.tmod (Go.bits .and .i64 a2 1023) (l0.length:Int)) < (l0.length:Int) then ((table_Named.f y437 ((rd_T26 l0 (Int.tmod (Go.bits .and .i64 a2 1023) (l0.length:Int))).f0)).bind fun t442=>(if t442=(-1) then (if 0 < (((rd_T26 l0 (Int.tmod (Go.bits .and .i64 a2 1023) (l0.length:Int))).f1).length:Int) then ((table_Find.f kj65 y437 (rdOf ByteArray.empty ((rd_T26 l0 (Int.tmod (Go.bits .and .i64 a2 1023) (l0.length:Int))).f1) 0)).bind fun t445=>(some (t445 == (-1)))) else (none)) else (some false))) else (none)) else (some false)))) else (none))) else (none)) else (none))) else (none))) else (none)) else (none))=some r:=by first|(rw [hy421];with_reducible exact H)|(have H2_:=(Option.bind_some _ _).symm.trans H;rw [hy421];with_reducible exact H2_)|(have H2_:=(Option.bind_some _ _).symm.trans H;with_reducible exact H2_)|with_reducible exact H|(rw [hy421];exact H)|exact H
            have Ny421:=Aside0.mk hy421
            clear hy421
            obtain ⟨ji73,hji73⟩ : ∃ j_:Int,(Int.tmod (Go.bits .and .i64 a2 1023) (l0.length:Int))=j_:=⟨_,rfl⟩
            replace H:(if 0 ≤ (ji73) then (if (ji73) ≤ (l0.length:Int) then ((some (l0.take ((ji73):Int).toNat:List (S26))).bind fun y424=>(if y421.length + y424.length < 1599289640401 then ((some (y421 ++ y424:List (S26))).bind fun y429=>(if 0 ≤ (wrap64 ((ji73) + 1)) then (if (wrap64 ((ji73) + 1)) ≤ (l0.length:Int) then ((some (l0.drop ((wrap64 ((ji73) + 1)):Int).toNat:List (S26))).bind fun y432=>(if y429.length + y432.length < 1599289640401 then ((some (y429 ++ y432:List (S26))).bind fun y437=>((table_Right.f kj65 y437).bind fun t440=>(if (t440 == (decide ((l0.length:Int) > 1)))=true then (if (ji73) < (l0.length:Int) then ((table_Named.f y437 ((rd_T26 l0 (ji73)).f0)).bind fun t442=>(if t442=(-1) then (if 0 < (((rd_T26 l0 (ji73)).f1).length:Int) then ((table_Find.f kj65 y437 (rdOf ByteArray.empty ((rd_T26 l0 (ji73)).f1) 0)).bind fun t445=>(some (t445 == (-1)))) else (none)) else (some false))) else (none)) else (some false)))) else (none))) else (none)) else (none))) else (none))) else (none)) else (none))=some r:=by first|(rw [hji73] at H;exact H)|(simp only [hji73] at H ⊢;exact H)
            by_cases c74:0 ≤ (ji73)
            ·rw [if_pos c74] at H
             have c74b0:=eq_true c74
             have c74b1:=decide_eq_true c74
             clear c74
             by_cases c75:(ji73) ≤ (l0.length:Int)
             ·rw [if_pos c75] at H
              have c75b0:=eq_true c75
              have c75b1:=decide_eq_true c75
              clear c75
              obtain ⟨y424,hy424⟩ : ∃ y_:List (S26),y_=(l0.take ((ji73):Int).toNat):=⟨_,rfl⟩
              replace H:(if y421.length + y424.length < 1599289640401 then ((some (y421 ++ y424:List (S26))).bind fun y429=>(if 0 ≤ (wrap64 ((ji73) + 1)) then (if (wrap64 ((ji73) + 1)) ≤ (l0.length:Int) then ((some (l0.drop ((wrap64 ((ji73) + 1)):Int).toNat:List (S26))).bind fun y432=>(if y429.length + y432.length < 1599289640401 then ((some (y429 ++ y432:List (S26))).bind fun y437=>((table_Right.f kj65 y437).bind fun t440=>(if (t440 == (decide ((l0.length:Int) > 1)))=true then (if (ji73) < (l0.length:Int) then ((table_Named.f y437 ((rd_T26 l0 (ji73)).f0)).bind fun t442=>(if t442=(-1) then (if 0 < (((rd_T26 l0 (ji73)).f1).length:Int) then ((table_Find.f kj65 y437 (rdOf ByteArray.empty ((rd_T26 l0 (ji73)).f1) 0)).bind fun t445=>(some (t445 == (-1)))) else (none)) else (some false))) else (none)) else (some false)))) else (none))) else (none)) else (none))) else (none))=some r:=by first|(rw [hy424];with_reducible exact H)|(have H2_:=(Option.bind_some _ _).symm.trans H;rw [hy424];with_reducible exact H2_)|(have H2_:=(Option.bind_some _ _).symm.trans H;with_reducible exact H2_)|with_reducible exact H|(rw [hy424];exact H)|exact H
              have Ny424:=Aside0.mk hy424
              clear hy424
              by_cases c76:y421.length + y424.length < 1599289640401
              ·rw [if_pos c76] at H
               have LMc76:=Aside0.mk c76
               clear c76
               obtain ⟨y429,hy429⟩ : ∃ y_:List (S26),y_=(y421 ++ y424):=⟨_,rfl⟩
               replace H:(if 0 ≤ (wrap64 ((ji73) + 1)) then (if (wrap64 ((ji73) + 1)) ≤ (l0.length:Int) then ((some (l0.drop ((wrap64 ((ji73) + 1)):Int).toNat:List (S26))).bind fun y432=>(if y429.length + y432.length < 1599289640401 then ((some (y429 ++ y432:List (S26))).bind fun y437=>((table_Right.f kj65 y437).bind fun t440=>(if (t440 == (decide ((l0.length:Int) > 1)))=true then (if (ji73) < (l0.length:Int) then ((table_Named.f y437 ((rd_T26 l0 (ji73)).f0)).bind fun t442=>(if t442=(-1) then (if 0 < (((rd_T26 l0 (ji73)).f1).length:Int) then ((table_Find.f kj65 y437 (rdOf ByteArray.empty ((rd_T26 l0 (ji73)).f1) 0)).bind fun t445=>(some (t445 == (-1)))) else (none)) else (some false))) else (none)) else (some false)))) else (none))) else (none)) else (none))=some r:=by first|(rw [hy429];with_reducible exact H)|(have H2_:=(Option.bind_some _ _).symm.trans H;rw [hy429];with_reducible exact H2_)|(have H2_:=(Option.bind_some _ _).symm.trans H;with_reducible exact H2_)|with_reducible exact H|(rw [hy429];exact H)|exact H
               have Ny429:=Aside0.mk hy429
               clear hy429
               obtain ⟨ji77,hji77⟩ : ∃ j_:Int,(wrap64 ((ji73) + 1))=j_:=⟨_,rfl⟩
               replace H:(if 0 ≤ (ji77) then (if (ji77) ≤ (l0.length:Int) then ((some (l0.drop ((ji77):Int).toNat:List (S26))).bind fun y432=>(if y429.length + y432.length < 1599289640401 then ((some (y429 ++ y432:List (S26))).bind fun y437=>((table_Right.f kj65 y437).bind fun t440=>(if (t440 == (decide ((l0.length:Int) > 1)))=true then (if (ji73) < (l0.length:Int) then ((table_Named.f y437 ((rd_T26 l0 (ji73)).f0)).bind fun t442=>(if t442=(-1) then (if 0 < (((rd_T26 l0 (ji73)).f1).length:Int) then ((table_Find.f kj65 y437 (rdOf ByteArray.empty ((rd_T26 l0 (ji73)).f1) 0)).bind fun t445=>(some (t445 == (-1)))) else (none)) else (some false))) else (none)) else (some false)))) else (none))) else (none)) else (none))=some r:=by first|(rw [hji77] at H;exact H)|(simp only [hji77] at H ⊢;exact H)
               have hji77w:(IntKind.i64.wrap ((ji73) + 1))=ji77:=(i64_w _).trans hji77
               by_cases c78:0 ≤ (ji77)
               ·rw [if_pos c78] at H
                have c78b0:=eq_true c78
                have c78b1:=decide_eq_true c78
                clear c78
                by_cases c79:(ji77) ≤ (l0.length:Int)
                ·rw [if_pos c79] at H
                 have c79b0:=eq_true c79
                 have c79b1:=decide_eq_true c79
                 clear c79
                 obtain ⟨y432,hy432⟩ : ∃ y_:List (S26),y_=(l0.drop ((ji77):Int).toNat):=⟨_,rfl⟩
                 replace H:(if y429.length + y432.length < 1599289640401 then ((some (y429 ++ y432:List (S26))).bind fun y437=>((table_Right.f kj65 y437).bind fun t440=>(if (t440 == (decide ((l0.length:Int) > 1)))=true then (if (ji73) < (l0.length:Int) then ((table_Named.f y437 ((rd_T26 l0 (ji73)).f0)).bind fun t442=>(if t442=(-1) then (if 0 < (((rd_T26 l0 (ji73)).f1).length:Int) then ((table_Find.f kj65 y437 (rdOf ByteArray.empty ((rd_T26 l0 (ji73)).f1) 0)).bind fun t445=>(some (t445 == (-1)))) else (none)) else (some false))) else (none)) else (some false)))) else (none))=some r:=by first|(rw [hy432];with_reducible exact H)|(have H2_:=(Option.bind_some _ _).symm.trans H;rw [hy432];with_reducible exact H2_)|(have H2_:=(Option.bind_some _ _).symm.trans H;with_reducible exact H2_)|with_reducible exact H|(rw [hy432];exact H)|exact H
                 have Ny432:=Aside0.mk hy432
                 clear hy432
                 by_cases c80:y429.length + y432.length < 1599289640401
                 ·rw [if_pos c80] at H
                  have LMc80:=Aside0.mk c80
                  clear c80
                  obtain ⟨y437,hy437⟩ : ∃ y_:List (S26),y_=(y429 ++ y432):=⟨_,rfl⟩
                  replace H:((table_Right.f kj65 y437).bind fun t440=>(if (t440 == (decide ((l0.length:Int) > 1)))=true then (if (ji73) < (l0.length:Int) then ((table_Named.f y437 ((rd_T26 l0 (ji73)).f0)).bind fun t442=>(if t442=(-1) then (if 0 < (((rd_T26 l0 (ji73)).f1).length:Int) then ((table_Find.f kj65 y437 (rdOf ByteArray.empty ((rd_T26 l0 (ji73)).f1) 0)).bind fun t445=>(some (t445 == (-1)))) else (none)) else (some false))) else (none)) else (some false)))=some r:=by first|(rw [hy437];with_reducible exact H)|(have H2_:=(Option.bind_some _ _).symm.trans H;rw [hy437];with_reducible exact H2_)|(have H2_:=(Option.bind_some _ _).symm.trans H;with_reducible exact H2_)|with_reducible exact H|(rw [hy437];exact H)|exact H
                  have Ny437:=Aside0.mk hy437
                  clear hy437
                  replace H:=Option.bind_eq_some_iff.mp H
                  obtain ⟨t440,A810,H⟩:=H
                  try dsimp only at H
                  have A81:=Aside0.mk A810
                  clear A810
                  by_cases c82:(t440 == (decide ((l0.length:Int) > 1)))=true
                  ·rw [if_pos c82] at H
                   have c82b0:(t440 == (decide ((l0.length:Int) > 1)))=true:=c82
                   (try (have c82b1:decide (t440=(decide ((l0.length:Int) > 1)))=true:=by simpa using c82))
                   (try (have c82b2:(t440 == (decide ((l0.length:Int) > 1)))=true:=by simpa using c82))
                   clear c82
                   by_cases c83:(ji73) < (l0.length:Int)
                   ·rw [if_pos c83] at H
                    have c83b0:=decide_eq_true c83
                    clear c83
                    replace H:=Option.bind_eq_some_iff.mp H
                    obtain ⟨t442,A840,H⟩:=H
                    try dsimp only at H
                    have A84:=Aside0.mk A840
                    clear A840
                    by_cases c85:t442=(-1)
                    ·rw [if_pos c85] at H
                     have c85b0:=beq_iff_eq.mpr c85
                     have c85b1:=bne_eq_false_iff_eq.mpr c85
                     clear c85
                     by_cases c86:0 < (((rd_T26 l0 (ji73)).f1).length:Int)
                     ·rw [if_pos c86] at H
                      have c86b0:=decide_eq_true c86
                      have c86b1:decide (0 < ((rd_T26 l0 (ji73)).f1).length)=true:=decide_eq_true (by omega)
                      clear c86
                      replace H:=Option.bind_eq_some_iff.mp H
                      obtain ⟨t445,A870,H⟩:=H
                      try dsimp only at H
                      have A87:=Aside0.mk A870
                      clear A870
                      obtain rfl:=Option.some.inj H
                      try go_wp2
                      replace HO_0:=Aside0.mk (Kd.V_drew HO_0.out)
                      replace HB:=Aside0.mk (below_drew1 HB.out)
                      have q89:((ji73):Int) ≤ ((l0.length:Int):Int):=of_decide_eq_true (by first|(with_reducible assumption)|assumption)
                      obtain ⟨i089,hi089,_,hsz89,_⟩:=info_parts info26
                      have hroom89:l0.length ≤ c0:=(Kd.V_reads' HO_0.out).2.1
                      have hC89:Kd.F k26 _ _ A0 l0.length l0:=(Kd.V_at (base:=w.heap.size) HO_0.out).2.2
                      have hcut89:=cut_to (P:=Tryd.prog) 22 26 .i64 Tryd.underlying22 hi089 A0 l0.length c0 (ji73) (of_decide_eq_true (by first|(with_reducible assumption)|assumption)) q89 hroom89
                      have hr89:=Kd.F_take (m:=((ji73):Int).toNat) hC89 (by omega)
                      have hy89:y424.length=((ji73):Int).toNat:=(by rw [Ny424.out,List.length_take];omega)
                      rw [← Ny424.out] at hr89
                      rw [← hy89] at hcut89
                      have HO428:=Aside0.mk (show Kd.V k26 26 _ w.heap.size _ (.slice A0 y424.length c0) y424 from Kd.V_mk (by omega) hr89)
                      have HC428:=Aside0.mk (show y424.length ≤ c0 from by omega)
                      clear hr89 hC89 hroom89 hi089 hsz89
                      have KY89:=Aside0.mk hy89
                      clear hy89
                      replace q89:=eq_true q89
                      have q90:((ji77):Int) ≤ ((l0.length:Int):Int):=of_decide_eq_true (by first|(with_reducible assumption)|assumption)
                      obtain ⟨i090,hi090,_,hsz90,_⟩:=info_parts info26
                      have hroom90:l0.length ≤ c0:=(Kd.V_reads' HO_0.out).2.1
                      have hC90:Kd.F k26 _ _ A0 l0.length l0:=(Kd.V_at (base:=w.heap.size) HO_0.out).2.2
                      have q090:(0:Int) ≤ ((ji77):Int):=of_decide_eq_true (by first|(with_reducible assumption)|assumption)
                      have hcut90:=cut_from (P:=Tryd.prog) 22 26 .i64 Tryd.underlying22 hi090 8 hsz90 A0 l0.length c0 (ji77) q090 q90
                      have hr90:=Kd.F_cut (m:=((ji77):Int).toNat) (c:=c0) hC90 (by omega) hroom90
                      obtain ⟨A90,hA90⟩ : ∃ A1,A1=(if c0=((ji77):Int).toNat then A0 else (A0:Option Addr).map (·.add (((ji77):Int).toNat * 8))):=⟨_,rfl⟩
                      obtain ⟨c90,hc90⟩ : ∃ c1,c1=c0 - ((ji77):Int).toNat:=⟨_,rfl⟩
                      have hy90:y432.length=l0.length - ((ji77):Int).toNat:=(by rw [Ny432.out,List.length_drop] <;> omega)
                      rw [show (l0).drop ((ji77):Int).toNat=y432 from Ny432.out.symm] at hr90
                      replace hr90:Kd.F k26 _ _ A90 y432.length y432:=(by rw [hA90];exact hr90)
                      rw [← hy90,← hA90,← hc90] at hcut90
                      have HO436:=Aside0.mk (show Kd.V k26 26 _ w.heap.size _ (.slice A90 y432.length c90) y432 from Kd.V_mk (by rw [hy90,hc90];exact Nat.sub_le_sub_right hroom90 _) hr90)
                      have HC436:=Aside0.mk (show y432.length ≤ c90 from by rw [hy90,hc90];exact Nat.sub_le_sub_right hroom90 _)
                      clear hr90 hC90 hroom90 hi090 hsz90 hc90
                      have KY90:=Aside0.mk hy90
                      have KA90:=Aside0.mk hA90
                      clear hy90 hA90
                      replace q90:=eq_true q90
                      refine start_ (n:=11) (S:=fun w' => True) (ds:=[]) (zl 11 0) (by kernel_rfl) rfl rfl trivial (fun hHeld=>?_);refine with_tabW tollbarlaw09_TableTurns.tab25 tollbarlaw09_TableTurns.bits25 (fun HT_ HW_=>?_)
                      generalize wc.drew=w88 at HO_0 HB HO428 HO436 hHeld ⊢
                      refine zpu 1 (N:=some 106) (zl 11 2) HT_.out rfl rfl ?_
                      refine zpu 2 (N:=some 107) (zl 11 6) HT_.out rfl rfl ?_
                      refine zpu 3 (N:=some 108) (zl 11 14) HT_.out rfl rfl ?_
                      refine zpu 5 (N:=some 110) (zl 11 46) HT_.out rfl rfl ?_
                      refine zpu 6 (N:=some 111) (zl 11 110) HT_.out rfl rfl ?_
                      refine zpu 7 (N:=some 112) (zl 11 238) HT_.out rfl rfl ?_
                      refine zpu 8 (N:=some 113) (zl 11 494) HT_.out rfl rfl ?_
                      refine one_ (i:=0) (N:=some 105) (zl 11 495) rfl rfl (one_of HT_.out (by kernel_rfl)) (by decide) (fun K hK=>?_)
                      refine Kd.N_lit_step k26 _ 26 ?hg (N' := 105) ?hd (xs:=([]:List (S26))) (inner:=[]) (ok:=(fun k_=>(P0_ k_ ∨ w.heap.size ≤ k_))) (okp:=(fun k_=>(P0_ k_ ∨ w.heap.size ≤ k_))) ?hr ?hp (fun _ hk=>hk) ((show ∀ k_,w88.heap.size ≤ k_ → (fun k_=>(P0_ k_ ∨ w.heap.size ≤ k_)) k_ from fun k_ hk=>(.inr (Nat.le_trans (below_size (by repeat (first|(with_reducible first|exact HB.out|apply below_alloc|apply pw_below_drewN|apply below_drew1)|exact HB.out))) hk))) _ (Nat.le_refl _)) (Below.refl _ _) (Nat.le_refl _) (by simp) ?_;(case hd=>rfl);(case hg=>rfl);(case hr=>first|(go_simp;done)|(go_simp;rfl));(case hp=>exact (Reps.none _ _))
                      intro v422 w91 ho92 hb hg_ hnew_
                      clear hg_ hnew_
                      (first|rw [← Ny421.out] at ho92|(simp only [Int.reduceToNat] at ho92;rw [← Ny421.out] at ho92))
                      have n0_:=Aside0.mk (Kd.V_elder' (by (with_reducible repeat (first|apply Kd.V_alloc|apply Kd.V_drewN|apply Kd.V_drew));exact HO_0.out) (Kd.N_base ho92) hb)
                      have n1_:=Aside0.mk (Kd.V_elder' (by (with_reducible repeat (first|apply Kd.V_alloc|apply Kd.V_drewN|apply Kd.V_drew));exact HO428.out) (Kd.N_base ho92) hb)
                      have n2_:=Aside0.mk (Kd.V_elder' (by (with_reducible repeat (first|apply Kd.V_alloc|apply Kd.V_drewN|apply Kd.V_drew));exact HO436.out) (Kd.N_base ho92) hb)
                      have n3_:=Aside0.mk (Kd.N_lower ho92 (below_size (by repeat (first|(with_reducible first|exact HB.out|apply below_alloc|apply pw_below_drewN|apply below_drew1)|exact HB.out))))
                      have n4_:=Aside0.mk (below_step (by repeat (first|(with_reducible first|exact HB.out|apply below_alloc|apply pw_below_drewN|apply below_drew1)|exact HB.out)) hb)
                      clear HO_0 HO428 HO436 HB
                      have HO_0:=n0_
                      have HO428:=n1_
                      have HO436:=n2_
                      have HO423:=n3_
                      have HB:=n4_
                      clear n0_ n1_ n2_ n3_ n4_ hb ho92
                      refine hK.out _ _ trivial (fun hHeld=>?_)
                      clear hK K
                      refine norm_ (a' := ?_) ?_ ?_
                      rotate_left
                      ·show Act.put _ (some 105) _=_
                       simp only [Act.put,zqA,zqB,zqC,i64_w,i32_w]
                       rfl
                      refine one_ (i:=4) (N:=some 109) (zl 11 511) rfl rfl (one_of HT_.out (by kernel_rfl)) (by decide) (fun K hK=>?_)
                      refine Kd.N_append_rows_step k26 (w0:=w) w.heap.size (by rfl) (.tmp 105) (.tmp 108) 22 26 (.agg #[(.string ⟨#[]⟩),(.slice none 0 0),(.int .i64 0),(.int .i64 0),(.int .i64 0),(.int .i64 0),(.int .i64 0),(.int .i64 0)]) 88 rfl Tryd.underlying22 info26 rfl (by decide) (by omega) v422 y421 y424 _ _ _ (fun k_=>(P0_ k_ ∨ w.heap.size ≤ k_)) (fun k_=>((fun k_=>(P0_ k_ ∨ w.heap.size ≤ k_))) k_∧some k_ ≠ (v422:Value).ownBlock) rfl rfl ?aO ?aR (fun _ hk=>hk) ?aF ?aB ?aS ?aL ?_
                      (case aR=>exact (by skip;exact Kd.V_F (Kd.V_mono (ok' := (fun k_=>((fun k_=>(P0_ k_ ∨ w.heap.size ≤ k_))) k_∧some k_ ≠ (v422:Value).ownBlock)) (HO428.out) (fun k_ hk=>⟨hk.1,hk.2⟩))))
                      (case aB=>exact (by repeat (first|(with_reducible first|exact HB.out|apply below_alloc|apply pw_below_drewN|apply below_drew1)|exact HB.out)))
                      (case aF=>exact (fun k_ hk=>(.inr (Nat.le_trans (below_size (by repeat (first|(with_reducible first|exact HB.out|apply below_alloc|apply pw_below_drewN|apply below_drew1)|exact HB.out))) hk))))
                      (case aO=>exact (by (with_reducible repeat (first|apply Kd.N_alloc|apply Kd.N_drewN|apply Kd.N_drew));exact HO423.out))
                      (case aS=>exact (below_size (by repeat (first|(with_reducible first|exact HB.out|apply below_alloc|apply pw_below_drewN|apply below_drew1)|exact HB.out))))
                      (case aL=>have:=LMc76.out;omega)
                      intro v430 w93 ho hb hg hat
                      rw [← Ny429.out] at ho
                      have n0_:=Aside0.mk (Kd.V_afterv (ok:=(fun k_=>(P0_ k_ ∨ w.heap.size ≤ k_))) (by (with_reducible repeat (first|apply Kd.V_alloc|apply Kd.V_drewN|apply Kd.V_drew));exact HO_0.out) hg hat)
                      have n1_:=Aside0.mk (Kd.V_afterv (ok:=(fun k_=>(P0_ k_ ∨ w.heap.size ≤ k_))) (by (with_reducible repeat (first|apply Kd.V_alloc|apply Kd.V_drewN|apply Kd.V_drew));exact HO428.out) hg hat)
                      have n2_:=Aside0.mk (Kd.V_afterv (ok:=(fun k_=>(P0_ k_ ∨ w.heap.size ≤ k_))) (by (with_reducible repeat (first|apply Kd.V_alloc|apply Kd.V_drewN|apply Kd.V_drew));exact HO436.out) hg hat)
                      have n3_:=Aside0.mk (hb)
                      have n4_:=Aside0.mk (ho)
                      clear HO_0 HO428 HO436 HB HO423
                      have HO_0:=n0_
                      have HO428:=n1_
                      have HO436:=n2_
                      have HB:=n3_
                      have HO431:=n4_
                      clear n0_ n1_ n2_ n3_ n4_ ho hb hg hat
                      refine hK.out _ _ trivial (fun hHeld=>?_)
                      clear hK K
                      refine norm_ (a' := ?_) ?_ ?_
                      rotate_left
                      ·show Act.put _ (some 109) _=_
                       simp only [Act.put,zqA,zqB,zqC,i64_w,i32_w]
                       rfl
                      refine one_ (i:=9) (N:=some 114) (zl 11 1023) rfl rfl (one_of HT_.out (by kernel_rfl)) (by decide) (fun K hK=>?_)
                      refine Kd.N_append_rows_step k26 (w0:=w) w.heap.size (by rfl) (.tmp 109) (.tmp 113) 22 26 (.agg #[(.string ⟨#[]⟩),(.slice none 0 0),(.int .i64 0),(.int .i64 0),(.int .i64 0),(.int .i64 0),(.int .i64 0),(.int .i64 0)]) 88 rfl Tryd.underlying22 info26 rfl (by decide) (by omega) v430 y429 y432 _ _ _ (fun k_=>(P0_ k_ ∨ w.heap.size ≤ k_)) (fun k_=>((fun k_=>(P0_ k_ ∨ w.heap.size ≤ k_))) k_∧some k_ ≠ (v430:Value).ownBlock) rfl rfl ?aO ?aR (fun _ hk=>hk) ?aF ?aB ?aS ?aL ?_
                      (case aR=>exact (by skip;exact Kd.V_F (Kd.V_mono (ok' := (fun k_=>((fun k_=>(P0_ k_ ∨ w.heap.size ≤ k_))) k_∧some k_ ≠ (v430:Value).ownBlock)) (HO436.out) (fun k_ hk=>⟨hk.1,hk.2⟩))))
                      (case aB=>exact (by repeat (first|(with_reducible first|exact HB.out|apply below_alloc|apply pw_below_drewN|apply below_drew1)|exact HB.out)))
                      (case aF=>exact (fun k_ hk=>(.inr (Nat.le_trans (below_size (by repeat (first|(with_reducible first|exact HB.out|apply below_alloc|apply pw_below_drewN|apply below_drew1)|exact HB.out))) hk))))
                      (case aO=>exact (by (with_reducible repeat (first|apply Kd.N_alloc|apply Kd.N_drewN|apply Kd.N_drew));exact HO431.out))
                      (case aS=>exact (below_size (by repeat (first|(with_reducible first|exact HB.out|apply below_alloc|apply pw_below_drewN|apply below_drew1)|exact HB.out))))
                      (case aL=>have:=LMc80.out;omega)
                      intro v438 w94 ho hb hg hat
                      rw [← Ny437.out] at ho
                      have n0_:=Aside0.mk (Kd.V_afterv (ok:=(fun k_=>(P0_ k_ ∨ w.heap.size ≤ k_))) (by (with_reducible repeat (first|apply Kd.V_alloc|apply Kd.V_drewN|apply Kd.V_drew));exact HO_0.out) hg hat)
                      have n1_:=Aside0.mk (Kd.V_afterv (ok:=(fun k_=>(P0_ k_ ∨ w.heap.size ≤ k_))) (by (with_reducible repeat (first|apply Kd.V_alloc|apply Kd.V_drewN|apply Kd.V_drew));exact HO428.out) hg hat)
                      have n2_:=Aside0.mk (Kd.V_afterv (ok:=(fun k_=>(P0_ k_ ∨ w.heap.size ≤ k_))) (by (with_reducible repeat (first|apply Kd.V_alloc|apply Kd.V_drewN|apply Kd.V_drew));exact HO436.out) hg hat)
                      have n3_:=Aside0.mk (hb)
                      have n4_:=Aside0.mk (ho)
                      clear HO_0 HO428 HO436 HB HO431
                      have HO_0:=n0_
                      have HO428:=n1_
                      have HO436:=n2_
                      have HB:=n3_
                      have HO439:=n4_
                      clear n0_ n1_ n2_ n3_ n4_ ho hb hg hat
                      refine hK.out _ _ trivial (fun hHeld=>?_)
                      clear hK K
                      refine norm_ (a' := ?_) ?_ ?_
                      rotate_left
                      ·show Act.put _ (some 114) _=_
                       simp only [Act.put,zqA,zqB,zqC,i64_w,i32_w]
                       rfl
                      refine zpu 10 (N:=some 18) (zl 11 2047) HT_.out rfl rfl ?_
                      refine done_ (done_of HT_.out (by kernel_rfl)) ?_
                      obtain ⟨Ao95,co95,eo95⟩:=Kd.N_slice HO439.out
                      subst eo95
                      try go_wp2_with (first|((with_reducible refine gate_callee (f:=9) rfl ?_);refine goesL_ (some 116) rfl rfl Tryd.func9 (by kernel_rfl) rfl #[.slice Ao95 y437.length co95] rfl (by (try simp only [List.map_toArray,List.map_cons,List.map_nil]);first|done|rfl|(simp only [List.length_drop,List.length_take];rfl)) ?_;(with_reducible refine (table_Right.calls kj65 _ _ y437 t440 _ ?side1 ?side2 A81.out).mono ?_);(case side1=>repeat (first|exact (Kd.N_reads' HO439.out).2.2|(with_reducible refine Kd.C_alloc ?_ _)|(with_reducible refine Kd.C_drewN ?_ _)|(with_reducible refine Kd.C_drew ?_)));(case side2=>exact (Kd.N_reads' HO439.out).2.1);rintro e w96 ⟨rfl,hb⟩;(try clear A81);refine ⟨_,rfl,?_⟩;replace HO_0:=Aside0.mk (Kd.V_below (by (with_reducible repeat (first|apply Kd.V_alloc|apply Kd.V_drewN|apply Kd.V_drew));exact HO_0.out) hb);replace HO428:=Aside0.mk (Kd.V_below (by (with_reducible repeat (first|apply Kd.V_alloc|apply Kd.V_drewN|apply Kd.V_drew));exact HO428.out) hb);replace HO436:=Aside0.mk (Kd.V_below (by (with_reducible repeat (first|apply Kd.V_alloc|apply Kd.V_drewN|apply Kd.V_drew));exact HO436.out) hb);replace HO439:=Aside0.mk (Kd.N_below (by (with_reducible repeat (first|apply Kd.N_alloc|apply Kd.N_drewN|apply Kd.N_drew));exact HO439.out) hb);replace HB:=Aside0.mk (below_step (by repeat (first|(with_reducible first|exact HB.out|apply below_alloc|apply pw_below_drewN|apply below_drew1)|exact HB.out)) hb);(try clear hb);have p37:0 ≤ ((ji73):Int):=of_decide_eq_true (by first|(with_reducible assumption)|assumption);have q37:(ji73) < (l0.length:Int):=of_decide_eq_true (by first|(with_reducible assumption)|assumption);obtain ⟨ad37,A37_1,c37_1,e37,hx37_0,hx37_1,hx37_2,hx37_3,hx37_4,hx37_5,hx37_6,hx37_7,hl37_1,hi37_1⟩:=at_T26 (Kd.V_reads' HO_0.out).2.2 (ji73) p37 q37;cases e37;obtain ⟨ce37,hce37,hMe37,hcc37⟩:=Kd.V_get HO_0.out z26 (ji73) p37 (by first|exact q37|exact of_decide_eq_true (by first|(with_reducible assumption)|assumption)|(have e_:=(Kd.V_reads' HO_0.out).1;omega));obtain ⟨ua37_1,uc37_1,rfl,ul37_1,ge37_1⟩:=k26_openF hMe37;have hv37_1:=hcc37 1 _ rfl;rw [add_field _ _ 1 (by omega)] at hv37_1;replace hv37_1:=Option.some.inj (hv37_1.symm.trans hx37_1);injection hv37_1 with hva_ hvn_ hvc_;rw [hva_] at ge37_1;rw [hvc_] at ul37_1;have HL37_1:=Aside0.mk (show Kd.V Kd.string 9 _ w.heap.size _ _ ((rd_T26 l0 (ji73)).f1) from Kd.V_mk ul37_1 ge37_1);clear hva_ hvn_ hvc_ ge37_1 ul37_1;clear hcc37 hce37;have HR37_1:=Aside0.mk hi37_1;have HC37_1:=Aside0.mk hl37_1;clear hi37_1 hl37_1;replace p37:=eq_true p37;replace q37:=eq_true q37)|(go_at_call 13;(with_reducible refine (table_Named.calls _ _ y437 ((rd_T26 l0 (ji73)).f0) t442 _ ?side1 ?side2 A84.out).mono ?_);(case side1=>repeat (first|exact (Kd.N_reads' HO439.out).2.2|(with_reducible refine Kd.C_alloc ?_ _)|(with_reducible refine Kd.C_drewN ?_ _)|(with_reducible refine Kd.C_drew ?_)));(case side2=>exact (Kd.N_reads' HO439.out).2.1);rintro e w97 ⟨rfl,hb⟩;(try clear A84);replace HO_0:=Aside0.mk (Kd.V_below (by (with_reducible repeat (first|apply Kd.V_alloc|apply Kd.V_drewN|apply Kd.V_drew));exact HO_0.out) hb);replace HO428:=Aside0.mk (Kd.V_below (by (with_reducible repeat (first|apply Kd.V_alloc|apply Kd.V_drewN|apply Kd.V_drew));exact HO428.out) hb);replace HO436:=Aside0.mk (Kd.V_below (by (with_reducible repeat (first|apply Kd.V_alloc|apply Kd.V_drewN|apply Kd.V_drew));exact HO436.out) hb);replace HO439:=Aside0.mk (Kd.N_below (by (with_reducible repeat (first|apply Kd.N_alloc|apply Kd.N_drewN|apply Kd.N_drew));exact HO439.out) hb);replace HL37_1:=Aside0.mk (Kd.V_below (by (with_reducible repeat (first|apply Kd.V_alloc|apply Kd.V_drewN|apply Kd.V_drew));exact HL37_1.out) hb);replace HR37_1:=Aside0.mk (Kd.C_below (by repeat (first|(with_reducible exact HR37_1.out)|(with_reducible refine Kd.C_alloc ?_ _)|(with_reducible refine Kd.C_drewN ?_ _)|(with_reducible refine Kd.C_drew ?_)|exact HR37_1.out)) hb);replace HB:=Aside0.mk (below_step (by repeat (first|(with_reducible first|exact HB.out|apply below_alloc|apply pw_below_drewN|apply below_drew1)|exact HB.out)) hb);(try clear hb);have p443:0 ≤ ((ji73):Int):=of_decide_eq_true (by first|(with_reducible assumption)|assumption);have q443:(ji73) < (l0.length:Int):=of_decide_eq_true (by first|(with_reducible assumption)|assumption);obtain ⟨ad443,A443_1,c443_1,e443,hx443_0,hx443_1,hx443_2,hx443_3,hx443_4,hx443_5,hx443_6,hx443_7,hl443_1,hi443_1⟩:=at_T26 (Kd.V_reads' HO_0.out).2.2 (ji73) p443 q443;obtain rfl:ad37=ad443:=(by injection e443);obtain ⟨ce443,hce443,hMe443,hcc443⟩:=Kd.V_get HO_0.out z26 (ji73) p443 (by first|exact q443|exact of_decide_eq_true (by first|(with_reducible assumption)|assumption)|(have e_:=(Kd.V_reads' HO_0.out).1;omega));obtain ⟨ua443_1,uc443_1,rfl,ul443_1,ge443_1⟩:=k26_openF hMe443;have hv443_1:=hcc443 1 _ rfl;rw [add_field _ _ 1 (by omega)] at hv443_1;replace hv443_1:=Option.some.inj (hv443_1.symm.trans hx443_1);injection hv443_1 with hva_ hvn_ hvc_;rw [hva_] at ge443_1;rw [hvc_] at ul443_1;have HL443_1:=Aside0.mk (show Kd.V Kd.string 9 _ w.heap.size _ _ ((rd_T26 l0 (ji73)).f1) from Kd.V_mk ul443_1 ge443_1);clear hva_ hvn_ hvc_ ge443_1 ul443_1;clear hcc443 hce443;have HR443_1:=Aside0.mk hi443_1;have HC443_1:=Aside0.mk hl443_1;clear hi443_1 hl443_1;replace p443:=eq_true p443;replace q443:=eq_true q443;have p444:0 ≤ (0:Int):=(by omega);have q444:0 < (((rd_T26 l0 (ji73)).f1).length:Int):=of_decide_eq_true (by first|(with_reducible assumption)|assumption);obtain ⟨ad444,e444,hx444_0⟩:=Kd.at_string (by repeat (first|(with_reducible exact HR443_1.out)|(with_reducible refine Kd.C_alloc ?_ _)|(with_reducible refine Kd.C_drewN ?_ _)|(with_reducible refine Kd.C_drew ?_)|exact HR443_1.out)) 0 p444 q444;cases e444;have qi444:(0 < ((rd_T26 l0 (ji73)).f1).length)=True:=eq_true (by omega);(try rw [show ((0:Int)).toNat=0 from rfl] at hx444_0);(try rw [Addr.add_zero'] at hx444_0);replace p444:=eq_true p444;replace q444:=eq_true q444)|(go_at_call 11;(with_reducible refine (table_Find.calls kj65 _ _ y437 (rdOf ByteArray.empty ((rd_T26 l0 (ji73)).f1) 0) t445 _ ?side1 ?side2 A87.out).mono ?_);(case side1=>repeat (first|exact (Kd.N_reads' HO439.out).2.2|(with_reducible refine Kd.C_alloc ?_ _)|(with_reducible refine Kd.C_drewN ?_ _)|(with_reducible refine Kd.C_drew ?_)));(case side2=>exact (Kd.N_reads' HO439.out).2.1);rintro e w98 ⟨rfl,hb⟩;(try clear A87);replace HO_0:=Aside0.mk (Kd.V_below (by (with_reducible repeat (first|apply Kd.V_alloc|apply Kd.V_drewN|apply Kd.V_drew));exact HO_0.out) hb);replace HO428:=Aside0.mk (Kd.V_below (by (with_reducible repeat (first|apply Kd.V_alloc|apply Kd.V_drewN|apply Kd.V_drew));exact HO428.out) hb);replace HO436:=Aside0.mk (Kd.V_below (by (with_reducible repeat (first|apply Kd.V_alloc|apply Kd.V_drewN|apply Kd.V_drew));exact HO436.out) hb);replace HO439:=Aside0.mk (Kd.N_below (by (with_reducible repeat (first|apply Kd.N_alloc|apply Kd.N_drewN|apply Kd.N_drew));exact HO439.out) hb);replace HL37_1:=Aside0.mk (Kd.V_below (by (with_reducible repeat (first|apply Kd.V_alloc|apply Kd.V_drewN|apply Kd.V_drew));exact HL37_1.out) hb);replace HL443_1:=Aside0.mk (Kd.V_below (by (with_reducible repeat (first|apply Kd.V_alloc|apply Kd.V_drewN|apply Kd.V_drew));exact HL443_1.out) hb);replace HR37_1:=Aside0.mk (Kd.C_below (by repeat (first|(with_reducible exact HR37_1.out)|(with_reducible refine Kd.C_alloc ?_ _)|(with_reducible refine Kd.C_drewN ?_ _)|(with_reducible refine Kd.C_drew ?_)|exact HR37_1.out)) hb);replace HR443_1:=Aside0.mk (Kd.C_below (by repeat (first|(with_reducible exact HR443_1.out)|(with_reducible refine Kd.C_alloc ?_ _)|(with_reducible refine Kd.C_drewN ?_ _)|(with_reducible refine Kd.C_drew ?_)|exact HR443_1.out)) hb);replace HB:=Aside0.mk (below_step (by repeat (first|(with_reducible first|exact HB.out|apply below_alloc|apply pw_below_drewN|apply below_drew1)|exact HB.out)) hb);(try clear hb)))
                      go_ret
                      exact ⟨by first|rfl|(simp [errW_none,errW_some] <;> rfl)|(simp only [← hji19,← hji73,← hji77];first|rfl|(simp [errW_none,errW_some] <;> rfl))|(simp [*,errW_none,errW_some] <;> rfl),by repeat (first|(with_reducible first|exact HB.out|apply below_alloc|apply pw_below_drewN|apply below_drew1)|exact HB.out)⟩
                     ·rw [if_neg c86] at H
                      exact absurd H (by simp)
                    ·rw [if_neg c85] at H
                     have c85b0:=beq_eq_false_iff_ne.mpr c85
                     have c85b1:=bne_iff_ne.mpr c85
                     exact absurd ((Option.some.inj H).trans HRT.out) (by decide)
                   ·rw [if_neg c83] at H
                    exact absurd H (by simp)
                  ·rw [if_neg c82] at H
                   have c82b0:(t440 == (decide ((l0.length:Int) > 1)))=false:=by simpa using c82
                   (try (have c82b1:decide (t440=(decide ((l0.length:Int) > 1)))=false:=by simpa using c82))
                   (try (have c82b2:(t440 == (decide ((l0.length:Int) > 1)))=false:=by simpa using c82))
                   (try (have c82b3 : ¬ (t440=(decide ((l0.length:Int) > 1))):=by simpa using c82))
                   clear c82
                   exact absurd ((Option.some.inj H).trans HRT.out) (by decide)
                 ·rw [if_neg c80] at H
                  exact absurd H (by simp)
                ·rw [if_neg c79] at H
                 exact absurd H (by simp)
               ·rw [if_neg c78] at H
                exact absurd H (by simp)
              ·rw [if_neg c76] at H
               exact absurd H (by simp)
             ·rw [if_neg c75] at H
              exact absurd H (by simp)
            ·rw [if_neg c74] at H
             exact absurd H (by simp)
       ·rw [if_neg c25] at H
        exact absurd H (by simp)
      ·rw [if_neg c21] at H
       exact absurd H (by simp)
     ·rw [if_neg c20] at H
      exact absurd H (by simp)
theorem tollbarlaw09_TableTurns.calls (k:Nat) (A0:Option Addr) (c0:Nat) (l0:List (S26)) (a1:Int) (a2:Int) (r:Bool) (w:World) (hr0:Kd.C k26 w A0 l0.length l0) (hc0:l0.length ≤ c0) (h:tollbarlaw09_TableTurns.f k l0 a1 a2=some r) (hr:r=true) (ht:Tabs w) :
 Calls Tryd.prog 6 #[.slice A0 l0.length c0,.int .i64 a1,.int .i64 a2] w fun e w' => e = .returned (.bool r)∧Below w.heap.size w w' := by
 exact tollbarlaw09_TableTurns.callsV k (fun k_=>k_ < w.heap.size) A0 c0 l0 a1 a2 r w (Kd.V_mk hc0 (Kd.C_F (Kd.heap_iso _ (Kd.heap_pair Kd.heap_string (Kd.heap_pair (Kd.heap_slice _ Kd.heap_string) (Kd.heap_pair (Kd.heap_int .i64) (Kd.heap_pair (Kd.heap_int .i64) (Kd.heap_pair (Kd.heap_int .i64) (Kd.heap_pair (Kd.heap_int .i64) (Kd.heap_pair (Kd.heap_int .i64) (Kd.heap_int .i64))))))))) hr0)) h hr ht
end Go.Proofs.YtclpanalnbmejaaDoor.P
namespace Go.Proofs.YtclpanalnbmejaaDoor.Pure
open Go.RowKit Go.Proofs.YtclpanalnbmejaaDoor.P Go.Proofs.YtclpanalnbmejaaDoorW.PrintWords Go.Proofs.YtclpanalnbmejaaDoorW.PrintLast Go.Proofs.YtclpanalnbmejaaDoorW.PrintMore
set_option linter.unusedVariables false
set_option linter.unusedSimpArgs false
theorem up {α:Type} {g:Nat → Option α} (hm : ∀ k,LeO (g k) (g (k + 1))) {n:Nat} {r:α} (h:g n=some r) : ∀ d,g (n + d)=some r
 | 0=>h
 | d + 1=>hm _ _ (up hm h d)
theorem up_to {α:Type} {g:Nat → Option α} (hm : ∀ k,LeO (g k) (g (k + 1))) {n k:Nat} {r:α} (h:g n=some r) (hk:n ≤ k):g k=some r:=by
 obtain ⟨d,rfl⟩ : ∃ d,k=n + d:=⟨k - n,by omega⟩
 exact up hm h d
theorem alive9_at:tollbarlaw09_alive.f 100=some true:=by kernel_rfl
theorem alive9_f (k:Nat) (hk:100 ≤ k):tollbarlaw09_alive.f k=some true:=up_to (fun k=>tollbarlaw09_alive.mono k) alive9_at hk
theorem and_mask (x : Int) (j : Nat) (hj : j ≤ 62) : Go.bits .and .i64 x (2 ^ j - 1) = x % 2 ^ j := by
  have hpos : 0 < 2 ^ j := Nat.two_pow_pos j
  have hlt : 2 ^ j ≤ 2 ^ 62 := Nat.pow_le_pow_right (by decide) hj
  have hc : ((2 : Int) ^ j - 1) = ((2 ^ j - 1 : Nat) : Int) := by rw [Int.natCast_sub hpos]; simp
  have hb : (2 ^ j - 1) % 2 ^ 64 = 2 ^ j - 1 := Nat.mod_eq_of_lt (by omega)
  have hd : ((2 : Int) ^ j) ∣ 2 ^ 64 := ⟨2 ^ (64 - j), by rw [← Int.pow_add]; congr 1; omega⟩
  have hk : (BitVec.ofInt 64 x &&& BitVec.ofInt 64 ((2 ^ j - 1 : Nat) : Int)).toNat = (x % ((2 ^ 64 : Nat) : Int)).toNat % 2 ^ j := by
    rw [BitVec.toNat_and, BitVec.ofInt_natCast, BitVec.toNat_ofNat, hb, Nat.and_two_pow_sub_one_eq_mod, BitVec.toNat_ofInt]
  have hg : bits .and .i64 x (2 ^ j - 1) = IntKind.i64.wrap (((BitVec.ofInt 64 x &&& BitVec.ofInt 64 ((2 ^ j - 1 : Nat) : Int)).toNat : Nat) : Int) := by rw [hc]; rfl
  have hx : (((x % ((2 ^ 64 : Nat) : Int)).toNat % 2 ^ j : Nat) : Int) = x % 2 ^ j := by
    rw [Int.natCast_emod, Int.toNat_of_nonneg (Int.emod_nonneg _ (by decide))]
    have := Int.emod_emod_of_dvd x hd
    simpa using this
  rw [hg, hk, hx, IntKind.wrap_i64]
  have h1 : 0 ≤ x % (2 : Int) ^ j := Int.emod_nonneg _ (by have : (0 : Int) < 2 ^ j := by exact_mod_cast hpos
                                                           omega)
  have h2 : x % (2 : Int) ^ j < 2 ^ j := Int.emod_lt_of_pos _ (by exact_mod_cast hpos)
  have h3 : (2 : Int) ^ j ≤ 2 ^ 62 := by exact_mod_cast hlt
  have h4 : (2 : Int) ^ 62 = 4611686018427387904 := by decide
  omega
theorem w64 {i:Int} {n:Nat} (c:Int) (h0:0 ≤ i) (h:i < (n:Int)) (hn:n ≤ 140737488355328) (hc0 : -3 ≤ c) (hc:c ≤ 3):wrap64 (i + c)=i + c:=by
 unfold wrap64;omega
theorem toList_data (s:ByteArray):s.toList=s.data.toList:=by
 simp [ByteArray.toList_eq]
def mkS (l:List UInt8):ByteArray:=⟨l.toArray⟩
theorem mkS_data (l:List UInt8):(mkS l).data.toList=l:=by simp [mkS]
theorem mkS_self (s:ByteArray):mkS s.data.toList=s:=by simp [mkS]
theorem mkS_size (l:List UInt8):(mkS l).size=l.length:=by rw [← data_length,mkS_data]
theorem mkS_toList (l:List UInt8):(mkS l).toList=l:=by rw [toList_data,mkS_data]
theorem mkS_bytes (l:List UInt8):bytesOf (mkS l)=l.map fun b=>(b.toNat:Int):=by unfold bytesOf;rw [mkS_data]
theorem mkS_append (a b:List UInt8):mkS a ++ mkS b=mkS (a ++ b):=by
 apply ByteArray.ext
 simp [mkS]
theorem hostEnd_ok (u:List UInt8) (h:(hostEnd (mkS u)).2=true):(hostEnd (mkS u)).1=mkS u∧0 < u.length∧u.length ≤ 64∧(bytesOf (mkS u)).all hostC=true:=by
 unfold hostEnd at h ⊢
 rw [mkS_size] at h ⊢
 by_cases c:u.length=0 ∨ 64 < u.length
 ·rw [if_pos c] at h;cases h
 ·rw [if_neg c] at h ⊢
  by_cases c2:(bytesOf (mkS u)).all hostC=true
  ·rw [if_pos c2];exact ⟨rfl,by omega,by omega,c2⟩
  ·rw [if_neg c2] at h;cases h
theorem Host_some (l:List UInt8) (hn:l.length ≤ 140737488355328) : ∃ u,line_Host.f (mkS l)=some (hostEnd (mkS u)):=by
 unfold line_Host.f
 rw [if_pos (by rw [mkS_size];exact hn)]
 exact ⟨(hostCut (strOfNums ((bytesOf (mkS l)).map foldC))).data.toList,by rw [mkS_self]⟩
/-- A test of each,and of any. -/
theorem anyO_eq {α:Type} (q:α → Option Bool) (p:α → Bool) : ∀ l:List α,(∀ x ∈ l,q x=some (p x)) → anyO q l=some (l.any p)
 | [],_=>rfl
 | x :: r,h=>by
  simp only [anyO,List.any_cons]
  rw [h x (List.mem_cons_self ..),Option.bind_some]
  cases hp:p x
  ·rw [if_neg (by simp)]
   simp only [Bool.false_or]
   exact anyO_eq q p r (fun y hy=>h y (List.mem_cons_of_mem _ hy))
  ·rw [if_pos rfl]
   rfl
def nameC (c:Int):Bool:=decide (97 ≤ c∧c ≤ 122) || (decide (48 ≤ c∧c ≤ 57) || decide (c=45))
def nameR (s:ByteArray):Nat → Nat → Bool
 | 0,_=>true
 | d + 1,i=>nameC (bt s i) && nameR s d (i + 1)
/-- Is a text a name? -/
def tblName (s:ByteArray):Bool:=decide (1 ≤ s.size∧s.size ≤ 30) && (decide (97 ≤ bt s 0∧bt s 0 ≤ 122) && nameR s s.size 0)
theorem name_step (k:Nat) (s:ByteArray) (i:Nat) (hi:i < s.size) (hs:s.size ≤ 140737488355328):table_Name.l0 (k + 1) s (s.size:Int) (i:Int)=if nameC (bt s i)=true then table_Name.l0 k s (s.size:Int) ((i + 1:Nat):Int) else some false:=by
 rw [table_Name.l0,if_pos (by omega),if_pos (by omega),if_pos (by omega)]
 have hw:wrap64 ((i:Int) + 1)=((i + 1:Nat):Int):=by unfold wrap64;omega
 rw [hw]
 obtain ⟨c,hc⟩ : ∃ c,bt s i=c:=⟨_,rfl⟩
 rw [hc]
 unfold nameC
 simp only [Bool.or_eq_true,decide_eq_true_eq]
 repeat' split
 all_goals first|rfl|(exfalso;omega)
theorem name_l0 (s:ByteArray) (hs:s.size ≤ 140737488355328) : ∀ (d k i:Nat),i + d=s.size → d < k → table_Name.l0 k s (s.size:Int) (i:Int)=some (nameR s d i)
 | d,0,_,_,h=>by omega
 | 0,k + 1,i,h,_=>by
  rw [table_Name.l0,if_neg (by omega)]
  rfl
 | d + 1,k + 1,i,h,hk=>by
  rw [name_step k s i (by omega) hs,name_l0 s hs d k (i + 1) (by omega) (by omega),nameR]
  cases nameC (bt s i) <;> rfl
theorem name_f (s:ByteArray) (hs:s.size ≤ 140737488355328) (k:Nat) (hk:40 ≤ k):table_Name.f k s=some (tblName s):=by
 obtain ⟨m,rfl⟩ : ∃ m,k=m + 1:=⟨k - 1,by omega⟩
 unfold table_Name.f tblName
 by_cases h0:s.toList=[]
 ·rw [if_pos h0]
  have hz:s.size=0:=by rw [← data_length,← toList_data,h0];rfl
  rw [table_Name.j0,if_pos rfl,hz]
  rfl
 ·rw [if_neg h0]
  have hz:1 ≤ s.size:=by
   rcases Nat.eq_zero_or_pos s.size with h|h
   ·exfalso
    apply h0
    rw [toList_data]
    exact List.length_eq_zero_iff.1 (by rw [data_length];exact h)
   ·exact h
  by_cases h1:(s.size:Int) > 30
  ·rw [if_pos h1,table_Name.j0,if_pos rfl,decide_eq_false (by omega)]
   rfl
  ·rw [if_neg h1,if_pos (by omega),decide_eq_true (show 1 ≤ s.size∧s.size ≤ 30 by omega),Bool.true_and]
   by_cases h2:bt s 0 < 97
   ·rw [if_pos h2,table_Name.j0,if_pos rfl,decide_eq_false (by omega)]
    rfl
   ·rw [if_neg h2,table_Name.j0]
    by_cases h3:bt s 0 > 122
    ·rw [decide_eq_true h3,if_pos rfl,decide_eq_false (by omega)]
     rfl
    ·rw [decide_eq_false h3,if_neg (by simp),decide_eq_true (show 97 ≤ bt s 0∧bt s 0 ≤ 122 by omega),Bool.true_and]
     exact name_l0 s hs s.size m 0 (by omega) (by omega)
/-- Is a text a host as it is told? -/
def hostB (h:ByteArray):Bool:=match line_Host.f h with
 | some p=>p.2 && (p.1.toList == h.toList)
 | none=>false
theorem right2_f (h:ByteArray) (hs:h.size ≤ 140737488355328):table_right_2.f h=some (!hostB h):=by
 obtain ⟨u,hu⟩:=Host_some h.data.toList (by rw [data_length];exact hs)
 rw [mkS_self] at hu
 unfold table_right_2.f hostB
 rw [hu,Option.bind_some]
 dsimp only
 cases (hostEnd (mkS u)).2
 ·rfl
 ·rw [if_pos rfl]
  rfl
def numB (a lo hi:Int):Bool:=decide (lo ≤ a∧a ≤ hi)
theorem right1_f (a lo hi:Int):table_right_1.f a lo hi=some (!numB a lo hi):=by
 unfold table_right_1.f numB
 by_cases h:a < lo
 ·rw [if_pos h,decide_eq_false (by omega)]
  rfl
 ·rw [if_neg h]
  by_cases h2:a > hi
  ·rw [decide_eq_true h2,decide_eq_false (by omega)]
   rfl
  ·rw [decide_eq_false h2,decide_eq_true (by omega)]
   rfl
def numsB (x:S26):Bool:=numB x.f2 256 1048576 && (numB x.f3 1 64 && (numB x.f4 1 64 && (numB x.f5 1 1048576 && (numB x.f6 1 1048576 && numB x.f7 1 1048576))))
/-- Is a slot right? -/
def slotB (x:S26):Bool:=tblName x.f0 && (numsB x && (x.f1.all hostB && decide (1 ≤ x.f1.length∧x.f1.length ≤ 8)))
theorem right_f (x:S26) (h0:x.f0.size ≤ 140737488355328) (h1 : ∀ h ∈ x.f1,h.size ≤ 140737488355328) (k:Nat) (hk:40 ≤ k):table_right.f k x.f0 x.f1 x.f2 x.f3 x.f4 x.f5 x.f6 x.f7=some (slotB x):=by
 unfold table_right.f table_bounds.f
 rw [Option.bind_some,anyO_eq _ (fun (b:S53) => !numB b.f0 b.f1 b.f2) _ (fun b _=>right1_f _ _ _),Option.bind_some,anyO_eq _ (fun h => !hostB h) _ (fun h hh=>right2_f h (h1 h hh)),Option.bind_some,name_f _ h0 k hk,Option.bind_some]
 have e1:([(⟨x.f2,256,1048576⟩:S53),⟨x.f3,1,64⟩,⟨x.f4,1,64⟩,⟨x.f5,1,1048576⟩,⟨x.f6,1,1048576⟩,⟨x.f7,1,1048576⟩].any fun b => !numB b.f0 b.f1 b.f2) = !numsB x:=by
  unfold numsB
  simp only [List.any_cons,List.any_nil,Bool.or_false,Bool.not_and]
 have e2:(x.f1.any fun h => !hostB h) = !(x.f1.all hostB):=by
  rw [List.all_eq_not_any_not,Bool.not_not]
 rw [e1,e2]
 unfold slotB
 cases tblName x.f0
 ·rfl
 ·cases numsB x
  ·rfl
  ·cases x.f1.all hostB
   ·rfl
   ·simp only [Bool.not_true,Bool.true_and,if_true,Bool.false_eq_true,if_false]
    by_cases hl:1 ≤ x.f1.length
    ·rw [if_pos hl]
     congr 1
     rw [decide_eq_decide]
     omega
    ·rw [if_neg hl,decide_eq_false (by omega)]
theorem hasB_in (S:List ByteArray) (s:ByteArray):hasB S s=true ↔ s ∈ S:=by
 unfold hasB
 rw [List.any_eq_true]
 constructor
 ·rintro ⟨t,ht,he⟩
  have he:=beq_iff_eq.1 he
  rw [toList_data,toList_data] at he
  rw [← mkS_self s,← he,mkS_self]
  exact ht
 ·intro h
  exact ⟨s,h,beq_self_eq_true _⟩
theorem unlike_iff : ∀ (l S:List ByteArray),unlikeB S l=true ↔ l.Nodup ∧ ∀ x ∈ l,x ∉ S
 | [],S=>by simp [unlikeB]
 | x :: r,S=>by
  rw [unlikeB]
  by_cases h:hasB S x=true
  ·rw [if_pos h]
   constructor
   ·intro h2
    cases h2
   ·intro h2
    exact absurd ((hasB_in S x).1 h) (h2.2 x (List.mem_cons_self ..))
  ·rw [if_neg h,unlike_iff r (S ++ [x]),List.nodup_cons]
   have h3:x ∉ S:=fun h4=>h ((hasB_in S x).2 h4)
   constructor
   ·rintro ⟨h1,h2⟩
    refine ⟨⟨fun h4=>?_,h1⟩,fun y hy=>?_⟩
    ·exact h2 x h4 (by simp)
    ·rcases List.mem_cons.1 hy with rfl|hy
     ·exact h3
     ·intro h4
      exact h2 y hy (by simp [h4])
   ·rintro ⟨⟨h1,h2⟩,h5⟩
    refine ⟨h2,fun y hy h4=>?_⟩
    rcases List.mem_append.1 h4 with h4|h4
    ·exact h5 y (List.mem_cons_of_mem _ hy) h4
    ·rw [List.mem_singleton] at h4
     rw [h4] at hy
     exact h1 hy
/-- Is a table right? -/
def rightT (t:List (S26)):Bool:=decide (1 ≤ t.length∧t.length ≤ 16) && (t.all slotB && (unlikeB [] (t.map (·.f0)) && unlikeB [] (t.flatMap (·.f1))))
def FitT (t:List (S26)):Prop := ∀ x ∈ t,x.f0.size ≤ 140737488355328 ∧ ∀ h ∈ x.f1,h.size ≤ 140737488355328
theorem slot_hosts {x:S26} (h:slotB x=true):x.f1.length ≤ 8∧1 ≤ x.f1.length:=by
 unfold slotB at h
 simp only [Bool.and_eq_true,decide_eq_true_iff] at h
 exact ⟨h.2.2.2.2,h.2.2.2.1⟩
theorem rd_slot (t:List (S26)) (i:Nat) (h:i < t.length):rd_T26 t (i:Int)=t[i]:=by
 unfold rd_T26
 rw [Int.toNat_natCast,List.getD_eq_getElem?_getD,List.getElem?_eq_getElem h]
 rfl
theorem Right_l0 (t:List (S26)) (hf:FitT t) (hl:t.length ≤ 16) : ∀ (d k i:Nat) (ns hs:List ByteArray),i + d=t.length → d + 42 ≤ k → ns.length ≤ i → hs.length ≤ 8 * i → (∀ s ∈ ns,s.size ≤ 140737488355328) → (∀ s ∈ hs,s.size ≤ 140737488355328) →
 table_Right.l0 k ns hs t (t.length:Int) (i:Int)=some ((t.drop i).all slotB && (unlikeB [] (ns ++ (t.drop i).map (·.f0)) && unlikeB [] (hs ++ (t.drop i).flatMap (·.f1))))
 | d,0,_,_,_,_,h,_,_,_,_=>by omega
 | 0,k + 1,i,ns,hs,h,hk,h1,h2,h3,h4=>by
  have hu : ∀ l:List ByteArray,l.length ≤ 1000 → (∀ s ∈ l,s.size ≤ 140737488355328) → table_unlike_string.f l=some (unlikeB [] l):=fun l hl hs=>by unfold table_unlike_string.f;rw [if_pos ⟨by omega,hs⟩]
  rw [table_Right.l0,if_neg (by omega),hu ns (by omega) h3,Option.bind_some,hu hs (by omega) h4,Option.bind_some,List.drop_of_length_le (by omega)]
  simp only [List.all_nil,List.map_nil,List.flatMap_nil,List.append_nil,Bool.true_and]
  cases unlikeB [] ns <;> rfl
 | d + 1,k + 1,i,ns,hs,h,hk,h1,h2,h3,h4=>by
  have hi:i < t.length:=by omega
  have hm:t[i] ∈ t:=List.getElem_mem hi
  have hw:wrap64 ((i:Int) + 1)=((i + 1:Nat):Int):=by unfold wrap64;omega
  rw [table_Right.l0,if_pos (by omega),if_pos (by omega),if_pos (by omega),rd_slot t i hi,right_f t[i] (hf _ hm).1 (hf _ hm).2 k (by omega),Option.bind_some,List.drop_eq_getElem_cons hi,List.all_cons,List.map_cons,List.flatMap_cons]
  cases hb:slotB t[i]
  ·rfl
  ·have hh:=slot_hosts hb
   rw [if_pos rfl,if_pos (by omega),if_pos (by omega),hw,Right_l0 t hf hl d k (i + 1) _ _ (by omega) (by omega) (by simp only [List.length_append,List.length_cons,List.length_nil];omega) (by rw [List.length_append];omega) (fun s hs_=>by
    rcases List.mem_append.1 hs_ with h5|h5
    ·exact h3 s h5
    ·rw [List.mem_singleton.1 h5];exact (hf _ hm).1) (fun s hs_=>by
    rcases List.mem_append.1 hs_ with h5|h5
    ·exact h4 s h5
    ·exact (hf _ hm).2 s h5),Bool.true_and,List.append_assoc,List.append_assoc,List.singleton_append]
theorem Right_f (t:List (S26)) (hf:FitT t) (k:Nat) (hk:60 ≤ k):table_Right.f k t=some (rightT t):=by
 obtain ⟨m,rfl⟩ : ∃ m,k=m + 1:=⟨k - 1,by omega⟩
 unfold table_Right.f rightT
 by_cases h1:(t.length:Int) < 1
 ·rw [if_pos h1,table_Right.j0,if_pos rfl,decide_eq_false (by omega)]
  rfl
 ·rw [if_neg h1,table_Right.j0]
  by_cases h2:(t.length:Int) > 16
  ·rw [decide_eq_true h2,if_pos rfl,decide_eq_false (by omega)]
   rfl
  ·rw [decide_eq_false h2,if_neg (by simp),decide_eq_true (show 1 ≤ t.length∧t.length ≤ 16 by omega),Bool.true_and]
   exact Right_l0 t hf (by omega) t.length m 0 [] [] (by omega) (by omega) (by simp) (by simp) (by simp) (by simp)
theorem hasB_cons (y:ByteArray) (S:List ByteArray) (s:ByteArray):hasB (y :: S) s=(y.toList == s.toList || hasB S s):=rfl
theorem rdOf_at (l:List ByteArray) (i:Nat) (h:i < l.length):rdOf ByteArray.empty l (i:Int)=l[i]:=by simp [rdOf,List.getD_eq_getElem?_getD,List.getElem?_eq_getElem h]
def idxB {α:Type} (p:α → Bool):List α → Int → Int
 | [],_ => -1
 | x :: r,i=>if p x=true then i else idxB p r (i + 1)
theorem idxO_eq {α:Type} (q:α → Option Bool) (p:α → Bool) : ∀ (l:List α) (i:Int),(∀ x ∈ l,q x=some (p x)) → idxO q l i=some (idxB p l i)
 | [],_,_=>rfl
 | x :: r,i,h=>by
  rw [idxO,idxB,h x (List.mem_cons_self ..),Option.bind_some]
  by_cases hp:p x=true
  ·rw [if_pos hp,if_pos hp]
  ·rw [if_neg hp,if_neg hp]
   exact idxO_eq q p r (i + 1) (fun y hy=>h y (List.mem_cons_of_mem _ hy))
theorem index_l0 (l:List ByteArray) (hl:l.length ≤ 140737488355328) (a:ByteArray) (d:Nat) : ∀ (k i:Nat),i + d=l.length → d + 1 ≤ k → ∃ j,slices_Index_string_string.l0 k l a (l.length:Int) (i:Int)=some j∧decide (j ≥ 0)=hasB (l.drop i) a:=by
 induction d with
 | zero =>
  intro k i h hk
  obtain ⟨k,rfl⟩ : ∃ m,k=m + 1:=⟨k - 1,by omega⟩
  refine ⟨-1,?_,?_⟩
  ·rw [slices_Index_string_string.l0,if_neg (by omega)]
  ·rw [List.drop_of_length_le (by omega)]
   rfl
 | succ d ih =>
  intro k i h hk
  obtain ⟨k,rfl⟩ : ∃ m,k=m + 1:=⟨k - 1,by omega⟩
  have hi:i < l.length:=by omega
  have hw:wrap64 ((i:Int) + 1)=((i + 1:Nat):Int):=by unfold wrap64;omega
  obtain ⟨j,h1,h2⟩:=ih k (i + 1) (by omega) (by omega)
  rw [slices_Index_string_string.l0,if_pos (by omega),if_pos (by omega),if_pos (by omega),rdOf_at l i hi,hw,h1,List.drop_eq_getElem_cons hi,hasB_cons]
  by_cases e:a.toList=l[i].toList
  ·exact ⟨i,by rw [if_pos e],by rw [beq_iff_eq.2 e.symm,decide_eq_true (by omega)];rfl⟩
  ·exact ⟨j,by rw [if_neg e],by rw [h2,beq_eq_false_iff_ne.2 (fun x=>e x.symm),Bool.false_or]⟩
theorem Contains_f (l:List ByteArray) (hl:l.length ≤ 140737488355328) (a:ByteArray) (k:Nat) (hk:l.length + 1 ≤ k):slices_Contains_string_string.f k l a=some (hasB l a):=by
 obtain ⟨j,h1,h2⟩:=index_l0 l hl a l.length k 0 (by omega) hk
 unfold slices_Contains_string_string.f slices_Index_string_string.f
 rw [show (0:Int)=((0:Nat):Int) from rfl,h1,Option.bind_some]
 rw [List.drop_zero] at h2
 exact congrArg some h2
theorem Find_f (t:List (S26)) (a:ByteArray) (k:Nat) (hk : ∀ x ∈ t,x.f1.length + 1 ≤ k∧x.f1.length ≤ 140737488355328):table_Find.f k t a=some (idxB (fun x=>hasB x.f1 a) t 0):=by
 unfold table_Find.f
 exact idxO_eq _ _ t 0 (fun x hx=>Contains_f x.f1 (hk x hx).2 a k (hk x hx).1)
theorem Named_f (t:List (S26)) (a:ByteArray):table_Named.f t a=some (idxB (fun x=>x.f0.toList == a.toList) t 0):=by
 unfold table_Named.f
 exact idxO_eq _ _ t 0 (fun x hx=>rfl)
theorem right_iff (t:List (S26)):rightT t=true ↔ (1 ≤ t.length∧t.length ≤ 16)∧t.all slotB=true∧(t.map (·.f0)).Nodup∧(t.flatMap (·.f1)).Nodup:=by
 unfold rightT
 simp only [Bool.and_eq_true,decide_eq_true_iff,unlike_iff,List.not_mem_nil,not_false_iff,implies_true,and_true]
theorem nd_comm {α:Type} {A B:List α} (h:(A ++ B).Nodup):(B ++ A).Nodup:=by
 rw [List.nodup_append] at h ⊢
 exact ⟨h.2.1,h.1,fun a ha b hb e=>h.2.2 b hb a ha e.symm⟩
theorem right_comm1 {A B:List (S26)} (h:rightT (A ++ B)=true):rightT (B ++ A)=true:=by
 rw [right_iff] at h ⊢
 obtain ⟨h1,h2,h3,h4⟩:=h
 rw [List.map_append] at h3 ⊢
 rw [List.flatMap_append] at h4 ⊢
 rw [List.all_append,Bool.and_comm] at h2
 rw [List.length_append] at h1 ⊢
 exact ⟨by omega,by rw [List.all_append];exact h2,nd_comm h3,nd_comm h4⟩
theorem right_comm (A B:List (S26)):rightT (A ++ B)=rightT (B ++ A):=by
 rw [Bool.eq_iff_iff]
 exact ⟨right_comm1,right_comm1⟩
theorem right_left {A B:List (S26)} (h:rightT (A ++ B)=true) (hA:1 ≤ A.length):rightT A=true:=by
 rw [right_iff] at h ⊢
 obtain ⟨h1,h2,h3,h4⟩:=h
 rw [List.map_append,List.nodup_append] at h3
 rw [List.flatMap_append,List.nodup_append] at h4
 rw [List.all_append,Bool.and_eq_true] at h2
 rw [List.length_append] at h1
 exact ⟨by omega,h2.1,h3.1,h4.1⟩
theorem right_mid {A C:List (S26)} {x:S26} (h:rightT (A ++ x :: C)=true):rightT (A ++ C)=decide (1 ≤ (A ++ C).length):=by
 by_cases hl:1 ≤ (A ++ C).length
 ·rw [decide_eq_true hl]
  have h2:=right_comm1 h
  rw [List.cons_append,show x :: (C ++ A)=[x] ++ (C ++ A) from rfl] at h2
  have h3:=right_left (right_comm1 h2) (by simp only [List.length_append] at hl ⊢;omega)
  exact right_comm1 h3
 ·rw [decide_eq_false hl]
  unfold rightT
  rw [decide_eq_false (show ¬ (1 ≤ (A ++ C).length∧(A ++ C).length ≤ 16) from fun h=>hl h.1)]
  rfl
theorem bytes_eq {a b:ByteArray} (h:a.toList=b.toList):a=b:=by
 rw [toList_data,toList_data] at h
 rw [← mkS_self a,h,mkS_self]
theorem idx_none {α:Type} (p:α → Bool) : ∀ (l:List α) (i:Int),(∀ x ∈ l,p x=false) → idxB p l i = -1
 | [],_,_=>rfl
 | x :: r,i,h=>by
  rw [idxB,if_neg (by rw [h x (List.mem_cons_self ..)];simp)]
  exact idx_none p r (i + 1) (fun y hy=>h y (List.mem_cons_of_mem _ hy))
/-- In a right table no other slot has a slot's name,or one of its hosts. -/
theorem other_parts {A C:List (S26)} {x:S26} (h:rightT (A ++ x :: C)=true):(∀ y ∈ A ++ C,y.f0 ≠ x.f0) ∧ ∀ y ∈ A ++ C,∀ a ∈ x.f1,a ∉ y.f1:=by
 rw [right_iff] at h
 obtain ⟨_,_,h3,h4⟩:=h
 rw [List.map_append,List.map_cons,List.nodup_append,List.nodup_cons] at h3
 rw [List.flatMap_append,List.flatMap_cons,List.nodup_append,List.nodup_append] at h4
 obtain ⟨a1,⟨a2,a3⟩,a4⟩:=h3
 obtain ⟨b1,⟨b2,b3,b4⟩,b5⟩:=h4
 refine ⟨fun y hy e=>?_,fun y hy a ha hm=>?_⟩
 ·rcases List.mem_append.1 hy with hy|hy
  ·exact a4 y.f0 (List.mem_map.2 ⟨y,hy,rfl⟩) x.f0 (List.mem_cons_self ..) e
  ·exact a2 (List.mem_map.2 ⟨y,hy,e⟩)
 ·rcases List.mem_append.1 hy with hy|hy
  ·exact b5 a (List.mem_flatMap.2 ⟨y,hy,hm⟩) a (List.mem_append_left _ ha) rfl
  ·exact b4 a ha a (List.mem_flatMap.2 ⟨y,hy,hm⟩) rfl
/-- The decimal digits,as numbers. -/
def decI (u:Nat):List Int:=(Lib.decDigits u).map fun b=>(b.toNat:Int)
theorem decI_small (u:Nat) (h:u < 10):decI u=[48 + (u:Int)]:=by
 unfold decI
 rw [Lib.decDigits_one h,List.map_cons,List.map_nil]
 congr 1
 rw [UInt8.toNat_ofNat']
 omega
theorem decI_big (u:Nat) (h:10 ≤ u):decI u=decI (u / 10) ++ [48 + ((u % 10:Nat):Int)]:=by
 unfold decI
 rw [Lib.decDigits,dif_neg (by omega),List.map_append,List.map_cons,List.map_nil]
 congr 2
 rw [UInt8.toNat_ofNat']
 omega
theorem dec_len (d:Nat) : ∀ u,u < 10 ^ (d + 1) → 1 ≤ (decI u).length∧(decI u).length ≤ d + 1:=by
 induction d with
 | zero=>intro u h;rw [decI_small u (by simpa using h)];simp
 | succ d ih =>
  intro u h
  by_cases h1:u < 10
  ·rw [decI_small u h1];simp
  ·have h2:u / 10 < 10 ^ (d + 1):=(Nat.div_lt_iff_lt_mul (by decide)).2 (by rwa [← Nat.pow_succ])
   have:=ih _ h2
   rw [decI_big u (by omega),List.length_append]
   simp
   omega
theorem Text_f (n:Int) (h0 : -9223372036854775808 ≤ n) (h1:n ≤ 9223372036854775807):sign_Text.f n=some ⟨(Lib.itoa n).toArray⟩:=by
 unfold sign_Text.f strconv_FormatInt_46.f strconv_FormatInt_61.f
 rw [if_pos rfl,if_pos ⟨h0,h1⟩]
 rfl
theorem itoa_size (n:Int) (h0 : -9223372036854775808 ≤ n) (h1:n ≤ 9223372036854775807):1 ≤ (Lib.itoa n).length∧(Lib.itoa n).length ≤ 20:=by
 have hd : ∀ u:Nat,u ≤ 9223372036854775808 → 1 ≤ (Lib.decDigits u).length∧(Lib.decDigits u).length ≤ 19:=by
  intro u hu
  have:=dec_len 18 u (Nat.lt_of_le_of_lt hu (by decide))
  unfold decI at this
  rwa [List.length_map] at this
 unfold Lib.itoa
 split
 ·have:=hd n.natAbs (by omega)
  simp only [List.length_cons]
  omega
 ·have:=hd n.toNat (by omega)
  omega
/-- Words,each behind a blank. -/
def spL (ws:List (List UInt8)):List UInt8:=Lib.joinTail [32] ws
theorem spL_nil:spL []=[]:=rfl
theorem spL_cons (w:List UInt8) (r:List (List UInt8)):spL (w :: r)=32 :: (w ++ spL r):=by simp [spL,Lib.joinTail]
theorem spL_len (m:Nat) : ∀ ws:List (List UInt8),(∀ w ∈ ws,w.length ≤ m) → (spL ws).length ≤ ws.length * (m + 1)
 | [],_=>by simp [spL_nil]
 | w :: r,h=>by
  have h1:=spL_len m r (fun x hx=>h x (List.mem_cons_of_mem _ hx))
  have h2:=h w (List.mem_cons_self ..)
  rw [spL_cons,List.length_cons,List.length_append,List.length_cons,Nat.succ_mul]
  omega
def numsL (x:S26):List Int:=[x.f2,x.f3,x.f4,x.f5,x.f6,x.f7]
def hostsL (x:S26):List (List UInt8):=x.f1.map (·.data.toList)
def tailW (x:S26):List (List UInt8):=x.f0.data.toList :: ((numsL x).map Lib.itoa ++ hostsL x)
/-- A slot's line,without its end. -/
def lineL (x:S26):List UInt8:=[115,108,111,116] ++ spL (tailW x)
def writeL (t:List (S26)):List UInt8:=t.flatMap fun x=>lineL x ++ [10]
theorem slot_parts {x:S26} (h:slotB x=true):tblName x.f0=true∧(∀ n ∈ numsL x,1 ≤ n∧n ≤ 1048576)∧(∀ h ∈ x.f1,hostB h=true)∧1 ≤ x.f1.length∧x.f1.length ≤ 8:=by
 unfold slotB numsB numB at h
 simp only [Bool.and_eq_true,decide_eq_true_iff,List.all_eq_true] at h
 obtain ⟨h0,⟨h2,h3,h4,h5,h6,h7⟩,h8,h9⟩:=h
 refine ⟨h0,fun n hn=>?_,h8,h9⟩
 simp only [numsL,List.mem_cons,List.not_mem_nil,or_false] at hn
 rcases hn with rfl|rfl|rfl|rfl|rfl|rfl <;> omega
theorem host_parts {h:ByteArray} (hh:hostB h=true) (hs:h.size ≤ 140737488355328):1 ≤ h.size∧h.size ≤ 64 ∧ ∀ b ∈ h.data.toList,hostC (b.toNat:Int)=true:=by
 obtain ⟨u,hu⟩:=Host_some h.data.toList (by rw [data_length];exact hs)
 rw [mkS_self] at hu
 unfold hostB at hh
 rw [hu] at hh
 simp only [Bool.and_eq_true] at hh
 obtain ⟨h1,h2,h3,h4⟩:=hostEnd_ok u hh.1
 have h5:=beq_iff_eq.1 hh.2
 rw [h1,mkS_toList,toList_data] at h5
 rw [← data_length,← h5]
 refine ⟨h2,h3,fun b hb=>?_⟩
 rw [mkS_bytes,List.all_map] at h4
 exact List.all_eq_true.1 h4 b hb
theorem tbl_size {s:ByteArray} (h:tblName s=true):1 ≤ s.size∧s.size ≤ 30:=by
 unfold tblName at h
 simp only [Bool.and_eq_true,decide_eq_true_iff] at h
 exact h.1
theorem tail_words {x:S26} (h:slotB x=true) (hf : ∀ h ∈ x.f1,h.size ≤ 140737488355328):(∀ w ∈ tailW x,w.length ≤ 64)∧(tailW x).length ≤ 15:=by
 obtain ⟨h0,h1,h2,h3,h4⟩:=slot_parts h
 refine ⟨fun w hw=>?_,?_⟩
 ·unfold tailW at hw
  rcases List.mem_cons.1 hw with rfl|hw
  ·have:=tbl_size h0
   rw [data_length]
   omega
  ·rcases List.mem_append.1 hw with hw|hw
   ·obtain ⟨n,hn,rfl⟩:=List.mem_map.1 hw
    have:=h1 n hn
    have:=itoa_size n (by omega) (by omega)
    omega
   ·obtain ⟨y,hy,rfl⟩:=List.mem_map.1 hw
    have:=host_parts (h2 y hy) (hf y hy)
    rw [data_length]
    omega
 ·unfold tailW numsL hostsL
  simp only [List.length_cons,List.length_append,List.length_map,List.length_nil]
  omega
theorem line_len {x:S26} (h:slotB x=true) (hf : ∀ h ∈ x.f1,h.size ≤ 140737488355328):(lineL x).length ≤ 979:=by
 obtain ⟨h1,h2⟩:=tail_words h hf
 have h3:=spL_len 64 _ h1
 unfold lineL
 rw [List.length_append,show ([115,108,111,116]:List UInt8).length=4 from rfl]
 have:(tailW x).length * (64 + 1) ≤ 15 * 65:=Nat.mul_le_mul_right 65 h2
 omega
theorem text_mk (n:Int) (h:1 ≤ n∧n ≤ 1048576):sign_Text.f n=some (mkS (Lib.itoa n)):=Text_f n (by omega) (by omega)
theorem wrLine_f {x:S26} (h:slotB x=true) (hf : ∀ h ∈ x.f1,h.size ≤ 140737488355328):wrLine x=some (mkS (lineL x ++ [10])):=by
 obtain ⟨h0,h1,h2,h3,h4⟩:=slot_parts h
 have hl:=line_len h hf
 have ht : ∀ n ∈ numsL x,sign_Text.f n=some (mkS (Lib.itoa n)):=fun n hn=>text_mk n (h1 n hn)
 have hwr:wrT [(⟨x.f2,256,1048576⟩:S53),⟨x.f3,1,64⟩,⟨x.f4,1,64⟩,⟨x.f5,1,1048576⟩,⟨x.f6,1,1048576⟩,⟨x.f7,1,1048576⟩]=some ((numsL x).map fun n=>mkS (Lib.itoa n)):=by
  simp only [wrT]
  rw [ht x.f2 (by simp [numsL]),ht x.f3 (by simp [numsL]),ht x.f4 (by simp [numsL]),ht x.f5 (by simp [numsL]),ht x.f6 (by simp [numsL]),ht x.f7 (by simp [numsL])]
  rfl
 have hj:(([(⟨#[115,108,111,116]⟩:ByteArray),x.f0] ++ ((numsL x).map fun n=>mkS (Lib.itoa n))) ++ x.f1).map (·.data.toList)=([115,108,111,116]:List UInt8) :: tailW x:=by
  unfold tailW hostsL
  simp only [List.map_append,List.map_cons,List.map_nil,List.map_map,List.cons_append,List.nil_append]
  rw [show ((fun (s:ByteArray)=>s.data.toList) ∘ fun n=>mkS (Lib.itoa n))=Lib.itoa from funext fun n=>mkS_data _]
 unfold wrLine table_bounds.f
 rw [Option.bind_some,hwr,Option.bind_some,if_pos ⟨by omega,by rw [List.length_map];show 6 ≤ 1000;decide⟩]
 unfold strings_Join.f
 have hjl:Lib.join (([115,108,111,116]:List UInt8) :: tailW x) [32]=lineL x:=by rw [Lib.join_cons];rfl
 rw [hj,show (⟨#[32]⟩:ByteArray).data.toList=[32] from rfl,hjl,if_pos ⟨by simp only [List.length_append,List.length_cons,List.length_nil,List.length_map,numsL];omega,by omega⟩,Option.bind_some]
 show (if (mkS (lineL x)).size ≤ 140737488355000 then some (mkS (lineL x) ++ (⟨#[10]⟩:ByteArray)) else none)=_
 rw [mkS_size,if_pos (by omega)]
 exact congrArg some (mkS_append _ _)
theorem wrOut_f : ∀ (t:List (S26)) (acc:List UInt8),t.all slotB=true → FitT t → acc.length + t.length * 1000 ≤ 140737488355000 → wrOut t acc=some (acc ++ writeL t)
 | [],acc,_,_,_=>by simp [wrOut,writeL]
 | x :: r,acc,h,hf,hl=>by
  rw [List.all_cons,Bool.and_eq_true] at h
  have hx:=hf x (List.mem_cons_self ..)
  have hle:=line_len h.1 hx.2
  rw [List.length_cons,Nat.succ_mul] at hl
  rw [wrOut,wrLine_f h.1 hx.2,Option.bind_some,mkS_data,mkS_size,List.length_append,List.length_singleton,if_pos (by omega),wrOut_f r _ h.2 (fun y hy=>hf y (List.mem_cons_of_mem _ hy)) (by simp only [List.length_append,List.length_singleton];omega)]
  simp only [writeL,List.flatMap_cons,List.append_assoc]
theorem right_all {t:List (S26)} (h:rightT t=true):1 ≤ t.length∧t.length ≤ 16∧t.all slotB=true:=by
 unfold rightT at h
 simp only [Bool.and_eq_true,decide_eq_true_iff] at h
 exact ⟨h.1.1,h.1.2,h.2.1⟩
theorem Write_f (t:List (S26)) (hf:FitT t) (k:Nat) (hk:60 ≤ k):table_Write.f k t=some (if rightT t=true then (mkS (writeL t),0) else ((⟨#[]⟩:ByteArray),60)):=by
 unfold table_Write.f
 rw [Right_f t hf k hk,Option.bind_some]
 by_cases h:rightT t=true
 ·rw [if_pos h,if_pos h]
  obtain ⟨h1,h2,h3⟩:=right_all h
  rw [wrOut_f t [] h3 hf (by simp only [List.length_nil];omega),Option.bind_some,List.nil_append]
  rfl
 ·rw [if_neg h,if_neg h]
theorem fit_sub {t s:List (S26)} (h:FitT t) (hs : ∀ x ∈ s,x ∈ t):FitT s:=fun x hx=>h x (hs x hx)
theorem turns_j3 (t:List (S26)) (hf:FitT t) (hr:rightT t=true) (a2:Int) (k:Nat) (hk:100 ≤ k):tollbarlaw09_TableTurns.j3 (k + 1) t a2 false=some true:=by
 obtain ⟨h1,h2,h3⟩:=right_all hr
 have hm:Go.bits .and .i64 a2 1023=a2 % 1024:=and_mask a2 10 (by decide)
 obtain ⟨v,hv⟩ : ∃ v:Nat,a2 % 1024=v:=⟨(a2 % 1024).toNat,by omega⟩
 have ht:Int.tmod (v:Int) (t.length:Int)=((v % t.length:Nat):Int):=(Int.ofNat_tmod v t.length).symm
 obtain ⟨i,hi⟩ : ∃ i,v % t.length=i:=⟨_,rfl⟩
 have hlt:i < t.length:=by rw [← hi];exact Nat.mod_lt _ (by omega)
 have hw:wrap64 ((i:Int) + 1)=((i + 1:Nat):Int):=by unfold wrap64;omega
 rw [tollbarlaw09_TableTurns.j3,if_neg (by simp),if_neg (by omega)]
 simp only [Option.bind_some]
 rw [hm,hv,ht,hi,hw,if_pos (by omega),if_pos (by omega),Int.toNat_natCast,Int.toNat_natCast,if_pos (by simp only [List.length_nil,List.length_take];omega),List.nil_append,if_pos (by omega),if_pos (by omega),if_pos (by simp only [List.length_take,List.length_drop];omega)]
 have e:t=t.take i ++ t[i] :: t.drop (i + 1):=by rw [← List.drop_eq_getElem_cons hlt,List.take_append_drop]
 have hr2:=hr
 rw [e] at hr2
 have hsub : ∀ x ∈ t.take i ++ t.drop (i + 1),x ∈ t:=fun x hx=>by
  rcases List.mem_append.1 hx with hx|hx
  ·exact List.mem_of_mem_take hx
  ·exact List.mem_of_mem_drop hx
 have hb:=List.all_eq_true.1 h3 _ (List.getElem_mem hlt)
 have hh:=slot_hosts hb
 obtain ⟨o1,o2⟩:=other_parts hr2
 have hd:decide (1 ≤ (t.take i ++ t.drop (i + 1)).length)=decide ((t.length:Int) > 1):=by
  rw [decide_eq_decide,List.length_append,List.length_take,List.length_drop]
  omega
 rw [Right_f _ (fit_sub hf hsub) k (by omega),Option.bind_some,right_mid hr2,hd,beq_self_eq_true,if_pos rfl,if_pos (by omega),rd_slot t i hlt,Named_f,Option.bind_some,idx_none _ _ _ (fun y hy=>beq_eq_false_iff_ne.2 fun e=>o1 y hy (bytes_eq e)),if_pos rfl,if_pos (by omega),show (0:Int)=((0:Nat):Int) from rfl,rdOf_at _ 0 (by omega),Find_f _ _ k (fun x hx=>by
  have:=slot_hosts (List.all_eq_true.1 h3 x (hsub x hx))
  omega),Option.bind_some,idx_none _ _ _ (fun y hy=>by
  rw [Bool.eq_false_iff]
  intro hc
  exact o2 y hy _ (List.getElem_mem _) ((hasB_in _ _).1 hc))]
 rfl
theorem turns_j2 (t:List (S26)) (hf:FitT t) (hr:rightT t=true) (a2:Int) (k:Nat) (hk:100 ≤ k) (A B:ByteArray) (hA:A.size ≤ 1000000) (hB:B.size ≤ 1000000):tollbarlaw09_TableTurns.j2 (k + 2) t a2 A 0 B 0 (B ++ A) 0=some true:=by
 rw [tollbarlaw09_TableTurns.j2,if_pos rfl,if_pos rfl,if_pos rfl,if_pos (by omega),bne_self_eq_false]
 exact turns_j3 t hf hr a2 k hk
theorem write_len (t:List (S26)) (hf:FitT t) (h:t.all slotB=true):(writeL t).length ≤ t.length * 1000:=by
 induction t with
 | nil=>simp [writeL]
 | cons x r ih =>
  rw [List.all_cons,Bool.and_eq_true] at h
  have h1:=line_len h.1 (hf x (List.mem_cons_self ..)).2
  have h2:=ih (fun y hy=>hf y (List.mem_cons_of_mem _ hy)) h.2
  unfold writeL at h2 ⊢
  rw [List.flatMap_cons]
  simp only [List.length_append,List.length_cons,List.length_nil]
  omega
theorem turns_end (t:List (S26)) (hf:FitT t) (h1:1 ≤ t.length) (h16:t.length ≤ 16) (a1 a2:Int) (k:Nat) (hk:200 ≤ k):tollbarlaw09_TableTurns.l0 (k + 1) t a1 a2 t (t.length:Int) (t.length:Int)=some true:=by
 have hm:Go.bits .and .i64 a1 1023=a1 % 1024:=and_mask a1 10 (by decide)
 obtain ⟨v,hv⟩ : ∃ v:Nat,a1 % 1024=v:=⟨(a1 % 1024).toNat,by omega⟩
 have ht:Int.tmod (v:Int) (t.length:Int)=((v % t.length:Nat):Int):=(Int.ofNat_tmod v t.length).symm
 obtain ⟨i,hi⟩ : ∃ i,v % t.length=i:=⟨_,rfl⟩
 have hlt:i < t.length:=by rw [← hi];exact Nat.mod_lt _ (by omega)
 rw [tollbarlaw09_TableTurns.l0,if_neg (by omega),if_neg (by omega)]
 simp only [Option.bind_some]
 rw [hm,hv,ht,hi,if_pos (by omega),if_pos (by omega),Int.toNat_natCast,if_pos (by simp only [List.length_nil,List.length_drop];omega),List.nil_append,if_pos (by simp only [List.length_drop,List.length_take];omega)]
 have e:t.take i ++ t.drop i=t:=List.take_append_drop i t
 have hfD:FitT (t.drop i):=fit_sub hf (fun x hx=>List.mem_of_mem_drop hx)
 have hfT:FitT (t.take i):=fit_sub hf (fun x hx=>List.mem_of_mem_take hx)
 have hfO:FitT (t.drop i ++ t.take i):=fun x hx=>by
  rcases List.mem_append.1 hx with hx|hx
  ·exact hfD x hx
  ·exact hfT x hx
 have hc:rightT (t.drop i ++ t.take i)=rightT t:=by rw [right_comm,e]
 rw [Right_f _ hfO k (by omega),Option.bind_some,Right_f t hf k (by omega),Option.bind_some,Option.bind_some,hc,bne_self_eq_false,if_neg (by simp)]
 by_cases hr:rightT t=true
 rotate_left
 ·rw [if_neg hr]
 rw [if_pos hr]
 have hr2:rightT (t.take i ++ t.drop i)=true:=by rw [e];exact hr
 have hrD:rightT (t.drop i)=true:=right_left (right_comm1 hr2) (by rw [List.length_drop];omega)
 obtain ⟨_,_,h3⟩:=right_all hr
 have h3' := h3
 rw [← e,List.all_append,Bool.and_eq_true] at h3'
 have lT:=write_len _ hfT h3'.1
 have lD:=write_len _ hfD h3'.2
 have hO:mkS (writeL (t.drop i ++ t.take i))=mkS (writeL (t.drop i)) ++ mkS (writeL (t.take i)):=by
  rw [mkS_append]
  unfold writeL
  rw [List.flatMap_append]
 obtain ⟨k,rfl⟩ : ∃ m,k=m + 2:=⟨k - 2,by omega⟩
 rw [Write_f _ hfT (k + 2) (by omega),Option.bind_some,Write_f _ hfD (k + 2) (by omega),Option.bind_some,Write_f _ hfO (k + 2) (by omega),Option.bind_some,hc,if_pos hr,if_pos hrD]
 dsimp only
 rw [List.length_take] at lT
 rw [List.length_drop] at lD
 by_cases h0:(i:Int)=0
 ·rw [if_pos h0]
  have hi0:i=0:=by omega
  subst hi0
  rw [hO]
  exact turns_j2 t hf hr a2 k (by omega) _ _ (by decide) (by rw [mkS_size];omega)
 ·rw [if_neg h0,if_pos (right_left hr2 (by rw [List.length_take];omega)),hO]
  exact turns_j2 t hf hr a2 k (by omega) _ _ (by rw [mkS_size];omega) (by rw [mkS_size];omega)
theorem turns_l0 (t:List (S26)) (hf:FitT t) (h1:1 ≤ t.length) (h16:t.length ≤ 16) (a1 a2:Int) (d:Nat) : ∀ (k i:Nat),i + d=t.length → d + 300 ≤ k → tollbarlaw09_TableTurns.l0 k t a1 a2 t (t.length:Int) (i:Int)=some true:=by
 induction d with
 | zero =>
  intro k i h hk
  obtain ⟨k,rfl⟩ : ∃ m,k=m + 1:=⟨k - 1,by omega⟩
  rw [show i=t.length by omega]
  exact turns_end t hf h1 h16 a1 a2 k (by omega)
 | succ d ih =>
  intro k i h hk
  obtain ⟨k,rfl⟩ : ∃ m,k=m + 1:=⟨k - 1,by omega⟩
  have hi:i < t.length:=by omega
  have hw:wrap64 ((i:Int) + 1)=((i + 1:Nat):Int):=by unfold wrap64;omega
  rw [tollbarlaw09_TableTurns.l0,if_pos (by omega),if_pos (by omega),if_pos (by omega),rd_slot t i hi,hw]
  by_cases c:(t[i].f1.length:Int) > 20
  ·rw [if_pos c]
  ·rw [if_neg c]
   exact ih k (i + 1) (by omega) (by omega)
theorem TableTurns (t:List (S26)) (a1 a2:Int)
 (ht:t.length ≤ 140737488351232∧t.length ≤ maxLen ∧ ∀ x ∈ t,(x.f0.size ≤ 140737488351232∧x.f0.size ≤ maxLen)∧((x.f1.length ≤ 140737488351232∧x.f1.length ≤ maxLen ∧ ∀ y ∈ x.f1,y.size ≤ 140737488351232∧y.size ≤ maxLen)∧((Lit.int .i64 x.f2).wf=true∧((Lit.int .i64 x.f3).wf=true∧((Lit.int .i64 x.f4).wf=true∧((Lit.int .i64 x.f5).wf=true∧((Lit.int .i64 x.f6).wf=true∧(Lit.int .i64 x.f7).wf=true)))))))
 (_:(Lit.int .i64 a1).wf=true) (_:(Lit.int .i64 a2).wf=true) : ∃ k,tollbarlaw09_TableTurns.f k t a1 a2=some true:=by
 refine ⟨401,?_⟩
 have hf:FitT t:=fun x hx=>⟨Nat.le_trans (ht.2.2 x hx).1.1 (by decide),fun y hy=>Nat.le_trans ((ht.2.2 x hx).2.1.2.2 y hy).1 (by decide)⟩
 unfold tollbarlaw09_TableTurns.f
 rw [alive9_f _ (by omega),Option.bind_some,if_pos rfl]
 by_cases c:(t.length:Int) > 16
 ·rw [if_pos c,tollbarlaw09_TableTurns.j0,if_pos rfl]
 ·rw [if_neg c,tollbarlaw09_TableTurns.j0]
  by_cases c0:(t.length:Int)=0
  ·rw [beq_iff_eq.2 c0,if_pos rfl]
  ·rw [beq_eq_false_iff_ne.2 c0,if_neg (by simp)]
   exact turns_l0 t hf (by omega) (by omega) a1 a2 t.length 400 0 (by omega) (by omega)
end Go.Proofs.YtclpanalnbmejaaDoor.Pure
