/- Each function below answers as its Lean twin says; plain lemmas; a row where its theorem stands. No further condition. (Laid by this repo's pack.py out of its texts and of the print's words.) -/
import Derived.Test.YtclpanalnbmejaaDoorZ6e9a49b0
import Derived.Test.YtclpanalnbmejaaDoorZ7163b4f8
import Derived.Test.YtclpanalnbmejaaDoorZf61d72a0
import Derived.Lib.IndexBytes
import Derived.Lib.Strings
import Derived.Lib.SlTrimSet
import Derived.Lib.LastIndexByte
namespace Go.Proofs.YtclpanalnbmejaaDoor.P
open Go.RowKit Go.Proofs.YtclpanalnbmejaaDoorW.PrintWords Go.Proofs.YtclpanalnbmejaaDoorW.PrintLast Go.Proofs.YtclpanalnbmejaaDoorW.PrintMore
attribute [local go_sem] max2_int min2_int max_two min_two max_three min_three max_four min_four
set_option linter.unusedVariables false
set_option linter.unusedSimpArgs false
def tollbarlaw09_alive.f (k:Nat)  : Option (Bool):=(table_Read.f k (⟨#[115,108,111,116,32,97,32,49,48,48,48,32,50,32,50,32,53,32,53,32,54,52,32,97,46,101,120,97,109,112,108,101,32,98,10]⟩:ByteArray)).bind fun bt192=>((table_Write.f k bt192.1).bind fun bt196=>((table_Read.f k (⟨#[115,108,111,116,32,97,10]⟩:ByteArray)).bind fun bt198=>(if bt192.2=0 then (if (bt192.1.length:Int)=1 then (if 0 < (bt192.1.length:Int) then (if ((rd_T26 bt192.1 0).f7)=64 then (if (((rd_T26 bt192.1 0).f1).length:Int)=2 then (if bt196.2=0 then (if bt196.1.toList=([115,108,111,116,32,97,32,49,48,48,48,32,50,32,50,32,53,32,53,32,54,52,32,97,46,101,120,97,109,112,108,101,32,98,10]:List UInt8) then (if bt198.2=20 then ((table_Right.f k bt192.1).bind fun t204=>(if t204=true then ((table_Right.f k ([]:List (S26))).bind fun t205=>(if t205=true then (some false) else ((table_Find.f k bt192.1 (⟨#[98]⟩:ByteArray)).bind fun t206=>(if t206=0 then ((table_Find.f k bt192.1 (⟨#[99]⟩:ByteArray)).bind fun t207=>(if t207=(-1) then ((table_Named.f bt192.1 (⟨#[97]⟩:ByteArray)).bind fun t208=>(if t208=0 then ((table_Name.f k (⟨#[97,45,49]⟩:ByteArray)).bind fun t209=>(if t209=true then ((table_Name.f k (⟨#[49,97]⟩:ByteArray)).bind fun t210=>(some (!t210))) else (some false))) else (some false))) else (some false))) else (some false))))) else (some false))) else (some false)) else (some false)) else (some false)) else (some false)) else (some false)) else (none)) else (some false)) else (some false))))
theorem tollbarlaw09_alive.mono : ∀ k,LeO (tollbarlaw09_alive.f k ) (tollbarlaw09_alive.f (k + 1) ):=by
 intro  k
 unfold tollbarlaw09_alive.f
 repeat' first
  | (with_reducible exact table_Find.mono _ _ _)
  | (with_reducible exact table_Name.mono _ _)
  | (with_reducible exact table_Read.mono _ _)
  | (with_reducible exact table_Right.mono _ _)
  | (with_reducible exact table_Write.mono _ _)
  | (with_reducible exact LeO.refl _)
  | (with_reducible exact LeO.none _)
  | (with_reducible refine LeO.ite ?_ ?_)
  | (with_reducible refine LeO.bind ?_ (fun _=>?_))
  | exact table_Find.mono _ _ _
  | exact table_Name.mono _ _
  | exact table_Read.mono _ _
  | exact table_Right.mono _ _
  | exact table_Write.mono _ _
  | exact LeO.none _
  | refine LeO.ite ?_ ?_
  | refine LeO.bind ?_ (fun _=>?_)
set_option maxHeartbeats 8000000 in
set_option maxRecDepth 100000 in
theorem tollbarlaw09_alive.calls (k:Nat)  (r:Bool) (w:World) (h:tollbarlaw09_alive.f k  = some r) (hr:r=true) (ht:Tabs w) :
 Calls Tryd.prog 8 #[] w fun e w' => e = .returned (.bool r)∧Below w.heap.size w w' := by
 have HTB:=Aside0.mk ht
 clear ht
 have HRT:=Aside0.mk hr
 clear hr
 have HB:=Aside0.mk (Below.refl w.heap.size w)
 unfold tollbarlaw09_alive.f at h
 have H:=h
 clear h
 replace H:=Option.bind_eq_some_iff.mp H
 obtain ⟨⟨t19,t49⟩,A10,H⟩:=H
 try dsimp only at H
 have A1:=Aside0.mk A10
 clear A10
 replace H:=Option.bind_eq_some_iff.mp H
 obtain ⟨⟨t46,t50⟩,A20,H⟩:=H
 try dsimp only at H
 have A2:=Aside0.mk A20
 clear A20
 replace H:=Option.bind_eq_some_iff.mp H
 obtain ⟨⟨t51,t52⟩,A30,H⟩:=H
 try dsimp only at H
 have A3:=Aside0.mk A30
 clear A30
 by_cases c4:t49=0;rotate_left
 ·rw [if_neg c4] at H
  have c4b0:=beq_eq_false_iff_ne.mpr c4
  have c4b1:=bne_iff_ne.mpr c4
  exact absurd ((Option.some.inj H).trans HRT.out) zb44
 rw [if_pos c4] at H
 have c4b0:=beq_iff_eq.mpr c4
 have c4b1:=bne_eq_false_iff_eq.mpr c4
 clear c4
 by_cases c5:(t19.length:Int)=1
 ·rw [if_pos c5] at H
  have c5b0:=beq_iff_eq.mpr c5
  have c5b1:=bne_eq_false_iff_eq.mpr c5
  clear c5
  by_cases c6:0 < (t19.length:Int);rotate_left
  ·rw [if_neg c6] at H
   exact absurd H zb17
  rw [if_pos c6] at H
  have c6b0:=decide_eq_true c6
  have c6b1:decide (0 < t19.length)=true:=decide_eq_true zb14
  clear c6
  by_cases c7:((rd_T26 t19 0).f7)=64;rotate_left
  ·rw [if_neg c7] at H
   have c7b0:=beq_eq_false_iff_ne.mpr c7
   have c7b1:=bne_iff_ne.mpr c7
   exact absurd ((Option.some.inj H).trans HRT.out) zb44
  rw [if_pos c7] at H
  have c7b0:=beq_iff_eq.mpr c7
  have c7b1:=bne_eq_false_iff_eq.mpr c7
  clear c7
  by_cases c8:(((rd_T26 t19 0).f1).length:Int)=2
  ·rw [if_pos c8] at H
   have c8b0:=beq_iff_eq.mpr c8
   have c8b1:=bne_eq_false_iff_eq.mpr c8
   clear c8
   by_cases c9:t50=0;rotate_left
   ·rw [if_neg c9] at H
    have c9b0:=beq_eq_false_iff_ne.mpr c9
    have c9b1:=bne_iff_ne.mpr c9
    exact absurd ((Option.some.inj H).trans HRT.out) zb44
   rw [if_pos c9] at H
   have c9b0:=beq_iff_eq.mpr c9
   have c9b1:=bne_eq_false_iff_eq.mpr c9
   clear c9
   by_cases c10:t46.toList=([115,108,111,116,32,97,32,49,48,48,48,32,50,32,50,32,53,32,53,32,54,52,32,97,46,101,120,97,109,112,108,101,32,98,10]:List UInt8)
   ·rw [if_pos c10] at H
    have c10b0:=beq_iff_eq.mpr c10
    have c10b1:=bne_eq_false_iff_eq.mpr c10
    clear c10
    by_cases c11:t52=20;rotate_left
    ·rw [if_neg c11] at H
     have c11b0:=beq_eq_false_iff_ne.mpr c11
     have c11b1:=bne_iff_ne.mpr c11
     exact absurd ((Option.some.inj H).trans HRT.out) zb44
    rw [if_pos c11] at H
    have c11b0:=beq_iff_eq.mpr c11
    have c11b1:=bne_eq_false_iff_eq.mpr c11
    clear c11
    replace H:=Option.bind_eq_some_iff.mp H
    obtain ⟨t48,A53,H⟩:=H
    try dsimp only at H
    have A12:=Aside0.mk A53
    clear A53
    by_cases c13:t48=true
    ·subst c13
     rw [if_pos rfl] at H
     replace H:=Option.bind_eq_some_iff.mp H
     obtain ⟨t47,A54,H⟩:=H
     try dsimp only at H
     have A14:=Aside0.mk A54
     clear A54
     by_cases c15:t47=true
     ·subst c15
      rw [if_pos rfl] at H
      exact absurd ((Option.some.inj H).trans HRT.out) zb44
     replace c15:=Bool.eq_false_iff.mpr c15
     subst c15
     rw [if_neg (show ¬ (false=true) by decide)] at H
     replace H:=Option.bind_eq_some_iff.mp H
     obtain ⟨t44,A55,H⟩:=H
     try dsimp only at H
     have A22:=Aside0.mk A55
     clear A55
     by_cases c23:t44=0;rotate_left
     ·rw [if_neg c23] at H
      have c23b0:=beq_eq_false_iff_ne.mpr c23
      have c23b1:=bne_iff_ne.mpr c23
      exact absurd ((Option.some.inj H).trans HRT.out) zb44
     rw [if_pos c23] at H
     have c23b0:=beq_iff_eq.mpr c23
     have c23b1:=bne_eq_false_iff_eq.mpr c23
     clear c23
     replace H:=Option.bind_eq_some_iff.mp H
     obtain ⟨t42,A56,H⟩:=H
     try dsimp only at H
     have A24:=Aside0.mk A56
     clear A56
     by_cases c25:t42=(-1)
     ·rw [if_pos c25] at H
      have c25b0:=beq_iff_eq.mpr c25
      have c25b1:=bne_eq_false_iff_eq.mpr c25
      clear c25
      replace H:=Option.bind_eq_some_iff.mp H
      obtain ⟨t41,A57,H⟩:=H
      try dsimp only at H
      have A26:=Aside0.mk A57
      clear A57
      by_cases c27:t41=0;rotate_left
      ·rw [if_neg c27] at H
       have c27b0:=beq_eq_false_iff_ne.mpr c27
       have c27b1:=bne_iff_ne.mpr c27
       exact absurd ((Option.some.inj H).trans HRT.out) zb44
      rw [if_pos c27] at H
      have c27b0:=beq_iff_eq.mpr c27
      have c27b1:=bne_eq_false_iff_eq.mpr c27
      clear c27
      replace H:=Option.bind_eq_some_iff.mp H
      obtain ⟨t43,A58,H⟩:=H
      try dsimp only at H
      have A28:=Aside0.mk A58
      clear A58
      by_cases c29:t43=true
      ·subst c29
       rw [if_pos rfl] at H
       replace H:=Option.bind_eq_some_iff.mp H
       obtain ⟨t40,A59,H⟩:=H
       try dsimp only at H
       have A30:=Aside0.mk A59
       clear A59
       obtain rfl:=Option.some.inj H
       go_enter Tryd.func8,Tryd.ntmps8
       go_wp2_with (first|((with_reducible refine gate_callee (f:=17) rfl ?_);refine goesL_ (some 10) rfl rfl Tryd.func17 zb24 rfl #[.string (⟨#[115,108,111,116,32,97,32,49,48,48,48,32,50,32,50,32,53,32,53,32,54,52,32,97,46,101,120,97,109,112,108,101,32,98,10]⟩:ByteArray)] rfl zb2 ?_;(with_reducible refine (table_Read.calls k (⟨#[115,108,111,116,32,97,32,49,48,48,48,32,50,32,50,32,53,32,53,32,54,52,32,97,46,101,120,97,109,112,108,101,32,98,10]⟩:ByteArray) t19 t49 _ A1.out ?hT).mono ?_);(case hT=>exact HTB.out.below zb0);rintro e w31 ⟨v60,rfl,ho0,hb⟩;(try clear A1);refine ⟨_,rfl,?_⟩;have HO21:=Aside0.mk (Kd.S_lower ho0 (below_size zb0));replace HB:=Aside0.mk (below_step zb0 hb);try clear hb ho0;obtain ⟨Ao32,co32,eo32⟩:=Kd.S_slice HO21.out;subst eo32)|((with_reducible refine gate_callee (f:=15) rfl ?_);refine goesL_ (some 15) rfl rfl Tryd.func15 zb24 rfl #[.slice Ao32 t19.length co32] rfl zb2 ?_;(with_reducible refine (table_Write.calls k _ _ t19 t46 t50 _ ?side1 ?side2 A2.out ?hT).mono ?_);(case hT=>exact HTB.out.below zb0);(case side1=>exact zb27);(case side2=>exact (Kd.S_reads' HO21.out).2.1);rintro e w33 ⟨rfl,hb⟩;(try clear A2);refine ⟨_,rfl,?_⟩;replace HO21:=Aside0.mk (Kd.S_below zb26 hb);replace HB:=Aside0.mk (below_step zb0 hb);(try clear hb))|((with_reducible refine gate_callee (f:=17) rfl ?_);refine goesL_ (some 19) rfl rfl Tryd.func17 zb24 rfl #[.string (⟨#[115,108,111,116,32,97,10]⟩:ByteArray)] rfl zb2 ?_;(with_reducible refine (table_Read.calls k (⟨#[115,108,111,116,32,97,10]⟩:ByteArray) t51 t52 _ A3.out ?hT).mono ?_);(case hT=>exact HTB.out.below zb0);rintro e w34 ⟨v61,rfl,ho0,hb⟩;(try clear A3);refine ⟨_,rfl,?_⟩;have HO45:=Aside0.mk (Kd.S_lower (Kd.S_new' ho0 (Kd.S_lt zb26)) (below_size zb0));replace HO21:=Aside0.mk (Kd.S_elder' zb26 (Kd.S_base ho0) hb);replace HB:=Aside0.mk (below_step zb0 hb);try clear hb ho0;have p16:0 ≤ (0:Int):=zb14;have q16:0 < (t19.length:Int):=of_decide_eq_true zb1;obtain ⟨ad16,A16_1,c16_1,e16,hx16_0,hx16_1,hx16_2,hx16_3,hx16_4,hx16_5,hx16_6,hx16_7,hl16_1,hi16_1⟩:=at_T26 (Kd.S_reads' HO21.out).2.2 0 p16 q16;cases e16;obtain ⟨ce16,hce16,hMe16,hcc16⟩:=Kd.S_get HO21.out z26 0 p16 (by first|exact q16|exact of_decide_eq_true (by first|(with_reducible assumption)|assumption)|(have e_:=(Kd.S_reads' HO21.out).1;omega));obtain ⟨ve16_1,rfl,ge16_1⟩:=k26_openM hMe16;have hv16_1:=hcc16 1 _ rfl;rw [add_field _ _ 1 zb14] at hv16_1;replace hv16_1:=Option.some.inj (hv16_1.symm.trans hx16_1);rw [hv16_1] at ge16_1;have HL16_1:=Aside0.mk (show Kd.R Kd.string 9 _ _ _ _ ((rd_T26 t19 0).f1) from ge16_1);clear hv16_1 ge16_1;clear hcc16 hce16;have qi16:(0 < t19.length)=True:=eq_true zb14;(try rw [show ((0:Int)).toNat=0 from rfl] at hx16_0);(try rw [show 0 * 8=0 from rfl] at hx16_0);(try rw [Addr.add_zero'] at hx16_0);(try rw [show ((0:Int)).toNat=0 from rfl] at hx16_1);(try rw [show 0 * 8=0 from rfl] at hx16_1);(try rw [Addr.add_zero'] at hx16_1);(try rw [show ((0:Int)).toNat=0 from rfl] at hx16_2);(try rw [show 0 * 8=0 from rfl] at hx16_2);(try rw [Addr.add_zero'] at hx16_2);(try rw [show ((0:Int)).toNat=0 from rfl] at hx16_3);(try rw [show 0 * 8=0 from rfl] at hx16_3);(try rw [Addr.add_zero'] at hx16_3);(try rw [show ((0:Int)).toNat=0 from rfl] at hx16_4);(try rw [show 0 * 8=0 from rfl] at hx16_4);(try rw [Addr.add_zero'] at hx16_4);(try rw [show ((0:Int)).toNat=0 from rfl] at hx16_5);(try rw [show 0 * 8=0 from rfl] at hx16_5);(try rw [Addr.add_zero'] at hx16_5);(try rw [show ((0:Int)).toNat=0 from rfl] at hx16_6);(try rw [show 0 * 8=0 from rfl] at hx16_6);(try rw [Addr.add_zero'] at hx16_6);(try rw [show ((0:Int)).toNat=0 from rfl] at hx16_7);(try rw [show 0 * 8=0 from rfl] at hx16_7);(try rw [Addr.add_zero'] at hx16_7);have HR16_1:=Aside0.mk hi16_1;have HC16_1:=Aside0.mk hl16_1;clear hi16_1 hl16_1;replace p16:=eq_true p16;replace q16:=eq_true q16;have p18:0 ≤ (0:Int):=zb14;have q18:0 < (t19.length:Int):=of_decide_eq_true zb1;obtain ⟨ad18,A18_1,c18_1,e18,hx18_0,hx18_1,hx18_2,hx18_3,hx18_4,hx18_5,hx18_6,hx18_7,hl18_1,hi18_1⟩:=at_T26 (Kd.S_reads' HO21.out).2.2 0 p18 q18;obtain rfl:ad16=ad18:=(by injection e18);obtain ⟨ce18,hce18,hMe18,hcc18⟩:=Kd.S_get HO21.out z26 0 p18 (by first|exact q18|exact of_decide_eq_true (by first|(with_reducible assumption)|assumption)|(have e_:=(Kd.S_reads' HO21.out).1;omega));obtain ⟨ve18_1,rfl,ge18_1⟩:=k26_openM hMe18;have hv18_1:=hcc18 1 _ rfl;rw [add_field _ _ 1 zb14] at hv18_1;replace hv18_1:=Option.some.inj (hv18_1.symm.trans hx18_1);rw [hv18_1] at ge18_1;have HL18_1:=Aside0.mk (show Kd.R Kd.string 9 _ _ _ _ ((rd_T26 t19 0).f1) from ge18_1);clear hv18_1 ge18_1;clear hcc18 hce18;have qi18:(0 < t19.length)=True:=eq_true zb14;(try rw [show ((0:Int)).toNat=0 from rfl] at hx18_0);(try rw [show 0 * 8=0 from rfl] at hx18_0);(try rw [Addr.add_zero'] at hx18_0);(try rw [show ((0:Int)).toNat=0 from rfl] at hx18_1);(try rw [show 0 * 8=0 from rfl] at hx18_1);(try rw [Addr.add_zero'] at hx18_1);(try rw [show ((0:Int)).toNat=0 from rfl] at hx18_2);(try rw [show 0 * 8=0 from rfl] at hx18_2);(try rw [Addr.add_zero'] at hx18_2);(try rw [show ((0:Int)).toNat=0 from rfl] at hx18_3);(try rw [show 0 * 8=0 from rfl] at hx18_3);(try rw [Addr.add_zero'] at hx18_3);(try rw [show ((0:Int)).toNat=0 from rfl] at hx18_4);(try rw [show 0 * 8=0 from rfl] at hx18_4);(try rw [Addr.add_zero'] at hx18_4);(try rw [show ((0:Int)).toNat=0 from rfl] at hx18_5);(try rw [show 0 * 8=0 from rfl] at hx18_5);(try rw [Addr.add_zero'] at hx18_5);(try rw [show ((0:Int)).toNat=0 from rfl] at hx18_6);(try rw [show 0 * 8=0 from rfl] at hx18_6);(try rw [Addr.add_zero'] at hx18_6);(try rw [show ((0:Int)).toNat=0 from rfl] at hx18_7);(try rw [show 0 * 8=0 from rfl] at hx18_7);(try rw [Addr.add_zero'] at hx18_7);have HR18_1:=Aside0.mk hi18_1;have HC18_1:=Aside0.mk hl18_1;clear hi18_1 hl18_1;replace p18:=eq_true p18;replace q18:=eq_true q18;have ea_:=Option.some.inj (hx16_1.symm.trans hx18_1);injection ea_ with ea_ en_ ec_;subst ea_;subst ec_;clear en_)|(go_at_call 9;(with_reducible refine (table_Right.calls k _ _ t19 true _ ?side1 ?side2 A12.out).mono ?_);(case side1=>exact zb27);(case side2=>exact (Kd.S_reads' HO21.out).2.1);rintro e w35 ⟨rfl,hb⟩;(try clear A12);replace HO21:=Aside0.mk (Kd.S_below zb26 hb);replace HO45:=Aside0.mk (Kd.S_below zb40 hb);replace HL16_1:=Aside0.mk (Kd.R_below zb38 hb);replace HL18_1:=Aside0.mk (Kd.R_below zb39 hb);replace HR16_1:=Aside0.mk (Kd.C_below zb19 hb);replace HR18_1:=Aside0.mk (Kd.C_below zb20 hb);replace HB:=Aside0.mk (below_step zb0 hb);(try clear hb))|(go_at_call 9;(refine (table_Right.calls k _ _ ([]:List (S26)) false _ ?side1 ?side2 A14.out).mono ?_);(case side1=>exact Kd.C_nil _ _);(case side2=>exact Nat.le_refl _);rintro e w36 ⟨rfl,hb⟩;(try clear A14);replace HO21:=Aside0.mk (Kd.S_below zb26 hb);replace HO45:=Aside0.mk (Kd.S_below zb40 hb);replace HL16_1:=Aside0.mk (Kd.R_below zb38 hb);replace HL18_1:=Aside0.mk (Kd.R_below zb39 hb);replace HR16_1:=Aside0.mk (Kd.C_below zb19 hb);replace HR18_1:=Aside0.mk (Kd.C_below zb20 hb);replace HB:=Aside0.mk (below_step zb0 hb);(try clear hb))|(go_at_call 11;(with_reducible refine (table_Find.calls k _ _ t19 (⟨#[98]⟩:ByteArray) t44 _ ?side1 ?side2 A22.out).mono ?_);(case side1=>exact zb27);(case side2=>exact (Kd.S_reads' HO21.out).2.1);rintro e w37 ⟨rfl,hb⟩;(try clear A22);replace HO21:=Aside0.mk (Kd.S_below zb26 hb);replace HO45:=Aside0.mk (Kd.S_below zb40 hb);replace HL16_1:=Aside0.mk (Kd.R_below zb38 hb);replace HL18_1:=Aside0.mk (Kd.R_below zb39 hb);replace HR16_1:=Aside0.mk (Kd.C_below zb19 hb);replace HR18_1:=Aside0.mk (Kd.C_below zb20 hb);replace HB:=Aside0.mk (below_step zb0 hb);(try clear hb))|(go_at_call 11;(with_reducible refine (table_Find.calls k _ _ t19 (⟨#[99]⟩:ByteArray) t42 _ ?side1 ?side2 A24.out).mono ?_);(case side1=>exact zb27);(case side2=>exact (Kd.S_reads' HO21.out).2.1);rintro e w38 ⟨rfl,hb⟩;(try clear A24);replace HO21:=Aside0.mk (Kd.S_below zb26 hb);replace HO45:=Aside0.mk (Kd.S_below zb40 hb);replace HL16_1:=Aside0.mk (Kd.R_below zb38 hb);replace HL18_1:=Aside0.mk (Kd.R_below zb39 hb);replace HR16_1:=Aside0.mk (Kd.C_below zb19 hb);replace HR18_1:=Aside0.mk (Kd.C_below zb20 hb);replace HB:=Aside0.mk (below_step zb0 hb);(try clear hb))|(go_at_call 13;(with_reducible refine (table_Named.calls _ _ t19 (⟨#[97]⟩:ByteArray) t41 _ ?side1 ?side2 A26.out).mono ?_);(case side1=>exact zb27);(case side2=>exact (Kd.S_reads' HO21.out).2.1);rintro e w39 ⟨rfl,hb⟩;(try clear A26);replace HO21:=Aside0.mk (Kd.S_below zb26 hb);replace HO45:=Aside0.mk (Kd.S_below zb40 hb);replace HL16_1:=Aside0.mk (Kd.R_below zb38 hb);replace HL18_1:=Aside0.mk (Kd.R_below zb39 hb);replace HR16_1:=Aside0.mk (Kd.C_below zb19 hb);replace HR18_1:=Aside0.mk (Kd.C_below zb20 hb);replace HB:=Aside0.mk (below_step zb0 hb);(try clear hb))|(go_at_call 19;(with_reducible refine (table_Name.calls k (⟨#[97,45,49]⟩:ByteArray) true _ A28.out).mono ?_);rintro e w' ⟨rfl,⟨nd,rfl⟩⟩;(try clear A28))|(go_at_call 19;(with_reducible refine (table_Name.calls k (⟨#[49,97]⟩:ByteArray) t40 _ A30.out).mono ?_);rintro e w' ⟨rfl,⟨nd,rfl⟩⟩;(try clear A30)))
       go_ret
       exact ⟨zb6,zb0⟩
      ·replace c29:=Bool.eq_false_iff.mpr c29
       subst c29
       rw [if_neg (show ¬ (false=true) by decide)] at H
       exact absurd ((Option.some.inj H).trans HRT.out) zb44
     ·rw [if_neg c25] at H
      have c25b0:=beq_eq_false_iff_ne.mpr c25
      have c25b1:=bne_iff_ne.mpr c25
      exact absurd ((Option.some.inj H).trans HRT.out) zb44
    ·replace c13:=Bool.eq_false_iff.mpr c13
     subst c13
     rw [if_neg (show ¬ (false=true) by decide)] at H
     exact absurd ((Option.some.inj H).trans HRT.out) zb44
   ·rw [if_neg c10] at H
    have c10b0:=beq_eq_false_iff_ne.mpr c10
    have c10b1:=bne_iff_ne.mpr c10
    exact absurd ((Option.some.inj H).trans HRT.out) zb44
  ·rw [if_neg c8] at H
   have c8b0:=beq_eq_false_iff_ne.mpr c8
   have c8b1:=bne_iff_ne.mpr c8
   exact absurd ((Option.some.inj H).trans HRT.out) zb44
 ·rw [if_neg c5] at H
  have c5b0:=beq_eq_false_iff_ne.mpr c5
  have c5b1:=bne_iff_ne.mpr c5
  exact absurd ((Option.some.inj H).trans HRT.out) zb44
mutual
def tollbarlaw09_TableWrites.l0:Nat → List (S26) → ByteArray → ByteArray → List (S26) → Int → Int → Option (Bool)
 | 0,_,_,_,_,_,_=>none
 | k + 1,x0,x1,x2,x16,x17,x18=>if x18 < x17 then (if 0 ≤ x18 then (if x18 < (x16.length:Int) then (if (((rd_T26 x16 x18).f1).length:Int) > 100 then (some true) else (tollbarlaw09_TableWrites.l0 k x0 x1 x2 x16 x17 (wrap64 (x18 + 1)))) else (none)) else (none)) else ((table_Right.f k x0).bind fun t287=>((tollbarref09_Right.f k x0).bind fun t288=>(if (t287 != t288)=true then (tollbarlaw09_TableWrites.j1 k x0 true) else ((table_Find.f k x0 x1).bind fun t289=>((tollbarref09_Find.f k x0 x1).bind fun t290=>(if t289=t290 then ((table_Named.f x0 x2).bind fun t291=>((tollbarref09_Named.f k x0 x2).bind fun t292=>(tollbarlaw09_TableWrites.j1 k x0 (t291 != t292)))) else (tollbarlaw09_TableWrites.j1 k x0 true)))))))
def tollbarlaw09_TableWrites.j1:Nat → List (S26) → Bool → Option (Bool)
 | 0,_,_=>none
 | k + 1,x0,x49=>if x49=true then (some false) else ((table_Write.f k x0).bind fun bt293=>((tollbarref09_Right.f k x0).bind fun t295=>(if t295=true then (if bt293.2=0 then ((tollbarref09_Write.f k x0).bind fun t296=>(some (bt293.1.toList == t296.toList))) else (some false)) else (if bt293.2=60 then (some (bt293.1.toList == ([]:List UInt8))) else (some false)))))
end
def tollbarlaw09_TableWrites.f (k:Nat) (l0:List (S26)) (a1:ByteArray) (a2:ByteArray):Option (Bool):=(tollbarlaw09_alive.f k).bind fun t284=>(if t284=true then (if (l0.length:Int) > 100 then (some true) else (tollbarlaw09_TableWrites.l0 k l0 a1 a2 l0 (l0.length:Int) 0)) else (some false))
set_option maxHeartbeats 8000000 in
set_option maxRecDepth 100000 in
theorem tollbarlaw09_TableWrites.calls (k:Nat) (A0:Option Addr) (c0:Nat) (l0:List (S26)) (a1:ByteArray) (a2:ByteArray) (r:Bool) (w:World) (hr0:Kd.C k26 w A0 l0.length l0) (hc0:l0.length ≤ c0) (h:tollbarlaw09_TableWrites.f k l0 a1 a2=some r) (hr:r=true) (ht:Tabs w) :
 Calls Tryd.prog 3 #[.slice A0 l0.length c0,.string a1,.string a2] w fun e w' => e = .returned (.bool r)∧Below w.heap.size w w' := by
 have HTB:=Aside0.mk ht
 clear ht
 have HRT:=Aside0.mk hr
 clear hr
 have hu26:=Tryd.underlying26
 have HR0:=Aside0.mk hr0
 have HC0:=Aside0.mk hc0
 clear hr0 hc0
 have HB:=Aside0.mk (Below.refl w.heap.size w)
 unfold tollbarlaw09_TableWrites.f at h
 have H:=h
 clear h
 replace H:=Option.bind_eq_some_iff.mp H
 obtain ⟨t60,A40,H⟩:=H
 try dsimp only at H
 have A4:=Aside0.mk A40
 clear A40
 by_cases c5:t60=true;rotate_left
 ·replace c5:=Bool.eq_false_iff.mpr c5
  subst c5
  rw [if_neg (show ¬ (false=true) by decide)] at H
  exact absurd ((Option.some.inj H).trans HRT.out) zb44
 subst c5
 rw [if_pos rfl] at H
 by_cases c6:(l0.length:Int) > 100
 ·rw [if_pos c6] at H
  have c6b0:decide (100 < (l0.length:Int))=true:=decide_eq_true c6
  have c6b1:decide (100 < l0.length)=true:=decide_eq_true zb14
  clear c6
  obtain rfl:=Option.some.inj H
  go_enter Tryd.func3,Tryd.ntmps3
  go_wp2_with (first|((with_reducible refine gate_callee (f:=8) rfl ?_);refine goesL_ (some 11) rfl rfl Tryd.func8 zb24 rfl #[] rfl zb2 ?_;(with_reducible refine (tollbarlaw09_alive.calls k  true _ A4.out rfl ?hT).mono ?_);(case hT=>exact HTB.out.below zb21);rintro e w7 ⟨rfl,hb⟩;(try clear A4);refine ⟨_,rfl,?_⟩;replace HB:=Aside0.mk (below_step zb0 hb);(try clear hb)))
  go_ret
  exact ⟨zb6,zb0⟩
 rw [if_neg c6] at H
 have c6b0:decide (100 < (l0.length:Int))=false:=decide_eq_false c6
 have c6b1:decide (100 < l0.length)=false:=decide_eq_false zb14
 clear c6
 have H' := Aside0.mk H
 clear H
 go_enter Tryd.func3,Tryd.ntmps3
 go_wp2_with (first|((with_reducible refine gate_callee (f:=8) rfl ?_);refine goesL_ (some 11) rfl rfl Tryd.func8 zb24 rfl #[] rfl zb2 ?_;(with_reducible refine (tollbarlaw09_alive.calls k  true _ A4.out rfl ?hT).mono ?_);(case hT=>exact HTB.out.below zb21);rintro e w8 ⟨rfl,hb⟩;(try clear A4);refine ⟨_,rfl,?_⟩;replace HB:=Aside0.mk (below_step zb0 hb);(try clear hb)))
 go_loopg [18] k (fun kq v18 w' => ∃ (x18_1:Int),v18 = .int .i64 x18_1∧Aside0 (tollbarlaw09_TableWrites.l0 kq l0 a1 a2 l0 (l0.length:Int) x18_1=some r)∧Aside0 (kq ≤ k)∧Aside0 (Below w.heap.size w w'))
 case atStart=>exact ⟨(0),zb3,H',⟨Nat.le_refl _⟩,⟨zb0⟩⟩
 case round =>
  clear H'
  try clear p2
  try clear c3
  try clear c5
  try clear c6
  try clear c6b0
  try clear c6b1
  try clear c8
  obtain ⟨x18_1,rfl,HA,HK1,HB⟩:=hrel
  cases gk with
  | zero=>exact absurd HA.out (by simp [tollbarlaw09_TableWrites.l0])
  | succ k1 =>
   have H:=HA.out
   clear HA
   simp only [tollbarlaw09_TableWrites.l0] at H
   by_cases c9:x18_1 < (l0.length:Int)
   ·rw [if_pos c9] at H
    have c9b0:=decide_eq_true c9
    clear c9
    by_cases c10:0 ≤ x18_1;rotate_left
    ·rw [if_neg c10] at H
     exact absurd H zb17
    rw [if_pos c10] at H
    have c10b0:=decide_eq_true c10
    clear c10
    by_cases c11:x18_1 < (l0.length:Int)
    ·rw [if_pos c11] at H
     have c11b0:=decide_eq_true c11
     clear c11
     by_cases c12:(((rd_T26 l0 x18_1).f1).length:Int) > 100
     ·rw [if_pos c12] at H
      have c12b0:decide (100 < (((rd_T26 l0 x18_1).f1).length:Int))=true:=decide_eq_true c12
      have c12b1:decide (100 < ((rd_T26 l0 x18_1).f1).length)=true:=decide_eq_true zb14
      clear c12
      obtain rfl:=Option.some.inj H
      have p44:0 ≤ (x18_1:Int):=of_decide_eq_true zb1
      have q44:x18_1 < (l0.length:Int):=of_decide_eq_true zb1
      obtain ⟨ad44,A44_1,c44_1,e44,hx44_0,hx44_1,hx44_2,hx44_3,hx44_4,hx44_5,hx44_6,hx44_7,hl44_1,hi44_1⟩:=at_T26 HR0.out x18_1 p44 q44
      cases e44
      replace hx44_0:=(HB.out.cell (World.block_lt_of_cell? w _ hx44_0)).trans hx44_0
      replace hx44_1:=(HB.out.cell (World.block_lt_of_cell? w _ hx44_1)).trans hx44_1
      replace hx44_2:=(HB.out.cell (World.block_lt_of_cell? w _ hx44_2)).trans hx44_2
      replace hx44_3:=(HB.out.cell (World.block_lt_of_cell? w _ hx44_3)).trans hx44_3
      replace hx44_4:=(HB.out.cell (World.block_lt_of_cell? w _ hx44_4)).trans hx44_4
      replace hx44_5:=(HB.out.cell (World.block_lt_of_cell? w _ hx44_5)).trans hx44_5
      replace hx44_6:=(HB.out.cell (World.block_lt_of_cell? w _ hx44_6)).trans hx44_6
      replace hx44_7:=(HB.out.cell (World.block_lt_of_cell? w _ hx44_7)).trans hx44_7
      have HR44_1:=Aside0.mk hi44_1
      have HC44_1:=Aside0.mk hl44_1
      clear hi44_1 hl44_1
      replace p44:=eq_true p44
      replace q44:=eq_true q44
      go_wp2_with (first|((with_reducible refine gate_dst (N:=8) rfl ?_);refine box_event rfl (N:=8) rfl (cs:=#[.string (⟨#[]⟩:ByteArray),.slice none 0 0,.int .i64 0,.int .i64 0,.int .i64 0,.int .i64 0,.int .i64 0,.int .i64 0]) (t:=26) zS ?_;intro gb45 hg w13 hbox hb;have GW45:=zG hg zb0;have GE45:=GW45;have BK45:=Aside0.mk hbox;replace HB:=Aside0.mk (below_step zb0 hb);clear hb hbox hg;have hcz14_0:w13.cell? ⟨gb45,0,none⟩=some (.string (⟨#[]⟩:ByteArray)):=(blk_cell BK45.out 0).trans rfl;have hcz14_1:w13.cell? ⟨gb45,1,none⟩=some (.slice none 0 0):=(blk_cell BK45.out 1).trans rfl;have hcz14_2:w13.cell? ⟨gb45,2,none⟩=some (.int .i64 0):=(blk_cell BK45.out 2).trans rfl;have hcz14_3:w13.cell? ⟨gb45,3,none⟩=some (.int .i64 0):=(blk_cell BK45.out 3).trans rfl;have hcz14_4:w13.cell? ⟨gb45,4,none⟩=some (.int .i64 0):=(blk_cell BK45.out 4).trans rfl;have hcz14_5:w13.cell? ⟨gb45,5,none⟩=some (.int .i64 0):=(blk_cell BK45.out 5).trans rfl;have hcz14_6:w13.cell? ⟨gb45,6,none⟩=some (.int .i64 0):=(blk_cell BK45.out 6).trans rfl;have hcz14_7:w13.cell? ⟨gb45,7,none⟩=some (.int .i64 0):=(blk_cell BK45.out 7).trans rfl;have hfz14_0:=blk_frozen BK45.out 0;have hfz14_1:=blk_frozen BK45.out 1;have hfz14_2:=blk_frozen BK45.out 2;have hfz14_3:=blk_frozen BK45.out 3;have hfz14_4:=blk_frozen BK45.out 4;have hfz14_5:=blk_frozen BK45.out 5;have hfz14_6:=blk_frozen BK45.out 6;have hfz14_7:=blk_frozen BK45.out 7))
      go_ret
      exact ⟨zb6,zb21⟩
     rw [if_neg c12] at H
     have c12b0:decide (100 < (((rd_T26 l0 x18_1).f1).length:Int))=false:=decide_eq_false c12
     have c12b1:decide (100 < ((rd_T26 l0 x18_1).f1).length)=false:=decide_eq_false zb14
     clear c12
     have H' := Aside0.mk H
     clear H
     have p44:0 ≤ (x18_1:Int):=of_decide_eq_true zb1
     have q44:x18_1 < (l0.length:Int):=of_decide_eq_true zb1
     obtain ⟨ad44,A44_1,c44_1,e44,hx44_0,hx44_1,hx44_2,hx44_3,hx44_4,hx44_5,hx44_6,hx44_7,hl44_1,hi44_1⟩:=at_T26 HR0.out x18_1 p44 q44
     cases e44
     replace hx44_0:=(HB.out.cell (World.block_lt_of_cell? w _ hx44_0)).trans hx44_0
     replace hx44_1:=(HB.out.cell (World.block_lt_of_cell? w _ hx44_1)).trans hx44_1
     replace hx44_2:=(HB.out.cell (World.block_lt_of_cell? w _ hx44_2)).trans hx44_2
     replace hx44_3:=(HB.out.cell (World.block_lt_of_cell? w _ hx44_3)).trans hx44_3
     replace hx44_4:=(HB.out.cell (World.block_lt_of_cell? w _ hx44_4)).trans hx44_4
     replace hx44_5:=(HB.out.cell (World.block_lt_of_cell? w _ hx44_5)).trans hx44_5
     replace hx44_6:=(HB.out.cell (World.block_lt_of_cell? w _ hx44_6)).trans hx44_6
     replace hx44_7:=(HB.out.cell (World.block_lt_of_cell? w _ hx44_7)).trans hx44_7
     have HR44_1:=Aside0.mk hi44_1
     have HC44_1:=Aside0.mk hl44_1
     clear hi44_1 hl44_1
     replace p44:=eq_true p44
     replace q44:=eq_true q44
     go_wp2_with (first|((with_reducible refine gate_dst (N:=8) rfl ?_);refine box_event rfl (N:=8) rfl (cs:=#[.string (⟨#[]⟩:ByteArray),.slice none 0 0,.int .i64 0,.int .i64 0,.int .i64 0,.int .i64 0,.int .i64 0,.int .i64 0]) (t:=26) zS ?_;intro gb45 hg w15 hbox hb;have GW45:=zG hg zb0;have GE45:=GW45;have BK45:=Aside0.mk hbox;replace HB:=Aside0.mk (below_step zb0 hb);clear hb hbox hg;have hcz16_0:w15.cell? ⟨gb45,0,none⟩=some (.string (⟨#[]⟩:ByteArray)):=(blk_cell BK45.out 0).trans rfl;have hcz16_1:w15.cell? ⟨gb45,1,none⟩=some (.slice none 0 0):=(blk_cell BK45.out 1).trans rfl;have hcz16_2:w15.cell? ⟨gb45,2,none⟩=some (.int .i64 0):=(blk_cell BK45.out 2).trans rfl;have hcz16_3:w15.cell? ⟨gb45,3,none⟩=some (.int .i64 0):=(blk_cell BK45.out 3).trans rfl;have hcz16_4:w15.cell? ⟨gb45,4,none⟩=some (.int .i64 0):=(blk_cell BK45.out 4).trans rfl;have hcz16_5:w15.cell? ⟨gb45,5,none⟩=some (.int .i64 0):=(blk_cell BK45.out 5).trans rfl;have hcz16_6:w15.cell? ⟨gb45,6,none⟩=some (.int .i64 0):=(blk_cell BK45.out 6).trans rfl;have hcz16_7:w15.cell? ⟨gb45,7,none⟩=some (.int .i64 0):=(blk_cell BK45.out 7).trans rfl;have hfz16_0:=blk_frozen BK45.out 0;have hfz16_1:=blk_frozen BK45.out 1;have hfz16_2:=blk_frozen BK45.out 2;have hfz16_3:=blk_frozen BK45.out 3;have hfz16_4:=blk_frozen BK45.out 4;have hfz16_5:=blk_frozen BK45.out 5;have hfz16_6:=blk_frozen BK45.out 6;have hfz16_7:=blk_frozen BK45.out 7))
     go_roundg k1
     case measure=>have:=HK1.out;omega
     case rel=>exact ⟨(wrap64 (x18_1 + 1)),zb3,H',⟨zb48⟩,⟨zb21⟩⟩
    ·rw [if_neg c11] at H
     exact absurd H zb17
   rw [if_neg c9] at H
   have c9b0:=decide_eq_false c9
   clear c9
   have HC17:=Aside0.mk H
   clear H
   go_upto_region 11 with (fail)
   go_cut [49] (fun v49 wc => ∃ (kq:Nat) (x49_16:Bool),v49 = .bool x49_16∧Aside0 (tollbarlaw09_TableWrites.j1 kq l0 x49_16=some r)∧Aside0 (kq ≤ k1)∧Aside0 (Below w.heap.size w wc))
   case first =>
    have H:=HC17.out
    clear HC17
    replace H:=Option.bind_eq_some_iff.mp H
    obtain ⟨t54,A61,H⟩:=H
    try dsimp only at H
    have A18:=Aside0.mk A61
    clear A61
    replace H:=Option.bind_eq_some_iff.mp H
    obtain ⟨t51,A62,H⟩:=H
    try dsimp only at H
    have A19:=Aside0.mk A62
    clear A62
    by_cases c20:(t54 != t51)=true
    ·rw [if_pos c20] at H
     have c20b0:(t54 != t51)=true:=c20
     (try (have c20b1:decide (t54=t51)=false:=by simpa using c20))
     (try (have c20b2:(t54 == t51)=false:=by simpa using c20))
     (try (have c20b3 : ¬ (t54=t51):=by simpa using c20))
     clear c20
     (first|rw [c20b0]|(simp only [i64_w,i32_w];rw [c20b0])|rw [c20b1]|skip)
     have H' := Aside0.mk H
     clear H
     go_wp2_with (first|((with_reducible refine gate_callee (f:=9) rfl ?_);refine goesL_ (some 28) rfl rfl Tryd.func9 zb24 rfl #[.slice A0 l0.length c0] rfl zb2 ?_;(with_reducible refine (table_Right.calls k1 _ _ l0 t54 _ ?side1 ?side2 A18.out).mono ?_);(case side1=>exact zb9);(case side2=>exact HC0.out);rintro e w21 ⟨rfl,hb⟩;(try clear A18);refine ⟨_,rfl,?_⟩;replace HB:=Aside0.mk (below_step zb0 hb);(try clear hb))|((with_reducible refine gate_callee (f:=10) rfl ?_);refine goesL_ (some 30) rfl rfl Tryd.func10 zb24 rfl #[.slice A0 l0.length c0] rfl zb2 ?_;(with_reducible refine (tollbarref09_Right.calls k1 _ _ l0 t51 _ ?side1 ?side2 A19.out).mono ?_);(case side1=>exact zb9);(case side2=>exact HC0.out);rintro e w22 ⟨rfl,hb⟩;(try clear A19);refine ⟨_,rfl,?_⟩;replace HB:=Aside0.mk (below_step zb0 hb);(try clear hb)))
     go_meet
     case rel=>exact ⟨_,(true),zb3,H',⟨zb37⟩,⟨zb0⟩⟩
    rw [if_neg c20] at H
    have c20b0:(t54 != t51)=false:=by simpa using c20
    (try (have c20b1:decide (t54=t51)=true:=by simpa using c20))
    (try (have c20b2:(t54 == t51)=true:=by simpa using c20))
    clear c20
    (first|rw [c20b0]|(simp only [i64_w,i32_w];rw [c20b0])|rw [c20b1]|skip)
    replace H:=Option.bind_eq_some_iff.mp H
    obtain ⟨t55,A63,H⟩:=H
    try dsimp only at H
    have A23:=Aside0.mk A63
    clear A63
    replace H:=Option.bind_eq_some_iff.mp H
    obtain ⟨t52,A65,H⟩:=H
    try dsimp only at H
    have A24:=Aside0.mk A65
    clear A65
    by_cases c25:t55=t52;rotate_left
    ·rw [if_neg c25] at H
     have c25b0:=beq_eq_false_iff_ne.mpr c25
     have c25b1:=bne_iff_ne.mpr c25
     have H' := Aside0.mk H
     clear H
     go_wp2_with (first|((with_reducible refine gate_callee (f:=9) rfl ?_);refine goesL_ (some 28) rfl rfl Tryd.func9 zb24 rfl #[.slice A0 l0.length c0] rfl zb2 ?_;(with_reducible refine (table_Right.calls k1 _ _ l0 t54 _ ?side1 ?side2 A18.out).mono ?_);(case side1=>exact zb9);(case side2=>exact HC0.out);rintro e w32 ⟨rfl,hb⟩;(try clear A18);refine ⟨_,rfl,?_⟩;replace HB:=Aside0.mk (below_step zb0 hb);(try clear hb))|((with_reducible refine gate_callee (f:=10) rfl ?_);refine goesL_ (some 30) rfl rfl Tryd.func10 zb24 rfl #[.slice A0 l0.length c0] rfl zb2 ?_;(with_reducible refine (tollbarref09_Right.calls k1 _ _ l0 t51 _ ?side1 ?side2 A19.out).mono ?_);(case side1=>exact zb9);(case side2=>exact HC0.out);rintro e w33 ⟨rfl,hb⟩;(try clear A19);refine ⟨_,rfl,?_⟩;replace HB:=Aside0.mk (below_step zb0 hb);(try clear hb))|(go_at_call 11;(with_reducible refine (table_Find.calls k1 _ _ l0 a1 t55 _ ?side1 ?side2 A23.out).mono ?_);(case side1=>exact zb9);(case side2=>exact HC0.out);rintro e w34 ⟨rfl,hb⟩;(try clear A23);replace HB:=Aside0.mk (below_step zb0 hb);(try clear hb))|(go_at_call 12;(with_reducible refine (tollbarref09_Find.calls k1 _ _ l0 a1 t52 _ ?side1 ?side2 A24.out).mono ?_);(case side1=>exact zb9);(case side2=>exact HC0.out);rintro e w' ⟨rfl,⟨nd,rfl⟩⟩;(try clear A24)))
     go_meet
     case rel=>exact ⟨_,(true),zb3,H',⟨zb37⟩,⟨zb0⟩⟩
    rw [if_pos c25] at H
    have c25b0:=beq_iff_eq.mpr c25
    have c25b1:=bne_eq_false_iff_eq.mpr c25
    clear c25
    replace H:=Option.bind_eq_some_iff.mp H
    obtain ⟨t57,A66,H⟩:=H
    try dsimp only at H
    have A26:=Aside0.mk A66
    clear A66
    replace H:=Option.bind_eq_some_iff.mp H
    obtain ⟨t56,A67,H⟩:=H
    try dsimp only at H
    have A27:=Aside0.mk A67
    clear A67
    have H' := Aside0.mk H
    clear H
    go_wp2_with (first|((with_reducible refine gate_callee (f:=9) rfl ?_);refine goesL_ (some 28) rfl rfl Tryd.func9 zb24 rfl #[.slice A0 l0.length c0] rfl zb2 ?_;(with_reducible refine (table_Right.calls k1 _ _ l0 t54 _ ?side1 ?side2 A18.out).mono ?_);(case side1=>exact zb9);(case side2=>exact HC0.out);rintro e w28 ⟨rfl,hb⟩;(try clear A18);refine ⟨_,rfl,?_⟩;replace HB:=Aside0.mk (below_step zb0 hb);(try clear hb))|((with_reducible refine gate_callee (f:=10) rfl ?_);refine goesL_ (some 30) rfl rfl Tryd.func10 zb24 rfl #[.slice A0 l0.length c0] rfl zb2 ?_;(with_reducible refine (tollbarref09_Right.calls k1 _ _ l0 t51 _ ?side1 ?side2 A19.out).mono ?_);(case side1=>exact zb9);(case side2=>exact HC0.out);rintro e w29 ⟨rfl,hb⟩;(try clear A19);refine ⟨_,rfl,?_⟩;replace HB:=Aside0.mk (below_step zb0 hb);(try clear hb))|(go_at_call 11;(with_reducible refine (table_Find.calls k1 _ _ l0 a1 t55 _ ?side1 ?side2 A23.out).mono ?_);(case side1=>exact zb9);(case side2=>exact HC0.out);rintro e w30 ⟨rfl,hb⟩;(try clear A23);replace HB:=Aside0.mk (below_step zb0 hb);(try clear hb))|(go_at_call 12;(with_reducible refine (tollbarref09_Find.calls k1 _ _ l0 a1 t52 _ ?side1 ?side2 A24.out).mono ?_);(case side1=>exact zb9);(case side2=>exact HC0.out);rintro e w' ⟨rfl,⟨nd,rfl⟩⟩;(try clear A24))|(go_at_call 13;(with_reducible refine (table_Named.calls _ _ l0 a2 t57 _ ?side1 ?side2 A26.out).mono ?_);(case side1=>repeat (first|exact (Kd.C_below HR0.out zb0)|(with_reducible refine Kd.C_alloc ?_ _)|(with_reducible refine Kd.C_drewN ?_ _)|(with_reducible refine Kd.C_drew ?_)));(case side2=>exact HC0.out);rintro e w31 ⟨rfl,hb⟩;(try clear A26);replace HB:=Aside0.mk (below_step zb0 hb);(try clear hb))|(go_at_call 14;(with_reducible refine (tollbarref09_Named.calls k1 _ _ l0 a2 t56 _ ?side1 ?side2 A27.out).mono ?_);(case side1=>exact zb9);(case side2=>exact HC0.out);rintro e w' ⟨rfl,⟨nd,rfl⟩⟩;(try clear A27)))
    go_meet
    case rel=>exact ⟨_,((t57 != t56)),zb3,H',⟨zb37⟩,⟨zb0⟩⟩
   case rest =>
    clear HC17
    try clear c1
    try clear c2
    try clear p2
    try clear q2
    try clear hx2
    try clear c3
    try clear c5
    try clear c6
    try clear c6b0
    try clear c6b1
    try clear p6
    try clear c8
    try clear c9
    try clear c9b0
    try clear c10
    try clear c10b0
    try clear c11
    try clear c11b0
    try clear c12
    try clear c12b0
    try clear c12b1
    try clear c20
    try clear c20b0
    try clear c20b1
    try clear c20b2
    try clear c25
    try clear c25b0
    try clear c25b1
    try clear c28
    try clear p28
    try clear q28
    try clear hx28
    try clear hcz14_0
    try clear hcz14_1
    try clear hcz14_2
    try clear hcz14_3
    try clear hcz14_4
    try clear hcz14_5
    try clear hcz14_6
    try clear hcz14_7
    try clear hcz16_0
    try clear hcz16_1
    try clear hcz16_2
    try clear hcz16_3
    try clear hcz16_4
    try clear hcz16_5
    try clear hcz16_6
    try clear hcz16_7
    try clear hfz14_0
    try clear hfz14_1
    try clear hfz14_2
    try clear hfz14_3
    try clear hfz14_4
    try clear hfz14_5
    try clear hfz14_6
    try clear hfz14_7
    try clear hfz16_0
    try clear hfz16_1
    try clear hfz16_2
    try clear hfz16_3
    try clear hfz16_4
    try clear hfz16_5
    try clear hfz16_6
    try clear hfz16_7
    try clear hx44_0
    try clear hx44_1
    try clear hx44_2
    try clear hx44_3
    try clear hx44_4
    try clear hx44_5
    try clear hx44_6
    try clear hx44_7
    try clear p2
    try clear p44
    try clear q44
    obtain ⟨kq,x49_16,rfl,HA,HJ16,HB⟩:=hcut
    cases kq with
    | zero=>exact absurd HA.out (by simp [tollbarlaw09_TableWrites.j1])
    | succ kj16 =>
     have H:=HA.out
     clear HA
     simp only [tollbarlaw09_TableWrites.j1] at H
     by_cases c35:x49_16=true
     ·subst c35
      rw [if_pos rfl] at H
      exact absurd ((Option.some.inj H).trans HRT.out) zb44
     replace c35:=Bool.eq_false_iff.mpr c35
     subst c35
     rw [if_neg (show ¬ (false=true) by decide)] at H
     replace H:=Option.bind_eq_some_iff.mp H
     obtain ⟨⟨t53,t50⟩,A68,H⟩:=H
     try dsimp only at H
     have A36:=Aside0.mk A68
     clear A68
     replace H:=Option.bind_eq_some_iff.mp H
     obtain ⟨t59,A69,H⟩:=H
     try dsimp only at H
     have A37:=Aside0.mk A69
     clear A69
     by_cases c38:t59=true;rotate_left
     ·replace c38:=Bool.eq_false_iff.mpr c38
      subst c38
      rw [if_neg (show ¬ (false=true) by decide)] at H
      by_cases c46:t50=60;rotate_left
      ·rw [if_neg c46] at H
       have c46b0:=beq_eq_false_iff_ne.mpr c46
       have c46b1:=bne_iff_ne.mpr c46
       exact absurd ((Option.some.inj H).trans HRT.out) zb44
      rw [if_pos c46] at H
      have c46b0:=beq_iff_eq.mpr c46
      have c46b1:=bne_eq_false_iff_eq.mpr c46
      clear c46
      obtain rfl:=Option.some.inj H
      go_wp2_with (first|((with_reducible refine gate_callee (f:=15) rfl ?_);refine goesL_ (some 52) rfl rfl Tryd.func15 zb24 rfl #[.slice A0 l0.length c0] rfl zb2 ?_;(with_reducible refine (table_Write.calls kj16 _ _ l0 t53 t50 _ ?side1 ?side2 A36.out ?hT).mono ?_);(case hT=>exact HTB.out.below zb21);(case side1=>exact zb9);(case side2=>exact HC0.out);rintro e w47 ⟨rfl,hb⟩;(try clear A36);refine ⟨_,rfl,?_⟩;replace HB:=Aside0.mk (below_step zb0 hb);(try clear hb))|((with_reducible refine gate_callee (f:=10) rfl ?_);refine goesL_ (some 56) rfl rfl Tryd.func10 zb24 rfl #[.slice A0 l0.length c0] rfl zb2 ?_;(with_reducible refine (tollbarref09_Right.calls kj16 _ _ l0 false _ ?side1 ?side2 A37.out).mono ?_);(case side1=>exact zb9);(case side2=>exact HC0.out);rintro e w48 ⟨rfl,hb⟩;(try clear A37);refine ⟨_,rfl,?_⟩;replace HB:=Aside0.mk (below_step zb0 hb);(try clear hb)))
      go_ret
      exact ⟨zb6,zb0⟩
     subst c38
     rw [if_pos rfl] at H
     by_cases c39:t50=0
     ·rw [if_pos c39] at H
      have c39b0:=beq_iff_eq.mpr c39
      have c39b1:=bne_eq_false_iff_eq.mpr c39
      clear c39
      replace H:=Option.bind_eq_some_iff.mp H
      obtain ⟨t58,A70,H⟩:=H
      try dsimp only at H
      have A40:=Aside0.mk A70
      clear A70
      obtain rfl:=Option.some.inj H
      go_wp2_with (first|((with_reducible refine gate_callee (f:=15) rfl ?_);refine goesL_ (some 52) rfl rfl Tryd.func15 zb24 rfl #[.slice A0 l0.length c0] rfl zb2 ?_;(with_reducible refine (table_Write.calls kj16 _ _ l0 t53 t50 _ ?side1 ?side2 A36.out ?hT).mono ?_);(case hT=>exact HTB.out.below zb21);(case side1=>exact zb9);(case side2=>exact HC0.out);rintro e w41 ⟨rfl,hb⟩;(try clear A36);refine ⟨_,rfl,?_⟩;replace HB:=Aside0.mk (below_step zb0 hb);(try clear hb))|((with_reducible refine gate_callee (f:=10) rfl ?_);refine goesL_ (some 56) rfl rfl Tryd.func10 zb24 rfl #[.slice A0 l0.length c0] rfl zb2 ?_;(with_reducible refine (tollbarref09_Right.calls kj16 _ _ l0 true _ ?side1 ?side2 A37.out).mono ?_);(case side1=>exact zb9);(case side2=>exact HC0.out);rintro e w42 ⟨rfl,hb⟩;(try clear A37);refine ⟨_,rfl,?_⟩;replace HB:=Aside0.mk (below_step zb0 hb);(try clear hb))|(go_at_call 16;(with_reducible refine (tollbarref09_Write.calls kj16 _ _ l0 t58 _ ?side1 ?side2 A40.out).mono ?_);(case side1=>exact zb9);(case side2=>exact HC0.out);rintro e w43 ⟨rfl,hb⟩;(try clear A40);replace HB:=Aside0.mk (below_step zb0 hb);(try clear hb)))
      go_ret
      exact ⟨zb6,zb0⟩
     ·rw [if_neg c39] at H
      have c39b0:=beq_eq_false_iff_ne.mpr c39
      have c39b1:=bne_iff_ne.mpr c39
      exact absurd ((Option.some.inj H).trans HRT.out) zb44
end Go.Proofs.YtclpanalnbmejaaDoor.P
namespace Go.Proofs.YtclpanalnbmejaaDoor.Pure
open Go.RowKit Go.Proofs.YtclpanalnbmejaaDoor.P Go.Proofs.YtclpanalnbmejaaDoorW.PrintWords Go.Proofs.YtclpanalnbmejaaDoorW.PrintLast Go.Proofs.YtclpanalnbmejaaDoorW.PrintMore
set_option linter.unusedVariables false
set_option linter.unusedSimpArgs false
theorem up {α:Type} {g:Nat → Option α} (hm : ∀ k,LeO (g k) (g (k + 1))) {n:Nat} {r:α} (h:g n=some r) : ∀ d,g (n + d)=some r
 | 0=>h
 | d + 1=>hm _ _ (up hm h d)
theorem up_to {α:Type} {g:Nat → Option α} (hm : ∀ k,LeO (g k) (g (k + 1))) {n k:Nat} {r:α} (h:g n=some r) (hk:n ≤ k):g k=some r:=by
 obtain ⟨d,rfl⟩ : ∃ d,k=n + d:=⟨k - n,by omega⟩
 exact up hm h d
theorem alive9_at:tollbarlaw09_alive.f 100=some true:=by kernel_rfl
theorem alive9_f (k:Nat) (hk:100 ≤ k):tollbarlaw09_alive.f k=some true:=up_to (fun k=>tollbarlaw09_alive.mono k) alive9_at hk
theorem str_append (xs ys:List Int):strOfNums (xs ++ ys)=strOfNums xs ++ strOfNums ys:=by
 apply ByteArray.ext
 simp [strOfNums]
theorem str_size (xs:List Int):(strOfNums xs).size=xs.length:=strOfNums_size xs
theorem toList_data (s:ByteArray):s.toList=s.data.toList:=by
 simp [ByteArray.toList_eq]
def mkS (l:List UInt8):ByteArray:=⟨l.toArray⟩
theorem mkS_data (l:List UInt8):(mkS l).data.toList=l:=by simp [mkS]
theorem mkS_self (s:ByteArray):mkS s.data.toList=s:=by simp [mkS]
theorem mkS_size (l:List UInt8):(mkS l).size=l.length:=by rw [← data_length,mkS_data]
theorem mkS_toList (l:List UInt8):(mkS l).toList=l:=by rw [toList_data,mkS_data]
theorem bt_mk (l:List UInt8) (i:Nat) (h:i < l.length):bt (mkS l) i=((l[i]).toNat:Int):=by
 unfold bt
 have hs:(mkS l).size=l.length:=mkS_size l
 rw [dif_pos (by rw [Int.toNat_natCast];omega)]
 have:(mkS l)[((i:Nat):Int).toNat]'(by rw [Int.toNat_natCast];omega)=l[i]:=by simp [mkS,ByteArray.getElem_eq_getElem_data]
 rw [this]
theorem mkS_extract (l:List UInt8) (a b:Nat):(mkS l).extract a b=mkS ((l.drop a).take (b - a)):=by
 rw [← mkS_self ((mkS l).extract a b),Lib.extract_data,mkS_data]
theorem mkS_bytes (l:List UInt8):bytesOf (mkS l)=l.map fun b=>(b.toNat:Int):=by unfold bytesOf;rw [mkS_data]
theorem mkS_append (a b:List UInt8):mkS a ++ mkS b=mkS (a ++ b):=by
 apply ByteArray.ext
 simp [mkS]
theorem refDigit_f (c:Int):tollbarref02_Digit.f c=some (decide (48 ≤ c∧c ≤ 57)):=by
 unfold tollbarref02_Digit.f
 by_cases h:c ≥ 48
 ·rw [if_pos h];congr 1;rw [Bool.eq_iff_iff,decide_eq_true_eq,decide_eq_true_eq];omega
 ·rw [if_neg h,decide_eq_false (by omega)]
def foldU (b:UInt8):UInt8:=UInt8.ofNat (foldC (b.toNat:Int)).toNat
theorem byteAll {P:UInt8 → Prop} (h : ∀ n:Fin 256,P (UInt8.ofNat n.val)) (b:UInt8):P b:=by
 have:=h ⟨b.toNat,b.toNat_lt⟩
 rwa [show UInt8.ofNat (⟨b.toNat,b.toNat_lt⟩:Fin 256).val=b from UInt8.ofNat_toNat] at this
def digU (b:UInt8):Bool:=([48,49,50,51,52,53,54,55,56,57]:List UInt8).contains b
theorem foldU_dig (b:UInt8):digU (foldU b)=digU b:=byteAll (P:=fun b=>digU (foldU b)=digU b) (by decide +kernel) b
theorem dig_host (b:UInt8):digU b=decide (48 ≤ (b.toNat:Int)∧(b.toNat:Int) ≤ 57):=byteAll (P:=fun b=>digU b=decide (48 ≤ (b.toNat:Int)∧(b.toNat:Int) ≤ 57)) (by decide +kernel) b
theorem dw_head (p:UInt8 → Bool) (l:List UInt8) : ∀ a,(l.dropWhile p).head? = some a → p a=false:=by
 induction l with
 | nil=>intro a h;simp at h
 | cons b l ih =>
  intro a h
  cases hb:p b
  ·simp [List.dropWhile,hb] at h;rw [← h];exact hb
  ·simp only [List.dropWhile,hb] at h;exact ih a h
theorem dw_append {p:UInt8 → Bool} (pre t:List UInt8) (h : ∀ a ∈ pre,p a=true):(pre ++ t).dropWhile p=t.dropWhile p:=by
 induction pre with
 | nil=>rfl
 | cons b l ih =>
  simp only [List.cons_append,List.dropWhile,h b (List.mem_cons_self ..)]
  exact ih (fun a ha=>h a (List.mem_cons_of_mem _ ha))
theorem dw_split (p:UInt8 → Bool) (l:List UInt8) : ∃ pre,l=pre ++ l.dropWhile p ∧ ∀ a ∈ pre,p a=true:=by
 induction l with
 | nil=>exact ⟨[],rfl,by simp⟩
 | cons b l ih =>
  obtain ⟨pre,h,hp⟩:=ih
  cases hb:p b
  ·exact ⟨[],by simp [List.dropWhile,hb],by simp⟩
  ·refine ⟨b :: pre,by simp only [List.dropWhile,hb,List.cons_append];rw [← h],?_⟩
   intro a ha
   rcases List.mem_cons.1 ha with rfl|ha
   ·exact hb
   ·exact hp a ha
theorem foldU_colon (b:UInt8):foldU b=58 ↔ b=58:=byteAll (P:=fun b=>foldU b=58 ↔ b=58) (by decide +kernel) b
theorem fold_mk (l:List UInt8):strOfNums ((bytesOf (mkS l)).map foldC)=mkS (l.map foldU):=by
 rw [mkS_bytes]
 unfold strOfNums mkS
 rw [List.map_map,List.map_map]
 rfl
theorem data_get (l:List UInt8) (j:Nat) (h:j < l.length):(((mkS l).data[j]!).toNat:Int)=(l[j].toNat:Int):=by
 have hs:j < (mkS l).data.size:=by show j < (mkS l).size;rw [mkS_size];exact h
 rw [getElem!_pos (mkS l).data j hs]
 simp [mkS]
theorem trimS_nil (l:List UInt8):Lib.trimS l [48,49,50,51,52,53,54,55,56,57]=[] ↔ ∀ x ∈ l,digU x=true:=by
 show (l.reverse.dropWhile digU).reverse.dropWhile digU=[] ↔ _
 constructor
 ·intro h
  obtain ⟨pre,h1,h2⟩:=dw_split digU (l.reverse.dropWhile digU).reverse
  rw [h,List.append_nil] at h1
  have h3:l.reverse.dropWhile digU=[]:=by
   cases hd:l.reverse.dropWhile digU with
   | nil=>rfl
   | cons a t =>
    have h4:=dw_head digU l.reverse a (by rw [hd];rfl)
    have h5:=h2 a (by rw [← h1,hd];simp)
    rw [h4] at h5
    cases h5
  obtain ⟨pre,h4,h5⟩:=dw_split digU l.reverse
  rw [h3,List.append_nil] at h4
  exact fun x hx=>h5 x (by rw [← h4];exact List.mem_reverse.2 hx)
 ·intro h
  have h1:l.reverse.dropWhile digU=[]:=by
   have:=dw_append (p:=digU) l.reverse [] (fun a ha=>h a (List.mem_reverse.1 ha))
   rwa [List.append_nil] at this
  rw [h1]
  rfl
/-- A port at the place n. -/
def PortAt (l:List UInt8) (n:Nat):Prop := ∃ h:n < l.length,l[n]=58 ∧ ∀ x ∈ l.drop (n + 1),digU x=true
theorem last_at (l:List UInt8) (n:Nat) (h:n < l.length) (hc:l[n]=58) (hn:58 ∉ l.drop (n + 1)):Lib.lastIndexByte (mkS l) 58=n:=by
 have hd:=fun j (hj:j < l.length)=>data_get l j hj
 have no : ∀ j (hj:j < l.length),n < j → l[j] ≠ 58:=by
  intro j hj hnj e
  apply hn
  rw [List.mem_iff_getElem]
  exact ⟨j - (n + 1),by rw [List.length_drop];omega,by rw [List.getElem_drop,← e];congr 1;omega⟩
 rcases Lib.lastIndexByte_spec (mkS l) 58 with ⟨_,h2⟩|⟨i,hi,h1,h2,h3⟩
 ·exfalso
  have:=h2 n (by rw [mkS_size];exact h)
  rw [hd n h,hc] at this
  exact this rfl
 ·rw [mkS_size] at hi h3
  rw [hd i hi] at h2
  have hi58:l[i]=58:=UInt8.toNat_inj.1 (by show _=58;omega)
  rcases Nat.lt_trichotomy i n with c|c|c
  ·have:=h3 n c h
   rw [hd n h,hc] at this
   exact absurd rfl this
  ·rw [h1,c]
  ·exact absurd hi58 (no i hi c)
theorem cut_port (l:List UInt8) (n:Nat) (h:PortAt l n):hostCut (mkS l)=mkS (l.take n):=by
 obtain ⟨hn,hc,hd⟩:=h
 have hl:=last_at l n hn hc (fun h=>by have:=hd 58 h;revert this;decide)
 have e1:((n:Int) + 1).toNat=n + 1:=by omega
 have e2:((mkS l).extract (n + 1) (mkS l).size).data.toList=l.drop (n + 1):=by
  rw [mkS_size,mkS_extract,mkS_data,List.take_of_length_le (by rw [List.length_drop];omega)]
 have hp:hostPort (mkS l)=true:=by
  unfold hostPort
  rw [hl,decide_eq_true (by omega),e1,e2,(trimS_nil _).2 hd]
  rfl
 unfold hostCut
 rw [if_pos hp,hl,Int.toNat_natCast,mkS_extract]
 rfl
theorem cut_none (l:List UInt8) (h : ∀ n,¬ PortAt l n):hostCut (mkS l)=mkS l:=by
 unfold hostCut
 rw [if_neg]
 intro hp
 unfold hostPort at hp
 simp only [Bool.and_eq_true,decide_eq_true_eq,List.isEmpty_iff] at hp
 obtain ⟨h0,h1⟩:=hp
 rcases Lib.lastIndexByte_spec (mkS l) 58 with ⟨e,_⟩|⟨i,hi,e,h2,_⟩
 ·omega
 ·rw [mkS_size] at hi
  rw [data_get l i hi] at h2
  have e1:((i:Int) + 1).toNat=i + 1:=by omega
  rw [e,e1,mkS_size,mkS_extract,mkS_data,List.take_of_length_le (by rw [List.length_drop];omega),trimS_nil] at h1
  exact h i ⟨hi,UInt8.toNat_inj.1 (by show _=58;omega),h1⟩
theorem port_fold (l:List UInt8) (n:Nat):PortAt (l.map foldU) n ↔ PortAt l n:=by
 unfold PortAt
 constructor
 ·rintro ⟨h,h1,h2⟩
  rw [List.length_map] at h
  refine ⟨h,?_,fun x hx=>?_⟩
  ·rw [List.getElem_map] at h1
   exact (foldU_colon _).1 h1
  ·rw [← foldU_dig]
   exact h2 _ (by rw [← List.map_drop];exact List.mem_map_of_mem hx)
 ·rintro ⟨h,h1,h2⟩
  refine ⟨by rw [List.length_map];exact h,?_,fun x hx=>?_⟩
  ·rw [List.getElem_map,h1];rfl
  ·rw [← List.map_drop] at hx
   obtain ⟨y,hy,rfl⟩:=List.mem_map.1 hx
   rw [foldU_dig]
   exact h2 y hy
/-- The host of a text of which n bytes stand ahead of the port. -/
def hostOf (l:List UInt8) (n:Nat):ByteArray × Bool:=hostEnd (mkS ((l.take n).map foldU))
theorem Host_port (l:List UInt8) (hn:l.length ≤ 140737488355328) (n:Nat) (h:PortAt l n):line_Host.f (mkS l)=some (hostOf l n):=by
 unfold line_Host.f hostOf
 rw [if_pos (by rw [mkS_size];exact hn),fold_mk,cut_port _ n ((port_fold l n).2 h),List.map_take]
theorem Host_none (l:List UInt8) (hn:l.length ≤ 140737488355328) (h : ∀ n,¬ PortAt l n):line_Host.f (mkS l)=some (hostOf l l.length):=by
 unfold line_Host.f hostOf
 rw [if_pos (by rw [mkS_size];exact hn),fold_mk,cut_none _ (fun n hp=>h n ((port_fold l n).1 hp)),List.take_length]
theorem hostEnd_ok (u:List UInt8) (h:(hostEnd (mkS u)).2=true):(hostEnd (mkS u)).1=mkS u∧0 < u.length∧u.length ≤ 64∧(bytesOf (mkS u)).all hostC=true:=by
 unfold hostEnd at h ⊢
 rw [mkS_size] at h ⊢
 by_cases c:u.length=0 ∨ 64 < u.length
 ·rw [if_pos c] at h;cases h
 ·rw [if_neg c] at h ⊢
  by_cases c2:(bytesOf (mkS u)).all hostC=true
  ·rw [if_pos c2];exact ⟨rfl,by omega,by omega,c2⟩
  ·rw [if_neg c2] at h;cases h
theorem refFold_l0 (s:ByteArray) (hn:s.size ≤ 140737488355327) (d:Nat) : ∀ (k:Nat) (out:List Int) (i:Int),0 ≤ i → (s.size:Int) - i=d → d + 1 ≤ k → (out.length:Int)=i →
 tollbarref02_Fold.l0 k s out i=some (strOfNums (out ++ ((bytesOf s).drop i.toNat).map foldC)):=by
 induction d with
 | zero =>
  intro k out i h0 hd hk ho
  obtain ⟨k,rfl⟩ : ∃ m,k=m + 1:=⟨k - 1,by omega⟩
  simp only [tollbarref02_Fold.l0]
  rw [if_neg (by omega),List.drop_of_length_le (by rw [bytesOf_length];omega),List.map_nil,List.append_nil]
 | succ d ih =>
  intro k out i h0 hd hk ho
  obtain ⟨k,rfl⟩ : ∃ m,k=m + 1:=⟨k - 1,by omega⟩
  have hlt:i < (s.size:Int):=by omega
  have hl:i.toNat < (bytesOf s).length:=by rw [bytesOf_length];omega
  have hg:(bytesOf s)[i.toNat]=bt s i:=by rw [← rd_bytesOf];simp [rd,List.getD_eq_getElem?_getD,List.getElem?_eq_getElem hl]
  have hr:=bt_range s i
  have ih' := fun v=>ih k (out ++ [v]) (i + 1) (by omega) (by omega) (by omega) (by rw [List.length_append];simp;omega)
  have e1:(i + 1).toNat=i.toNat + 1:=by omega
  rw [List.drop_eq_getElem_cons hl,hg,List.map_cons]
  simp only [tollbarref02_Fold.l0]
  rw [if_pos hlt,if_pos h0,show wrap64 (i + 1)=i + 1 by unfold wrap64;omega]
  have hf : ∀ v,v=foldC (bt s i) → some (strOfNums (out ++ [v] ++ ((bytesOf s).drop (i.toNat + 1)).map foldC))=some (strOfNums (out ++ foldC (bt s i) :: ((bytesOf s).drop (i.toNat + 1)).map foldC)):=by
   intro v hv
   rw [hv,List.append_assoc]
   rfl
  have ho2:out.length < 140737488355328:=by omega
  by_cases h1:bt s i ≥ 65
  ·rw [if_pos h1]
   by_cases h2:bt s i ≤ 90
   ·rw [if_pos h2,if_pos ho2,ih',e1];exact hf _ (by unfold foldC;rw [if_pos ⟨h1,h2⟩];omega)
   ·rw [if_neg h2,if_pos ho2,ih',e1];exact hf _ (by unfold foldC;rw [if_neg (by omega)])
  ·rw [if_neg h1,if_pos ho2,ih',e1];exact hf _ (by unfold foldC;rw [if_neg (by omega)])
theorem refFold_f (s:ByteArray) (hn:s.size ≤ 140737488355327) (k:Nat) (hk:s.size + 1 ≤ k):tollbarref02_Fold.f k s=sign_Fold.f s:=by
 unfold tollbarref02_Fold.f sign_Fold.f
 rw [refFold_l0 s hn s.size k [] 0 (by omega) (by omega) hk rfl,if_pos (by omega)]
 rfl
theorem Fold_f (s:ByteArray) (hn:s.size ≤ 140737488355328):sign_Fold.f s=some (strOfNums ((bytesOf s).map foldC)):=if_pos hn
theorem ref_l1 (x:List UInt8) (hn:x.length ≤ 140737488355328) (d:Nat) : ∀ (k i:Nat),i + d=x.length → d + 1 ≤ k →
 tollbarref05_Host.l1 k (mkS x) i=some (if ((bytesOf (mkS x)).drop i).all hostC=true then (if x.length=0 ∨ 64 < x.length then ((⟨#[]⟩:ByteArray),false) else (mkS x,true)) else ((⟨#[]⟩:ByteArray),false)):=by
 induction d with
 | zero =>
  intro k i hi hk
  obtain ⟨k,rfl⟩ : ∃ m,k=m + 1:=⟨k - 1,by omega⟩
  rw [List.drop_of_length_le (by rw [bytesOf_length,mkS_size];omega),if_pos (show ([]:List Int).all hostC=true from rfl)]
  simp only [tollbarref05_Host.l1]
  rw [mkS_size,if_neg (by omega)]
  by_cases h0:x.length=0
  ·rw [if_pos (by omega),if_pos (Or.inl h0)]
  ·rw [if_neg (by omega)]
   by_cases h1:64 < x.length
   ·rw [if_pos (by omega),if_pos (Or.inr h1)]
   ·rw [if_neg (by omega),if_neg (by omega)]
 | succ d ih =>
  intro k i hi hk
  obtain ⟨k,rfl⟩ : ∃ m,k=m + 1:=⟨k - 1,by omega⟩
  have hlt:i < x.length:=by omega
  have ih' := ih k (i + 1) (by omega) (by omega)
  have hw:wrap64 ((i:Int) + 1)=((i + 1:Nat):Int):=by unfold wrap64;omega
  have hd:=bytes_drop_all hostC (mkS x) (i:Int) (by omega) (by rw [mkS_size];omega)
  rw [Int.toNat_natCast] at hd
  rw [hd]
  simp only [tollbarref05_Host.l1]
  rw [mkS_size,if_pos (by omega),if_pos (by omega),hw,ih',refDigit_f]
  have hr:=bt_range (mkS x) i
  generalize bt (mkS x) (i:Int)=c at hr ⊢
  have hh:hostC c=decide ((48 ≤ c∧c ≤ 57) ∨ (97 ≤ c∧c ≤ 122) ∨ c=45 ∨ c=46):=rfl
  simp only [Option.bind_some]
  by_cases a1:c ≥ 97
  ·rw [if_pos a1]
   by_cases a2:c ≤ 122
   ·rw [if_pos a2,hh,decide_eq_true (by omega),Bool.true_and]
   ·rw [if_neg a2,decide_eq_false (by omega),if_neg (by simp),if_neg (by omega),if_neg (by omega),hh,decide_eq_false (by omega),Bool.false_and,if_neg (by simp)]
  ·rw [if_neg a1]
   by_cases a2:48 ≤ c∧c ≤ 57
   ·rw [decide_eq_true a2,if_pos rfl,hh,decide_eq_true (by omega),Bool.true_and]
   ·rw [decide_eq_false a2,if_neg (by simp)]
    by_cases a3:c=45
    ·rw [if_pos a3,hh,decide_eq_true (by omega),Bool.true_and]
    ·rw [if_neg a3]
     by_cases a4:c=46
     ·rw [if_pos a4,hh,decide_eq_true (by omega),Bool.true_and]
     ·rw [if_neg a4,hh,decide_eq_false (by omega),Bool.false_and,if_neg (by simp)]
theorem ref_j3 (l:List UInt8) (hn:l.length ≤ 140737488355327) (n:Nat) (h:n ≤ l.length) (k:Nat) (hk:2 * l.length + 10 ≤ k):tollbarref05_Host.j3 k (mkS l) n=some (hostOf l n):=by
 obtain ⟨k,rfl⟩ : ∃ m,k=m + 1:=⟨k - 1,by omega⟩
 simp only [tollbarref05_Host.j3]
 have hl:(l.take n).length ≤ l.length:=by rw [List.length_take];omega
 rw [mkS_size,if_pos (by omega),if_pos (by omega),Int.toNat_natCast,mkS_extract,List.drop_zero,Nat.sub_zero,refFold_f _ (by rw [mkS_size];omega) k (by rw [mkS_size];omega),Fold_f _ (by rw [mkS_size];omega),fold_mk,Option.bind_some]
 have:=ref_l1 ((l.take n).map foldU) (by rw [List.length_map];omega) ((l.take n).map foldU).length k 0 (by omega) (by rw [List.length_map];omega)
 rw [show ((0:Nat):Int)=0 from rfl,List.drop_zero] at this
 rw [this]
 unfold hostOf hostEnd
 rw [mkS_size]
 congr 1
 by_cases c:((l.take n).map foldU).length=0 ∨ 64 < ((l.take n).map foldU).length
 ·rw [if_pos c]
  simp only [if_pos c]
  split <;> rfl
 ·rw [if_neg c]
  simp only [if_neg c]
theorem ref_j1 (l:List UInt8) (hn:l.length ≤ 140737488355327) (i:Nat) (h:i < l.length) (k:Nat) (hk:2 * l.length + 20 ≤ k) :
 tollbarref05_Host.j1 k (mkS l) (l.length:Int) (i:Int)=some (if l[i]=58 then hostOf l i else hostOf l l.length):=by
 obtain ⟨k,rfl⟩ : ∃ m,k=m + 2:=⟨k - 2,by omega⟩
 simp only [tollbarref05_Host.j1]
 rw [mkS_size,if_pos (by omega),if_pos (by omega),if_pos (by omega),bt_mk l i h]
 simp only [tollbarref05_Host.j2]
 by_cases c:l[i]=58
 ·rw [if_pos c,if_pos (by rw [c];rfl),ref_j3 l hn i (by omega) k (by omega)]
 ·rw [if_neg c,if_neg (by rw [beq_iff_eq];exact fun e=>c (UInt8.toNat_inj.1 (by show _=58;omega))),ref_j3 l hn l.length (by omega) k (by omega)]
theorem ref_l0 (l : List UInt8) (hn : l.length ≤ 140737488355327) (d : Nat) : ∀ (k : Nat), d ≤ l.length → 3 * l.length + 20 + d ≤ k → (∀ x ∈ l.drop d, digU x = true) →
    tollbarref05_Host.l0 k (mkS l) (l.length : Int) ((d : Int) - 1) = line_Host.f (mkS l) := by
  induction d with
  | zero =>
    intro k hd hk ha
    obtain ⟨k, rfl⟩ : ∃ m, k = m + 3 := ⟨k - 3, by omega⟩
    rw [List.drop_zero] at ha
    have hno : ∀ n, ¬ PortAt l n := by
      rintro n ⟨h, h1, _⟩
      have := ha _ (List.getElem_mem h)
      rw [h1] at this
      revert this
      decide
    rw [Host_none l (by omega) hno]
    simp only [tollbarref05_Host.l0]
    rw [if_neg (by omega)]
    simp only [tollbarref05_Host.j1]
    rw [if_neg (by omega)]
    simp only [tollbarref05_Host.j2]
    rw [if_neg (by simp), ref_j3 l hn l.length (by omega) k (by omega)]
  | succ d ih =>
    intro k hd hk ha
    obtain ⟨k, rfl⟩ : ∃ m, k = m + 1 := ⟨k - 1, by omega⟩
    have hlt : d < l.length := by omega
    have e : ((d + 1 : Nat) : Int) - 1 = (d : Int) := by omega
    have hw : wrap64 ((d : Int) - 1) = (d : Int) - 1 := by unfold wrap64; omega
    rw [e]
    simp only [tollbarref05_Host.l0]
    rw [mkS_size, if_pos (by omega), if_pos (by omega), if_pos (by omega), bt_mk l d hlt, refDigit_f, ← dig_host, Option.bind_some]
    cases hc : digU l[d]
    · rw [if_neg (by simp), ref_j1 l hn d hlt k (by omega)]
      by_cases c : l[d] = 58
      · rw [if_pos c, Host_port l (by omega) d ⟨hlt, c, ha⟩]
      · rw [if_neg c, Host_none l (by omega)]
        rintro n ⟨h, h1, h2⟩
        rcases Nat.lt_trichotomy n d with q | q | q
        · have := h2 l[d] (by
            rw [List.mem_iff_getElem]
            exact ⟨d - (n + 1), by rw [List.length_drop]; omega, by rw [List.getElem_drop]; congr 1; omega⟩)
          rw [hc] at this
          cases this
        · subst q; exact c h1
        · have := ha l[n] (by
            rw [List.mem_iff_getElem]
            exact ⟨n - (d + 1), by rw [List.length_drop]; omega, by rw [List.getElem_drop]; congr 1; omega⟩)
          rw [h1] at this
          revert this
          decide
    · rw [if_pos rfl, hw]
      refine ih k (by omega) (by omega) ?_
      intro x hx
      rw [List.drop_eq_getElem_cons hlt] at hx
      rcases List.mem_cons.1 hx with rfl | hx
      · exact hc
      · exact ha x hx
theorem refHost_f (l:List UInt8) (hn:l.length ≤ 140737488355327) (k:Nat) (hk:4 * l.length + 20 ≤ k):tollbarref05_Host.f k (mkS l)=line_Host.f (mkS l):=by
 unfold tollbarref05_Host.f
 rw [mkS_size,show wrap64 ((l.length:Int) - 1)=(l.length:Int) - 1 by unfold wrap64;omega]
 exact ref_l0 l hn l.length k (by omega) (by omega) (by simp)
theorem Host_some (l:List UInt8) (hn:l.length ≤ 140737488355328) : ∃ u,line_Host.f (mkS l)=some (hostEnd (mkS u)):=by
 unfold line_Host.f
 rw [if_pos (by rw [mkS_size];exact hn)]
 exact ⟨(hostCut (strOfNums ((bytesOf (mkS l)).map foldC))).data.toList,by rw [mkS_self]⟩
/-- A test of each,and of any. -/
theorem anyO_eq {α:Type} (q:α → Option Bool) (p:α → Bool) : ∀ l:List α,(∀ x ∈ l,q x=some (p x)) → anyO q l=some (l.any p)
 | [],_=>rfl
 | x :: r,h=>by
  simp only [anyO,List.any_cons]
  rw [h x (List.mem_cons_self ..),Option.bind_some]
  cases hp:p x
  ·rw [if_neg (by simp)]
   simp only [Bool.false_or]
   exact anyO_eq q p r (fun y hy=>h y (List.mem_cons_of_mem _ hy))
  ·rw [if_pos rfl]
   rfl
def nameC (c:Int):Bool:=decide (97 ≤ c∧c ≤ 122) || (decide (48 ≤ c∧c ≤ 57) || decide (c=45))
def nameR (s:ByteArray):Nat → Nat → Bool
 | 0,_=>true
 | d + 1,i=>nameC (bt s i) && nameR s d (i + 1)
/-- Is a text a name? -/
def tblName (s:ByteArray):Bool:=decide (1 ≤ s.size∧s.size ≤ 30) && (decide (97 ≤ bt s 0∧bt s 0 ≤ 122) && nameR s s.size 0)
theorem name_step (k:Nat) (s:ByteArray) (i:Nat) (hi:i < s.size) (hs:s.size ≤ 140737488355328):table_Name.l0 (k + 1) s (s.size:Int) (i:Int)=if nameC (bt s i)=true then table_Name.l0 k s (s.size:Int) ((i + 1:Nat):Int) else some false:=by
 rw [table_Name.l0,if_pos (by omega),if_pos (by omega),if_pos (by omega)]
 have hw:wrap64 ((i:Int) + 1)=((i + 1:Nat):Int):=by unfold wrap64;omega
 rw [hw]
 obtain ⟨c,hc⟩ : ∃ c,bt s i=c:=⟨_,rfl⟩
 rw [hc]
 unfold nameC
 simp only [Bool.or_eq_true,decide_eq_true_eq]
 repeat' split
 all_goals first|rfl|(exfalso;omega)
theorem name_l0 (s:ByteArray) (hs:s.size ≤ 140737488355328) : ∀ (d k i:Nat),i + d=s.size → d < k → table_Name.l0 k s (s.size:Int) (i:Int)=some (nameR s d i)
 | d,0,_,_,h=>by omega
 | 0,k + 1,i,h,_=>by
  rw [table_Name.l0,if_neg (by omega)]
  rfl
 | d + 1,k + 1,i,h,hk=>by
  rw [name_step k s i (by omega) hs,name_l0 s hs d k (i + 1) (by omega) (by omega),nameR]
  cases nameC (bt s i) <;> rfl
theorem name_f (s:ByteArray) (hs:s.size ≤ 140737488355328) (k:Nat) (hk:40 ≤ k):table_Name.f k s=some (tblName s):=by
 obtain ⟨m,rfl⟩ : ∃ m,k=m + 1:=⟨k - 1,by omega⟩
 unfold table_Name.f tblName
 by_cases h0:s.toList=[]
 ·rw [if_pos h0]
  have hz:s.size=0:=by rw [← data_length,← toList_data,h0];rfl
  rw [table_Name.j0,if_pos rfl,hz]
  rfl
 ·rw [if_neg h0]
  have hz:1 ≤ s.size:=by
   rcases Nat.eq_zero_or_pos s.size with h|h
   ·exfalso
    apply h0
    rw [toList_data]
    exact List.length_eq_zero_iff.1 (by rw [data_length];exact h)
   ·exact h
  by_cases h1:(s.size:Int) > 30
  ·rw [if_pos h1,table_Name.j0,if_pos rfl,decide_eq_false (by omega)]
   rfl
  ·rw [if_neg h1,if_pos (by omega),decide_eq_true (show 1 ≤ s.size∧s.size ≤ 30 by omega),Bool.true_and]
   by_cases h2:bt s 0 < 97
   ·rw [if_pos h2,table_Name.j0,if_pos rfl,decide_eq_false (by omega)]
    rfl
   ·rw [if_neg h2,table_Name.j0]
    by_cases h3:bt s 0 > 122
    ·rw [decide_eq_true h3,if_pos rfl,decide_eq_false (by omega)]
     rfl
    ·rw [decide_eq_false h3,if_neg (by simp),decide_eq_true (show 97 ≤ bt s 0∧bt s 0 ≤ 122 by omega),Bool.true_and]
     exact name_l0 s hs s.size m 0 (by omega) (by omega)
/-- Is a text a host as it is told? -/
def hostB (h:ByteArray):Bool:=match line_Host.f h with
 | some p=>p.2 && (p.1.toList == h.toList)
 | none=>false
theorem right2_f (h:ByteArray) (hs:h.size ≤ 140737488355328):table_right_2.f h=some (!hostB h):=by
 obtain ⟨u,hu⟩:=Host_some h.data.toList (by rw [data_length];exact hs)
 rw [mkS_self] at hu
 unfold table_right_2.f hostB
 rw [hu,Option.bind_some]
 dsimp only
 cases (hostEnd (mkS u)).2
 ·rfl
 ·rw [if_pos rfl]
  rfl
def numB (a lo hi:Int):Bool:=decide (lo ≤ a∧a ≤ hi)
theorem right1_f (a lo hi:Int):table_right_1.f a lo hi=some (!numB a lo hi):=by
 unfold table_right_1.f numB
 by_cases h:a < lo
 ·rw [if_pos h,decide_eq_false (by omega)]
  rfl
 ·rw [if_neg h]
  by_cases h2:a > hi
  ·rw [decide_eq_true h2,decide_eq_false (by omega)]
   rfl
  ·rw [decide_eq_false h2,decide_eq_true (by omega)]
   rfl
def numsB (x:S26):Bool:=numB x.f2 256 1048576 && (numB x.f3 1 64 && (numB x.f4 1 64 && (numB x.f5 1 1048576 && (numB x.f6 1 1048576 && numB x.f7 1 1048576))))
/-- Is a slot right? -/
def slotB (x:S26):Bool:=tblName x.f0 && (numsB x && (x.f1.all hostB && decide (1 ≤ x.f1.length∧x.f1.length ≤ 8)))
theorem right_f (x:S26) (h0:x.f0.size ≤ 140737488355328) (h1 : ∀ h ∈ x.f1,h.size ≤ 140737488355328) (k:Nat) (hk:40 ≤ k):table_right.f k x.f0 x.f1 x.f2 x.f3 x.f4 x.f5 x.f6 x.f7=some (slotB x):=by
 unfold table_right.f table_bounds.f
 rw [Option.bind_some,anyO_eq _ (fun (b:S53) => !numB b.f0 b.f1 b.f2) _ (fun b _=>right1_f _ _ _),Option.bind_some,anyO_eq _ (fun h => !hostB h) _ (fun h hh=>right2_f h (h1 h hh)),Option.bind_some,name_f _ h0 k hk,Option.bind_some]
 have e1:([(⟨x.f2,256,1048576⟩:S53),⟨x.f3,1,64⟩,⟨x.f4,1,64⟩,⟨x.f5,1,1048576⟩,⟨x.f6,1,1048576⟩,⟨x.f7,1,1048576⟩].any fun b => !numB b.f0 b.f1 b.f2) = !numsB x:=by
  unfold numsB
  simp only [List.any_cons,List.any_nil,Bool.or_false,Bool.not_and]
 have e2:(x.f1.any fun h => !hostB h) = !(x.f1.all hostB):=by
  rw [List.all_eq_not_any_not,Bool.not_not]
 rw [e1,e2]
 unfold slotB
 cases tblName x.f0
 ·rfl
 ·cases numsB x
  ·rfl
  ·cases x.f1.all hostB
   ·rfl
   ·simp only [Bool.not_true,Bool.true_and,if_true,Bool.false_eq_true,if_false]
    by_cases hl:1 ≤ x.f1.length
    ·rw [if_pos hl]
     congr 1
     rw [decide_eq_decide]
     omega
    ·rw [if_neg hl,decide_eq_false (by omega)]
theorem unlike_app : ∀ (a b S:List ByteArray),unlikeB S (a ++ b)=(unlikeB S a && unlikeB (S ++ a) b)
 | [],b,S=>by simp [unlikeB]
 | x :: r,b,S=>by
  rw [List.cons_append,unlikeB,unlikeB,unlike_app r b (S ++ [x])]
  cases hasB S x
  ·rw [if_neg (by simp),if_neg (by simp),List.append_assoc,List.singleton_append]
  ·rw [if_pos rfl,if_pos rfl]
   rfl
/-- Is a table right? -/
def rightT (t:List (S26)):Bool:=decide (1 ≤ t.length∧t.length ≤ 16) && (t.all slotB && (unlikeB [] (t.map (·.f0)) && unlikeB [] (t.flatMap (·.f1))))
def FitT (t:List (S26)):Prop := ∀ x ∈ t,x.f0.size ≤ 140737488355328 ∧ ∀ h ∈ x.f1,h.size ≤ 140737488355328
theorem slot_hosts {x:S26} (h:slotB x=true):x.f1.length ≤ 8∧1 ≤ x.f1.length:=by
 unfold slotB at h
 simp only [Bool.and_eq_true,decide_eq_true_iff] at h
 exact ⟨h.2.2.2.2,h.2.2.2.1⟩
theorem rd_slot (t:List (S26)) (i:Nat) (h:i < t.length):rd_T26 t (i:Int)=t[i]:=by
 unfold rd_T26
 rw [Int.toNat_natCast,List.getD_eq_getElem?_getD,List.getElem?_eq_getElem h]
 rfl
theorem Right_l0 (t:List (S26)) (hf:FitT t) (hl:t.length ≤ 16) : ∀ (d k i:Nat) (ns hs:List ByteArray),i + d=t.length → d + 42 ≤ k → ns.length ≤ i → hs.length ≤ 8 * i → (∀ s ∈ ns,s.size ≤ 140737488355328) → (∀ s ∈ hs,s.size ≤ 140737488355328) →
 table_Right.l0 k ns hs t (t.length:Int) (i:Int)=some ((t.drop i).all slotB && (unlikeB [] (ns ++ (t.drop i).map (·.f0)) && unlikeB [] (hs ++ (t.drop i).flatMap (·.f1))))
 | d,0,_,_,_,_,h,_,_,_,_=>by omega
 | 0,k + 1,i,ns,hs,h,hk,h1,h2,h3,h4=>by
  have hu : ∀ l:List ByteArray,l.length ≤ 1000 → (∀ s ∈ l,s.size ≤ 140737488355328) → table_unlike_string.f l=some (unlikeB [] l):=fun l hl hs=>by unfold table_unlike_string.f;rw [if_pos ⟨by omega,hs⟩]
  rw [table_Right.l0,if_neg (by omega),hu ns (by omega) h3,Option.bind_some,hu hs (by omega) h4,Option.bind_some,List.drop_of_length_le (by omega)]
  simp only [List.all_nil,List.map_nil,List.flatMap_nil,List.append_nil,Bool.true_and]
  cases unlikeB [] ns <;> rfl
 | d + 1,k + 1,i,ns,hs,h,hk,h1,h2,h3,h4=>by
  have hi:i < t.length:=by omega
  have hm:t[i] ∈ t:=List.getElem_mem hi
  have hw:wrap64 ((i:Int) + 1)=((i + 1:Nat):Int):=by unfold wrap64;omega
  rw [table_Right.l0,if_pos (by omega),if_pos (by omega),if_pos (by omega),rd_slot t i hi,right_f t[i] (hf _ hm).1 (hf _ hm).2 k (by omega),Option.bind_some,List.drop_eq_getElem_cons hi,List.all_cons,List.map_cons,List.flatMap_cons]
  cases hb:slotB t[i]
  ·rfl
  ·have hh:=slot_hosts hb
   rw [if_pos rfl,if_pos (by omega),if_pos (by omega),hw,Right_l0 t hf hl d k (i + 1) _ _ (by omega) (by omega) (by simp only [List.length_append,List.length_cons,List.length_nil];omega) (by rw [List.length_append];omega) (fun s hs_=>by
    rcases List.mem_append.1 hs_ with h5|h5
    ·exact h3 s h5
    ·rw [List.mem_singleton.1 h5];exact (hf _ hm).1) (fun s hs_=>by
    rcases List.mem_append.1 hs_ with h5|h5
    ·exact h4 s h5
    ·exact (hf _ hm).2 s h5),Bool.true_and,List.append_assoc,List.append_assoc,List.singleton_append]
theorem Right_f (t:List (S26)) (hf:FitT t) (k:Nat) (hk:60 ≤ k):table_Right.f k t=some (rightT t):=by
 obtain ⟨m,rfl⟩ : ∃ m,k=m + 1:=⟨k - 1,by omega⟩
 unfold table_Right.f rightT
 by_cases h1:(t.length:Int) < 1
 ·rw [if_pos h1,table_Right.j0,if_pos rfl,decide_eq_false (by omega)]
  rfl
 ·rw [if_neg h1,table_Right.j0]
  by_cases h2:(t.length:Int) > 16
  ·rw [decide_eq_true h2,if_pos rfl,decide_eq_false (by omega)]
   rfl
  ·rw [decide_eq_false h2,if_neg (by simp),decide_eq_true (show 1 ≤ t.length∧t.length ≤ 16 by omega),Bool.true_and]
   exact Right_l0 t hf (by omega) t.length m 0 [] [] (by omega) (by omega) (by simp) (by simp) (by simp) (by simp)
theorem refName_step (k:Nat) (s:ByteArray) (i:Nat) (h1:1 ≤ i) (hi:i < s.size) (hs:s.size ≤ 140737488355328):tollbarref09_Name.l0 (k + 1) s (i:Int)=if nameC (bt s i)=true then tollbarref09_Name.l0 k s ((i + 1:Nat):Int) else some false:=by
 have hw:wrap64 ((i:Int) + 1)=((i + 1:Nat):Int):=by unfold wrap64;omega
 rw [tollbarref09_Name.l0,if_pos (by omega),if_pos (by omega),refDigit_f,hw,Option.bind_some]
 obtain ⟨c,hc⟩ : ∃ c,bt s i=c:=⟨_,rfl⟩
 rw [hc]
 unfold nameC
 simp only [Bool.or_eq_true,decide_eq_true_eq]
 repeat' split
 all_goals first|rfl|(exfalso;omega)
theorem refName_end (k:Nat) (s:ByteArray) (i:Nat) (h:i=s.size):tollbarref09_Name.l0 (k + 1) s (i:Int)=some (decide (1 ≤ s.size∧s.size ≤ 30)):=by
 rw [tollbarref09_Name.l0,if_neg (by omega)]
 by_cases h1:(s.size:Int) ≥ 1
 ·rw [if_pos h1]
  congr 1
  rw [decide_eq_decide]
  omega
 ·rw [if_neg h1,decide_eq_false (by omega)]
theorem refName_l0 (s:ByteArray) (hs:s.size ≤ 140737488355328) : ∀ (d k i:Nat),i + d=s.size → d < k → 1 ≤ i → tollbarref09_Name.l0 k s (i:Int)=some (nameR s d i && decide (1 ≤ s.size∧s.size ≤ 30))
 | d,0,_,_,h,_=>by omega
 | 0,k + 1,i,h,_,_=>by rw [refName_end k s i (by omega),nameR,Bool.true_and]
 | d + 1,k + 1,i,h,hk,h1=>by
  rw [refName_step k s i h1 (by omega) hs,refName_l0 s hs d k (i + 1) (by omega) (by omega) (by omega),nameR]
  cases nameC (bt s i) <;> rfl
theorem refName_f (s:ByteArray) (hs:s.size ≤ 140737488355328) (k:Nat) (hk:s.size + 2 ≤ k):tollbarref09_Name.f k s=some (tblName s):=by
 obtain ⟨m,rfl⟩ : ∃ m,k=m + 1:=⟨k - 1,by omega⟩
 unfold tollbarref09_Name.f tblName
 by_cases h0:s.size=0
 ·rw [show (0:Int)=((0:Nat):Int) from rfl,refName_end m s 0 h0.symm,decide_eq_false (by omega)]
  rfl
 ·obtain ⟨d,hd⟩ : ∃ d,s.size=d + 1:=⟨s.size - 1,by omega⟩
  rw [tollbarref09_Name.l0,if_pos (by omega),if_pos (by omega)]
  have hw:wrap64 ((0:Int) + 1)=((0 + 1:Nat):Int):=by unfold wrap64;omega
  rw [hw,refName_l0 s hs d m (0 + 1) (by omega) (by omega) (by omega),hd,nameR,← hd]
  obtain ⟨c,hc⟩ : ∃ c,bt s 0=c:=⟨_,rfl⟩
  have hc' : bt s ((0:Nat):Int)=c:=hc
  rw [hc,hc']
  by_cases h1:c ≥ 97
  ·rw [if_pos h1]
   by_cases h2:c ≤ 122
   ·rw [if_pos h2,decide_eq_true (show 97 ≤ c∧c ≤ 122 from ⟨h1,h2⟩)]
    have:nameC c=true:=by unfold nameC;rw [decide_eq_true (show 97 ≤ c∧c ≤ 122 from ⟨h1,h2⟩)];rfl
    rw [this,Bool.true_and,Bool.true_and,Bool.and_comm]
   ·rw [if_neg h2,decide_eq_false (show ¬ (97 ≤ c∧c ≤ 122) from fun h=>h2 h.2),Bool.false_and,Bool.and_false,if_pos rfl]
  ·rw [if_neg h1,decide_eq_false (show ¬ (97 ≤ c∧c ≤ 122) from fun h=>h1 h.1),Bool.false_and,Bool.and_false,if_pos rfl]
theorem refHostB (h:ByteArray) (hs:h.size ≤ 140737488355327) (k:Nat) (hk:4 * h.size + 20 ≤ k) (R:Option Bool):((tollbarref05_Host.f k h).bind fun bt=>if bt.2=true then (if bt.1.toList=h.toList then R else some false) else some false)=if hostB h=true then R else some false:=by
 have e:=refHost_f h.data.toList (by rw [data_length];exact hs) k (by rw [data_length];exact hk)
 obtain ⟨u,hu⟩:=Host_some h.data.toList (by rw [data_length];omega)
 rw [mkS_self] at hu e
 have hB:hostB h=((hostEnd (mkS u)).2 && ((hostEnd (mkS u)).1.toList == h.toList)):=by
  unfold hostB
  rw [hu]
 rw [e,hu,Option.bind_some,hB]
 by_cases hb:(hostEnd (mkS u)).2=true
 rotate_left
 ·rw [if_neg hb,Bool.eq_false_iff.2 hb,Bool.false_and,if_neg (by simp)]
 ·rw [if_pos hb,hb,Bool.true_and]
  by_cases he:(hostEnd (mkS u)).1.toList=h.toList
  ·rw [if_pos he,if_pos (beq_iff_eq.2 he)]
  ·rw [if_neg he,if_neg (fun h2=>he (beq_iff_eq.1 h2))]
def AskT:Nat:=1000000000000000
theorem one_l1 (x:S26) (hh : ∀ h ∈ x.f1,h.size ≤ 140737488351232) (h8:x.f1.length ≤ 8) : ∀ (d k i:Nat),i + d=x.f1.length → 600000000000000 + d < k → tollbarref09_One.l1 k (i:Int) x.f0 x.f1 x.f2 x.f3 x.f4 x.f5 x.f6 x.f7=some ((x.f1.drop i).all hostB)
 | d,0,_,_,h=>by omega
 | 0,k + 1,i,h,_=>by
  rw [tollbarref09_One.l1,if_neg (by omega),List.drop_of_length_le (by omega)]
  rfl
 | d + 1,k + 1,i,h,hk=>by
  have hi:i < x.f1.length:=by omega
  have hw:wrap64 ((i:Int) + 1)=((i + 1:Nat):Int):=by unfold wrap64;omega
  have hr:rdOf ByteArray.empty x.f1 (i:Int)=x.f1[i]:=by simp [rdOf,List.getD_eq_getElem?_getD,List.getElem?_eq_getElem hi]
  have hz:=hh _ (List.getElem_mem hi)
  rw [tollbarref09_One.l1,if_pos (by omega),if_pos (by omega),hr,hw,refHostB x.f1[i] (by omega) k (by omega),one_l1 x hh h8 d k (i + 1) (by omega) (by omega),List.drop_eq_getElem_cons hi,List.all_cons]
  cases hostB x.f1[i] <;> rfl
theorem one_step (k:Nat) (ms ns:List Int) (i:Nat) (hi:i < 6) (hm:ms.length=6) (hn:ns.length=6) (x:S26):tollbarref09_One.l0 (k + 1) ms ns (i:Int) x.f0 x.f1 x.f2 x.f3 x.f4 x.f5 x.f6 x.f7=if numB (rd ns i) 1 (rd ms i)=true then tollbarref09_One.l0 k ms ns ((i + 1:Nat):Int) x.f0 x.f1 x.f2 x.f3 x.f4 x.f5 x.f6 x.f7 else some false:=by
 have hw:wrap64 ((i:Int) + 1)=((i + 1:Nat):Int):=by unfold wrap64;omega
 rw [tollbarref09_One.l0,if_pos (by omega),if_pos (by omega),if_pos (by omega)]
 unfold numB
 by_cases a:rd ns (i:Int) < 1
 ·rw [if_pos a,decide_eq_false (by omega),if_neg (by simp)]
 ·rw [if_neg a,if_pos (by omega),hw]
  by_cases b:rd ns (i:Int) > rd ms (i:Int)
  ·rw [if_pos b,decide_eq_false (by omega),if_neg (by simp)]
  ·rw [if_neg b,decide_eq_true (by omega),if_pos rfl]
theorem one_f (x:S26) (h0:x.f0.size ≤ 140737488351232) (hh : ∀ h ∈ x.f1,h.size ≤ 140737488351232) (k:Nat) (hk:AskT ≤ k):tollbarref09_One.f k x.f0 x.f1 x.f2 x.f3 x.f4 x.f5 x.f6 x.f7=some (slotB x):=by
 unfold AskT at hk
 obtain ⟨m,rfl⟩ : ∃ m,k=m + 8:=⟨k - 8,by omega⟩
 unfold tollbarref09_One.f tollbarref09_numbers.f
 rw [Option.bind_some,show (0:Int)=((0:Nat):Int) from rfl,one_step (m + 7) _ _ 0 (by omega) rfl rfl,one_step (m + 6) _ _ (0 + 1) (by omega) rfl rfl,one_step (m + 5) _ _ (0 + 1 + 1) (by omega) rfl rfl,one_step (m + 4) _ _ (0 + 1 + 1 + 1) (by omega) rfl rfl,one_step (m + 3) _ _ (0 + 1 + 1 + 1 + 1) (by omega) rfl rfl,one_step (m + 2) _ _ (0 + 1 + 1 + 1 + 1 + 1) (by omega) rfl rfl]
 have e:tollbarref09_One.l0 (m + 2) [1048576,64,64,1048576,1048576,1048576] [x.f2,x.f3,x.f4,x.f5,x.f6,x.f7] ((0 + 1 + 1 + 1 + 1 + 1 + 1:Nat):Int) x.f0 x.f1 x.f2 x.f3 x.f4 x.f5 x.f6 x.f7=some (decide (256 ≤ x.f2) && (tblName x.f0 && (x.f1.all hostB && decide (1 ≤ x.f1.length∧x.f1.length ≤ 8)))):=by
  rw [tollbarref09_One.l0,if_neg (by decide)]
  by_cases a:x.f2 < 256
  ·rw [if_pos a,tollbarref09_One.j1,if_pos rfl,decide_eq_false (by omega)]
   rfl
  ·rw [if_neg a,decide_eq_true (show 256 ≤ x.f2 by omega),refName_f x.f0 (by omega) (m + 1) (by omega),Option.bind_some,Bool.true_and]
   cases tblName x.f0
   ·rw [if_neg (by simp),tollbarref09_One.j1,if_pos rfl]
    rfl
   ·rw [if_pos rfl,Bool.true_and]
    by_cases b:(x.f1.length:Int) < 1
    ·rw [if_pos b,tollbarref09_One.j1,if_pos rfl,decide_eq_false (by omega),Bool.and_false]
    ·rw [if_neg b,tollbarref09_One.j1]
     by_cases c:(x.f1.length:Int) > 8
     ·rw [decide_eq_true c,if_pos rfl,decide_eq_false (by omega),Bool.and_false]
     ·rw [decide_eq_false c,if_neg (by simp),decide_eq_true (show 1 ≤ x.f1.length∧x.f1.length ≤ 8 by omega),Bool.and_true]
      exact one_l1 x hh (by omega) x.f1.length m 0 (by omega) (by omega)
 rw [e]
 show (if numB x.f2 1 1048576=true then if numB x.f3 1 64=true then if numB x.f4 1 64=true then if numB x.f5 1 1048576=true then if numB x.f6 1 1048576=true then if numB x.f7 1 1048576=true then _ else some false else some false else some false else some false else some false else some false)=_
 unfold slotB numsB
 have e2:numB x.f2 256 1048576=(numB x.f2 1 1048576 && decide (256 ≤ x.f2)):=by
  unfold numB
  rw [← Bool.decide_and,decide_eq_decide]
  omega
 rw [e2]
 cases numB x.f2 1 1048576 <;> cases numB x.f3 1 64 <;> cases numB x.f4 1 64 <;> cases numB x.f5 1 1048576 <;> cases numB x.f6 1 1048576 <;> cases numB x.f7 1 1048576 <;> cases tblName x.f0 <;> cases decide (256 ≤ x.f2) <;> rfl
/-- The reference's check of what is left,the names and hosts that were met in hand. -/
def chkT:List ByteArray → List ByteArray → List (S26) → Bool
 | _,_,[]=>true
 | N,H,x :: r=>slotB x && (!hasB N x.f0 && (unlikeB H x.f1 && chkT (N ++ [x.f0]) (H ++ x.f1) r))
theorem chk_eq : ∀ (t:List (S26)) (N H:List ByteArray),chkT N H t=(t.all slotB && (unlikeB N (t.map (·.f0)) && unlikeB H (t.flatMap (·.f1))))
 | [],N,H=>rfl
 | x :: r,N,H=>by
  rw [chkT,chk_eq r,List.all_cons,List.map_cons,List.flatMap_cons,unlike_app,unlikeB]
  cases slotB x <;> cases hasB N x.f0 <;> cases unlikeB H x.f1 <;> simp
theorem hasB_cons (y:ByteArray) (S:List ByteArray) (s:ByteArray):hasB (y :: S) s=(y.toList == s.toList || hasB S s):=rfl
theorem rdOf_at (l:List ByteArray) (i:Nat) (h:i < l.length):rdOf ByteArray.empty l (i:Int)=l[i]:=by simp [rdOf,List.getD_eq_getElem?_getD,List.getElem?_eq_getElem h]
theorem r3_f (t:List (S26)) (i:Nat) (hi:i < t.length) (hn:t.length ≤ 16) (H:List ByteArray) (hH:H.length ≤ 128) (c:Nat) (hc:c < t[i].f1.length) (h8:t[i].f1.length ≤ 8) (F:Nat) (R:Bool) (hR : ∀ k,F ≤ k → tollbarref09_Right.l2 k t (H ++ [t[i].f1[c]]) (i:Int) ((c + 1:Nat):Int)=some R) :
 ∀ (d k j:Nat),j + d=H.length → F + d + 1 ≤ k → tollbarref09_Right.l3 k t H (i:Int) (c:Int) (j:Int)=some (!hasB (H.drop j) t[i].f1[c] && R)
 | d,0,_,_,h=>by omega
 | 0,k + 1,j,h,hk=>by
  have hw:wrap64 ((c:Int) + 1)=((c + 1:Nat):Int):=by unfold wrap64;omega
  rw [tollbarref09_Right.l3,if_neg (by omega),if_pos (by omega),if_pos (by omega),if_pos (by omega),rd_slot t i hi,if_pos (by omega),if_pos (by omega),rdOf_at _ c hc,hw,hR k (by omega),List.drop_of_length_le (by omega)]
  rfl
 | d + 1,k + 1,j,h,hk=>by
  have hj:j < H.length:=by omega
  have hw:wrap64 ((j:Int) + 1)=((j + 1:Nat):Int):=by unfold wrap64;omega
  rw [tollbarref09_Right.l3,if_pos (by omega),if_pos (by omega),if_pos (by omega),if_pos (by omega),if_pos (by omega),rd_slot t i hi,if_pos (by omega),rdOf_at _ c hc,rdOf_at _ j hj,hw,r3_f t i hi hn H hH c hc h8 F R hR d k (j + 1) (by omega) (by omega),List.drop_eq_getElem_cons hj,hasB_cons]
  by_cases e:H[j].toList=t[i].f1[c].toList
  ·rw [if_pos e,beq_iff_eq.2 e]
   rfl
  ·rw [if_neg e,beq_eq_false_iff_ne.2 e,Bool.false_or]
theorem r2_f (t:List (S26)) (i:Nat) (hi:i < t.length) (hn:t.length ≤ 16) (h8:t[i].f1.length ≤ 8) (F:Nat) (R:Bool) :
 ∀ (e k c:Nat) (H:List ByteArray),c + e=t[i].f1.length → H.length + e ≤ 128 → F + e * 131 + 1 ≤ k → (∀ k,F ≤ k → tollbarref09_Right.l0 k t (H ++ t[i].f1.drop c) ((i + 1:Nat):Int)=some R) → tollbarref09_Right.l2 k t H (i:Int) (c:Int)=some (unlikeB H (t[i].f1.drop c) && R)
 | e,0,_,_,_,_,h,_=>by omega
 | 0,k + 1,c,H,h,hH,hk,hR=>by
  have hw:wrap64 ((i:Int) + 1)=((i + 1:Nat):Int):=by unfold wrap64;omega
  have hd:t[i].f1.drop c=[]:=List.drop_of_length_le (by omega)
  have hr:=hR k (by omega)
  rw [hd,List.append_nil] at hr
  rw [tollbarref09_Right.l2,if_pos (by omega),if_pos (by omega),rd_slot t i hi,if_neg (by omega),hw,hr,hd]
  rfl
 | e + 1,k + 1,c,H,h,hH,hk,hR=>by
  have hc:c < t[i].f1.length:=by omega
  rw [tollbarref09_Right.l2,if_pos (by omega),if_pos (by omega),rd_slot t i hi,if_pos (by omega),show (0:Int)=((0:Nat):Int) from rfl,r3_f t i hi hn H (by omega) c hc h8 (F + e * 131 + 1) (unlikeB (H ++ [t[i].f1[c]]) (t[i].f1.drop (c + 1)) && R) (fun k hk=>r2_f t i hi hn h8 F R e k (c + 1) (H ++ [t[i].f1[c]]) (by omega) (by simp only [List.length_append,List.length_cons,List.length_nil];omega) hk (fun k hk=>by
   rw [List.append_assoc,List.singleton_append,← List.drop_eq_getElem_cons hc]
   exact hR k hk)) H.length k 0 (by omega) (by omega),List.drop_zero,List.drop_eq_getElem_cons hc,unlikeB]
  cases hasB H t[i].f1[c] <;> simp
theorem r1_f (t:List (S26)) (i:Nat) (hi:i < t.length) (hn:t.length ≤ 16) (H:List ByteArray) (F:Nat) (R:Bool) (hR : ∀ k,F ≤ k → tollbarref09_Right.l2 k t H (i:Int) 0=some R) :
 ∀ (d k j:Nat),j + d=i → F + d + 1 ≤ k → tollbarref09_Right.l1 k t H (i:Int) (j:Int)=some (!hasB (((t.take i).drop j).map (·.f0)) t[i].f0 && R)
 | d,0,_,_,h=>by omega
 | 0,k + 1,j,h,hk=>by
  rw [tollbarref09_Right.l1,if_neg (by omega),hR k (by omega),List.drop_of_length_le (by rw [List.length_take];omega)]
  rfl
 | d + 1,k + 1,j,h,hk=>by
  have hj:j < t.length:=by omega
  have hj2:j < (t.take i).length:=by rw [List.length_take];omega
  have hw:wrap64 ((j:Int) + 1)=((j + 1:Nat):Int):=by unfold wrap64;omega
  rw [tollbarref09_Right.l1,if_pos (by omega),if_pos (by omega),if_pos (by omega),if_pos (by omega),if_pos (by omega),rd_slot t i hi,rd_slot t j hj,hw,r1_f t i hi hn H F R hR d k (j + 1) (by omega) (by omega),List.drop_eq_getElem_cons hj2,List.map_cons,hasB_cons,List.getElem_take]
  by_cases e:t[j].f0.toList=t[i].f0.toList
  ·rw [if_pos e,beq_iff_eq.2 e]
   rfl
  ·rw [if_neg e,beq_eq_false_iff_ne.2 e,Bool.false_or]
def FitR (t:List (S26)):Prop := ∀ x ∈ t,x.f0.size ≤ 140737488351232 ∧ ∀ h ∈ x.f1,h.size ≤ 140737488351232
theorem FitR.wide {t:List (S26)} (h:FitR t):FitT t:=fun x hx=>⟨Nat.le_trans (h x hx).1 (by decide),fun y hy=>Nat.le_trans ((h x hx).2 y hy) (by decide)⟩
theorem r0_f (A:Nat) (hA:AskT ≤ A) (t:List (S26)) (hf:FitR t) (hn:t.length ≤ 16) (d:Nat) : ∀ (k i:Nat) (H:List ByteArray),i + d=t.length → H.length ≤ 8 * i → A + d * 2000 + 1 ≤ k → tollbarref09_Right.l0 k t H (i:Int)=some (chkT ((t.take i).map (·.f0)) H (t.drop i)):=by
 induction d with
 | zero =>
  intro k i H h hH hk
  obtain ⟨k,rfl⟩ : ∃ m,k=m + 1:=⟨k - 1,by omega⟩
  rw [tollbarref09_Right.l0,if_neg (by omega),List.drop_of_length_le (by omega)]
  rfl
 | succ d ih =>
  intro k i H h hH hk
  obtain ⟨k,rfl⟩ : ∃ m,k=m + 1:=⟨k - 1,by omega⟩
  have hi:i < t.length:=by omega
  have hm:=hf _ (List.getElem_mem hi)
  rw [tollbarref09_Right.l0,if_pos (by omega),if_pos (by omega),rd_slot t i hi,one_f t[i] hm.1 hm.2 k (by omega),Option.bind_some,List.drop_eq_getElem_cons hi,chkT]
  cases hb:slotB t[i]
  ·rfl
  ·have h8:=slot_hosts hb
   rw [if_pos rfl,show (0:Int)=((0:Nat):Int) from rfl,r1_f t i hi hn H (A + d * 2000 + 1 + 8 * 131 + 1) _ (fun k hk=>r2_f t i hi hn h8.1 (A + d * 2000 + 1) (chkT ((t.take (i + 1)).map (·.f0)) (H ++ t[i].f1) (t.drop (i + 1))) t[i].f1.length k 0 H (by omega) (by omega) (by have:=h8.1;omega) (fun k hk=>by rw [List.drop_zero];exact ih k (i + 1) _ (by omega) (by rw [List.length_append];omega) hk)) i k 0 (by omega) (by omega),List.drop_zero,List.drop_zero,List.take_succ_eq_append_getElem hi,List.map_append,List.map_cons,List.map_nil,Bool.true_and]
theorem refRight_f (t:List (S26)) (hf:FitR t) (k:Nat) (hk:AskT + 40000 ≤ k):tollbarref09_Right.f k t=some (rightT t):=by
 obtain ⟨m,rfl⟩ : ∃ m,k=m + 1:=⟨k - 1,by unfold AskT at hk;omega⟩
 unfold tollbarref09_Right.f rightT
 by_cases h1:(t.length:Int) < 1
 ·rw [if_pos h1,tollbarref09_Right.j0,if_pos rfl,decide_eq_false (by omega)]
  rfl
 ·rw [if_neg h1,tollbarref09_Right.j0]
  by_cases h2:(t.length:Int) > 16
  ·rw [decide_eq_true h2,if_pos rfl,decide_eq_false (by omega)]
   rfl
  ·rw [decide_eq_false h2,if_neg (by simp),decide_eq_true (show 1 ≤ t.length∧t.length ≤ 16 by omega),Bool.true_and,show (0:Int)=((0:Nat):Int) from rfl,r0_f AskT (Nat.le_refl _) t hf (by omega) t.length m 0 [] (by omega) (by simp) (by omega),chk_eq]
   rfl
def idxB {α:Type} (p:α → Bool):List α → Int → Int
 | [],_ => -1
 | x :: r,i=>if p x=true then i else idxB p r (i + 1)
theorem idxO_eq {α:Type} (q:α → Option Bool) (p:α → Bool) : ∀ (l:List α) (i:Int),(∀ x ∈ l,q x=some (p x)) → idxO q l i=some (idxB p l i)
 | [],_,_=>rfl
 | x :: r,i,h=>by
  rw [idxO,idxB,h x (List.mem_cons_self ..),Option.bind_some]
  by_cases hp:p x=true
  ·rw [if_pos hp,if_pos hp]
  ·rw [if_neg hp,if_neg hp]
   exact idxO_eq q p r (i + 1) (fun y hy=>h y (List.mem_cons_of_mem _ hy))
theorem index_l0 (l:List ByteArray) (hl:l.length ≤ 140737488355328) (a:ByteArray) (d:Nat) : ∀ (k i:Nat),i + d=l.length → d + 1 ≤ k → ∃ j,slices_Index_string_string.l0 k l a (l.length:Int) (i:Int)=some j∧decide (j ≥ 0)=hasB (l.drop i) a:=by
 induction d with
 | zero =>
  intro k i h hk
  obtain ⟨k,rfl⟩ : ∃ m,k=m + 1:=⟨k - 1,by omega⟩
  refine ⟨-1,?_,?_⟩
  ·rw [slices_Index_string_string.l0,if_neg (by omega)]
  ·rw [List.drop_of_length_le (by omega)]
   rfl
 | succ d ih =>
  intro k i h hk
  obtain ⟨k,rfl⟩ : ∃ m,k=m + 1:=⟨k - 1,by omega⟩
  have hi:i < l.length:=by omega
  have hw:wrap64 ((i:Int) + 1)=((i + 1:Nat):Int):=by unfold wrap64;omega
  obtain ⟨j,h1,h2⟩:=ih k (i + 1) (by omega) (by omega)
  rw [slices_Index_string_string.l0,if_pos (by omega),if_pos (by omega),if_pos (by omega),rdOf_at l i hi,hw,h1,List.drop_eq_getElem_cons hi,hasB_cons]
  by_cases e:a.toList=l[i].toList
  ·exact ⟨i,by rw [if_pos e],by rw [beq_iff_eq.2 e.symm,decide_eq_true (by omega)];rfl⟩
  ·exact ⟨j,by rw [if_neg e],by rw [h2,beq_eq_false_iff_ne.2 (fun x=>e x.symm),Bool.false_or]⟩
theorem Contains_f (l:List ByteArray) (hl:l.length ≤ 140737488355328) (a:ByteArray) (k:Nat) (hk:l.length + 1 ≤ k):slices_Contains_string_string.f k l a=some (hasB l a):=by
 obtain ⟨j,h1,h2⟩:=index_l0 l hl a l.length k 0 (by omega) hk
 unfold slices_Contains_string_string.f slices_Index_string_string.f
 rw [show (0:Int)=((0:Nat):Int) from rfl,h1,Option.bind_some]
 rw [List.drop_zero] at h2
 exact congrArg some h2
theorem Find_f (t:List (S26)) (a:ByteArray) (k:Nat) (hk : ∀ x ∈ t,x.f1.length + 1 ≤ k∧x.f1.length ≤ 140737488355328):table_Find.f k t a=some (idxB (fun x=>hasB x.f1 a) t 0):=by
 unfold table_Find.f
 exact idxO_eq _ _ t 0 (fun x hx=>Contains_f x.f1 (hk x hx).2 a k (hk x hx).1)
theorem Named_f (t:List (S26)) (a:ByteArray):table_Named.f t a=some (idxB (fun x=>x.f0.toList == a.toList) t 0):=by
 unfold table_Named.f
 exact idxO_eq _ _ t 0 (fun x hx=>rfl)
theorem refFind_l1 (t:List (S26)) (a:ByteArray) (i:Nat) (hi:i < t.length) (ht:t.length ≤ 1000) (hl:t[i].f1.length ≤ 1000) (F:Nat) (R:Int) (hR : ∀ k,F ≤ k → tollbarref09_Find.l0 k t a ((i + 1:Nat):Int)=some R) (d:Nat) : ∀ (k c:Nat),c + d=t[i].f1.length → F + d + 1 ≤ k → tollbarref09_Find.l1 k t a (i:Int) (c:Int)=some (if hasB (t[i].f1.drop c) a=true then (i:Int) else R):=by
 induction d with
 | zero =>
  intro k c h hk
  obtain ⟨k,rfl⟩ : ∃ m,k=m + 1:=⟨k - 1,by omega⟩
  have hw:wrap64 ((i:Int) + 1)=((i + 1:Nat):Int):=by unfold wrap64;omega
  rw [tollbarref09_Find.l1,if_pos (by omega),if_pos (by omega),rd_slot t i hi,if_neg (by omega),hw,hR k (by omega),List.drop_of_length_le (by omega)]
  rfl
 | succ d ih =>
  intro k c h hk
  obtain ⟨k,rfl⟩ : ∃ m,k=m + 1:=⟨k - 1,by omega⟩
  have hc:c < t[i].f1.length:=by omega
  have hw:wrap64 ((c:Int) + 1)=((c + 1:Nat):Int):=by unfold wrap64;omega
  rw [tollbarref09_Find.l1,if_pos (by omega),if_pos (by omega),rd_slot t i hi,if_pos (by omega),if_pos (by omega),rdOf_at _ c hc,hw,ih k (c + 1) (by omega) (by omega),List.drop_eq_getElem_cons hc,hasB_cons]
  by_cases e:t[i].f1[c].toList=a.toList
  ·rw [if_pos e,beq_iff_eq.2 e,Bool.true_or,if_pos rfl]
  ·rw [if_neg e,beq_eq_false_iff_ne.2 e,Bool.false_or]
set_option maxRecDepth 100000 in
theorem refFind_l0 (t:List (S26)) (a:ByteArray) (ht:t.length ≤ 1000) (hl : ∀ x ∈ t,x.f1.length ≤ 1000) (d:Nat) : ∀ (k i:Nat),i + d=t.length → d * 1003 + 1 ≤ k → tollbarref09_Find.l0 k t a (i:Int)=some (idxB (fun x=>hasB x.f1 a) (t.drop i) (i:Int)):=by
 induction d with
 | zero =>
  intro k i h hk
  obtain ⟨k,rfl⟩ : ∃ m,k=m + 1:=⟨k - 1,by omega⟩
  rw [tollbarref09_Find.l0,if_neg (by omega),List.drop_of_length_le (by omega)]
  rfl
 | succ d ih =>
  intro k i h hk
  obtain ⟨k,rfl⟩ : ∃ m,k=m + 1:=⟨k - 1,by omega⟩
  have hi:i < t.length:=by omega
  have hz:=hl _ (List.getElem_mem hi)
  obtain ⟨F,hF⟩ : ∃ F,F=d * 1003 + 1:=⟨_,rfl⟩
  have h1:=refFind_l1 t a i hi ht hz F (idxB (fun x=>hasB x.f1 a) (t.drop (i + 1)) ((i + 1:Nat):Int)) (fun k hk=>ih k (i + 1) (by omega) (by omega)) t[i].f1.length k 0 (by omega) (by omega)
  rw [List.drop_zero] at h1
  rw [tollbarref09_Find.l0,if_pos (by omega),List.drop_eq_getElem_cons hi,idxB]
  exact h1
set_option maxRecDepth 100000 in
theorem refFind_f (t:List (S26)) (a:ByteArray) (ht:t.length ≤ 1000) (hl : ∀ x ∈ t,x.f1.length ≤ 1000) (k:Nat) (hk:2000000 ≤ k):tollbarref09_Find.f k t a=some (idxB (fun x=>hasB x.f1 a) t 0):=by
 have hb:t.length * 1003 + 1 ≤ k:=by omega
 have h:=refFind_l0 t a ht hl t.length k 0 (Nat.zero_add _) hb
 rw [List.drop_zero] at h
 exact h
theorem refNamed_l0 (t:List (S26)) (a:ByteArray) (ht:t.length ≤ 1000) (d:Nat) : ∀ (k i:Nat),i + d=t.length → d + 1 ≤ k → tollbarref09_Named.l0 k t a (i:Int)=some (idxB (fun x=>x.f0.toList == a.toList) (t.drop i) (i:Int)):=by
 induction d with
 | zero =>
  intro k i h hk
  obtain ⟨k,rfl⟩ : ∃ m,k=m + 1:=⟨k - 1,by omega⟩
  rw [tollbarref09_Named.l0,if_neg (by omega),List.drop_of_length_le (by omega)]
  rfl
 | succ d ih =>
  intro k i h hk
  obtain ⟨k,rfl⟩ : ∃ m,k=m + 1:=⟨k - 1,by omega⟩
  have hi:i < t.length:=by omega
  have hw:wrap64 ((i:Int) + 1)=((i + 1:Nat):Int):=by unfold wrap64;omega
  rw [tollbarref09_Named.l0,if_pos (by omega),if_pos (by omega),rd_slot t i hi,hw,ih k (i + 1) (by omega) (by omega),List.drop_eq_getElem_cons hi,idxB]
  by_cases e:t[i].f0.toList=a.toList
  ·rw [if_pos e,if_pos (beq_iff_eq.2 e)]
  ·rw [if_neg e,if_neg (fun h=>e (beq_iff_eq.1 h))]
   rfl
theorem refNamed_f (t:List (S26)) (a:ByteArray) (ht:t.length ≤ 1000) (k:Nat) (hk:1001 ≤ k):tollbarref09_Named.f k t a=some (idxB (fun x=>x.f0.toList == a.toList) t 0):=by
 have h:=refNamed_l0 t a ht t.length k 0 (by omega) (by omega)
 rw [List.drop_zero] at h
 exact h
/-- The decimal digits,as numbers. -/
def decI (u:Nat):List Int:=(Lib.decDigits u).map fun b=>(b.toNat:Int)
theorem decI_small (u:Nat) (h:u < 10):decI u=[48 + (u:Int)]:=by
 unfold decI
 rw [Lib.decDigits_one h,List.map_cons,List.map_nil]
 congr 1
 rw [UInt8.toNat_ofNat']
 omega
theorem decI_big (u:Nat) (h:10 ≤ u):decI u=decI (u / 10) ++ [48 + ((u % 10:Nat):Int)]:=by
 unfold decI
 rw [Lib.decDigits,dif_neg (by omega),List.map_append,List.map_cons,List.map_nil]
 congr 2
 rw [UInt8.toNat_ofNat']
 omega
theorem dec_str (u:Nat):(⟨(Lib.decDigits u).toArray⟩:ByteArray)=strOfNums (decI u):=by
 unfold decI strOfNums
 congr 2
 rw [List.map_map]
 conv=>lhs;rw [← List.map_id (Lib.decDigits u)]
 exact List.map_congr_left fun b _=>by simp
theorem dec_len (d:Nat) : ∀ u,u < 10 ^ (d + 1) → 1 ≤ (decI u).length∧(decI u).length ≤ d + 1:=by
 induction d with
 | zero=>intro u h;rw [decI_small u (by simpa using h)];simp
 | succ d ih =>
  intro u h
  by_cases h1:u < 10
  ·rw [decI_small u h1];simp
  ·have h2:u / 10 < 10 ^ (d + 1):=(Nat.div_lt_iff_lt_mul (by decide)).2 (by rwa [← Nat.pow_succ])
   have:=ih _ h2
   rw [decI_big u (by omega),List.length_append]
   simp
   omega
theorem Text_f (n:Int) (h0 : -9223372036854775808 ≤ n) (h1:n ≤ 9223372036854775807):sign_Text.f n=some ⟨(Lib.itoa n).toArray⟩:=by
 unfold sign_Text.f strconv_FormatInt_46.f strconv_FormatInt_61.f
 rw [if_pos rfl,if_pos ⟨h0,h1⟩]
 rfl
theorem itoa_size (n:Int) (h0 : -9223372036854775808 ≤ n) (h1:n ≤ 9223372036854775807):1 ≤ (Lib.itoa n).length∧(Lib.itoa n).length ≤ 20:=by
 have hd : ∀ u:Nat,u ≤ 9223372036854775808 → 1 ≤ (Lib.decDigits u).length∧(Lib.decDigits u).length ≤ 19:=by
  intro u hu
  have:=dec_len 18 u (Nat.lt_of_le_of_lt hu (by decide))
  unfold decI at this
  rwa [List.length_map] at this
 unfold Lib.itoa
 split
 ·have:=hd n.natAbs (by omega)
  simp only [List.length_cons]
  omega
 ·have:=hd n.toNat (by omega)
  omega
theorem str_ne (xs:List Int) (h:xs ≠ []) : ¬ ((strOfNums xs).toList=[]):=by
 intro e
 rw [toList_data] at e
 have:=data_length (strOfNums xs)
 rw [e,str_size] at this
 exact h (List.eq_nil_of_length_eq_zero this.symm)
theorem refText_step (k u:Nat) (xs:List Int) (hx:xs.length ≤ 100) (hu:u ≤ 9223372036854775807) (hp:xs=[] ∨ 0 < u) :
 ∀ R,tollbarref02_Text.l0 k ((u / 10:Nat):Int) (strOfNums ((48 + ((u % 10:Nat):Int)) :: xs))=R → tollbarref02_Text.l0 (k + 1) (u:Int) (strOfNums xs)=R:=by
 intro R hR
 have e1:Int.tmod (u:Int) 10=((u % 10:Nat):Int):=by rw [Int.tmod_eq_emod_of_nonneg (by omega)];omega
 have e2:Int.tdiv (u:Int) 10=((u / 10:Nat):Int):=by rw [Int.tdiv_eq_ediv_of_nonneg (by omega)];omega
 have e3:wrap64 (48 + ((u % 10:Nat):Int)) % 256=48 + ((u % 10:Nat):Int):=by unfold wrap64;omega
 have e4:wrap64 ((u / 10:Nat):Int)=((u / 10:Nat):Int):=by unfold wrap64;omega
 have e5:strOfNums [48 + ((u % 10:Nat):Int)] ++ strOfNums xs=strOfNums ((48 + ((u % 10:Nat):Int)) :: xs):=by rw [← str_append];rfl
 have e6:(strOfNums [48 + ((u % 10:Nat):Int)]).size + (strOfNums xs).size ≤ 9223372036854775807:=by rw [str_size,str_size,List.length_singleton];omega
 simp only [tollbarref02_Text.l0]
 rw [e1,e2,e3,e4,Option.bind_some,if_pos e6,e5,hR]
 rcases hp with hp|hp
 ·rw [if_pos (by rw [hp,toList_data];rfl)]
 ·rw [if_pos (show (u:Int) > 0 by omega)]
  split <;> rfl
theorem refText_end (k:Nat) (xs:List Int) (hx:xs ≠ []):tollbarref02_Text.l0 (k + 1) 0 (strOfNums xs)=some (strOfNums xs):=by
 simp only [tollbarref02_Text.l0]
 rw [if_neg (str_ne xs hx),if_neg (by decide)]
theorem refText_l0 (d:Nat) : ∀ (k u:Nat) (xs:List Int),u < 10 ^ d → d + 1 ≤ k → u ≤ 9223372036854775807 → xs.length + d ≤ 100 → xs ≠ [] →
 tollbarref02_Text.l0 k (u:Int) (strOfNums xs)=some (strOfNums ((if u=0 then [] else decI u) ++ xs)):=by
 induction d with
 | zero =>
  intro k u xs hu hk hb hx hne
  obtain ⟨k,rfl⟩ : ∃ m,k=m + 1:=⟨k - 1,by omega⟩
  obtain rfl:u=0:=by simpa using hu
  rw [if_pos rfl]
  exact refText_end k xs hne
 | succ d ih =>
  intro k u xs hu hk hb hx hne
  obtain ⟨k,rfl⟩ : ∃ m,k=m + 1:=⟨k - 1,by omega⟩
  by_cases h0:u=0
  ·subst h0
   rw [if_pos rfl]
   exact refText_end k xs hne
  ·refine refText_step k u xs (by omega) hb (Or.inr (by omega)) _ ?_
   have h2:u / 10 < 10 ^ d:=(Nat.div_lt_iff_lt_mul (by decide)).2 (by rwa [← Nat.pow_succ])
   rw [ih k (u / 10) _ h2 (by omega) (by omega) (by rw [List.length_cons];omega) (by simp),if_neg h0]
   by_cases h1:u < 10
   ·rw [if_pos (by omega),decI_small u h1,show u % 10=u by omega]
    rfl
   ·rw [if_neg (by omega),decI_big u (by omega),List.append_assoc]
    rfl
theorem refText_nat (k u:Nat) (hk:30 ≤ k) (hu:u ≤ 9223372036854775807):tollbarref02_Text.l0 k (u:Int) (⟨#[]⟩:ByteArray)=some (strOfNums (decI u)):=by
 obtain ⟨k,rfl⟩ : ∃ m,k=m + 1:=⟨k - 1,by omega⟩
 have hs:(⟨#[]⟩:ByteArray)=strOfNums []:=rfl
 rw [hs]
 refine refText_step k u [] (by simp) hu (Or.inl rfl) _ ?_
 have h3:(10:Nat) ^ 19=10000000000000000000:=by decide
 rw [refText_l0 19 k (u / 10) _ (by omega) (by omega) (by omega) (by simp) (by simp)]
 by_cases h1:u < 10
 ·rw [if_pos (by omega),decI_small u h1,show u % 10=u by omega]
  rfl
 ·rw [if_neg (by omega),decI_big u (by omega)]
theorem itoa_least:(⟨(Lib.itoa (-9223372036854775808)).toArray⟩:ByteArray)=⟨#[45,57,50,50,51,51,55,50,48,51,54,56,53,52,55,55,53,56,48,56]⟩:=by
 simp [Lib.itoa,Lib.decDigits]
theorem refText_f (k : Nat) (hk : 60 ≤ k) (n : Int) (h0 : -9223372036854775808 ≤ n) (h1 : n ≤ 9223372036854775807) : tollbarref02_Text.f k n = sign_Text.f n := by
  rw [Text_f n h0 h1]
  obtain ⟨k, rfl⟩ : ∃ m, k = m + 2 := ⟨k - 2, by omega⟩
  by_cases hm : n = -9223372036854775808
  · subst hm
    rw [tollbarref02_Text.f, if_pos rfl, itoa_least]
  · by_cases h : n < 0
    · have hw : wrap64 (-n) = ((n.natAbs : Nat) : Int) := by unfold wrap64; omega
      have hi : Lib.itoa n = 45 :: Lib.decDigits n.natAbs := by unfold Lib.itoa; rw [if_pos h]
      rw [tollbarref02_Text.f, if_neg hm, if_pos h, hw, tollbarref02_Text.f, if_neg (by omega), if_neg (by omega), refText_nat k n.natAbs (by omega) (by omega), Option.bind_some]
      have hl := dec_len 18 n.natAbs (by have : (10 : Nat) ^ 19 = 10000000000000000000 := by decide
                                         show n.natAbs < 10 ^ 19; omega)
      rw [if_pos (by rw [str_size]; omega), ← dec_str, hi]
      congr 1
    · have hi : Lib.itoa n = Lib.decDigits n.toNat := by unfold Lib.itoa; rw [if_neg h]
      have := refText_nat (k + 1) n.toNat (by omega) (by omega)
      rw [show ((n.toNat : Nat) : Int) = n by omega] at this
      rw [tollbarref02_Text.f, if_neg hm, if_neg h, this, hi, dec_str]
/-- Words,each behind a blank. -/
def spL (ws:List (List UInt8)):List UInt8:=Lib.joinTail [32] ws
theorem spL_nil:spL []=[]:=rfl
theorem spL_cons (w:List UInt8) (r:List (List UInt8)):spL (w :: r)=32 :: (w ++ spL r):=by simp [spL,Lib.joinTail]
theorem spL_app (a b:List (List UInt8)):spL (a ++ b)=spL a ++ spL b:=by simp [spL,Lib.joinTail]
theorem spL_len (m:Nat) : ∀ ws:List (List UInt8),(∀ w ∈ ws,w.length ≤ m) → (spL ws).length ≤ ws.length * (m + 1)
 | [],_=>by simp [spL_nil]
 | w :: r,h=>by
  have h1:=spL_len m r (fun x hx=>h x (List.mem_cons_of_mem _ hx))
  have h2:=h w (List.mem_cons_self ..)
  rw [spL_cons,List.length_cons,List.length_append,List.length_cons,Nat.succ_mul]
  omega
def numsL (x:S26):List Int:=[x.f2,x.f3,x.f4,x.f5,x.f6,x.f7]
def hostsL (x:S26):List (List UInt8):=x.f1.map (·.data.toList)
def tailW (x:S26):List (List UInt8):=x.f0.data.toList :: ((numsL x).map Lib.itoa ++ hostsL x)
/-- A slot's line,without its end. -/
def lineL (x:S26):List UInt8:=[115,108,111,116] ++ spL (tailW x)
def writeL (t:List (S26)):List UInt8:=t.flatMap fun x=>lineL x ++ [10]
theorem slot_parts {x:S26} (h:slotB x=true):tblName x.f0=true∧(∀ n ∈ numsL x,1 ≤ n∧n ≤ 1048576)∧(∀ h ∈ x.f1,hostB h=true)∧1 ≤ x.f1.length∧x.f1.length ≤ 8:=by
 unfold slotB numsB numB at h
 simp only [Bool.and_eq_true,decide_eq_true_iff,List.all_eq_true] at h
 obtain ⟨h0,⟨h2,h3,h4,h5,h6,h7⟩,h8,h9⟩:=h
 refine ⟨h0,fun n hn=>?_,h8,h9⟩
 simp only [numsL,List.mem_cons,List.not_mem_nil,or_false] at hn
 rcases hn with rfl|rfl|rfl|rfl|rfl|rfl <;> omega
theorem host_parts {h:ByteArray} (hh:hostB h=true) (hs:h.size ≤ 140737488355328):1 ≤ h.size∧h.size ≤ 64 ∧ ∀ b ∈ h.data.toList,hostC (b.toNat:Int)=true:=by
 obtain ⟨u,hu⟩:=Host_some h.data.toList (by rw [data_length];exact hs)
 rw [mkS_self] at hu
 unfold hostB at hh
 rw [hu] at hh
 simp only [Bool.and_eq_true] at hh
 obtain ⟨h1,h2,h3,h4⟩:=hostEnd_ok u hh.1
 have h5:=beq_iff_eq.1 hh.2
 rw [h1,mkS_toList,toList_data] at h5
 rw [← data_length,← h5]
 refine ⟨h2,h3,fun b hb=>?_⟩
 rw [mkS_bytes,List.all_map] at h4
 exact List.all_eq_true.1 h4 b hb
theorem tbl_size {s:ByteArray} (h:tblName s=true):1 ≤ s.size∧s.size ≤ 30:=by
 unfold tblName at h
 simp only [Bool.and_eq_true,decide_eq_true_iff] at h
 exact h.1
theorem tail_words {x:S26} (h:slotB x=true) (hf : ∀ h ∈ x.f1,h.size ≤ 140737488355328):(∀ w ∈ tailW x,w.length ≤ 64)∧(tailW x).length ≤ 15:=by
 obtain ⟨h0,h1,h2,h3,h4⟩:=slot_parts h
 refine ⟨fun w hw=>?_,?_⟩
 ·unfold tailW at hw
  rcases List.mem_cons.1 hw with rfl|hw
  ·have:=tbl_size h0
   rw [data_length]
   omega
  ·rcases List.mem_append.1 hw with hw|hw
   ·obtain ⟨n,hn,rfl⟩:=List.mem_map.1 hw
    have:=h1 n hn
    have:=itoa_size n (by omega) (by omega)
    omega
   ·obtain ⟨y,hy,rfl⟩:=List.mem_map.1 hw
    have:=host_parts (h2 y hy) (hf y hy)
    rw [data_length]
    omega
 ·unfold tailW numsL hostsL
  simp only [List.length_cons,List.length_append,List.length_map,List.length_nil]
  omega
theorem line_len {x:S26} (h:slotB x=true) (hf : ∀ h ∈ x.f1,h.size ≤ 140737488355328):(lineL x).length ≤ 979:=by
 obtain ⟨h1,h2⟩:=tail_words h hf
 have h3:=spL_len 64 _ h1
 unfold lineL
 rw [List.length_append,show ([115,108,111,116]:List UInt8).length=4 from rfl]
 have:(tailW x).length * (64 + 1) ≤ 15 * 65:=Nat.mul_le_mul_right 65 h2
 omega
theorem text_mk (n:Int) (h:1 ≤ n∧n ≤ 1048576):sign_Text.f n=some (mkS (Lib.itoa n)):=Text_f n (by omega) (by omega)
theorem wrLine_f {x:S26} (h:slotB x=true) (hf : ∀ h ∈ x.f1,h.size ≤ 140737488355328):wrLine x=some (mkS (lineL x ++ [10])):=by
 obtain ⟨h0,h1,h2,h3,h4⟩:=slot_parts h
 have hl:=line_len h hf
 have ht : ∀ n ∈ numsL x,sign_Text.f n=some (mkS (Lib.itoa n)):=fun n hn=>text_mk n (h1 n hn)
 have hwr:wrT [(⟨x.f2,256,1048576⟩:S53),⟨x.f3,1,64⟩,⟨x.f4,1,64⟩,⟨x.f5,1,1048576⟩,⟨x.f6,1,1048576⟩,⟨x.f7,1,1048576⟩]=some ((numsL x).map fun n=>mkS (Lib.itoa n)):=by
  simp only [wrT]
  rw [ht x.f2 (by simp [numsL]),ht x.f3 (by simp [numsL]),ht x.f4 (by simp [numsL]),ht x.f5 (by simp [numsL]),ht x.f6 (by simp [numsL]),ht x.f7 (by simp [numsL])]
  rfl
 have hj:(([(⟨#[115,108,111,116]⟩:ByteArray),x.f0] ++ ((numsL x).map fun n=>mkS (Lib.itoa n))) ++ x.f1).map (·.data.toList)=([115,108,111,116]:List UInt8) :: tailW x:=by
  unfold tailW hostsL
  simp only [List.map_append,List.map_cons,List.map_nil,List.map_map,List.cons_append,List.nil_append]
  rw [show ((fun (s:ByteArray)=>s.data.toList) ∘ fun n=>mkS (Lib.itoa n))=Lib.itoa from funext fun n=>mkS_data _]
 unfold wrLine table_bounds.f
 rw [Option.bind_some,hwr,Option.bind_some,if_pos ⟨by omega,by rw [List.length_map];show 6 ≤ 1000;decide⟩]
 unfold strings_Join.f
 have hjl:Lib.join (([115,108,111,116]:List UInt8) :: tailW x) [32]=lineL x:=by rw [Lib.join_cons];rfl
 rw [hj,show (⟨#[32]⟩:ByteArray).data.toList=[32] from rfl,hjl,if_pos ⟨by simp only [List.length_append,List.length_cons,List.length_nil,List.length_map,numsL];omega,by omega⟩,Option.bind_some]
 show (if (mkS (lineL x)).size ≤ 140737488355000 then some (mkS (lineL x) ++ (⟨#[10]⟩:ByteArray)) else none)=_
 rw [mkS_size,if_pos (by omega)]
 exact congrArg some (mkS_append _ _)
theorem wrOut_f : ∀ (t:List (S26)) (acc:List UInt8),t.all slotB=true → FitT t → acc.length + t.length * 1000 ≤ 140737488355000 → wrOut t acc=some (acc ++ writeL t)
 | [],acc,_,_,_=>by simp [wrOut,writeL]
 | x :: r,acc,h,hf,hl=>by
  rw [List.all_cons,Bool.and_eq_true] at h
  have hx:=hf x (List.mem_cons_self ..)
  have hle:=line_len h.1 hx.2
  rw [List.length_cons,Nat.succ_mul] at hl
  rw [wrOut,wrLine_f h.1 hx.2,Option.bind_some,mkS_data,mkS_size,List.length_append,List.length_singleton,if_pos (by omega),wrOut_f r _ h.2 (fun y hy=>hf y (List.mem_cons_of_mem _ hy)) (by simp only [List.length_append,List.length_singleton];omega)]
  simp only [writeL,List.flatMap_cons,List.append_assoc]
theorem right_all {t:List (S26)} (h:rightT t=true):1 ≤ t.length∧t.length ≤ 16∧t.all slotB=true:=by
 unfold rightT at h
 simp only [Bool.and_eq_true,decide_eq_true_iff] at h
 exact ⟨h.1.1,h.1.2,h.2.1⟩
theorem Write_f (t:List (S26)) (hf:FitT t) (k:Nat) (hk:60 ≤ k):table_Write.f k t=some (if rightT t=true then (mkS (writeL t),0) else ((⟨#[]⟩:ByteArray),60)):=by
 unfold table_Write.f
 rw [Right_f t hf k hk,Option.bind_some]
 by_cases h:rightT t=true
 ·rw [if_pos h,if_pos h]
  obtain ⟨h1,h2,h3⟩:=right_all h
  rw [wrOut_f t [] h3 hf (by simp only [List.length_nil];omega),Option.bind_some,List.nil_append]
  rfl
 ·rw [if_neg h,if_neg h]
theorem refLine_l1 (x:S26) (hf : ∀ h ∈ x.f1,h.size ≤ 64) (h8:x.f1.length ≤ 8) (d:Nat) : ∀ (k j:Nat) (a:List UInt8),j + d=x.f1.length → d + 1 ≤ k → a.length + d * 70 ≤ 1000000 → tollbarref09_Line.l1 k (mkS a) (j:Int) x.f0 x.f1 x.f2 x.f3 x.f4 x.f5 x.f6 x.f7=some (mkS (a ++ (spL ((x.f1.drop j).map (·.data.toList)) ++ [10]))):=by
 induction d with
 | zero =>
  intro k j a h hk hl
  obtain ⟨k,rfl⟩ : ∃ m,k=m + 1:=⟨k - 1,by omega⟩
  rw [tollbarref09_Line.l1,if_neg (by omega),mkS_size,if_pos (by omega),List.drop_of_length_le (by omega)]
  exact congrArg some (mkS_append _ _)
 | succ d ih =>
  intro k j a h hk hl
  obtain ⟨k,rfl⟩ : ∃ m,k=m + 1:=⟨k - 1,by omega⟩
  have hj:j < x.f1.length:=by omega
  have hw:wrap64 ((j:Int) + 1)=((j + 1:Nat):Int):=by unfold wrap64;omega
  have hz:=hf _ (List.getElem_mem hj)
  have e1:mkS a ++ (⟨#[32]⟩:ByteArray)=mkS (a ++ [32]):=mkS_append _ _
  have e2:mkS (a ++ [32]) ++ x.f1[j]=mkS (a ++ [32] ++ x.f1[j].data.toList):=by rw [← mkS_append (a ++ [32]),mkS_self]
  rw [tollbarref09_Line.l1,if_pos (by omega),mkS_size,if_pos (by omega),if_pos (by omega),rdOf_at _ j hj,e1,mkS_size,List.length_append,List.length_singleton,if_pos (by omega),hw,e2,ih k (j + 1) _ (by omega) (by omega) (by simp only [List.length_append,List.length_singleton,data_length];omega),List.drop_eq_getElem_cons hj,List.map_cons,spL_cons]
  congr 2
  simp only [List.append_assoc,List.singleton_append,List.cons_append,List.nil_append]
theorem refLine_l0 (x:S26) (ns:List Int) (hn:ns.length=6) (hs : ∀ n ∈ ns,1 ≤ n∧n ≤ 1048576) (F:Nat) (R:ByteArray) (A:List UInt8) (hR : ∀ k,F ≤ k → tollbarref09_Line.l1 k (mkS A) 0 x.f0 x.f1 x.f2 x.f3 x.f4 x.f5 x.f6 x.f7=some R) (d:Nat) : ∀ (k j:Nat) (a:List UInt8),j + d=6 → F + 100 + d ≤ k → a.length + d * 70 ≤ 1000000 → a ++ spL ((ns.drop j).map Lib.itoa)=A → tollbarref09_Line.l0 k (mkS a) ns (j:Int) x.f0 x.f1 x.f2 x.f3 x.f4 x.f5 x.f6 x.f7=some R:=by
 induction d with
 | zero =>
  intro k j a h hk hl hA
  obtain ⟨k,rfl⟩ : ∃ m,k=m + 1:=⟨k - 1,by omega⟩
  rw [List.drop_of_length_le (by omega),List.map_nil,spL_nil,List.append_nil] at hA
  rw [tollbarref09_Line.l0,if_neg (by omega),hA]
  exact hR k (by omega)
 | succ d ih =>
  intro k j a h hk hl hA
  obtain ⟨k,rfl⟩ : ∃ m,k=m + 1:=⟨k - 1,by omega⟩
  have hj:j < ns.length:=by omega
  have hw:wrap64 ((j:Int) + 1)=((j + 1:Nat):Int):=by unfold wrap64;omega
  have hz:=hs _ (List.getElem_mem hj)
  have hi:=itoa_size ns[j] (by omega) (by omega)
  have hr:rd ns (j:Int)=ns[j]:=by simp [rd,List.getD_eq_getElem?_getD,List.getElem?_eq_getElem hj]
  have e1:mkS a ++ (⟨#[32]⟩:ByteArray)=mkS (a ++ [32]):=mkS_append _ _
  rw [List.drop_eq_getElem_cons hj,List.map_cons,spL_cons] at hA
  rw [tollbarref09_Line.l0,if_pos (by omega),mkS_size,if_pos (by omega),if_pos (by omega),if_pos (by omega),hr,refText_f k (by omega) _ (by omega) (by omega),text_mk _ hz,Option.bind_some,e1,mkS_size,mkS_size,List.length_append,List.length_singleton,if_pos (by omega),hw,mkS_append]
  refine ih k (j + 1) _ (by omega) (by omega) (by simp only [List.length_append,List.length_singleton];omega) ?_
  rw [← hA]
  simp only [List.append_assoc,List.singleton_append,List.cons_append,List.nil_append]
theorem refLine_f {x:S26} (h:slotB x=true) (hf : ∀ h ∈ x.f1,h.size ≤ 140737488355328) (k:Nat) (hk:200 ≤ k):tollbarref09_Line.f k x.f0 x.f1 x.f2 x.f3 x.f4 x.f5 x.f6 x.f7=some (mkS (lineL x ++ [10])):=by
 obtain ⟨h0,h1,h2,h3,h4⟩:=slot_parts h
 have hz:=tbl_size h0
 have hl:=line_len h hf
 have ht:=(tail_words h hf).1
 unfold tollbarref09_Line.f tollbarref09_numbers.f
 have e1:(⟨#[115,108,111,116,32]⟩:ByteArray) ++ x.f0=mkS ([115,108,111,116,32] ++ x.f0.data.toList):=by rw [← mkS_append,mkS_self];rfl
 have hA:([115,108,111,116,32] ++ x.f0.data.toList) ++ spL (((numsL x).drop 0).map Lib.itoa) ++ (spL (hostsL x) ++ [10])=lineL x ++ [10]:=by
  unfold lineL tailW
  rw [spL_cons,spL_app,List.drop_zero]
  simp only [List.append_assoc,List.cons_append,List.nil_append]
 have hn:(([115,108,111,116,32] ++ x.f0.data.toList) ++ spL (((numsL x).drop 0).map Lib.itoa)).length ≤ 1000:=by
  have:=congrArg List.length hA
  simp only [List.length_append,List.length_singleton] at this ⊢
  omega
 rw [if_pos (by omega),Option.bind_some,e1,show (0:Int)=((0:Nat):Int) from rfl]
 refine refLine_l0 x (numsL x) rfl h1 20 _ _ (fun k hk=>?_) 6 k 0 _ (by omega) (by omega) (by simp only [List.length_append,data_length,List.length_cons,List.length_nil];omega) rfl
 rw [show (0:Int)=((0:Nat):Int) from rfl,refLine_l1 x (fun y hy=>(host_parts (h2 y hy) (hf y hy)).2.1) h4 x.f1.length k 0 _ (by omega) (by omega) (by omega),List.drop_zero]
 congr 2
theorem refWrite_l0 (t:List (S26)) (hs:t.all slotB=true) (hf:FitT t) (hn:t.length ≤ 16) (d:Nat) : ∀ (k j:Nat) (a:List UInt8),j + d=t.length → d + 300 ≤ k → a.length + d * 1000 ≤ 1000000 → tollbarref09_Write.l0 k t (mkS a) (j:Int)=some (mkS (a ++ writeL (t.drop j))):=by
 induction d with
 | zero =>
  intro k j a h hk hl
  obtain ⟨k,rfl⟩ : ∃ m,k=m + 1:=⟨k - 1,by omega⟩
  rw [tollbarref09_Write.l0,if_neg (by omega),List.drop_of_length_le (by omega),writeL,List.flatMap_nil,List.append_nil]
 | succ d ih =>
  intro k j a h hk hl
  obtain ⟨k,rfl⟩ : ∃ m,k=m + 1:=⟨k - 1,by omega⟩
  have hj:j < t.length:=by omega
  have hw:wrap64 ((j:Int) + 1)=((j + 1:Nat):Int):=by unfold wrap64;omega
  have hm:=List.getElem_mem hj
  have hb:=List.all_eq_true.1 hs _ hm
  have hle:=line_len hb (hf _ hm).2
  rw [tollbarref09_Write.l0,if_pos (by omega),if_pos (by omega),rd_slot t j hj,refLine_f hb (hf _ hm).2 k (by omega),Option.bind_some,mkS_size,mkS_size,List.length_append,List.length_singleton,if_pos (by omega),hw,mkS_append,ih k (j + 1) _ (by omega) (by omega) (by simp only [List.length_append,List.length_singleton];omega),List.drop_eq_getElem_cons hj]
  simp only [writeL,List.flatMap_cons,List.append_assoc]
theorem refWrite_f (t:List (S26)) (h:rightT t=true) (hf:FitT t) (k:Nat) (hk:400 ≤ k):tollbarref09_Write.f k t=some (mkS (writeL t)):=by
 obtain ⟨h1,h2,h3⟩:=right_all h
 have:=refWrite_l0 t h3 hf h2 t.length k 0 [] (by omega) (by omega) (by simp only [List.length_nil];omega)
 rw [List.drop_zero,List.nil_append] at this
 exact this
theorem ask_big:2000000 ≤ AskT:=by unfold AskT;decide
set_option maxRecDepth 100000 in
theorem writes_j1 (t:List (S26)) (hf:FitR t) (k:Nat) (hk:AskT + 50000 ≤ k):tollbarlaw09_TableWrites.j1 (k + 1) t false=some true:=by
 rw [tollbarlaw09_TableWrites.j1,if_neg (by simp),Write_f t hf.wide k (by omega),Option.bind_some,refRight_f t hf k (by omega),Option.bind_some]
 by_cases h:rightT t=true
 ·rw [if_pos h,if_pos h,if_pos rfl,refWrite_f t h hf.wide k (by omega),Option.bind_some,beq_self_eq_true]
 ·rw [if_neg h,if_neg h,if_pos rfl]
  show some ((⟨#[]⟩:ByteArray).toList == [])=some true
  rw [toList_data]
  rfl
set_option maxRecDepth 100000 in
theorem writes_l0 (A:Nat) (hA:AskT + 60000 ≤ A) (t:List (S26)) (a b:ByteArray) (hf:FitR t) (ht:t.length ≤ 100) (d:Nat) : ∀ (k i:Nat),i + d=t.length → A + d ≤ k → (∀ x ∈ t.take i,x.f1.length ≤ 100) → tollbarlaw09_TableWrites.l0 k t a b t (t.length:Int) (i:Int)=some true:=by
 induction d with
 | zero =>
  intro k i h hk hh
  obtain ⟨k,rfl⟩ : ∃ m,k=m + 2:=⟨k - 2,by omega⟩
  rw [List.take_of_length_le (by omega)] at hh
  have k1:60 ≤ k + 1:=by omega
  have k2:AskT + 40000 ≤ k + 1:=by omega
  have k3:2000000 ≤ k + 1:=Nat.le_trans ask_big (Nat.le_trans (Nat.le_add_right _ _) k2)
  have k4:1001 ≤ k + 1:=by omega
  have k5:AskT + 50000 ≤ k:=by omega
  clear hk hA
  have hh2 : ∀ x ∈ t,x.f1.length ≤ 1000:=fun x hx=>Nat.le_trans (hh x hx) (by decide)
  rw [tollbarlaw09_TableWrites.l0,if_neg (by omega),Right_f t hf.wide (k + 1) k1,Option.bind_some,refRight_f t hf (k + 1) k2,Option.bind_some,bne_self_eq_false,if_neg (by simp),Find_f t a (k + 1) (fun x hx=>by have:=hh x hx;omega),Option.bind_some,refFind_f t a (by omega) hh2 (k + 1) k3,Option.bind_some,if_pos rfl,Named_f,Option.bind_some,refNamed_f t b (by omega) (k + 1) k4,Option.bind_some,bne_self_eq_false]
  exact writes_j1 t hf k k5
 | succ d ih =>
  intro k i h hk hh
  obtain ⟨k,rfl⟩ : ∃ m,k=m + 1:=⟨k - 1,by omega⟩
  have hi:i < t.length:=by omega
  have hw:wrap64 ((i:Int) + 1)=((i + 1:Nat):Int):=by unfold wrap64;omega
  have k6:A + d ≤ k:=by omega
  clear hA hk
  rw [tollbarlaw09_TableWrites.l0,if_pos (by omega),if_pos (by omega),if_pos (by omega),rd_slot t i hi,hw]
  by_cases c:(t[i].f1.length:Int) > 100
  ·rw [if_pos c]
  ·rw [if_neg c]
   refine ih k (i + 1) (by omega) k6 (fun x hx=>?_)
   rw [List.take_succ_eq_append_getElem hi] at hx
   rcases List.mem_append.1 hx with hx|hx
   ·exact hh x hx
   ·rw [List.mem_singleton.1 hx]
    omega
set_option maxRecDepth 100000 in
theorem TableWrites (t:List (S26)) (a b:ByteArray)
 (ht:t.length ≤ 140737488351232∧t.length ≤ maxLen ∧ ∀ x ∈ t,(x.f0.size ≤ 140737488351232∧x.f0.size ≤ maxLen)∧((x.f1.length ≤ 140737488351232∧x.f1.length ≤ maxLen ∧ ∀ y ∈ x.f1,y.size ≤ 140737488351232∧y.size ≤ maxLen)∧((Lit.int .i64 x.f2).wf=true∧((Lit.int .i64 x.f3).wf=true∧((Lit.int .i64 x.f4).wf=true∧((Lit.int .i64 x.f5).wf=true∧((Lit.int .i64 x.f6).wf=true∧(Lit.int .i64 x.f7).wf=true)))))))
 (_:a.size ≤ 140737488351232) (_:b.size ≤ 140737488351232) : ∃ k,tollbarlaw09_TableWrites.f k t a b=some true:=by
 refine ⟨AskT + 61000,?_⟩
 have hf:FitR t:=fun x hx=>⟨(ht.2.2 x hx).1.1,fun y hy=>((ht.2.2 x hx).2.1.2.2 y hy).1⟩
 unfold tollbarlaw09_TableWrites.f
 rw [alive9_f _ (by omega),Option.bind_some,if_pos rfl]
 by_cases c:(t.length:Int) > 100
 ·rw [if_pos c]
 ·rw [if_neg c]
  exact writes_l0 (AskT + 60000) (Nat.le_refl _) t a b hf (by omega) t.length _ 0 (by omega) (by omega) (by simp)
end Go.Proofs.YtclpanalnbmejaaDoor.Pure
