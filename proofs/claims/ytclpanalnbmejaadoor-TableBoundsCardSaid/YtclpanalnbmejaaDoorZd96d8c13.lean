/- Each function below answers as its Lean twin says; plain lemmas; a row where its theorem stands. No further condition. (Laid by this repo's pack.py out of its texts and of the print's words.) -/
import Derived.Test.YtclpanalnbmejaaDoorZ1893f23e
import Derived.Test.YtclpanalnbmejaaDoorZ51dea5b4
import Derived.Test.YtclpanalnbmejaaDoorZf164ce49
import Derived.Lib.IndexBytes
import Derived.Lib.Strings
import Derived.Lib.SlTrimSet
import Derived.Lib.LastIndexByte
namespace Go.Proofs.YtclpanalnbmejaaDoor.P
open Go.RowKit Go.Proofs.YtclpanalnbmejaaDoorW.PrintWords Go.Proofs.YtclpanalnbmejaaDoorW.PrintLast Go.Proofs.YtclpanalnbmejaaDoorW.PrintMore
attribute [local go_sem] max2_int min2_int max_two min_two max_three min_three max_four min_four
set_option linter.unusedVariables false
set_option linter.unusedSimpArgs false
def tollbarlaw09_alive.f (k:Nat)  : Option (Bool):=(table_Read.f k (⟨#[115,108,111,116,32,97,32,49,48,48,48,32,50,32,50,32,53,32,53,32,54,52,32,97,46,101,120,97,109,112,108,101,32,98,10]⟩:ByteArray)).bind fun bt192=>((table_Write.f k bt192.1).bind fun bt196=>((table_Read.f k (⟨#[115,108,111,116,32,97,10]⟩:ByteArray)).bind fun bt198=>(if bt192.2=0 then (if (bt192.1.length:Int)=1 then (if 0 < (bt192.1.length:Int) then (if ((rd_T26 bt192.1 0).f7)=64 then (if (((rd_T26 bt192.1 0).f1).length:Int)=2 then (if bt196.2=0 then (if bt196.1.toList=([115,108,111,116,32,97,32,49,48,48,48,32,50,32,50,32,53,32,53,32,54,52,32,97,46,101,120,97,109,112,108,101,32,98,10]:List UInt8) then (if bt198.2=20 then ((table_Right.f k bt192.1).bind fun t204=>(if t204=true then ((table_Right.f k ([]:List (S26))).bind fun t205=>(if t205=true then (some false) else ((table_Find.f k bt192.1 (⟨#[98]⟩:ByteArray)).bind fun t206=>(if t206=0 then ((table_Find.f k bt192.1 (⟨#[99]⟩:ByteArray)).bind fun t207=>(if t207=(-1) then ((table_Named.f bt192.1 (⟨#[97]⟩:ByteArray)).bind fun t208=>(if t208=0 then ((table_Name.f k (⟨#[97,45,49]⟩:ByteArray)).bind fun t209=>(if t209=true then ((table_Name.f k (⟨#[49,97]⟩:ByteArray)).bind fun t210=>(some (!t210))) else (some false))) else (some false))) else (some false))) else (some false))))) else (some false))) else (some false)) else (some false)) else (some false)) else (some false)) else (some false)) else (none)) else (some false)) else (some false))))
theorem tollbarlaw09_alive.mono : ∀ k,LeO (tollbarlaw09_alive.f k ) (tollbarlaw09_alive.f (k + 1) ):=by
 intro  k
 unfold tollbarlaw09_alive.f
 repeat' first
  | (with_reducible exact table_Find.mono _ _ _)
  | (with_reducible exact table_Name.mono _ _)
  | (with_reducible exact table_Read.mono _ _)
  | (with_reducible exact table_Right.mono _ _)
  | (with_reducible exact table_Write.mono _ _)
  | (with_reducible exact LeO.refl _)
  | (with_reducible exact LeO.none _)
  | (with_reducible refine LeO.ite ?_ ?_)
  | (with_reducible refine LeO.bind ?_ (fun _=>?_))
  | exact table_Find.mono _ _ _
  | exact table_Name.mono _ _
  | exact table_Read.mono _ _
  | exact table_Right.mono _ _
  | exact table_Write.mono _ _
  | exact LeO.none _
  | refine LeO.ite ?_ ?_
  | refine LeO.bind ?_ (fun _=>?_)
set_option maxHeartbeats 8000000 in
set_option maxRecDepth 100000 in
theorem tollbarlaw09_alive.calls (k:Nat)  (r:Bool) (w:World) (h:tollbarlaw09_alive.f k  = some r) (hr:r=true) (ht:Tabs w) :
 Calls Tryd.prog 8 #[] w fun e w' => e = .returned (.bool r)∧Below w.heap.size w w' := by
 have HTB:=Aside0.mk ht
 clear ht
 have HRT:=Aside0.mk hr
 clear hr
 have HB:=Aside0.mk (Below.refl w.heap.size w)
 unfold tollbarlaw09_alive.f at h
 have H:=h
 clear h
 replace H:=Option.bind_eq_some_iff.mp H
 obtain ⟨⟨t19,t49⟩,A10,H⟩:=H
 try dsimp only at H
 have A1:=Aside0.mk A10
 clear A10
 replace H:=Option.bind_eq_some_iff.mp H
 obtain ⟨⟨t46,t50⟩,A20,H⟩:=H
 try dsimp only at H
 have A2:=Aside0.mk A20
 clear A20
 replace H:=Option.bind_eq_some_iff.mp H
 obtain ⟨⟨t51,t52⟩,A30,H⟩:=H
 try dsimp only at H
 have A3:=Aside0.mk A30
 clear A30
 by_cases c4:t49=0;rotate_left
 ·rw [if_neg c4] at H
  have c4b0:=beq_eq_false_iff_ne.mpr c4
  have c4b1:=bne_iff_ne.mpr c4
  exact absurd ((Option.some.inj H).trans HRT.out) zb25
 rw [if_pos c4] at H
 have c4b0:=beq_iff_eq.mpr c4
 have c4b1:=bne_eq_false_iff_eq.mpr c4
 clear c4
 by_cases c5:(t19.length:Int)=1
 ·rw [if_pos c5] at H
  have c5b0:=beq_iff_eq.mpr c5
  have c5b1:=bne_eq_false_iff_eq.mpr c5
  clear c5
  by_cases c6:0 < (t19.length:Int);rotate_left
  ·rw [if_neg c6] at H
   exact absurd H zb30
  rw [if_pos c6] at H
  have c6b0:=decide_eq_true c6
  have c6b1:decide (0 < t19.length)=true:=decide_eq_true zb18
  clear c6
  by_cases c7:((rd_T26 t19 0).f7)=64;rotate_left
  ·rw [if_neg c7] at H
   have c7b0:=beq_eq_false_iff_ne.mpr c7
   have c7b1:=bne_iff_ne.mpr c7
   exact absurd ((Option.some.inj H).trans HRT.out) zb25
  rw [if_pos c7] at H
  have c7b0:=beq_iff_eq.mpr c7
  have c7b1:=bne_eq_false_iff_eq.mpr c7
  clear c7
  by_cases c8:(((rd_T26 t19 0).f1).length:Int)=2
  ·rw [if_pos c8] at H
   have c8b0:=beq_iff_eq.mpr c8
   have c8b1:=bne_eq_false_iff_eq.mpr c8
   clear c8
   by_cases c9:t50=0;rotate_left
   ·rw [if_neg c9] at H
    have c9b0:=beq_eq_false_iff_ne.mpr c9
    have c9b1:=bne_iff_ne.mpr c9
    exact absurd ((Option.some.inj H).trans HRT.out) zb25
   rw [if_pos c9] at H
   have c9b0:=beq_iff_eq.mpr c9
   have c9b1:=bne_eq_false_iff_eq.mpr c9
   clear c9
   by_cases c10:t46.toList=([115,108,111,116,32,97,32,49,48,48,48,32,50,32,50,32,53,32,53,32,54,52,32,97,46,101,120,97,109,112,108,101,32,98,10]:List UInt8)
   ·rw [if_pos c10] at H
    have c10b0:=beq_iff_eq.mpr c10
    have c10b1:=bne_eq_false_iff_eq.mpr c10
    clear c10
    by_cases c11:t52=20;rotate_left
    ·rw [if_neg c11] at H
     have c11b0:=beq_eq_false_iff_ne.mpr c11
     have c11b1:=bne_iff_ne.mpr c11
     exact absurd ((Option.some.inj H).trans HRT.out) zb25
    rw [if_pos c11] at H
    have c11b0:=beq_iff_eq.mpr c11
    have c11b1:=bne_eq_false_iff_eq.mpr c11
    clear c11
    replace H:=Option.bind_eq_some_iff.mp H
    obtain ⟨t48,A53,H⟩:=H
    try dsimp only at H
    have A12:=Aside0.mk A53
    clear A53
    by_cases c13:t48=true
    ·subst c13
     rw [if_pos rfl] at H
     replace H:=Option.bind_eq_some_iff.mp H
     obtain ⟨t47,A54,H⟩:=H
     try dsimp only at H
     have A14:=Aside0.mk A54
     clear A54
     by_cases c15:t47=true
     ·subst c15
      rw [if_pos rfl] at H
      exact absurd ((Option.some.inj H).trans HRT.out) zb25
     replace c15:=Bool.eq_false_iff.mpr c15
     subst c15
     rw [if_neg (show ¬ (false=true) by decide)] at H
     replace H:=Option.bind_eq_some_iff.mp H
     obtain ⟨t44,A55,H⟩:=H
     try dsimp only at H
     have A22:=Aside0.mk A55
     clear A55
     by_cases c23:t44=0;rotate_left
     ·rw [if_neg c23] at H
      have c23b0:=beq_eq_false_iff_ne.mpr c23
      have c23b1:=bne_iff_ne.mpr c23
      exact absurd ((Option.some.inj H).trans HRT.out) zb25
     rw [if_pos c23] at H
     have c23b0:=beq_iff_eq.mpr c23
     have c23b1:=bne_eq_false_iff_eq.mpr c23
     clear c23
     replace H:=Option.bind_eq_some_iff.mp H
     obtain ⟨t42,A56,H⟩:=H
     try dsimp only at H
     have A24:=Aside0.mk A56
     clear A56
     by_cases c25:t42=(-1)
     ·rw [if_pos c25] at H
      have c25b0:=beq_iff_eq.mpr c25
      have c25b1:=bne_eq_false_iff_eq.mpr c25
      clear c25
      replace H:=Option.bind_eq_some_iff.mp H
      obtain ⟨t41,A57,H⟩:=H
      try dsimp only at H
      have A26:=Aside0.mk A57
      clear A57
      by_cases c27:t41=0;rotate_left
      ·rw [if_neg c27] at H
       have c27b0:=beq_eq_false_iff_ne.mpr c27
       have c27b1:=bne_iff_ne.mpr c27
       exact absurd ((Option.some.inj H).trans HRT.out) zb25
      rw [if_pos c27] at H
      have c27b0:=beq_iff_eq.mpr c27
      have c27b1:=bne_eq_false_iff_eq.mpr c27
      clear c27
      replace H:=Option.bind_eq_some_iff.mp H
      obtain ⟨t43,A58,H⟩:=H
      try dsimp only at H
      have A28:=Aside0.mk A58
      clear A58
      by_cases c29:t43=true
      ·subst c29
       rw [if_pos rfl] at H
       replace H:=Option.bind_eq_some_iff.mp H
       obtain ⟨t40,A59,H⟩:=H
       try dsimp only at H
       have A30:=Aside0.mk A59
       clear A59
       obtain rfl:=Option.some.inj H
       go_enter Tryd.func8,Tryd.ntmps8
       go_wp2_with (first|((with_reducible refine gate_callee (f:=17) rfl ?_);refine goesL_ (some 10) rfl rfl Tryd.func17 zb20 rfl #[.string (⟨#[115,108,111,116,32,97,32,49,48,48,48,32,50,32,50,32,53,32,53,32,54,52,32,97,46,101,120,97,109,112,108,101,32,98,10]⟩:ByteArray)] rfl zb3 ?_;(with_reducible refine (table_Read.calls k (⟨#[115,108,111,116,32,97,32,49,48,48,48,32,50,32,50,32,53,32,53,32,54,52,32,97,46,101,120,97,109,112,108,101,32,98,10]⟩:ByteArray) t19 t49 _ A1.out ?hT).mono ?_);(case hT=>exact HTB.out.below zb0);rintro e w31 ⟨v60,rfl,ho0,hb⟩;(try clear A1);refine ⟨_,rfl,?_⟩;have HO21:=Aside0.mk (Kd.S_lower ho0 (below_size zb0));replace HB:=Aside0.mk (below_step zb0 hb);try clear hb ho0;obtain ⟨Ao32,co32,eo32⟩:=Kd.S_slice HO21.out;subst eo32)|((with_reducible refine gate_callee (f:=15) rfl ?_);refine goesL_ (some 15) rfl rfl Tryd.func15 zb20 rfl #[.slice Ao32 t19.length co32] rfl zb3 ?_;(with_reducible refine (table_Write.calls k _ _ t19 t46 t50 _ ?side1 ?side2 A2.out ?hT).mono ?_);(case hT=>exact HTB.out.below zb0);(case side1=>exact zb26);(case side2=>exact (Kd.S_reads' HO21.out).2.1);rintro e w33 ⟨rfl,hb⟩;(try clear A2);refine ⟨_,rfl,?_⟩;replace HO21:=Aside0.mk (Kd.S_below zb24 hb);replace HB:=Aside0.mk (below_step zb0 hb);(try clear hb))|((with_reducible refine gate_callee (f:=17) rfl ?_);refine goesL_ (some 19) rfl rfl Tryd.func17 zb20 rfl #[.string (⟨#[115,108,111,116,32,97,10]⟩:ByteArray)] rfl zb3 ?_;(with_reducible refine (table_Read.calls k (⟨#[115,108,111,116,32,97,10]⟩:ByteArray) t51 t52 _ A3.out ?hT).mono ?_);(case hT=>exact HTB.out.below zb0);rintro e w34 ⟨v61,rfl,ho0,hb⟩;(try clear A3);refine ⟨_,rfl,?_⟩;have HO45:=Aside0.mk (Kd.S_lower (Kd.S_new' ho0 (Kd.S_lt zb24)) (below_size zb0));replace HO21:=Aside0.mk (Kd.S_elder' zb24 (Kd.S_base ho0) hb);replace HB:=Aside0.mk (below_step zb0 hb);try clear hb ho0;have p16:0 ≤ (0:Int):=zb18;have q16:0 < (t19.length:Int):=of_decide_eq_true zb5;obtain ⟨ad16,A16_1,c16_1,e16,hx16_0,hx16_1,hx16_2,hx16_3,hx16_4,hx16_5,hx16_6,hx16_7,hl16_1,hi16_1⟩:=at_T26 (Kd.S_reads' HO21.out).2.2 0 p16 q16;cases e16;obtain ⟨ce16,hce16,hMe16,hcc16⟩:=Kd.S_get HO21.out z26 0 p16 (by first|exact q16|exact of_decide_eq_true (by first|(with_reducible assumption)|assumption)|(have e_:=(Kd.S_reads' HO21.out).1;omega));obtain ⟨ve16_1,rfl,ge16_1⟩:=k26_openM hMe16;have hv16_1:=hcc16 1 _ rfl;rw [add_field _ _ 1 zb18] at hv16_1;replace hv16_1:=Option.some.inj (hv16_1.symm.trans hx16_1);rw [hv16_1] at ge16_1;have HL16_1:=Aside0.mk (show Kd.R Kd.string 9 _ _ _ _ ((rd_T26 t19 0).f1) from ge16_1);clear hv16_1 ge16_1;clear hcc16 hce16;have qi16:(0 < t19.length)=True:=eq_true zb18;(try rw [show ((0:Int)).toNat=0 from rfl] at hx16_0);(try rw [show 0 * 8=0 from rfl] at hx16_0);(try rw [Addr.add_zero'] at hx16_0);(try rw [show ((0:Int)).toNat=0 from rfl] at hx16_1);(try rw [show 0 * 8=0 from rfl] at hx16_1);(try rw [Addr.add_zero'] at hx16_1);(try rw [show ((0:Int)).toNat=0 from rfl] at hx16_2);(try rw [show 0 * 8=0 from rfl] at hx16_2);(try rw [Addr.add_zero'] at hx16_2);(try rw [show ((0:Int)).toNat=0 from rfl] at hx16_3);(try rw [show 0 * 8=0 from rfl] at hx16_3);(try rw [Addr.add_zero'] at hx16_3);(try rw [show ((0:Int)).toNat=0 from rfl] at hx16_4);(try rw [show 0 * 8=0 from rfl] at hx16_4);(try rw [Addr.add_zero'] at hx16_4);(try rw [show ((0:Int)).toNat=0 from rfl] at hx16_5);(try rw [show 0 * 8=0 from rfl] at hx16_5);(try rw [Addr.add_zero'] at hx16_5);(try rw [show ((0:Int)).toNat=0 from rfl] at hx16_6);(try rw [show 0 * 8=0 from rfl] at hx16_6);(try rw [Addr.add_zero'] at hx16_6);(try rw [show ((0:Int)).toNat=0 from rfl] at hx16_7);(try rw [show 0 * 8=0 from rfl] at hx16_7);(try rw [Addr.add_zero'] at hx16_7);have HR16_1:=Aside0.mk hi16_1;have HC16_1:=Aside0.mk hl16_1;clear hi16_1 hl16_1;replace p16:=eq_true p16;replace q16:=eq_true q16;have p18:0 ≤ (0:Int):=zb18;have q18:0 < (t19.length:Int):=of_decide_eq_true zb5;obtain ⟨ad18,A18_1,c18_1,e18,hx18_0,hx18_1,hx18_2,hx18_3,hx18_4,hx18_5,hx18_6,hx18_7,hl18_1,hi18_1⟩:=at_T26 (Kd.S_reads' HO21.out).2.2 0 p18 q18;obtain rfl:ad16=ad18:=(by injection e18);obtain ⟨ce18,hce18,hMe18,hcc18⟩:=Kd.S_get HO21.out z26 0 p18 (by first|exact q18|exact of_decide_eq_true (by first|(with_reducible assumption)|assumption)|(have e_:=(Kd.S_reads' HO21.out).1;omega));obtain ⟨ve18_1,rfl,ge18_1⟩:=k26_openM hMe18;have hv18_1:=hcc18 1 _ rfl;rw [add_field _ _ 1 zb18] at hv18_1;replace hv18_1:=Option.some.inj (hv18_1.symm.trans hx18_1);rw [hv18_1] at ge18_1;have HL18_1:=Aside0.mk (show Kd.R Kd.string 9 _ _ _ _ ((rd_T26 t19 0).f1) from ge18_1);clear hv18_1 ge18_1;clear hcc18 hce18;have qi18:(0 < t19.length)=True:=eq_true zb18;(try rw [show ((0:Int)).toNat=0 from rfl] at hx18_0);(try rw [show 0 * 8=0 from rfl] at hx18_0);(try rw [Addr.add_zero'] at hx18_0);(try rw [show ((0:Int)).toNat=0 from rfl] at hx18_1);(try rw [show 0 * 8=0 from rfl] at hx18_1);(try rw [Addr.add_zero'] at hx18_1);(try rw [show ((0:Int)).toNat=0 from rfl] at hx18_2);(try rw [show 0 * 8=0 from rfl] at hx18_2);(try rw [Addr.add_zero'] at hx18_2);(try rw [show ((0:Int)).toNat=0 from rfl] at hx18_3);(try rw [show 0 * 8=0 from rfl] at hx18_3);(try rw [Addr.add_zero'] at hx18_3);(try rw [show ((0:Int)).toNat=0 from rfl] at hx18_4);(try rw [show 0 * 8=0 from rfl] at hx18_4);(try rw [Addr.add_zero'] at hx18_4);(try rw [show ((0:Int)).toNat=0 from rfl] at hx18_5);(try rw [show 0 * 8=0 from rfl] at hx18_5);(try rw [Addr.add_zero'] at hx18_5);(try rw [show ((0:Int)).toNat=0 from rfl] at hx18_6);(try rw [show 0 * 8=0 from rfl] at hx18_6);(try rw [Addr.add_zero'] at hx18_6);(try rw [show ((0:Int)).toNat=0 from rfl] at hx18_7);(try rw [show 0 * 8=0 from rfl] at hx18_7);(try rw [Addr.add_zero'] at hx18_7);have HR18_1:=Aside0.mk hi18_1;have HC18_1:=Aside0.mk hl18_1;clear hi18_1 hl18_1;replace p18:=eq_true p18;replace q18:=eq_true q18;have ea_:=Option.some.inj (hx16_1.symm.trans hx18_1);injection ea_ with ea_ en_ ec_;subst ea_;subst ec_;clear en_)|(go_at_call 9;(with_reducible refine (table_Right.calls k _ _ t19 true _ ?side1 ?side2 A12.out).mono ?_);(case side1=>exact zb26);(case side2=>exact (Kd.S_reads' HO21.out).2.1);rintro e w35 ⟨rfl,hb⟩;(try clear A12);replace HO21:=Aside0.mk (Kd.S_below zb24 hb);replace HO45:=Aside0.mk (Kd.S_below zb40 hb);replace HL16_1:=Aside0.mk (Kd.R_below zb37 hb);replace HL18_1:=Aside0.mk (Kd.R_below zb38 hb);replace HR16_1:=Aside0.mk (Kd.C_below zb21 hb);replace HR18_1:=Aside0.mk (Kd.C_below zb22 hb);replace HB:=Aside0.mk (below_step zb0 hb);(try clear hb))|(go_at_call 9;(refine (table_Right.calls k _ _ ([]:List (S26)) false _ ?side1 ?side2 A14.out).mono ?_);(case side1=>exact Kd.C_nil _ _);(case side2=>exact Nat.le_refl _);rintro e w36 ⟨rfl,hb⟩;(try clear A14);replace HO21:=Aside0.mk (Kd.S_below zb24 hb);replace HO45:=Aside0.mk (Kd.S_below zb40 hb);replace HL16_1:=Aside0.mk (Kd.R_below zb37 hb);replace HL18_1:=Aside0.mk (Kd.R_below zb38 hb);replace HR16_1:=Aside0.mk (Kd.C_below zb21 hb);replace HR18_1:=Aside0.mk (Kd.C_below zb22 hb);replace HB:=Aside0.mk (below_step zb0 hb);(try clear hb))|(go_at_call 11;(with_reducible refine (table_Find.calls k _ _ t19 (⟨#[98]⟩:ByteArray) t44 _ ?side1 ?side2 A22.out).mono ?_);(case side1=>exact zb26);(case side2=>exact (Kd.S_reads' HO21.out).2.1);rintro e w37 ⟨rfl,hb⟩;(try clear A22);replace HO21:=Aside0.mk (Kd.S_below zb24 hb);replace HO45:=Aside0.mk (Kd.S_below zb40 hb);replace HL16_1:=Aside0.mk (Kd.R_below zb37 hb);replace HL18_1:=Aside0.mk (Kd.R_below zb38 hb);replace HR16_1:=Aside0.mk (Kd.C_below zb21 hb);replace HR18_1:=Aside0.mk (Kd.C_below zb22 hb);replace HB:=Aside0.mk (below_step zb0 hb);(try clear hb))|(go_at_call 11;(with_reducible refine (table_Find.calls k _ _ t19 (⟨#[99]⟩:ByteArray) t42 _ ?side1 ?side2 A24.out).mono ?_);(case side1=>exact zb26);(case side2=>exact (Kd.S_reads' HO21.out).2.1);rintro e w38 ⟨rfl,hb⟩;(try clear A24);replace HO21:=Aside0.mk (Kd.S_below zb24 hb);replace HO45:=Aside0.mk (Kd.S_below zb40 hb);replace HL16_1:=Aside0.mk (Kd.R_below zb37 hb);replace HL18_1:=Aside0.mk (Kd.R_below zb38 hb);replace HR16_1:=Aside0.mk (Kd.C_below zb21 hb);replace HR18_1:=Aside0.mk (Kd.C_below zb22 hb);replace HB:=Aside0.mk (below_step zb0 hb);(try clear hb))|(go_at_call 13;(with_reducible refine (table_Named.calls _ _ t19 (⟨#[97]⟩:ByteArray) t41 _ ?side1 ?side2 A26.out).mono ?_);(case side1=>exact zb26);(case side2=>exact (Kd.S_reads' HO21.out).2.1);rintro e w39 ⟨rfl,hb⟩;(try clear A26);replace HO21:=Aside0.mk (Kd.S_below zb24 hb);replace HO45:=Aside0.mk (Kd.S_below zb40 hb);replace HL16_1:=Aside0.mk (Kd.R_below zb37 hb);replace HL18_1:=Aside0.mk (Kd.R_below zb38 hb);replace HR16_1:=Aside0.mk (Kd.C_below zb21 hb);replace HR18_1:=Aside0.mk (Kd.C_below zb22 hb);replace HB:=Aside0.mk (below_step zb0 hb);(try clear hb))|(go_at_call 19;(with_reducible refine (table_Name.calls k (⟨#[97,45,49]⟩:ByteArray) true _ A28.out).mono ?_);rintro e w' ⟨rfl,⟨nd,rfl⟩⟩;(try clear A28))|(go_at_call 19;(with_reducible refine (table_Name.calls k (⟨#[49,97]⟩:ByteArray) t40 _ A30.out).mono ?_);rintro e w' ⟨rfl,⟨nd,rfl⟩⟩;(try clear A30)))
       go_ret
       exact ⟨zb7,zb0⟩
      ·replace c29:=Bool.eq_false_iff.mpr c29
       subst c29
       rw [if_neg (show ¬ (false=true) by decide)] at H
       exact absurd ((Option.some.inj H).trans HRT.out) zb25
     ·rw [if_neg c25] at H
      have c25b0:=beq_eq_false_iff_ne.mpr c25
      have c25b1:=bne_iff_ne.mpr c25
      exact absurd ((Option.some.inj H).trans HRT.out) zb25
    ·replace c13:=Bool.eq_false_iff.mpr c13
     subst c13
     rw [if_neg (show ¬ (false=true) by decide)] at H
     exact absurd ((Option.some.inj H).trans HRT.out) zb25
   ·rw [if_neg c10] at H
    have c10b0:=beq_eq_false_iff_ne.mpr c10
    have c10b1:=bne_iff_ne.mpr c10
    exact absurd ((Option.some.inj H).trans HRT.out) zb25
  ·rw [if_neg c8] at H
   have c8b0:=beq_eq_false_iff_ne.mpr c8
   have c8b1:=bne_iff_ne.mpr c8
   exact absurd ((Option.some.inj H).trans HRT.out) zb25
 ·rw [if_neg c5] at H
  have c5b0:=beq_eq_false_iff_ne.mpr c5
  have c5b1:=bne_iff_ne.mpr c5
  exact absurd ((Option.some.inj H).trans HRT.out) zb25
mutual
def tollbarlaw09_TableBounds.j0:Nat → Int → List Int → List Int → Int → ByteArray → List ByteArray → Int → Int → Int → Int → Int → Int → Option (Bool)
 | 0,_,_,_,_,_,_,_,_,_,_,_,_=>none
 | k + 1,x1,x5,x6,x8,x367000,x367001,x367002,x367003,x367004,x367005,x367006,x367007=>(table_Right.f k (([(⟨x367000,x367001,x367002,x367003,x367004,x367005,x367006,x367007⟩:S26)]:List (S26)))).bind fun t370=>(if 0 ≤ x8 then (if x8 < (x5.length:Int) then (if x1 ≥ (rd x5 x8) then (if x8 < (x6.length:Int) then (tollbarlaw09_TableBounds.j1 k x1 (t370 != (decide (x1 ≤ (rd x6 x8))))) else (none)) else (tollbarlaw09_TableBounds.j1 k x1 (t370 != false))) else (none)) else (none))
def tollbarlaw09_TableBounds.j1:Nat → Int → Bool → Option (Bool)
 | 0,_,_=>none
 | k + 1,x1,x64=>if x64=true then (some false) else (tollbarlaw09_TableBounds.l0 k (Go.bits .and .i64 x1 31) (([]:List (S26))) (([]:List ByteArray)) 0)
def tollbarlaw09_TableBounds.l0:Nat → Int → List (S26) → List ByteArray → Int → Option (Bool)
 | 0,_,_,_,_=>none
 | k + 1,x9,x10,x11,x12=>if x12 < x9 then ((some (([(wrap64 (97 + x12)) % 256]:List Int):List Int)).bind fun y379=>(if 1 + (strOfNums y379).size ≤ 9223372036854775807 then (if x11.length < 8796093022208 then (if x10.length < 1599289640401 then (tollbarlaw09_TableBounds.l0 k x9 (x10 ++ [(⟨(⟨#[104]⟩:ByteArray) ++ (strOfNums y379),(([(⟨#[104]⟩:ByteArray) ++ (strOfNums y379)]:List ByteArray)),256,1,1,1,1,1⟩:S26)]) (x11 ++ [(⟨#[104]⟩:ByteArray) ++ (strOfNums y379)]) (wrap64 (x12 + 1))) else (none)) else (none)) else (none))) else ((table_Right.f k x10).bind fun t392=>(if x9 ≥ 1 then (if (t392 == (decide (x9 ≤ 16)))=true then ((table_Right.f k (([(⟨(⟨#[116]⟩:ByteArray),x11,256,1,1,1,1,1⟩:S26)]:List (S26)))).bind fun t396=>(some (t396 == (decide (x9 ≤ 8))))) else (some false)) else (if (t392 == false)=true then ((table_Right.f k (([(⟨(⟨#[116]⟩:ByteArray),x11,256,1,1,1,1,1⟩:S26)]:List (S26)))).bind fun t400=>(some (t400 == false))) else (some false))))
end
def tollbarlaw09_TableBounds.f (k:Nat) (a0:Int) (a1:Int):Option (Bool):=(tollbarlaw09_alive.f k).bind fun t356=>(if t356=true then ((some (([256,1,1,1,1,1]:List Int):List Int)).bind fun y357=>((some (([1048576,64,64,1048576,1048576,1048576]:List Int):List Int)).bind fun y360=>((some (([(⟨#[104]⟩:ByteArray)]:List ByteArray):List ByteArray)).bind fun y363=>(if (Int.tmod (Go.bits .and .i64 a0 1023) 6)=0 then (tollbarlaw09_TableBounds.j0 k a1 y357 y360 (Int.tmod (Go.bits .and .i64 a0 1023) 6) (⟨#[116]⟩:ByteArray) y363 a1 1 1 1 1 1) else (if (Int.tmod (Go.bits .and .i64 a0 1023) 6)=1 then (tollbarlaw09_TableBounds.j0 k a1 y357 y360 (Int.tmod (Go.bits .and .i64 a0 1023) 6) (⟨#[116]⟩:ByteArray) y363 256 a1 1 1 1 1) else (if (Int.tmod (Go.bits .and .i64 a0 1023) 6)=2 then (tollbarlaw09_TableBounds.j0 k a1 y357 y360 (Int.tmod (Go.bits .and .i64 a0 1023) 6) (⟨#[116]⟩:ByteArray) y363 256 1 a1 1 1 1) else (if (Int.tmod (Go.bits .and .i64 a0 1023) 6)=3 then (tollbarlaw09_TableBounds.j0 k a1 y357 y360 (Int.tmod (Go.bits .and .i64 a0 1023) 6) (⟨#[116]⟩:ByteArray) y363 256 1 1 a1 1 1) else (if (Int.tmod (Go.bits .and .i64 a0 1023) 6)=4 then (tollbarlaw09_TableBounds.j0 k a1 y357 y360 (Int.tmod (Go.bits .and .i64 a0 1023) 6) (⟨#[116]⟩:ByteArray) y363 256 1 1 1 a1 1) else (tollbarlaw09_TableBounds.j0 k a1 y357 y360 (Int.tmod (Go.bits .and .i64 a0 1023) 6) (⟨#[116]⟩:ByteArray) y363 256 1 1 1 1 a1))))))))) else (some false))
theorem tollbarlaw09_TableBounds.mono_l : ∀ k,(∀ y0 y1 y2 y3 y4 y5 y6 y7 y8 y9 y10 y11,LeO (tollbarlaw09_TableBounds.j0 k y0 y1 y2 y3 y4 y5 y6 y7 y8 y9 y10 y11) (tollbarlaw09_TableBounds.j0 (k + 1) y0 y1 y2 y3 y4 y5 y6 y7 y8 y9 y10 y11))∧(∀ y0 y1,LeO (tollbarlaw09_TableBounds.j1 k y0 y1) (tollbarlaw09_TableBounds.j1 (k + 1) y0 y1))∧(∀ y0 y1 y2 y3,LeO (tollbarlaw09_TableBounds.l0 k y0 y1 y2 y3) (tollbarlaw09_TableBounds.l0 (k + 1) y0 y1 y2 y3))
 | 0=>⟨fun _ _ _ _ _ _ _ _ _ _ _ _ r h=>by simp [tollbarlaw09_TableBounds.j0] at h,fun _ _ r h=>by simp [tollbarlaw09_TableBounds.j1] at h,fun _ _ _ _ r h=>by simp [tollbarlaw09_TableBounds.l0] at h⟩
 | k + 1=>by
  obtain ⟨ih0,ih1,ih2⟩:=tollbarlaw09_TableBounds.mono_l k
  refine ⟨?_,?_,?_⟩
  ·intro y0 y1 y2 y3 y4 y5 y6 y7 y8 y9 y10 y11
   unfold tollbarlaw09_TableBounds.j0
   repeat' first
   | (with_reducible exact ih0 _ _ _ _ _ _ _ _ _ _ _ _)
   | (with_reducible exact ih1 _ _)
   | (with_reducible exact ih2 _ _ _ _)
   | (with_reducible exact table_Right.mono _ _)
   | (with_reducible exact tollbarlaw09_alive.mono _)
   | (with_reducible exact LeO.refl _)
   | (with_reducible exact LeO.none _)
   | (with_reducible refine LeO.ite ?_ ?_)
   | (with_reducible refine LeO.bind ?_ (fun _=>?_))
   | exact ih0 _ _ _ _ _ _ _ _ _ _ _ _
   | exact ih1 _ _
   | exact ih2 _ _ _ _
   | exact table_Right.mono _ _
   | exact tollbarlaw09_alive.mono _
   | exact LeO.none _
   | refine LeO.ite ?_ ?_
   | refine LeO.bind ?_ (fun _=>?_)
  ·intro y0 y1
   unfold tollbarlaw09_TableBounds.j1
   repeat' first
   | (with_reducible exact ih0 _ _ _ _ _ _ _ _ _ _ _ _)
   | (with_reducible exact ih1 _ _)
   | (with_reducible exact ih2 _ _ _ _)
   | (with_reducible exact table_Right.mono _ _)
   | (with_reducible exact tollbarlaw09_alive.mono _)
   | (with_reducible exact LeO.refl _)
   | (with_reducible exact LeO.none _)
   | (with_reducible refine LeO.ite ?_ ?_)
   | (with_reducible refine LeO.bind ?_ (fun _=>?_))
   | exact ih0 _ _ _ _ _ _ _ _ _ _ _ _
   | exact ih1 _ _
   | exact ih2 _ _ _ _
   | exact table_Right.mono _ _
   | exact tollbarlaw09_alive.mono _
   | exact LeO.none _
   | refine LeO.ite ?_ ?_
   | refine LeO.bind ?_ (fun _=>?_)
  intro y0 y1 y2 y3
  unfold tollbarlaw09_TableBounds.l0
  repeat' first
  | (with_reducible exact ih0 _ _ _ _ _ _ _ _ _ _ _ _)
  | (with_reducible exact ih1 _ _)
  | (with_reducible exact ih2 _ _ _ _)
  | (with_reducible exact table_Right.mono _ _)
  | (with_reducible exact tollbarlaw09_alive.mono _)
  | (with_reducible exact LeO.refl _)
  | (with_reducible exact LeO.none _)
  | (with_reducible refine LeO.ite ?_ ?_)
  | (with_reducible refine LeO.bind ?_ (fun _=>?_))
  | exact ih0 _ _ _ _ _ _ _ _ _ _ _ _
  | exact ih1 _ _
  | exact ih2 _ _ _ _
  | exact table_Right.mono _ _
  | exact tollbarlaw09_alive.mono _
  | exact LeO.none _
  | refine LeO.ite ?_ ?_
  | refine LeO.bind ?_ (fun _=>?_)
def tollbarlaw09_TableBounds.T19:Bool × List (List Nat × List Nat):=(true,[([],[]),([0],[0]),([1],[1]),([],[]),([],[]),([],[]),([4,5],[4,5]),([6],[6]),([3,7],[3,7]),([8,2],[8]),([9],[9]),([9],[9]),([9],[9]),([11,12,9],[9,11,12]),([13,9],[9,13]),([10,14,9],[9,10,14]),([9,15],[9,15]),([2,16],[2,16])])
def tollbarlaw09_TableBounds.B19:List Nat:=[0,1,3,0,0,0,48,112,248,511,1023,1023,1023,7167,15359,32767,65535,131071]
theorem tollbarlaw09_TableBounds.tab19:rtab .any (opsOf Tryd.f7 19)=tollbarlaw09_TableBounds.T19:=by kernel_rfl
theorem tollbarlaw09_TableBounds.bits19:waitsOk tollbarlaw09_TableBounds.T19.2 tollbarlaw09_TableBounds.B19=true:=by kernel_rfl
set_option maxHeartbeats 8000000 in
set_option maxRecDepth 100000 in
theorem tollbarlaw09_TableBounds.calls (k:Nat) (a0:Int) (a1:Int) (r:Bool) (w:World) (h:tollbarlaw09_TableBounds.f k a0 a1=some r) (hr:r=true) (ht:Tabs w) :
 Calls Tryd.prog 7 #[.int .i64 a0,.int .i64 a1] w fun e w' => e = .returned (.bool r)∧Below w.heap.size w w' := by
 have HTB:=Aside0.mk ht
 clear ht
 have HRT:=Aside0.mk hr
 clear hr
 have hu26:=Tryd.underlying26
 have HB:=Aside0.mk (Below.refl w.heap.size w)
 unfold tollbarlaw09_TableBounds.f at h
 have H:=h
 clear h
 replace H:=Option.bind_eq_some_iff.mp H
 obtain ⟨t356,A30,H⟩:=H
 try dsimp only at H
 have A3:=Aside0.mk A30
 clear A30
 by_cases c4:t356=true;rotate_left
 ·replace c4:=Bool.eq_false_iff.mpr c4
  subst c4
  rw [if_neg (show ¬ (false=true) by decide)] at H
  exact absurd ((Option.some.inj H).trans HRT.out) zb25
 subst c4
 rw [if_pos rfl] at H
 obtain ⟨y357,hy357⟩ : ∃ y_:List Int,y_=(([256,1,1,1,1,1]:List Int)):=⟨_,rfl⟩
 replace H:((some (([1048576,64,64,1048576,1048576,1048576]:List Int):List Int)).bind fun y360=>((some (([(⟨#[104]⟩:ByteArray)]:List ByteArray):List ByteArray)).bind fun y81=>(if (Int.tmod (Go.bits .and .i64 a0 1023) 6)=0 then (tollbarlaw09_TableBounds.j0 k a1 y357 y360 (Int.tmod (Go.bits .and .i64 a0 1023) 6) (⟨#[116]⟩:ByteArray) y81 a1 1 1 1 1 1) else (if (Int.tmod (Go.bits .and .i64 a0 1023) 6)=1 then (tollbarlaw09_TableBounds.j0 k a1 y357 y360 (Int.tmod (Go.bits .and .i64 a0 1023) 6) (⟨#[116]⟩:ByteArray) y81 256 a1 1 1 1 1) else (if (Int.tmod (Go.bits .and .i64 a0 1023) 6)=2 then (tollbarlaw09_TableBounds.j0 k a1 y357 y360 (Int.tmod (Go.bits .and .i64 a0 1023) 6) (⟨#[116]⟩:ByteArray) y81 256 1 a1 1 1 1) else (if (Int.tmod (Go.bits .and .i64 a0 1023) 6)=3 then (tollbarlaw09_TableBounds.j0 k a1 y357 y360 (Int.tmod (Go.bits .and .i64 a0 1023) 6) (⟨#[116]⟩:ByteArray) y81 256 1 1 a1 1 1) else (if (Int.tmod (Go.bits .and .i64 a0 1023) 6)=4 then (tollbarlaw09_TableBounds.j0 k a1 y357 y360 (Int.tmod (Go.bits .and .i64 a0 1023) 6) (⟨#[116]⟩:ByteArray) y81 256 1 1 1 a1 1) else (tollbarlaw09_TableBounds.j0 k a1 y357 y360 (Int.tmod (Go.bits .and .i64 a0 1023) 6) (⟨#[116]⟩:ByteArray) y81 256 1 1 1 1 a1))))))))=some r:=by first|(rw [hy357];with_reducible exact H)|(have H2_:=(Option.bind_some _ _).symm.trans H;rw [hy357];with_reducible exact H2_)|(have H2_:=(Option.bind_some _ _).symm.trans H;with_reducible exact H2_)|with_reducible exact H|(rw [hy357];exact H)|exact H
 have Ny357:=Aside0.mk hy357
 clear hy357
 obtain ⟨y360,hy360⟩ : ∃ y_:List Int,y_=(([1048576,64,64,1048576,1048576,1048576]:List Int)):=⟨_,rfl⟩
 replace H:((some (([(⟨#[104]⟩:ByteArray)]:List ByteArray):List ByteArray)).bind fun y81=>(if (Int.tmod (Go.bits .and .i64 a0 1023) 6)=0 then (tollbarlaw09_TableBounds.j0 k a1 y357 y360 (Int.tmod (Go.bits .and .i64 a0 1023) 6) (⟨#[116]⟩:ByteArray) y81 a1 1 1 1 1 1) else (if (Int.tmod (Go.bits .and .i64 a0 1023) 6)=1 then (tollbarlaw09_TableBounds.j0 k a1 y357 y360 (Int.tmod (Go.bits .and .i64 a0 1023) 6) (⟨#[116]⟩:ByteArray) y81 256 a1 1 1 1 1) else (if (Int.tmod (Go.bits .and .i64 a0 1023) 6)=2 then (tollbarlaw09_TableBounds.j0 k a1 y357 y360 (Int.tmod (Go.bits .and .i64 a0 1023) 6) (⟨#[116]⟩:ByteArray) y81 256 1 a1 1 1 1) else (if (Int.tmod (Go.bits .and .i64 a0 1023) 6)=3 then (tollbarlaw09_TableBounds.j0 k a1 y357 y360 (Int.tmod (Go.bits .and .i64 a0 1023) 6) (⟨#[116]⟩:ByteArray) y81 256 1 1 a1 1 1) else (if (Int.tmod (Go.bits .and .i64 a0 1023) 6)=4 then (tollbarlaw09_TableBounds.j0 k a1 y357 y360 (Int.tmod (Go.bits .and .i64 a0 1023) 6) (⟨#[116]⟩:ByteArray) y81 256 1 1 1 a1 1) else (tollbarlaw09_TableBounds.j0 k a1 y357 y360 (Int.tmod (Go.bits .and .i64 a0 1023) 6) (⟨#[116]⟩:ByteArray) y81 256 1 1 1 1 a1)))))))=some r:=by first|(rw [hy360];with_reducible exact H)|(have H2_:=(Option.bind_some _ _).symm.trans H;rw [hy360];with_reducible exact H2_)|(have H2_:=(Option.bind_some _ _).symm.trans H;with_reducible exact H2_)|with_reducible exact H|(rw [hy360];exact H)|exact H
 have Ny360:=Aside0.mk hy360
 clear hy360
 obtain ⟨y81,hy81⟩ : ∃ y_:List ByteArray,y_=(([(⟨#[104]⟩:ByteArray)]:List ByteArray)):=⟨_,rfl⟩
 replace H:(if (Int.tmod (Go.bits .and .i64 a0 1023) 6)=0 then (tollbarlaw09_TableBounds.j0 k a1 y357 y360 (Int.tmod (Go.bits .and .i64 a0 1023) 6) (⟨#[116]⟩:ByteArray) y81 a1 1 1 1 1 1) else (if (Int.tmod (Go.bits .and .i64 a0 1023) 6)=1 then (tollbarlaw09_TableBounds.j0 k a1 y357 y360 (Int.tmod (Go.bits .and .i64 a0 1023) 6) (⟨#[116]⟩:ByteArray) y81 256 a1 1 1 1 1) else (if (Int.tmod (Go.bits .and .i64 a0 1023) 6)=2 then (tollbarlaw09_TableBounds.j0 k a1 y357 y360 (Int.tmod (Go.bits .and .i64 a0 1023) 6) (⟨#[116]⟩:ByteArray) y81 256 1 a1 1 1 1) else (if (Int.tmod (Go.bits .and .i64 a0 1023) 6)=3 then (tollbarlaw09_TableBounds.j0 k a1 y357 y360 (Int.tmod (Go.bits .and .i64 a0 1023) 6) (⟨#[116]⟩:ByteArray) y81 256 1 1 a1 1 1) else (if (Int.tmod (Go.bits .and .i64 a0 1023) 6)=4 then (tollbarlaw09_TableBounds.j0 k a1 y357 y360 (Int.tmod (Go.bits .and .i64 a0 1023) 6) (⟨#[116]⟩:ByteArray) y81 256 1 1 1 a1 1) else (tollbarlaw09_TableBounds.j0 k a1 y357 y360 (Int.tmod (Go.bits .and .i64 a0 1023) 6) (⟨#[116]⟩:ByteArray) y81 256 1 1 1 1 a1))))))=some r:=by first|(rw [hy81];with_reducible exact H)|(have H2_:=(Option.bind_some _ _).symm.trans H;rw [hy81];with_reducible exact H2_)|(have H2_:=(Option.bind_some _ _).symm.trans H;with_reducible exact H2_)|with_reducible exact H|(rw [hy81];exact H)|exact H
 have Ny81:=Aside0.mk hy81
 clear hy81
 have HC5:=Aside0.mk H
 clear H
 go_enter Tryd.func7,Tryd.ntmps7
 go_upto_block 0 with (first|((with_reducible refine gate_callee (f:=8) rfl ?_);refine goesL_ (some 15) rfl rfl Tryd.func8 zb20 rfl #[] rfl zb3 ?_;(with_reducible refine (tollbarlaw09_alive.calls k  true _ A3.out rfl ?hT).mono ?_);(case hT=>exact HTB.out.below zb9);rintro e w6 ⟨rfl,hb⟩;refine ⟨_,rfl,?_⟩;have n0_:=Aside0.mk (below_step zb0 hb);clear HB;have HB:=n0_;clear n0_;(try clear hb);(try clear hb2);(try clear hk);(try clear hi))|((with_reducible refine gate_dst (N:=17) rfl ?_);(try (refine gate_guard (by rfl) ?_;dsimp only));refine Kd.R_lit (Kd.int .i64) _ 3 ?hg (N:=17) ?hd (xs:=([256,1,1,1,1,1]:List Int)) (inner:=[.int .i64 256,.int .i64 1,.int .i64 1,.int .i64 1,.int .i64 1,.int .i64 1]) (ok:=fun _=>True) (okp:=fun _=>True) ?hr ?hp (fun _ hk=>hk) trivial (Below.refl _ _) (Nat.le_refl _) zb30 ?_;(case hd=>rfl);(case hg=>rfl);(case hr=>first|(go_simp;done)|(go_simp;rfl));(case hp=>exact (Reps.one (show Kd.M (Kd.int .i64) _ _ _ 256 [.int .i64 256] from rfl) (Reps.one (show Kd.M (Kd.int .i64) _ _ _ 1 [.int .i64 1] from rfl) (Reps.one (show Kd.M (Kd.int .i64) _ _ _ 1 [.int .i64 1] from rfl) (Reps.one (show Kd.M (Kd.int .i64) _ _ _ 1 [.int .i64 1] from rfl) (Reps.one (show Kd.M (Kd.int .i64) _ _ _ 1 [.int .i64 1] from rfl) (Reps.one (show Kd.M (Kd.int .i64) _ _ _ 1 [.int .i64 1] from rfl) (Reps.none _ _))))))));intro v358 w7 ho8 hb hg_ hnew_;clear hg_ hnew_;(first|rw [← Ny357.out] at ho8|(simp only [Int.reduceToNat] at ho8;rw [← Ny357.out] at ho8));have n0_:=Aside0.mk (Kd.R_lower ho8 (below_size zb0));have n1_:=Aside0.mk (below_step zb0 hb);clear HB;have HO359:=n0_;have HB:=n1_;clear n0_ n1_;clear hb ho8)|((with_reducible refine gate_dst (N:=18) rfl ?_);(try (refine gate_guard (by rfl) ?_;dsimp only));refine Kd.R_lit (Kd.int .i64) _ 3 ?hg (N:=18) ?hd (xs:=([1048576,64,64,1048576,1048576,1048576]:List Int)) (inner:=[.int .i64 1048576,.int .i64 64,.int .i64 64,.int .i64 1048576,.int .i64 1048576,.int .i64 1048576]) (ok:=fun _=>True) (okp:=fun _=>True) ?hr ?hp (fun _ hk=>hk) trivial (Below.refl _ _) (Nat.le_refl _) zb30 ?_;(case hd=>rfl);(case hg=>rfl);(case hr=>first|(go_simp;done)|(go_simp;rfl));(case hp=>exact (Reps.one (show Kd.M (Kd.int .i64) _ _ _ 1048576 [.int .i64 1048576] from rfl) (Reps.one (show Kd.M (Kd.int .i64) _ _ _ 64 [.int .i64 64] from rfl) (Reps.one (show Kd.M (Kd.int .i64) _ _ _ 64 [.int .i64 64] from rfl) (Reps.one (show Kd.M (Kd.int .i64) _ _ _ 1048576 [.int .i64 1048576] from rfl) (Reps.one (show Kd.M (Kd.int .i64) _ _ _ 1048576 [.int .i64 1048576] from rfl) (Reps.one (show Kd.M (Kd.int .i64) _ _ _ 1048576 [.int .i64 1048576] from rfl) (Reps.none _ _))))))));intro v361 w9 ho10 hb hg_ hnew_;clear hg_ hnew_;(first|rw [← Ny360.out] at ho10|(simp only [Int.reduceToNat] at ho10;rw [← Ny360.out] at ho10));have n0_:=Aside0.mk (Kd.R_elder' zb43 (Kd.R_base ho10) hb);have n1_:=Aside0.mk (Kd.R_lower (Kd.R_new' ho10 (Kd.R_lt zb43)) (below_size zb0));have n2_:=Aside0.mk (below_step zb0 hb);clear HO359;clear HB;have HO359:=n0_;have HO362:=n1_;have HB:=n2_;clear n0_ n1_ n2_;clear hb ho10)|((with_reducible refine gate_dst (N:=19) rfl ?_);(try (refine gate_guard (by rfl) ?_;dsimp only));refine Kd.R_lit Kd.string _ 9 ?hg (N:=19) ?hd (xs:=([(⟨#[104]⟩:ByteArray)]:List ByteArray)) (inner:=[.string (⟨#[104]⟩:ByteArray)]) (ok:=fun _=>True) (okp:=fun _=>True) ?hr ?hp (fun _ hk=>hk) trivial (Below.refl _ _) (Nat.le_refl _) zb30 ?_;(case hd=>rfl);(case hg=>rfl);(case hr=>first|(go_simp;done)|(go_simp;rfl));(case hp=>exact (Reps.one (show Kd.M Kd.string _ _ _ (⟨#[104]⟩:ByteArray) [.string (⟨#[104]⟩:ByteArray)] from rfl) (Reps.none _ _)));intro v364 w11 ho12 hb hg_ hnew_;clear hg_ hnew_;(first|rw [← Ny81.out] at ho12|(simp only [Int.reduceToNat] at ho12;rw [← Ny81.out] at ho12));have n0_:=Aside0.mk (Kd.R_below zb43 hb);have n1_:=Aside0.mk (Kd.R_below (by (with_reducible repeat (first|apply Kd.R_alloc|apply Kd.R_drewN|apply Kd.R_drew));exact HO362.out) hb);have n2_:=Aside0.mk (Kd.R_lower ho12 (below_size zb0));have n3_:=Aside0.mk (below_step zb0 hb);clear HO359;clear HO362;clear HB;have HO359:=n0_;have HO362:=n1_;have HO365:=n2_;have HB:=n3_;clear n0_ n1_ n2_ n3_;clear hb ho12;obtain ⟨Ao13,co13,eo13⟩:=Kd.R_slice HO365.out;subst eo13)|((with_reducible refine gate_dst (N:=7) rfl ?_);(try (refine gate_guard (by rfl) ?_;dsimp only));refine box_event ?hg (N:=7) ?hd (cs:=#[.string (⟨#[]⟩:ByteArray),.slice none 0 0,.int .i64 0,.int .i64 0,.int .i64 0,.int .i64 0,.int .i64 0,.int .i64 0]) (t:=26) ?hr ?_;(case hd=>rfl);(case hg=>rfl);(case hr=>first|(go_simp;done)|(go_simp;rfl));intro gb79 hg w14 hbox hb;have n0_:=Aside0.mk (Kd.R_below zb43 hb);have n1_:=Aside0.mk (Kd.R_below (by (with_reducible repeat (first|apply Kd.R_alloc|apply Kd.R_drewN|apply Kd.R_drew));exact HO362.out) hb);have n2_:=Aside0.mk (Kd.R_below (by (with_reducible repeat (first|apply Kd.R_alloc|apply Kd.R_drewN|apply Kd.R_drew));exact HO365.out) hb);have n3_:=Aside0.mk (below_step zb0 hb);have n4_:=Aside0.mk (hbox);have n5_:=zG hg zb0;have n6_:=zG hg zb0;clear HO359;clear HO362;clear HO365;clear HB;have HO359:=n0_;have HO362:=n1_;have HO365:=n2_;have HB:=n3_;have BK79:=n4_;have GW79:=n5_;have GE79:=n6_;clear n0_ n1_ n2_ n3_ n4_ n5_ n6_;clear hb hbox hg;have hcz15_0:w14.cell? ⟨gb79,0,none⟩=some (.string (⟨#[]⟩:ByteArray)):=(blk_cell BK79.out 0).trans rfl;have hcz15_1:w14.cell? ⟨gb79,1,none⟩=some (.slice none 0 0):=(blk_cell BK79.out 1).trans rfl;have hcz15_2:w14.cell? ⟨gb79,2,none⟩=some (.int .i64 0):=(blk_cell BK79.out 2).trans rfl;have hcz15_3:w14.cell? ⟨gb79,3,none⟩=some (.int .i64 0):=(blk_cell BK79.out 3).trans rfl;have hcz15_4:w14.cell? ⟨gb79,4,none⟩=some (.int .i64 0):=(blk_cell BK79.out 4).trans rfl;have hcz15_5:w14.cell? ⟨gb79,5,none⟩=some (.int .i64 0):=(blk_cell BK79.out 5).trans rfl;have hcz15_6:w14.cell? ⟨gb79,6,none⟩=some (.int .i64 0):=(blk_cell BK79.out 6).trans rfl;have hcz15_7:w14.cell? ⟨gb79,7,none⟩=some (.int .i64 0):=(blk_cell BK79.out 7).trans rfl;have hfz15_0:=blk_frozen BK79.out 0;have hfz15_1:=blk_frozen BK79.out 1;have hfz15_2:=blk_frozen BK79.out 2;have hfz15_3:=blk_frozen BK79.out 3;have hfz15_4:=blk_frozen BK79.out 4;have hfz15_5:=blk_frozen BK79.out 5;have hfz15_6:=blk_frozen BK79.out 6;have hfz15_7:=blk_frozen BK79.out 7))
 (try simp only [Act.put,zqA,zqB,zqC])
 go_cut [] (fun wc => ∃ (kq:Nat) (x83_4:Int) (x84_4:Int) (x98_4:Int) (x99_4:Int) (x100_4:Int) (x101_4:Int),Aside0 (tollbarlaw09_TableBounds.j0 kq a1 y357 y360 (Int.tmod (Go.bits .and .i64 a0 1023) 6) (⟨#[116]⟩:ByteArray) y81 x83_4 x84_4 x98_4 x99_4 x100_4 x101_4=some r)∧Aside0 (kq ≤ k)∧Aside0 (Kd.R (Kd.int .i64) 3 wc w.heap.size (fun k_=>some k_ ≠ (v361:Value).ownBlock) v358 y357)∧Aside0 (Kd.R (Kd.int .i64) 3 wc w.heap.size (fun k_=>some k_ ≠ (v358:Value).ownBlock) v361 y360)∧Aside0 (Kd.R Kd.string 9 wc w.heap.size (fun _=>True) (.slice Ao13 y81.length co13) y81)∧Aside0 (wc.heap[gb79]? = some (.cells #[.string (⟨#[116]⟩:ByteArray),(.slice Ao13 y81.length co13),.int .i64 x83_4,.int .i64 x84_4,.int .i64 x98_4,.int .i64 x99_4,.int .i64 x100_4,.int .i64 x101_4] 26 (0,0)))∧Aside0 (Below w.heap.size w wc))
 case first =>
  have H:=HC5.out
  clear HC5
  by_cases c16:(Int.tmod (Go.bits .and .i64 a0 1023) 6)=0
  ·rw [if_pos c16] at H
   have c16b0:=beq_iff_eq.mpr c16
   have c16b1:=bne_eq_false_iff_eq.mpr c16
   clear c16
   (first|rw [c16b0]|(simp only [i64_w,i32_w];rw [c16b0])|rw [c16b1]|skip)
   have H' := Aside0.mk H
   clear H
   have hcz17_0:w14.cell? ⟨gb79,0,none⟩=some (.string (⟨#[]⟩:ByteArray)):=(blk_cell BK79.out 0).trans rfl
   have hcz17_1:w14.cell? ⟨gb79,1,none⟩=some (.slice none 0 0):=(blk_cell BK79.out 1).trans rfl
   have hcz17_2:w14.cell? ⟨gb79,2,none⟩=some (.int .i64 0):=(blk_cell BK79.out 2).trans rfl
   have hcz17_3:w14.cell? ⟨gb79,3,none⟩=some (.int .i64 0):=(blk_cell BK79.out 3).trans rfl
   have hcz17_4:w14.cell? ⟨gb79,4,none⟩=some (.int .i64 0):=(blk_cell BK79.out 4).trans rfl
   have hcz17_5:w14.cell? ⟨gb79,5,none⟩=some (.int .i64 0):=(blk_cell BK79.out 5).trans rfl
   have hcz17_6:w14.cell? ⟨gb79,6,none⟩=some (.int .i64 0):=(blk_cell BK79.out 6).trans rfl
   have hcz17_7:w14.cell? ⟨gb79,7,none⟩=some (.int .i64 0):=(blk_cell BK79.out 7).trans rfl
   have hfz17_0:=blk_frozen BK79.out 0
   have hfz17_1:=blk_frozen BK79.out 1
   have hfz17_2:=blk_frozen BK79.out 2
   have hfz17_3:=blk_frozen BK79.out 3
   have hfz17_4:=blk_frozen BK79.out 4
   have hfz17_5:=blk_frozen BK79.out 5
   have hfz17_6:=blk_frozen BK79.out 6
   have hfz17_7:=blk_frozen BK79.out 7
   go_wp2
   go_meet
   case rel=>exact ⟨_,(a1),(1),(1),(1),(1),(1),H',⟨zb41⟩,⟨by (with_reducible repeat (first|apply Kd.R_alloc|apply Kd.R_drewN|apply Kd.R_drew));exact Kd.R_mono (Kd.R_far (p:=⟨gb79,2,none⟩) (Kd.R_far (p:=⟨gb79,7,none⟩) (Kd.R_far (p:=⟨gb79,6,none⟩) (Kd.R_far (p:=⟨gb79,5,none⟩) (Kd.R_far (p:=⟨gb79,4,none⟩) (Kd.R_far (p:=⟨gb79,3,none⟩) (Kd.R_far (p:=⟨gb79,2,none⟩) (Kd.R_far (p:=⟨gb79,1,none⟩) (Kd.R_far (p:=⟨gb79,0,none⟩) (Kd.R_types HO359.out BK79.out (by decide)) (fun _ hk=>hk.2) (.string (⟨#[116]⟩:ByteArray))) (fun _ hk=>hk.2) (.slice Ao13 y81.length co13)) (fun _ hk=>hk.2) (.int .i64 256)) (fun _ hk=>hk.2) (.int .i64 1)) (fun _ hk=>hk.2) (.int .i64 1)) (fun _ hk=>hk.2) (.int .i64 1)) (fun _ hk=>hk.2) (.int .i64 1)) (fun _ hk=>hk.2) (.int .i64 1)) (fun _ hk=>hk.2) (.int .i64 a1)) (fun _ hk=>hk.1.2)⟩,⟨by (with_reducible repeat (first|apply Kd.R_alloc|apply Kd.R_drewN|apply Kd.R_drew));exact Kd.R_mono (Kd.R_far (p:=⟨gb79,2,none⟩) (Kd.R_far (p:=⟨gb79,7,none⟩) (Kd.R_far (p:=⟨gb79,6,none⟩) (Kd.R_far (p:=⟨gb79,5,none⟩) (Kd.R_far (p:=⟨gb79,4,none⟩) (Kd.R_far (p:=⟨gb79,3,none⟩) (Kd.R_far (p:=⟨gb79,2,none⟩) (Kd.R_far (p:=⟨gb79,1,none⟩) (Kd.R_far (p:=⟨gb79,0,none⟩) (Kd.R_types HO362.out BK79.out (by decide)) (fun _ hk=>hk.2) (.string (⟨#[116]⟩:ByteArray))) (fun _ hk=>hk.2) (.slice Ao13 y81.length co13)) (fun _ hk=>hk.2) (.int .i64 256)) (fun _ hk=>hk.2) (.int .i64 1)) (fun _ hk=>hk.2) (.int .i64 1)) (fun _ hk=>hk.2) (.int .i64 1)) (fun _ hk=>hk.2) (.int .i64 1)) (fun _ hk=>hk.2) (.int .i64 1)) (fun _ hk=>hk.2) (.int .i64 a1)) (fun _ hk=>hk.1.2)⟩,⟨by (with_reducible repeat (first|apply Kd.R_alloc|apply Kd.R_drewN|apply Kd.R_drew));exact Kd.R_mono (Kd.R_far (p:=⟨gb79,2,none⟩) (Kd.R_far (p:=⟨gb79,7,none⟩) (Kd.R_far (p:=⟨gb79,6,none⟩) (Kd.R_far (p:=⟨gb79,5,none⟩) (Kd.R_far (p:=⟨gb79,4,none⟩) (Kd.R_far (p:=⟨gb79,3,none⟩) (Kd.R_far (p:=⟨gb79,2,none⟩) (Kd.R_far (p:=⟨gb79,1,none⟩) (Kd.R_far (p:=⟨gb79,0,none⟩) (Kd.R_types HO365.out BK79.out (by decide)) (fun _ hk=>hk.2) (.string (⟨#[116]⟩:ByteArray))) (fun _ hk=>hk.2) (.slice Ao13 y81.length co13)) (fun _ hk=>hk.2) (.int .i64 256)) (fun _ hk=>hk.2) (.int .i64 1)) (fun _ hk=>hk.2) (.int .i64 1)) (fun _ hk=>hk.2) (.int .i64 1)) (fun _ hk=>hk.2) (.int .i64 1)) (fun _ hk=>hk.2) (.int .i64 1)) (fun _ hk=>hk.2) (.int .i64 a1)) (fun _ hk=>trivial)⟩,⟨by (with_reducible repeat (first|refine blk_drewN ?_ _|refine blk_drew ?_|refine blk_alloc ?_ _));refine blk_put (cs:=#[.string (⟨#[116]⟩:ByteArray),.slice Ao13 y81.length co13,.int .i64 256,.int .i64 1,.int .i64 1,.int .i64 1,.int .i64 1,.int .i64 1]) ?_ 2 _ rfl;(with_reducible repeat (first|refine blk_drewN ?_ _|refine blk_drew ?_|refine blk_alloc ?_ _));refine blk_put (cs:=#[.string (⟨#[116]⟩:ByteArray),.slice Ao13 y81.length co13,.int .i64 256,.int .i64 1,.int .i64 1,.int .i64 1,.int .i64 1,.int .i64 0]) ?_ 7 _ rfl;(with_reducible repeat (first|refine blk_drewN ?_ _|refine blk_drew ?_|refine blk_alloc ?_ _));refine blk_put (cs:=#[.string (⟨#[116]⟩:ByteArray),.slice Ao13 y81.length co13,.int .i64 256,.int .i64 1,.int .i64 1,.int .i64 1,.int .i64 0,.int .i64 0]) ?_ 6 _ rfl;(with_reducible repeat (first|refine blk_drewN ?_ _|refine blk_drew ?_|refine blk_alloc ?_ _));refine blk_put (cs:=#[.string (⟨#[116]⟩:ByteArray),.slice Ao13 y81.length co13,.int .i64 256,.int .i64 1,.int .i64 1,.int .i64 0,.int .i64 0,.int .i64 0]) ?_ 5 _ rfl;(with_reducible repeat (first|refine blk_drewN ?_ _|refine blk_drew ?_|refine blk_alloc ?_ _));refine blk_put (cs:=#[.string (⟨#[116]⟩:ByteArray),.slice Ao13 y81.length co13,.int .i64 256,.int .i64 1,.int .i64 0,.int .i64 0,.int .i64 0,.int .i64 0]) ?_ 4 _ rfl;(with_reducible repeat (first|refine blk_drewN ?_ _|refine blk_drew ?_|refine blk_alloc ?_ _));refine blk_put (cs:=#[.string (⟨#[116]⟩:ByteArray),.slice Ao13 y81.length co13,.int .i64 256,.int .i64 0,.int .i64 0,.int .i64 0,.int .i64 0,.int .i64 0]) ?_ 3 _ rfl;(with_reducible repeat (first|refine blk_drewN ?_ _|refine blk_drew ?_|refine blk_alloc ?_ _));refine blk_put (cs:=#[.string (⟨#[116]⟩:ByteArray),.slice Ao13 y81.length co13,.int .i64 0,.int .i64 0,.int .i64 0,.int .i64 0,.int .i64 0,.int .i64 0]) ?_ 2 _ rfl;(with_reducible repeat (first|refine blk_drewN ?_ _|refine blk_drew ?_|refine blk_alloc ?_ _));refine blk_put (cs:=#[.string (⟨#[116]⟩:ByteArray),.slice none 0 0,.int .i64 0,.int .i64 0,.int .i64 0,.int .i64 0,.int .i64 0,.int .i64 0]) ?_ 1 _ rfl;(with_reducible repeat (first|refine blk_drewN ?_ _|refine blk_drew ?_|refine blk_alloc ?_ _));refine blk_put (cs:=#[.string (⟨#[]⟩:ByteArray),.slice none 0 0,.int .i64 0,.int .i64 0,.int .i64 0,.int .i64 0,.int .i64 0,.int .i64 0]) ?_ 0 _ rfl;(with_reducible repeat (first|refine blk_drewN ?_ _|refine blk_drew ?_|refine blk_alloc ?_ _));exact BK79.out⟩,⟨zb2⟩⟩
  rw [if_neg c16] at H
  have c16b0:=beq_eq_false_iff_ne.mpr c16
  have c16b1:=bne_iff_ne.mpr c16
  (first|rw [c16b0]|(simp only [i64_w,i32_w];rw [c16b0])|rw [c16b1]|skip)
  by_cases c18:(Int.tmod (Go.bits .and .i64 a0 1023) 6)=1
  ·rw [if_pos c18] at H
   have c18b0:=beq_iff_eq.mpr c18
   have c18b1:=bne_eq_false_iff_eq.mpr c18
   clear c18
   have H' := Aside0.mk H
   clear H
   have hcz19_0:w14.cell? ⟨gb79,0,none⟩=some (.string (⟨#[]⟩:ByteArray)):=(blk_cell BK79.out 0).trans rfl
   have hcz19_1:w14.cell? ⟨gb79,1,none⟩=some (.slice none 0 0):=(blk_cell BK79.out 1).trans rfl
   have hcz19_2:w14.cell? ⟨gb79,2,none⟩=some (.int .i64 0):=(blk_cell BK79.out 2).trans rfl
   have hcz19_3:w14.cell? ⟨gb79,3,none⟩=some (.int .i64 0):=(blk_cell BK79.out 3).trans rfl
   have hcz19_4:w14.cell? ⟨gb79,4,none⟩=some (.int .i64 0):=(blk_cell BK79.out 4).trans rfl
   have hcz19_5:w14.cell? ⟨gb79,5,none⟩=some (.int .i64 0):=(blk_cell BK79.out 5).trans rfl
   have hcz19_6:w14.cell? ⟨gb79,6,none⟩=some (.int .i64 0):=(blk_cell BK79.out 6).trans rfl
   have hcz19_7:w14.cell? ⟨gb79,7,none⟩=some (.int .i64 0):=(blk_cell BK79.out 7).trans rfl
   have hfz19_0:=blk_frozen BK79.out 0
   have hfz19_1:=blk_frozen BK79.out 1
   have hfz19_2:=blk_frozen BK79.out 2
   have hfz19_3:=blk_frozen BK79.out 3
   have hfz19_4:=blk_frozen BK79.out 4
   have hfz19_5:=blk_frozen BK79.out 5
   have hfz19_6:=blk_frozen BK79.out 6
   have hfz19_7:=blk_frozen BK79.out 7
   go_wp2
   go_meet
   case rel=>exact ⟨_,(256),(a1),(1),(1),(1),(1),H',⟨zb41⟩,⟨by (with_reducible repeat (first|apply Kd.R_alloc|apply Kd.R_drewN|apply Kd.R_drew));exact Kd.R_mono (Kd.R_far (p:=⟨gb79,3,none⟩) (Kd.R_far (p:=⟨gb79,7,none⟩) (Kd.R_far (p:=⟨gb79,6,none⟩) (Kd.R_far (p:=⟨gb79,5,none⟩) (Kd.R_far (p:=⟨gb79,4,none⟩) (Kd.R_far (p:=⟨gb79,3,none⟩) (Kd.R_far (p:=⟨gb79,2,none⟩) (Kd.R_far (p:=⟨gb79,1,none⟩) (Kd.R_far (p:=⟨gb79,0,none⟩) (Kd.R_types HO359.out BK79.out (by decide)) (fun _ hk=>hk.2) (.string (⟨#[116]⟩:ByteArray))) (fun _ hk=>hk.2) (.slice Ao13 y81.length co13)) (fun _ hk=>hk.2) (.int .i64 256)) (fun _ hk=>hk.2) (.int .i64 1)) (fun _ hk=>hk.2) (.int .i64 1)) (fun _ hk=>hk.2) (.int .i64 1)) (fun _ hk=>hk.2) (.int .i64 1)) (fun _ hk=>hk.2) (.int .i64 1)) (fun _ hk=>hk.2) (.int .i64 a1)) (fun _ hk=>hk.1.2)⟩,⟨by (with_reducible repeat (first|apply Kd.R_alloc|apply Kd.R_drewN|apply Kd.R_drew));exact Kd.R_mono (Kd.R_far (p:=⟨gb79,3,none⟩) (Kd.R_far (p:=⟨gb79,7,none⟩) (Kd.R_far (p:=⟨gb79,6,none⟩) (Kd.R_far (p:=⟨gb79,5,none⟩) (Kd.R_far (p:=⟨gb79,4,none⟩) (Kd.R_far (p:=⟨gb79,3,none⟩) (Kd.R_far (p:=⟨gb79,2,none⟩) (Kd.R_far (p:=⟨gb79,1,none⟩) (Kd.R_far (p:=⟨gb79,0,none⟩) (Kd.R_types HO362.out BK79.out (by decide)) (fun _ hk=>hk.2) (.string (⟨#[116]⟩:ByteArray))) (fun _ hk=>hk.2) (.slice Ao13 y81.length co13)) (fun _ hk=>hk.2) (.int .i64 256)) (fun _ hk=>hk.2) (.int .i64 1)) (fun _ hk=>hk.2) (.int .i64 1)) (fun _ hk=>hk.2) (.int .i64 1)) (fun _ hk=>hk.2) (.int .i64 1)) (fun _ hk=>hk.2) (.int .i64 1)) (fun _ hk=>hk.2) (.int .i64 a1)) (fun _ hk=>hk.1.2)⟩,⟨by (with_reducible repeat (first|apply Kd.R_alloc|apply Kd.R_drewN|apply Kd.R_drew));exact Kd.R_mono (Kd.R_far (p:=⟨gb79,3,none⟩) (Kd.R_far (p:=⟨gb79,7,none⟩) (Kd.R_far (p:=⟨gb79,6,none⟩) (Kd.R_far (p:=⟨gb79,5,none⟩) (Kd.R_far (p:=⟨gb79,4,none⟩) (Kd.R_far (p:=⟨gb79,3,none⟩) (Kd.R_far (p:=⟨gb79,2,none⟩) (Kd.R_far (p:=⟨gb79,1,none⟩) (Kd.R_far (p:=⟨gb79,0,none⟩) (Kd.R_types HO365.out BK79.out (by decide)) (fun _ hk=>hk.2) (.string (⟨#[116]⟩:ByteArray))) (fun _ hk=>hk.2) (.slice Ao13 y81.length co13)) (fun _ hk=>hk.2) (.int .i64 256)) (fun _ hk=>hk.2) (.int .i64 1)) (fun _ hk=>hk.2) (.int .i64 1)) (fun _ hk=>hk.2) (.int .i64 1)) (fun _ hk=>hk.2) (.int .i64 1)) (fun _ hk=>hk.2) (.int .i64 1)) (fun _ hk=>hk.2) (.int .i64 a1)) (fun _ hk=>trivial)⟩,⟨by (with_reducible repeat (first|refine blk_drewN ?_ _|refine blk_drew ?_|refine blk_alloc ?_ _));refine blk_put (cs:=#[.string (⟨#[116]⟩:ByteArray),.slice Ao13 y81.length co13,.int .i64 256,.int .i64 1,.int .i64 1,.int .i64 1,.int .i64 1,.int .i64 1]) ?_ 3 _ rfl;(with_reducible repeat (first|refine blk_drewN ?_ _|refine blk_drew ?_|refine blk_alloc ?_ _));refine blk_put (cs:=#[.string (⟨#[116]⟩:ByteArray),.slice Ao13 y81.length co13,.int .i64 256,.int .i64 1,.int .i64 1,.int .i64 1,.int .i64 1,.int .i64 0]) ?_ 7 _ rfl;(with_reducible repeat (first|refine blk_drewN ?_ _|refine blk_drew ?_|refine blk_alloc ?_ _));refine blk_put (cs:=#[.string (⟨#[116]⟩:ByteArray),.slice Ao13 y81.length co13,.int .i64 256,.int .i64 1,.int .i64 1,.int .i64 1,.int .i64 0,.int .i64 0]) ?_ 6 _ rfl;(with_reducible repeat (first|refine blk_drewN ?_ _|refine blk_drew ?_|refine blk_alloc ?_ _));refine blk_put (cs:=#[.string (⟨#[116]⟩:ByteArray),.slice Ao13 y81.length co13,.int .i64 256,.int .i64 1,.int .i64 1,.int .i64 0,.int .i64 0,.int .i64 0]) ?_ 5 _ rfl;(with_reducible repeat (first|refine blk_drewN ?_ _|refine blk_drew ?_|refine blk_alloc ?_ _));refine blk_put (cs:=#[.string (⟨#[116]⟩:ByteArray),.slice Ao13 y81.length co13,.int .i64 256,.int .i64 1,.int .i64 0,.int .i64 0,.int .i64 0,.int .i64 0]) ?_ 4 _ rfl;(with_reducible repeat (first|refine blk_drewN ?_ _|refine blk_drew ?_|refine blk_alloc ?_ _));refine blk_put (cs:=#[.string (⟨#[116]⟩:ByteArray),.slice Ao13 y81.length co13,.int .i64 256,.int .i64 0,.int .i64 0,.int .i64 0,.int .i64 0,.int .i64 0]) ?_ 3 _ rfl;(with_reducible repeat (first|refine blk_drewN ?_ _|refine blk_drew ?_|refine blk_alloc ?_ _));refine blk_put (cs:=#[.string (⟨#[116]⟩:ByteArray),.slice Ao13 y81.length co13,.int .i64 0,.int .i64 0,.int .i64 0,.int .i64 0,.int .i64 0,.int .i64 0]) ?_ 2 _ rfl;(with_reducible repeat (first|refine blk_drewN ?_ _|refine blk_drew ?_|refine blk_alloc ?_ _));refine blk_put (cs:=#[.string (⟨#[116]⟩:ByteArray),.slice none 0 0,.int .i64 0,.int .i64 0,.int .i64 0,.int .i64 0,.int .i64 0,.int .i64 0]) ?_ 1 _ rfl;(with_reducible repeat (first|refine blk_drewN ?_ _|refine blk_drew ?_|refine blk_alloc ?_ _));refine blk_put (cs:=#[.string (⟨#[]⟩:ByteArray),.slice none 0 0,.int .i64 0,.int .i64 0,.int .i64 0,.int .i64 0,.int .i64 0,.int .i64 0]) ?_ 0 _ rfl;(with_reducible repeat (first|refine blk_drewN ?_ _|refine blk_drew ?_|refine blk_alloc ?_ _));exact BK79.out⟩,⟨zb2⟩⟩
  rw [if_neg c18] at H
  have c18b0:=beq_eq_false_iff_ne.mpr c18
  have c18b1:=bne_iff_ne.mpr c18
  by_cases c20:(Int.tmod (Go.bits .and .i64 a0 1023) 6)=2
  ·rw [if_pos c20] at H
   have c20b0:=beq_iff_eq.mpr c20
   have c20b1:=bne_eq_false_iff_eq.mpr c20
   clear c20
   have H' := Aside0.mk H
   clear H
   have hcz21_0:w14.cell? ⟨gb79,0,none⟩=some (.string (⟨#[]⟩:ByteArray)):=(blk_cell BK79.out 0).trans rfl
   have hcz21_1:w14.cell? ⟨gb79,1,none⟩=some (.slice none 0 0):=(blk_cell BK79.out 1).trans rfl
   have hcz21_2:w14.cell? ⟨gb79,2,none⟩=some (.int .i64 0):=(blk_cell BK79.out 2).trans rfl
   have hcz21_3:w14.cell? ⟨gb79,3,none⟩=some (.int .i64 0):=(blk_cell BK79.out 3).trans rfl
   have hcz21_4:w14.cell? ⟨gb79,4,none⟩=some (.int .i64 0):=(blk_cell BK79.out 4).trans rfl
   have hcz21_5:w14.cell? ⟨gb79,5,none⟩=some (.int .i64 0):=(blk_cell BK79.out 5).trans rfl
   have hcz21_6:w14.cell? ⟨gb79,6,none⟩=some (.int .i64 0):=(blk_cell BK79.out 6).trans rfl
   have hcz21_7:w14.cell? ⟨gb79,7,none⟩=some (.int .i64 0):=(blk_cell BK79.out 7).trans rfl
   have hfz21_0:=blk_frozen BK79.out 0
   have hfz21_1:=blk_frozen BK79.out 1
   have hfz21_2:=blk_frozen BK79.out 2
   have hfz21_3:=blk_frozen BK79.out 3
   have hfz21_4:=blk_frozen BK79.out 4
   have hfz21_5:=blk_frozen BK79.out 5
   have hfz21_6:=blk_frozen BK79.out 6
   have hfz21_7:=blk_frozen BK79.out 7
   go_wp2
   go_meet
   case rel=>exact ⟨_,(256),(1),(a1),(1),(1),(1),H',⟨zb41⟩,⟨by (with_reducible repeat (first|apply Kd.R_alloc|apply Kd.R_drewN|apply Kd.R_drew));exact Kd.R_mono (Kd.R_far (p:=⟨gb79,4,none⟩) (Kd.R_far (p:=⟨gb79,7,none⟩) (Kd.R_far (p:=⟨gb79,6,none⟩) (Kd.R_far (p:=⟨gb79,5,none⟩) (Kd.R_far (p:=⟨gb79,4,none⟩) (Kd.R_far (p:=⟨gb79,3,none⟩) (Kd.R_far (p:=⟨gb79,2,none⟩) (Kd.R_far (p:=⟨gb79,1,none⟩) (Kd.R_far (p:=⟨gb79,0,none⟩) (Kd.R_types HO359.out BK79.out (by decide)) (fun _ hk=>hk.2) (.string (⟨#[116]⟩:ByteArray))) (fun _ hk=>hk.2) (.slice Ao13 y81.length co13)) (fun _ hk=>hk.2) (.int .i64 256)) (fun _ hk=>hk.2) (.int .i64 1)) (fun _ hk=>hk.2) (.int .i64 1)) (fun _ hk=>hk.2) (.int .i64 1)) (fun _ hk=>hk.2) (.int .i64 1)) (fun _ hk=>hk.2) (.int .i64 1)) (fun _ hk=>hk.2) (.int .i64 a1)) (fun _ hk=>hk.1.2)⟩,⟨by (with_reducible repeat (first|apply Kd.R_alloc|apply Kd.R_drewN|apply Kd.R_drew));exact Kd.R_mono (Kd.R_far (p:=⟨gb79,4,none⟩) (Kd.R_far (p:=⟨gb79,7,none⟩) (Kd.R_far (p:=⟨gb79,6,none⟩) (Kd.R_far (p:=⟨gb79,5,none⟩) (Kd.R_far (p:=⟨gb79,4,none⟩) (Kd.R_far (p:=⟨gb79,3,none⟩) (Kd.R_far (p:=⟨gb79,2,none⟩) (Kd.R_far (p:=⟨gb79,1,none⟩) (Kd.R_far (p:=⟨gb79,0,none⟩) (Kd.R_types HO362.out BK79.out (by decide)) (fun _ hk=>hk.2) (.string (⟨#[116]⟩:ByteArray))) (fun _ hk=>hk.2) (.slice Ao13 y81.length co13)) (fun _ hk=>hk.2) (.int .i64 256)) (fun _ hk=>hk.2) (.int .i64 1)) (fun _ hk=>hk.2) (.int .i64 1)) (fun _ hk=>hk.2) (.int .i64 1)) (fun _ hk=>hk.2) (.int .i64 1)) (fun _ hk=>hk.2) (.int .i64 1)) (fun _ hk=>hk.2) (.int .i64 a1)) (fun _ hk=>hk.1.2)⟩,⟨by (with_reducible repeat (first|apply Kd.R_alloc|apply Kd.R_drewN|apply Kd.R_drew));exact Kd.R_mono (Kd.R_far (p:=⟨gb79,4,none⟩) (Kd.R_far (p:=⟨gb79,7,none⟩) (Kd.R_far (p:=⟨gb79,6,none⟩) (Kd.R_far (p:=⟨gb79,5,none⟩) (Kd.R_far (p:=⟨gb79,4,none⟩) (Kd.R_far (p:=⟨gb79,3,none⟩) (Kd.R_far (p:=⟨gb79,2,none⟩) (Kd.R_far (p:=⟨gb79,1,none⟩) (Kd.R_far (p:=⟨gb79,0,none⟩) (Kd.R_types HO365.out BK79.out (by decide)) (fun _ hk=>hk.2) (.string (⟨#[116]⟩:ByteArray))) (fun _ hk=>hk.2) (.slice Ao13 y81.length co13)) (fun _ hk=>hk.2) (.int .i64 256)) (fun _ hk=>hk.2) (.int .i64 1)) (fun _ hk=>hk.2) (.int .i64 1)) (fun _ hk=>hk.2) (.int .i64 1)) (fun _ hk=>hk.2) (.int .i64 1)) (fun _ hk=>hk.2) (.int .i64 1)) (fun _ hk=>hk.2) (.int .i64 a1)) (fun _ hk=>trivial)⟩,⟨by (with_reducible repeat (first|refine blk_drewN ?_ _|refine blk_drew ?_|refine blk_alloc ?_ _));refine blk_put (cs:=#[.string (⟨#[116]⟩:ByteArray),.slice Ao13 y81.length co13,.int .i64 256,.int .i64 1,.int .i64 1,.int .i64 1,.int .i64 1,.int .i64 1]) ?_ 4 _ rfl;(with_reducible repeat (first|refine blk_drewN ?_ _|refine blk_drew ?_|refine blk_alloc ?_ _));refine blk_put (cs:=#[.string (⟨#[116]⟩:ByteArray),.slice Ao13 y81.length co13,.int .i64 256,.int .i64 1,.int .i64 1,.int .i64 1,.int .i64 1,.int .i64 0]) ?_ 7 _ rfl;(with_reducible repeat (first|refine blk_drewN ?_ _|refine blk_drew ?_|refine blk_alloc ?_ _));refine blk_put (cs:=#[.string (⟨#[116]⟩:ByteArray),.slice Ao13 y81.length co13,.int .i64 256,.int .i64 1,.int .i64 1,.int .i64 1,.int .i64 0,.int .i64 0]) ?_ 6 _ rfl;(with_reducible repeat (first|refine blk_drewN ?_ _|refine blk_drew ?_|refine blk_alloc ?_ _));refine blk_put (cs:=#[.string (⟨#[116]⟩:ByteArray),.slice Ao13 y81.length co13,.int .i64 256,.int .i64 1,.int .i64 1,.int .i64 0,.int .i64 0,.int .i64 0]) ?_ 5 _ rfl;(with_reducible repeat (first|refine blk_drewN ?_ _|refine blk_drew ?_|refine blk_alloc ?_ _));refine blk_put (cs:=#[.string (⟨#[116]⟩:ByteArray),.slice Ao13 y81.length co13,.int .i64 256,.int .i64 1,.int .i64 0,.int .i64 0,.int .i64 0,.int .i64 0]) ?_ 4 _ rfl;(with_reducible repeat (first|refine blk_drewN ?_ _|refine blk_drew ?_|refine blk_alloc ?_ _));refine blk_put (cs:=#[.string (⟨#[116]⟩:ByteArray),.slice Ao13 y81.length co13,.int .i64 256,.int .i64 0,.int .i64 0,.int .i64 0,.int .i64 0,.int .i64 0]) ?_ 3 _ rfl;(with_reducible repeat (first|refine blk_drewN ?_ _|refine blk_drew ?_|refine blk_alloc ?_ _));refine blk_put (cs:=#[.string (⟨#[116]⟩:ByteArray),.slice Ao13 y81.length co13,.int .i64 0,.int .i64 0,.int .i64 0,.int .i64 0,.int .i64 0,.int .i64 0]) ?_ 2 _ rfl;(with_reducible repeat (first|refine blk_drewN ?_ _|refine blk_drew ?_|refine blk_alloc ?_ _));refine blk_put (cs:=#[.string (⟨#[116]⟩:ByteArray),.slice none 0 0,.int .i64 0,.int .i64 0,.int .i64 0,.int .i64 0,.int .i64 0,.int .i64 0]) ?_ 1 _ rfl;(with_reducible repeat (first|refine blk_drewN ?_ _|refine blk_drew ?_|refine blk_alloc ?_ _));refine blk_put (cs:=#[.string (⟨#[]⟩:ByteArray),.slice none 0 0,.int .i64 0,.int .i64 0,.int .i64 0,.int .i64 0,.int .i64 0,.int .i64 0]) ?_ 0 _ rfl;(with_reducible repeat (first|refine blk_drewN ?_ _|refine blk_drew ?_|refine blk_alloc ?_ _));exact BK79.out⟩,⟨zb2⟩⟩
  rw [if_neg c20] at H
  have c20b0:=beq_eq_false_iff_ne.mpr c20
  have c20b1:=bne_iff_ne.mpr c20
  by_cases c22:(Int.tmod (Go.bits .and .i64 a0 1023) 6)=3
  ·rw [if_pos c22] at H
   have c22b0:=beq_iff_eq.mpr c22
   have c22b1:=bne_eq_false_iff_eq.mpr c22
   clear c22
   have H' := Aside0.mk H
   clear H
   have hcz23_0:w14.cell? ⟨gb79,0,none⟩=some (.string (⟨#[]⟩:ByteArray)):=(blk_cell BK79.out 0).trans rfl
   have hcz23_1:w14.cell? ⟨gb79,1,none⟩=some (.slice none 0 0):=(blk_cell BK79.out 1).trans rfl
   have hcz23_2:w14.cell? ⟨gb79,2,none⟩=some (.int .i64 0):=(blk_cell BK79.out 2).trans rfl
   have hcz23_3:w14.cell? ⟨gb79,3,none⟩=some (.int .i64 0):=(blk_cell BK79.out 3).trans rfl
   have hcz23_4:w14.cell? ⟨gb79,4,none⟩=some (.int .i64 0):=(blk_cell BK79.out 4).trans rfl
   have hcz23_5:w14.cell? ⟨gb79,5,none⟩=some (.int .i64 0):=(blk_cell BK79.out 5).trans rfl
   have hcz23_6:w14.cell? ⟨gb79,6,none⟩=some (.int .i64 0):=(blk_cell BK79.out 6).trans rfl
   have hcz23_7:w14.cell? ⟨gb79,7,none⟩=some (.int .i64 0):=(blk_cell BK79.out 7).trans rfl
   have hfz23_0:=blk_frozen BK79.out 0
   have hfz23_1:=blk_frozen BK79.out 1
   have hfz23_2:=blk_frozen BK79.out 2
   have hfz23_3:=blk_frozen BK79.out 3
   have hfz23_4:=blk_frozen BK79.out 4
   have hfz23_5:=blk_frozen BK79.out 5
   have hfz23_6:=blk_frozen BK79.out 6
   have hfz23_7:=blk_frozen BK79.out 7
   go_wp2
   go_meet
   case rel=>exact ⟨_,(256),(1),(1),(a1),(1),(1),H',⟨zb41⟩,⟨by (with_reducible repeat (first|apply Kd.R_alloc|apply Kd.R_drewN|apply Kd.R_drew));exact Kd.R_mono (Kd.R_far (p:=⟨gb79,5,none⟩) (Kd.R_far (p:=⟨gb79,7,none⟩) (Kd.R_far (p:=⟨gb79,6,none⟩) (Kd.R_far (p:=⟨gb79,5,none⟩) (Kd.R_far (p:=⟨gb79,4,none⟩) (Kd.R_far (p:=⟨gb79,3,none⟩) (Kd.R_far (p:=⟨gb79,2,none⟩) (Kd.R_far (p:=⟨gb79,1,none⟩) (Kd.R_far (p:=⟨gb79,0,none⟩) (Kd.R_types HO359.out BK79.out (by decide)) (fun _ hk=>hk.2) (.string (⟨#[116]⟩:ByteArray))) (fun _ hk=>hk.2) (.slice Ao13 y81.length co13)) (fun _ hk=>hk.2) (.int .i64 256)) (fun _ hk=>hk.2) (.int .i64 1)) (fun _ hk=>hk.2) (.int .i64 1)) (fun _ hk=>hk.2) (.int .i64 1)) (fun _ hk=>hk.2) (.int .i64 1)) (fun _ hk=>hk.2) (.int .i64 1)) (fun _ hk=>hk.2) (.int .i64 a1)) (fun _ hk=>hk.1.2)⟩,⟨by (with_reducible repeat (first|apply Kd.R_alloc|apply Kd.R_drewN|apply Kd.R_drew));exact Kd.R_mono (Kd.R_far (p:=⟨gb79,5,none⟩) (Kd.R_far (p:=⟨gb79,7,none⟩) (Kd.R_far (p:=⟨gb79,6,none⟩) (Kd.R_far (p:=⟨gb79,5,none⟩) (Kd.R_far (p:=⟨gb79,4,none⟩) (Kd.R_far (p:=⟨gb79,3,none⟩) (Kd.R_far (p:=⟨gb79,2,none⟩) (Kd.R_far (p:=⟨gb79,1,none⟩) (Kd.R_far (p:=⟨gb79,0,none⟩) (Kd.R_types HO362.out BK79.out (by decide)) (fun _ hk=>hk.2) (.string (⟨#[116]⟩:ByteArray))) (fun _ hk=>hk.2) (.slice Ao13 y81.length co13)) (fun _ hk=>hk.2) (.int .i64 256)) (fun _ hk=>hk.2) (.int .i64 1)) (fun _ hk=>hk.2) (.int .i64 1)) (fun _ hk=>hk.2) (.int .i64 1)) (fun _ hk=>hk.2) (.int .i64 1)) (fun _ hk=>hk.2) (.int .i64 1)) (fun _ hk=>hk.2) (.int .i64 a1)) (fun _ hk=>hk.1.2)⟩,⟨by (with_reducible repeat (first|apply Kd.R_alloc|apply Kd.R_drewN|apply Kd.R_drew));exact Kd.R_mono (Kd.R_far (p:=⟨gb79,5,none⟩) (Kd.R_far (p:=⟨gb79,7,none⟩) (Kd.R_far (p:=⟨gb79,6,none⟩) (Kd.R_far (p:=⟨gb79,5,none⟩) (Kd.R_far (p:=⟨gb79,4,none⟩) (Kd.R_far (p:=⟨gb79,3,none⟩) (Kd.R_far (p:=⟨gb79,2,none⟩) (Kd.R_far (p:=⟨gb79,1,none⟩) (Kd.R_far (p:=⟨gb79,0,none⟩) (Kd.R_types HO365.out BK79.out (by decide)) (fun _ hk=>hk.2) (.string (⟨#[116]⟩:ByteArray))) (fun _ hk=>hk.2) (.slice Ao13 y81.length co13)) (fun _ hk=>hk.2) (.int .i64 256)) (fun _ hk=>hk.2) (.int .i64 1)) (fun _ hk=>hk.2) (.int .i64 1)) (fun _ hk=>hk.2) (.int .i64 1)) (fun _ hk=>hk.2) (.int .i64 1)) (fun _ hk=>hk.2) (.int .i64 1)) (fun _ hk=>hk.2) (.int .i64 a1)) (fun _ hk=>trivial)⟩,⟨by (with_reducible repeat (first|refine blk_drewN ?_ _|refine blk_drew ?_|refine blk_alloc ?_ _));refine blk_put (cs:=#[.string (⟨#[116]⟩:ByteArray),.slice Ao13 y81.length co13,.int .i64 256,.int .i64 1,.int .i64 1,.int .i64 1,.int .i64 1,.int .i64 1]) ?_ 5 _ rfl;(with_reducible repeat (first|refine blk_drewN ?_ _|refine blk_drew ?_|refine blk_alloc ?_ _));refine blk_put (cs:=#[.string (⟨#[116]⟩:ByteArray),.slice Ao13 y81.length co13,.int .i64 256,.int .i64 1,.int .i64 1,.int .i64 1,.int .i64 1,.int .i64 0]) ?_ 7 _ rfl;(with_reducible repeat (first|refine blk_drewN ?_ _|refine blk_drew ?_|refine blk_alloc ?_ _));refine blk_put (cs:=#[.string (⟨#[116]⟩:ByteArray),.slice Ao13 y81.length co13,.int .i64 256,.int .i64 1,.int .i64 1,.int .i64 1,.int .i64 0,.int .i64 0]) ?_ 6 _ rfl;(with_reducible repeat (first|refine blk_drewN ?_ _|refine blk_drew ?_|refine blk_alloc ?_ _));refine blk_put (cs:=#[.string (⟨#[116]⟩:ByteArray),.slice Ao13 y81.length co13,.int .i64 256,.int .i64 1,.int .i64 1,.int .i64 0,.int .i64 0,.int .i64 0]) ?_ 5 _ rfl;(with_reducible repeat (first|refine blk_drewN ?_ _|refine blk_drew ?_|refine blk_alloc ?_ _));refine blk_put (cs:=#[.string (⟨#[116]⟩:ByteArray),.slice Ao13 y81.length co13,.int .i64 256,.int .i64 1,.int .i64 0,.int .i64 0,.int .i64 0,.int .i64 0]) ?_ 4 _ rfl;(with_reducible repeat (first|refine blk_drewN ?_ _|refine blk_drew ?_|refine blk_alloc ?_ _));refine blk_put (cs:=#[.string (⟨#[116]⟩:ByteArray),.slice Ao13 y81.length co13,.int .i64 256,.int .i64 0,.int .i64 0,.int .i64 0,.int .i64 0,.int .i64 0]) ?_ 3 _ rfl;(with_reducible repeat (first|refine blk_drewN ?_ _|refine blk_drew ?_|refine blk_alloc ?_ _));refine blk_put (cs:=#[.string (⟨#[116]⟩:ByteArray),.slice Ao13 y81.length co13,.int .i64 0,.int .i64 0,.int .i64 0,.int .i64 0,.int .i64 0,.int .i64 0]) ?_ 2 _ rfl;(with_reducible repeat (first|refine blk_drewN ?_ _|refine blk_drew ?_|refine blk_alloc ?_ _));refine blk_put (cs:=#[.string (⟨#[116]⟩:ByteArray),.slice none 0 0,.int .i64 0,.int .i64 0,.int .i64 0,.int .i64 0,.int .i64 0,.int .i64 0]) ?_ 1 _ rfl;(with_reducible repeat (first|refine blk_drewN ?_ _|refine blk_drew ?_|refine blk_alloc ?_ _));refine blk_put (cs:=#[.string (⟨#[]⟩:ByteArray),.slice none 0 0,.int .i64 0,.int .i64 0,.int .i64 0,.int .i64 0,.int .i64 0,.int .i64 0]) ?_ 0 _ rfl;(with_reducible repeat (first|refine blk_drewN ?_ _|refine blk_drew ?_|refine blk_alloc ?_ _));exact BK79.out⟩,⟨zb2⟩⟩
  rw [if_neg c22] at H
  have c22b0:=beq_eq_false_iff_ne.mpr c22
  have c22b1:=bne_iff_ne.mpr c22
  by_cases c24:(Int.tmod (Go.bits .and .i64 a0 1023) 6)=4;rotate_left
  ·rw [if_neg c24] at H
   have c24b0:=beq_eq_false_iff_ne.mpr c24
   have c24b1:=bne_iff_ne.mpr c24
   have H' := Aside0.mk H
   clear H
   have hcz26_0:w14.cell? ⟨gb79,0,none⟩=some (.string (⟨#[]⟩:ByteArray)):=(blk_cell BK79.out 0).trans rfl
   have hcz26_1:w14.cell? ⟨gb79,1,none⟩=some (.slice none 0 0):=(blk_cell BK79.out 1).trans rfl
   have hcz26_2:w14.cell? ⟨gb79,2,none⟩=some (.int .i64 0):=(blk_cell BK79.out 2).trans rfl
   have hcz26_3:w14.cell? ⟨gb79,3,none⟩=some (.int .i64 0):=(blk_cell BK79.out 3).trans rfl
   have hcz26_4:w14.cell? ⟨gb79,4,none⟩=some (.int .i64 0):=(blk_cell BK79.out 4).trans rfl
   have hcz26_5:w14.cell? ⟨gb79,5,none⟩=some (.int .i64 0):=(blk_cell BK79.out 5).trans rfl
   have hcz26_6:w14.cell? ⟨gb79,6,none⟩=some (.int .i64 0):=(blk_cell BK79.out 6).trans rfl
   have hcz26_7:w14.cell? ⟨gb79,7,none⟩=some (.int .i64 0):=(blk_cell BK79.out 7).trans rfl
   have hfz26_0:=blk_frozen BK79.out 0
   have hfz26_1:=blk_frozen BK79.out 1
   have hfz26_2:=blk_frozen BK79.out 2
   have hfz26_3:=blk_frozen BK79.out 3
   have hfz26_4:=blk_frozen BK79.out 4
   have hfz26_5:=blk_frozen BK79.out 5
   have hfz26_6:=blk_frozen BK79.out 6
   have hfz26_7:=blk_frozen BK79.out 7
   go_wp2
   go_meet
   case rel=>exact ⟨_,(256),(1),(1),(1),(1),(a1),H',⟨zb41⟩,⟨by (with_reducible repeat (first|apply Kd.R_alloc|apply Kd.R_drewN|apply Kd.R_drew));exact Kd.R_mono (Kd.R_far (p:=⟨gb79,7,none⟩) (Kd.R_far (p:=⟨gb79,7,none⟩) (Kd.R_far (p:=⟨gb79,6,none⟩) (Kd.R_far (p:=⟨gb79,5,none⟩) (Kd.R_far (p:=⟨gb79,4,none⟩) (Kd.R_far (p:=⟨gb79,3,none⟩) (Kd.R_far (p:=⟨gb79,2,none⟩) (Kd.R_far (p:=⟨gb79,1,none⟩) (Kd.R_far (p:=⟨gb79,0,none⟩) (Kd.R_types HO359.out BK79.out (by decide)) (fun _ hk=>hk.2) (.string (⟨#[116]⟩:ByteArray))) (fun _ hk=>hk.2) (.slice Ao13 y81.length co13)) (fun _ hk=>hk.2) (.int .i64 256)) (fun _ hk=>hk.2) (.int .i64 1)) (fun _ hk=>hk.2) (.int .i64 1)) (fun _ hk=>hk.2) (.int .i64 1)) (fun _ hk=>hk.2) (.int .i64 1)) (fun _ hk=>hk.2) (.int .i64 1)) (fun _ hk=>hk.2) (.int .i64 a1)) (fun _ hk=>hk.1.2)⟩,⟨by (with_reducible repeat (first|apply Kd.R_alloc|apply Kd.R_drewN|apply Kd.R_drew));exact Kd.R_mono (Kd.R_far (p:=⟨gb79,7,none⟩) (Kd.R_far (p:=⟨gb79,7,none⟩) (Kd.R_far (p:=⟨gb79,6,none⟩) (Kd.R_far (p:=⟨gb79,5,none⟩) (Kd.R_far (p:=⟨gb79,4,none⟩) (Kd.R_far (p:=⟨gb79,3,none⟩) (Kd.R_far (p:=⟨gb79,2,none⟩) (Kd.R_far (p:=⟨gb79,1,none⟩) (Kd.R_far (p:=⟨gb79,0,none⟩) (Kd.R_types HO362.out BK79.out (by decide)) (fun _ hk=>hk.2) (.string (⟨#[116]⟩:ByteArray))) (fun _ hk=>hk.2) (.slice Ao13 y81.length co13)) (fun _ hk=>hk.2) (.int .i64 256)) (fun _ hk=>hk.2) (.int .i64 1)) (fun _ hk=>hk.2) (.int .i64 1)) (fun _ hk=>hk.2) (.int .i64 1)) (fun _ hk=>hk.2) (.int .i64 1)) (fun _ hk=>hk.2) (.int .i64 1)) (fun _ hk=>hk.2) (.int .i64 a1)) (fun _ hk=>hk.1.2)⟩,⟨by (with_reducible repeat (first|apply Kd.R_alloc|apply Kd.R_drewN|apply Kd.R_drew));exact Kd.R_mono (Kd.R_far (p:=⟨gb79,7,none⟩) (Kd.R_far (p:=⟨gb79,7,none⟩) (Kd.R_far (p:=⟨gb79,6,none⟩) (Kd.R_far (p:=⟨gb79,5,none⟩) (Kd.R_far (p:=⟨gb79,4,none⟩) (Kd.R_far (p:=⟨gb79,3,none⟩) (Kd.R_far (p:=⟨gb79,2,none⟩) (Kd.R_far (p:=⟨gb79,1,none⟩) (Kd.R_far (p:=⟨gb79,0,none⟩) (Kd.R_types HO365.out BK79.out (by decide)) (fun _ hk=>hk.2) (.string (⟨#[116]⟩:ByteArray))) (fun _ hk=>hk.2) (.slice Ao13 y81.length co13)) (fun _ hk=>hk.2) (.int .i64 256)) (fun _ hk=>hk.2) (.int .i64 1)) (fun _ hk=>hk.2) (.int .i64 1)) (fun _ hk=>hk.2) (.int .i64 1)) (fun _ hk=>hk.2) (.int .i64 1)) (fun _ hk=>hk.2) (.int .i64 1)) (fun _ hk=>hk.2) (.int .i64 a1)) (fun _ hk=>trivial)⟩,⟨by (with_reducible repeat (first|refine blk_drewN ?_ _|refine blk_drew ?_|refine blk_alloc ?_ _));refine blk_put (cs:=#[.string (⟨#[116]⟩:ByteArray),.slice Ao13 y81.length co13,.int .i64 256,.int .i64 1,.int .i64 1,.int .i64 1,.int .i64 1,.int .i64 1]) ?_ 7 _ rfl;(with_reducible repeat (first|refine blk_drewN ?_ _|refine blk_drew ?_|refine blk_alloc ?_ _));refine blk_put (cs:=#[.string (⟨#[116]⟩:ByteArray),.slice Ao13 y81.length co13,.int .i64 256,.int .i64 1,.int .i64 1,.int .i64 1,.int .i64 1,.int .i64 0]) ?_ 7 _ rfl;(with_reducible repeat (first|refine blk_drewN ?_ _|refine blk_drew ?_|refine blk_alloc ?_ _));refine blk_put (cs:=#[.string (⟨#[116]⟩:ByteArray),.slice Ao13 y81.length co13,.int .i64 256,.int .i64 1,.int .i64 1,.int .i64 1,.int .i64 0,.int .i64 0]) ?_ 6 _ rfl;(with_reducible repeat (first|refine blk_drewN ?_ _|refine blk_drew ?_|refine blk_alloc ?_ _));refine blk_put (cs:=#[.string (⟨#[116]⟩:ByteArray),.slice Ao13 y81.length co13,.int .i64 256,.int .i64 1,.int .i64 1,.int .i64 0,.int .i64 0,.int .i64 0]) ?_ 5 _ rfl;(with_reducible repeat (first|refine blk_drewN ?_ _|refine blk_drew ?_|refine blk_alloc ?_ _));refine blk_put (cs:=#[.string (⟨#[116]⟩:ByteArray),.slice Ao13 y81.length co13,.int .i64 256,.int .i64 1,.int .i64 0,.int .i64 0,.int .i64 0,.int .i64 0]) ?_ 4 _ rfl;(with_reducible repeat (first|refine blk_drewN ?_ _|refine blk_drew ?_|refine blk_alloc ?_ _));refine blk_put (cs:=#[.string (⟨#[116]⟩:ByteArray),.slice Ao13 y81.length co13,.int .i64 256,.int .i64 0,.int .i64 0,.int .i64 0,.int .i64 0,.int .i64 0]) ?_ 3 _ rfl;(with_reducible repeat (first|refine blk_drewN ?_ _|refine blk_drew ?_|refine blk_alloc ?_ _));refine blk_put (cs:=#[.string (⟨#[116]⟩:ByteArray),.slice Ao13 y81.length co13,.int .i64 0,.int .i64 0,.int .i64 0,.int .i64 0,.int .i64 0,.int .i64 0]) ?_ 2 _ rfl;(with_reducible repeat (first|refine blk_drewN ?_ _|refine blk_drew ?_|refine blk_alloc ?_ _));refine blk_put (cs:=#[.string (⟨#[116]⟩:ByteArray),.slice none 0 0,.int .i64 0,.int .i64 0,.int .i64 0,.int .i64 0,.int .i64 0,.int .i64 0]) ?_ 1 _ rfl;(with_reducible repeat (first|refine blk_drewN ?_ _|refine blk_drew ?_|refine blk_alloc ?_ _));refine blk_put (cs:=#[.string (⟨#[]⟩:ByteArray),.slice none 0 0,.int .i64 0,.int .i64 0,.int .i64 0,.int .i64 0,.int .i64 0,.int .i64 0]) ?_ 0 _ rfl;(with_reducible repeat (first|refine blk_drewN ?_ _|refine blk_drew ?_|refine blk_alloc ?_ _));exact BK79.out⟩,⟨zb2⟩⟩
  rw [if_pos c24] at H
  have c24b0:=beq_iff_eq.mpr c24
  have c24b1:=bne_eq_false_iff_eq.mpr c24
  clear c24
  have H' := Aside0.mk H
  clear H
  have hcz25_0:w14.cell? ⟨gb79,0,none⟩=some (.string (⟨#[]⟩:ByteArray)):=(blk_cell BK79.out 0).trans rfl
  have hcz25_1:w14.cell? ⟨gb79,1,none⟩=some (.slice none 0 0):=(blk_cell BK79.out 1).trans rfl
  have hcz25_2:w14.cell? ⟨gb79,2,none⟩=some (.int .i64 0):=(blk_cell BK79.out 2).trans rfl
  have hcz25_3:w14.cell? ⟨gb79,3,none⟩=some (.int .i64 0):=(blk_cell BK79.out 3).trans rfl
  have hcz25_4:w14.cell? ⟨gb79,4,none⟩=some (.int .i64 0):=(blk_cell BK79.out 4).trans rfl
  have hcz25_5:w14.cell? ⟨gb79,5,none⟩=some (.int .i64 0):=(blk_cell BK79.out 5).trans rfl
  have hcz25_6:w14.cell? ⟨gb79,6,none⟩=some (.int .i64 0):=(blk_cell BK79.out 6).trans rfl
  have hcz25_7:w14.cell? ⟨gb79,7,none⟩=some (.int .i64 0):=(blk_cell BK79.out 7).trans rfl
  have hfz25_0:=blk_frozen BK79.out 0
  have hfz25_1:=blk_frozen BK79.out 1
  have hfz25_2:=blk_frozen BK79.out 2
  have hfz25_3:=blk_frozen BK79.out 3
  have hfz25_4:=blk_frozen BK79.out 4
  have hfz25_5:=blk_frozen BK79.out 5
  have hfz25_6:=blk_frozen BK79.out 6
  have hfz25_7:=blk_frozen BK79.out 7
  go_wp2
  go_meet
  case rel=>exact ⟨_,(256),(1),(1),(1),(a1),(1),H',⟨zb41⟩,⟨by (with_reducible repeat (first|apply Kd.R_alloc|apply Kd.R_drewN|apply Kd.R_drew));exact Kd.R_mono (Kd.R_far (p:=⟨gb79,6,none⟩) (Kd.R_far (p:=⟨gb79,7,none⟩) (Kd.R_far (p:=⟨gb79,6,none⟩) (Kd.R_far (p:=⟨gb79,5,none⟩) (Kd.R_far (p:=⟨gb79,4,none⟩) (Kd.R_far (p:=⟨gb79,3,none⟩) (Kd.R_far (p:=⟨gb79,2,none⟩) (Kd.R_far (p:=⟨gb79,1,none⟩) (Kd.R_far (p:=⟨gb79,0,none⟩) (Kd.R_types HO359.out BK79.out (by decide)) (fun _ hk=>hk.2) (.string (⟨#[116]⟩:ByteArray))) (fun _ hk=>hk.2) (.slice Ao13 y81.length co13)) (fun _ hk=>hk.2) (.int .i64 256)) (fun _ hk=>hk.2) (.int .i64 1)) (fun _ hk=>hk.2) (.int .i64 1)) (fun _ hk=>hk.2) (.int .i64 1)) (fun _ hk=>hk.2) (.int .i64 1)) (fun _ hk=>hk.2) (.int .i64 1)) (fun _ hk=>hk.2) (.int .i64 a1)) (fun _ hk=>hk.1.2)⟩,⟨by (with_reducible repeat (first|apply Kd.R_alloc|apply Kd.R_drewN|apply Kd.R_drew));exact Kd.R_mono (Kd.R_far (p:=⟨gb79,6,none⟩) (Kd.R_far (p:=⟨gb79,7,none⟩) (Kd.R_far (p:=⟨gb79,6,none⟩) (Kd.R_far (p:=⟨gb79,5,none⟩) (Kd.R_far (p:=⟨gb79,4,none⟩) (Kd.R_far (p:=⟨gb79,3,none⟩) (Kd.R_far (p:=⟨gb79,2,none⟩) (Kd.R_far (p:=⟨gb79,1,none⟩) (Kd.R_far (p:=⟨gb79,0,none⟩) (Kd.R_types HO362.out BK79.out (by decide)) (fun _ hk=>hk.2) (.string (⟨#[116]⟩:ByteArray))) (fun _ hk=>hk.2) (.slice Ao13 y81.length co13)) (fun _ hk=>hk.2) (.int .i64 256)) (fun _ hk=>hk.2) (.int .i64 1)) (fun _ hk=>hk.2) (.int .i64 1)) (fun _ hk=>hk.2) (.int .i64 1)) (fun _ hk=>hk.2) (.int .i64 1)) (fun _ hk=>hk.2) (.int .i64 1)) (fun _ hk=>hk.2) (.int .i64 a1)) (fun _ hk=>hk.1.2)⟩,⟨by (with_reducible repeat (first|apply Kd.R_alloc|apply Kd.R_drewN|apply Kd.R_drew));exact Kd.R_mono (Kd.R_far (p:=⟨gb79,6,none⟩) (Kd.R_far (p:=⟨gb79,7,none⟩) (Kd.R_far (p:=⟨gb79,6,none⟩) (Kd.R_far (p:=⟨gb79,5,none⟩) (Kd.R_far (p:=⟨gb79,4,none⟩) (Kd.R_far (p:=⟨gb79,3,none⟩) (Kd.R_far (p:=⟨gb79,2,none⟩) (Kd.R_far (p:=⟨gb79,1,none⟩) (Kd.R_far (p:=⟨gb79,0,none⟩) (Kd.R_types HO365.out BK79.out (by decide)) (fun _ hk=>hk.2) (.string (⟨#[116]⟩:ByteArray))) (fun _ hk=>hk.2) (.slice Ao13 y81.length co13)) (fun _ hk=>hk.2) (.int .i64 256)) (fun _ hk=>hk.2) (.int .i64 1)) (fun _ hk=>hk.2) (.int .i64 1)) (fun _ hk=>hk.2) (.int .i64 1)) (fun _ hk=>hk.2) (.int .i64 1)) (fun _ hk=>hk.2) (.int .i64 1)) (fun _ hk=>hk.2) (.int .i64 a1)) (fun _ hk=>trivial)⟩,⟨by (with_reducible repeat (first|refine blk_drewN ?_ _|refine blk_drew ?_|refine blk_alloc ?_ _));refine blk_put (cs:=#[.string (⟨#[116]⟩:ByteArray),.slice Ao13 y81.length co13,.int .i64 256,.int .i64 1,.int .i64 1,.int .i64 1,.int .i64 1,.int .i64 1]) ?_ 6 _ rfl;(with_reducible repeat (first|refine blk_drewN ?_ _|refine blk_drew ?_|refine blk_alloc ?_ _));refine blk_put (cs:=#[.string (⟨#[116]⟩:ByteArray),.slice Ao13 y81.length co13,.int .i64 256,.int .i64 1,.int .i64 1,.int .i64 1,.int .i64 1,.int .i64 0]) ?_ 7 _ rfl;(with_reducible repeat (first|refine blk_drewN ?_ _|refine blk_drew ?_|refine blk_alloc ?_ _));refine blk_put (cs:=#[.string (⟨#[116]⟩:ByteArray),.slice Ao13 y81.length co13,.int .i64 256,.int .i64 1,.int .i64 1,.int .i64 1,.int .i64 0,.int .i64 0]) ?_ 6 _ rfl;(with_reducible repeat (first|refine blk_drewN ?_ _|refine blk_drew ?_|refine blk_alloc ?_ _));refine blk_put (cs:=#[.string (⟨#[116]⟩:ByteArray),.slice Ao13 y81.length co13,.int .i64 256,.int .i64 1,.int .i64 1,.int .i64 0,.int .i64 0,.int .i64 0]) ?_ 5 _ rfl;(with_reducible repeat (first|refine blk_drewN ?_ _|refine blk_drew ?_|refine blk_alloc ?_ _));refine blk_put (cs:=#[.string (⟨#[116]⟩:ByteArray),.slice Ao13 y81.length co13,.int .i64 256,.int .i64 1,.int .i64 0,.int .i64 0,.int .i64 0,.int .i64 0]) ?_ 4 _ rfl;(with_reducible repeat (first|refine blk_drewN ?_ _|refine blk_drew ?_|refine blk_alloc ?_ _));refine blk_put (cs:=#[.string (⟨#[116]⟩:ByteArray),.slice Ao13 y81.length co13,.int .i64 256,.int .i64 0,.int .i64 0,.int .i64 0,.int .i64 0,.int .i64 0]) ?_ 3 _ rfl;(with_reducible repeat (first|refine blk_drewN ?_ _|refine blk_drew ?_|refine blk_alloc ?_ _));refine blk_put (cs:=#[.string (⟨#[116]⟩:ByteArray),.slice Ao13 y81.length co13,.int .i64 0,.int .i64 0,.int .i64 0,.int .i64 0,.int .i64 0,.int .i64 0]) ?_ 2 _ rfl;(with_reducible repeat (first|refine blk_drewN ?_ _|refine blk_drew ?_|refine blk_alloc ?_ _));refine blk_put (cs:=#[.string (⟨#[116]⟩:ByteArray),.slice none 0 0,.int .i64 0,.int .i64 0,.int .i64 0,.int .i64 0,.int .i64 0,.int .i64 0]) ?_ 1 _ rfl;(with_reducible repeat (first|refine blk_drewN ?_ _|refine blk_drew ?_|refine blk_alloc ?_ _));refine blk_put (cs:=#[.string (⟨#[]⟩:ByteArray),.slice none 0 0,.int .i64 0,.int .i64 0,.int .i64 0,.int .i64 0,.int .i64 0,.int .i64 0]) ?_ 0 _ rfl;(with_reducible repeat (first|refine blk_drewN ?_ _|refine blk_drew ?_|refine blk_alloc ?_ _));exact BK79.out⟩,⟨zb2⟩⟩
 case rest =>
  clear HC5
  try clear c1
  try clear c2
  try clear p2
  try clear c4
  try clear c7
  try clear c8
  try clear c16
  try clear c16b0
  try clear c16b1
  try clear c18
  try clear c18b0
  try clear c18b1
  try clear c20
  try clear c20b0
  try clear c20b1
  try clear c22
  try clear c22b0
  try clear c22b1
  try clear c24
  try clear c24b0
  try clear c24b1
  try clear hcz15_0
  try clear hcz15_1
  try clear hcz15_2
  try clear hcz15_3
  try clear hcz15_4
  try clear hcz15_5
  try clear hcz15_6
  try clear hcz15_7
  try clear hcz17_0
  try clear hcz17_1
  try clear hcz17_2
  try clear hcz17_3
  try clear hcz17_4
  try clear hcz17_5
  try clear hcz17_6
  try clear hcz17_7
  try clear hcz19_0
  try clear hcz19_1
  try clear hcz19_2
  try clear hcz19_3
  try clear hcz19_4
  try clear hcz19_5
  try clear hcz19_6
  try clear hcz19_7
  try clear hcz21_0
  try clear hcz21_1
  try clear hcz21_2
  try clear hcz21_3
  try clear hcz21_4
  try clear hcz21_5
  try clear hcz21_6
  try clear hcz21_7
  try clear hcz23_0
  try clear hcz23_1
  try clear hcz23_2
  try clear hcz23_3
  try clear hcz23_4
  try clear hcz23_5
  try clear hcz23_6
  try clear hcz23_7
  try clear hcz25_0
  try clear hcz25_1
  try clear hcz25_2
  try clear hcz25_3
  try clear hcz25_4
  try clear hcz25_5
  try clear hcz25_6
  try clear hcz25_7
  try clear hcz26_0
  try clear hcz26_1
  try clear hcz26_2
  try clear hcz26_3
  try clear hcz26_4
  try clear hcz26_5
  try clear hcz26_6
  try clear hcz26_7
  try clear hfz15_0
  try clear hfz15_1
  try clear hfz15_2
  try clear hfz15_3
  try clear hfz15_4
  try clear hfz15_5
  try clear hfz15_6
  try clear hfz15_7
  try clear hfz17_0
  try clear hfz17_1
  try clear hfz17_2
  try clear hfz17_3
  try clear hfz17_4
  try clear hfz17_5
  try clear hfz17_6
  try clear hfz17_7
  try clear hfz19_0
  try clear hfz19_1
  try clear hfz19_2
  try clear hfz19_3
  try clear hfz19_4
  try clear hfz19_5
  try clear hfz19_6
  try clear hfz19_7
  try clear hfz21_0
  try clear hfz21_1
  try clear hfz21_2
  try clear hfz21_3
  try clear hfz21_4
  try clear hfz21_5
  try clear hfz21_6
  try clear hfz21_7
  try clear hfz23_0
  try clear hfz23_1
  try clear hfz23_2
  try clear hfz23_3
  try clear hfz23_4
  try clear hfz23_5
  try clear hfz23_6
  try clear hfz23_7
  try clear hfz25_0
  try clear hfz25_1
  try clear hfz25_2
  try clear hfz25_3
  try clear hfz25_4
  try clear hfz25_5
  try clear hfz25_6
  try clear hfz25_7
  try clear hfz26_0
  try clear hfz26_1
  try clear hfz26_2
  try clear hfz26_3
  try clear hfz26_4
  try clear hfz26_5
  try clear hfz26_6
  try clear hfz26_7
  obtain ⟨kq,x83_4,x84_4,x98_4,x99_4,x100_4,x101_4,HA,HJ4,HO_5,HO_6,HO_82,BK79,HB⟩:=hcut
  cases kq with
  | zero=>exact absurd HA.out (by simp [tollbarlaw09_TableBounds.j0])
  | succ kj4 =>
   have H:=HA.out
   clear HA
   simp only [tollbarlaw09_TableBounds.j0] at H
   have HC27:=Aside0.mk H
   clear H
   go_upto_region 19 with (fail)
   go_cut [64] (fun v64 wc => ∃ (kq:Nat) (x64_26:Bool),v64 = .bool x64_26∧Aside0 (tollbarlaw09_TableBounds.j1 kq a1 x64_26=some r)∧Aside0 (kq ≤ kj4)∧Aside0 (Kd.R Kd.string 9 wc w.heap.size (fun _=>True) (.slice Ao13 y81.length co13) y81)∧Aside0 (wc.heap[gb79]? = some (.cells #[.string (⟨#[116]⟩:ByteArray),(.slice Ao13 y81.length co13),.int .i64 x83_4,.int .i64 x84_4,.int .i64 x98_4,.int .i64 x99_4,.int .i64 x100_4,.int .i64 x101_4] 26 (0,0)))∧Aside0 (Below w.heap.size w wc))
   case first =>
    have H:=HC27.out
    clear HC27
    obtain ⟨y367,hy367⟩ : ∃ y_:List (S26),y_=(([(⟨(⟨#[116]⟩:ByteArray),y81,x83_4,x84_4,x98_4,x99_4,x100_4,x101_4⟩:S26)]:List (S26))):=⟨_,rfl⟩
    replace H:((table_Right.f kj4 y367).bind fun t370=>(if 0 ≤ (Int.tmod (Go.bits .and .i64 a0 1023) 6) then (if (Int.tmod (Go.bits .and .i64 a0 1023) 6) < (y357.length:Int) then (if a1 ≥ (rd y357 (Int.tmod (Go.bits .and .i64 a0 1023) 6)) then (if (Int.tmod (Go.bits .and .i64 a0 1023) 6) < (y360.length:Int) then (tollbarlaw09_TableBounds.j1 kj4 a1 (t370 != (decide (a1 ≤ (rd y360 (Int.tmod (Go.bits .and .i64 a0 1023) 6)))))) else (none)) else (tollbarlaw09_TableBounds.j1 kj4 a1 (t370 != false))) else (none)) else (none)))=some r:=by first|(rw [hy367];with_reducible exact H)|(have H2_:=(Option.bind_some _ _).symm.trans H;rw [hy367];with_reducible exact H2_)|(have H2_:=(Option.bind_some _ _).symm.trans H;with_reducible exact H2_)|with_reducible exact H|(rw [hy367];exact H)|exact H
    have Ny367:=Aside0.mk hy367
    clear hy367
    replace H:=Option.bind_eq_some_iff.mp H
    obtain ⟨t370,A280,H⟩:=H
    try dsimp only at H
    have A28:=Aside0.mk A280
    clear A280
    obtain ⟨ji29,hji29⟩ : ∃ j_:Int,(Int.tmod (Go.bits .and .i64 a0 1023) 6)=j_:=⟨_,rfl⟩
    replace H:(if 0 ≤ (ji29) then (if (ji29) < (y357.length:Int) then (if a1 ≥ (rd y357 (ji29)) then (if (ji29) < (y360.length:Int) then (tollbarlaw09_TableBounds.j1 kj4 a1 (t370 != (decide (a1 ≤ (rd y360 (ji29)))))) else (none)) else (tollbarlaw09_TableBounds.j1 kj4 a1 (t370 != false))) else (none)) else (none))=some r:=by first|(rw [hji29] at H;exact H)|(simp only [hji29] at H ⊢;exact H)
    (try rw [hji29] at A28)
    by_cases c30:0 ≤ (ji29);rotate_left
    ·rw [if_neg c30] at H
     exact absurd H zb30
    rw [if_pos c30] at H
    have c30b0:=decide_eq_true c30
    clear c30
    (first|rw [c30b0]|(simp only [i64_w,i32_w];rw [c30b0])|skip)
    by_cases c31:(ji29) < (y357.length:Int)
    ·rw [if_pos c31] at H
     have c31b0:=decide_eq_true c31
     clear c31
     by_cases c32:a1 ≥ (rd y357 (ji29));rotate_left
     ·rw [if_neg c32] at H
      have c32b0:decide ((rd y357 (ji29)) ≤ a1)=false:=decide_eq_false c32
      clear c32
      have H' := Aside0.mk H
      clear H
      try go_wp2
      replace HO_5:=Aside0.mk (Kd.R_drew HO_5.out)
      replace HO_6:=Aside0.mk (Kd.R_drew HO_6.out)
      replace HO_82:=Aside0.mk (Kd.R_drew HO_82.out)
      replace BK79:=Aside0.mk (blk_drew BK79.out)
      replace HB:=Aside0.mk (below_drew1 HB.out)
      obtain ⟨Ao42,co42,eo42⟩:=Kd.R_slice HO_5.out
      (first|subst eo42|(injection eo42 with f1_ f2_ f3_;have f4_:=f1_.symm;have f5_:=f3_.symm;clear f1_ f2_ f3_;subst f4_;subst f5_))
      have p371:0 ≤ ((ji29):Int):=of_decide_eq_true zb5
      have q371:(ji29) < (y357.length:Int):=of_decide_eq_true zb5
      obtain ⟨ad371,e371,hx371_0⟩:=Kd.at_int (Kd.R_reads' HO_5.out).2.2 (ji29) p371 q371
      cases e371
      replace p371:=eq_true p371
      replace q371:=eq_true q371
      refine start_ (n:=18) (S:=fun w' => w'.cell? ⟨gb79,0,none⟩=some (.string (⟨#[116]⟩:ByteArray))∧w'.cell? ⟨gb79,1,none⟩=some (.slice Ao13 y81.length co13)∧w'.cell? ⟨gb79,2,none⟩=some (.int .i64 x83_4)∧w'.cell? ⟨gb79,3,none⟩=some (.int .i64 x84_4)∧w'.cell? ⟨gb79,4,none⟩=some (.int .i64 x98_4)∧w'.cell? ⟨gb79,5,none⟩=some (.int .i64 x99_4)∧w'.cell? ⟨gb79,6,none⟩=some (.int .i64 x100_4)∧w'.cell? ⟨gb79,7,none⟩=some (.int .i64 x101_4)∧w'.cell? (ad371.add ((ji29)).toNat)=some (.int .i64 (rd y357 (ji29)))) (ds:=[]) (zl 18 0) zb20 rfl rfl ⟨(blk_cell BK79.out 0).trans rfl,(blk_cell BK79.out 1).trans rfl,(blk_cell BK79.out 2).trans rfl,(blk_cell BK79.out 3).trans rfl,(blk_cell BK79.out 4).trans rfl,(blk_cell BK79.out 5).trans rfl,(blk_cell BK79.out 6).trans rfl,(blk_cell BK79.out 7).trans rfl,hx371_0⟩ (fun hHeld=>?_);refine with_tabW tollbarlaw09_TableBounds.tab19 tollbarlaw09_TableBounds.bits19 (fun HT_ HW_=>?_)
      generalize wc.drew=w41 at HO_5 HO_6 HO_82 BK79 HB hx371_0 hHeld ⊢
      refine zpu 3 (N:=some 50) (zl 18 8) HT_.out rfl rfl ?_
      refine zpu 4 (N:=some 51) (zl 18 24) HT_.out rfl rfl ?_
      refine zpu 5 (N:=some 52) (zl 18 56) HT_.out rfl rfl ?_
      refine zpu 6 (N:=some 53) (zl 18 120) HT_.out rfl rfl ?_
      refine take_ (i:=0) (N:=some 47) (v:=?_) (a' := ?_) (zl 18 121) rfl rfl (take_ofW HT_.out HW_.out zb20) (fun _ _ _ h=>h) (Or.inl ⟨by rfl,?_⟩) hHeld ?_ ?_
      rotate_left
      ·rintro w' ⟨s0,s1,s2,s3,s4,s5,s6,s7,s8⟩;go_simp;with_reducible rfl
      rotate_left
      ·simp only [Act.put,zqA,zqB,zqC,i64_w,i32_w];rfl
      refine take_ (i:=7) (N:=some 54) (v:=?_) (a' := ?_) (zl 18 249) rfl rfl (take_ofW HT_.out HW_.out zb20) (fun _ _ _ h=>h) (Or.inl ⟨by rfl,?_⟩) hHeld ?_ ?_
      rotate_left
      ·rintro w' ⟨s0,s1,s2,s3,s4,s5,s6,s7,s8⟩;go_simp;with_reducible rfl
      rotate_left
      ·simp only [Act.put,zqA,zqB,zqC,i64_w,i32_w];rfl
      refine zpu 8 (N:=some 55) (zl 18 505) HT_.out rfl rfl ?_
      refine one_ (i:=1) (N:=some 48) (zl 18 507) rfl rfl (one_of HT_.out zb20) zb25 (fun K hK=>?_)
      refine Kd.N_lit_step k26 _ 26 ?hg (N' := 48) ?hd (xs:=([(⟨(⟨#[116]⟩:ByteArray),y81,x83_4,x84_4,x98_4,x99_4,x100_4,x101_4⟩:S26)]:List (S26))) (inner:=[.string (⟨#[116]⟩:ByteArray),.slice Ao13 y81.length co13,.int .i64 x83_4,.int .i64 x84_4,.int .i64 x98_4,.int .i64 x99_4,.int .i64 x100_4,.int .i64 x101_4]) (ok:=(fun k_=>some k_ ≠ (.slice (some ad371) y357.length co42:Value).ownBlock∧some k_ ≠ (v361:Value).ownBlock∧k_ ≠ gb79)) (okp:=(fun k_=>some k_ ≠ (.slice (some ad371) y357.length co42:Value).ownBlock∧some k_ ≠ (v361:Value).ownBlock∧k_ ≠ gb79)) ?hr ?hp (fun _ hk=>hk) ((show ∀ k_,w41.heap.size ≤ k_ → (fun k_=>some k_ ≠ (.slice (some ad371) y357.length co42:Value).ownBlock∧some k_ ≠ (v361:Value).ownBlock∧k_ ≠ gb79) k_ from fun k_ hk=>⟨Kd.fresh' (Kd.R_lt zb35) k_ hk,Kd.fresh' (Kd.R_lt zb36) k_ hk,Kd.freshB (g:=gb79) (o:=.cells #[.string (⟨#[116]⟩:ByteArray),.slice Ao13 y81.length co13,.int .i64 x83_4,.int .i64 x84_4,.int .i64 x98_4,.int .i64 x99_4,.int .i64 x100_4,.int .i64 x101_4] 26 (0,0)) zb4 k_ hk⟩) _ (Nat.le_refl _)) (Below.refl _ _) (Nat.le_refl _) zb30 ?_;(case hd=>rfl);(case hg=>rfl);(case hr=>first|(go_simp;done)|(go_simp;rfl));(case hp=>exact (Reps.c8 (show Kd.FK k26 _ _ (⟨(⟨#[116]⟩:ByteArray),y81,x83_4,x84_4,x98_4,x99_4,x100_4,x101_4⟩:S26) [.string (⟨#[116]⟩:ByteArray),.slice Ao13 y81.length co13,.int .i64 x83_4,.int .i64 x84_4,.int .i64 x98_4,.int .i64 x99_4,.int .i64 x100_4,.int .i64 x101_4] from (k26_mkF _ _ (⟨(⟨#[116]⟩:ByteArray),y81,x83_4,x84_4,x98_4,x99_4,x100_4,x101_4⟩:S26) (Kd.R_reads' (Kd.R_mono (ok' := (fun k_=>some k_ ≠ (.slice (some ad371) y357.length co42:Value).ownBlock∧some k_ ≠ (v361:Value).ownBlock∧k_ ≠ gb79)) (Kd.R_types (Kd.R_apart' (Kd.R_apart' (HO_82.out) (Kd.R_typed HO_5.out) zb25) (Kd.R_typed HO_6.out) zb25) BK79.out zb25) (fun k_ hk=>⟨hk.1.1.2,⟨hk.1.2,hk.2⟩⟩))).2.1 (Kd.R_F (Kd.R_mono (ok' := (fun k_=>some k_ ≠ (.slice (some ad371) y357.length co42:Value).ownBlock∧some k_ ≠ (v361:Value).ownBlock∧k_ ≠ gb79)) (Kd.R_types (Kd.R_apart' (Kd.R_apart' (HO_82.out) (Kd.R_typed HO_5.out) zb25) (Kd.R_typed HO_6.out) zb25) BK79.out zb25) (fun k_ hk=>⟨hk.1.1.2,⟨hk.1.2,hk.2⟩⟩))))) (Reps.none _ _)))
      intro v368 w43 ho44 hb hg_ hnew_
      have HS8_:=(hb.cell (World.block_lt_of_cell? _ _ (hHeld.2.2.2.2.2.2.2.2))).trans (hHeld.2.2.2.2.2.2.2.2)
      clear hg_ hnew_
      (first|rw [← Ny367.out] at ho44|(simp only [Int.reduceToNat] at ho44;rw [← Ny367.out] at ho44))
      have n0_:=Aside0.mk (Kd.R_below zb35 hb)
      have n1_:=Aside0.mk (Kd.R_below zb36 hb)
      have n2_:=Aside0.mk (Kd.N_lower ho44 (below_size zb2))
      have n3_:=Aside0.mk (blk_below (g:=gb79) (o:=.cells #[.string (⟨#[116]⟩:ByteArray),.slice Ao13 y81.length co13,.int .i64 x83_4,.int .i64 x84_4,.int .i64 x98_4,.int .i64 x99_4,.int .i64 x100_4,.int .i64 x101_4] 26 (0,0)) zb4 hb)
      have n4_:=Aside0.mk (below_step zb2 hb)
      have n9_:=Aside0.mk (Kd.R_below zb6 hb)
      clear HO_5 HO_6 BK79 HB HO_82
      have HO_82:=n9_
      clear n9_
      have HO_5:=n0_
      have HO_6:=n1_
      have HO369:=n2_
      have BK79:=n3_
      have HB:=n4_
      clear n0_ n1_ n2_ n3_ n4_ hb ho44
      obtain ⟨Ao45,co45,eo45⟩:=Kd.N_slice HO369.out
      (first|subst eo45|(injection eo45 with f1_ f2_ f3_;have f4_:=f1_.symm;have f5_:=f3_.symm;clear f1_ f2_ f3_;subst f4_;subst f5_))
      refine hK.out _ _ ⟨(blk_cell BK79.out 0).trans rfl,(blk_cell BK79.out 1).trans rfl,(blk_cell BK79.out 2).trans rfl,(blk_cell BK79.out 3).trans rfl,(blk_cell BK79.out 4).trans rfl,(blk_cell BK79.out 5).trans rfl,(blk_cell BK79.out 6).trans rfl,(blk_cell BK79.out 7).trans rfl,HS8_⟩ (fun hHeld=>?_)
      clear hK K
      refine norm_ (a' := ?_) ?_ ?_
      rotate_left
      ·show Act.put _ (some 48) _=_
       simp only [Act.put,zqA,zqB,zqC,i64_w,i32_w]
       rfl
      refine one_ (i:=2) (N:=some 49) (zl 18 511) rfl rfl (one_of HT_.out zb20) zb25 (fun K hK=>?_)
      refine goes_ Tryd.func9 zb20 rfl #[.slice Ao45 y367.length co45] (by rfl) rfl rfl zb3 ?_
      with_reducible refine (table_Right.calls kj4 _ _ y367 t370 _ ?side1 ?side2 A28.out).mono ?_
      (case side1=>exact zb54)
      (case side2=>exact (Kd.N_reads' HO369.out).2.1)
      rintro e w46 ⟨rfl,hb⟩
      have HS8_:=(hb.cell (World.block_lt_of_cell? _ _ (hHeld.2.2.2.2.2.2.2.2))).trans (hHeld.2.2.2.2.2.2.2.2)
      refine ⟨_,rfl,?_⟩
      have n0_:=Aside0.mk (Kd.R_below zb35 hb)
      have n1_:=Aside0.mk (Kd.R_below zb36 hb)
      have n2_:=Aside0.mk (Kd.N_below (by (with_reducible repeat (first|apply Kd.N_alloc|apply Kd.N_drewN|apply Kd.N_drew));exact HO369.out) hb)
      have n3_:=Aside0.mk (blk_below (g:=gb79) (o:=.cells #[.string (⟨#[116]⟩:ByteArray),.slice Ao13 y81.length co13,.int .i64 x83_4,.int .i64 x84_4,.int .i64 x98_4,.int .i64 x99_4,.int .i64 x100_4,.int .i64 x101_4] 26 (0,0)) zb4 hb)
      have n4_:=Aside0.mk (below_step zb2 hb)
      have n9_:=Aside0.mk (Kd.R_below zb6 hb)
      clear HO_5 HO_6 HO369 BK79 HB HO_82
      have HO_82:=n9_
      clear n9_
      have HO_5:=n0_
      have HO_6:=n1_
      have HO369:=n2_
      have BK79:=n3_
      have HB:=n4_
      clear n0_ n1_ n2_ n3_ n4_
      (try clear hb)
      (try clear hb2)
      (try clear hk)
      (try clear hi)
      refine hK.out _ _ ⟨(blk_cell BK79.out 0).trans rfl,(blk_cell BK79.out 1).trans rfl,(blk_cell BK79.out 2).trans rfl,(blk_cell BK79.out 3).trans rfl,(blk_cell BK79.out 4).trans rfl,(blk_cell BK79.out 5).trans rfl,(blk_cell BK79.out 6).trans rfl,(blk_cell BK79.out 7).trans rfl,HS8_⟩ (fun hHeld=>?_)
      clear hK K
      refine norm_ (a' := ?_) ?_ ?_
      rotate_left
      ·show Act.put _ (some 49) _=_
       simp only [Act.put,zqA,zqB,zqC,i64_w,i32_w]
       rfl
      refine zpu 9 (N:=some 56) (zl 18 1023) HT_.out rfl rfl ?_
      refine pure_ (i:=10) (N:=some 57) (v:=undef) (a' := ?_) (zl 18 2047) rfl rfl (any_of HT_.out zb20) (fun _ _ _ h=>h) (Or.inr ⟨by rfl,rfl⟩) ?_ ?_
      rotate_left
      ·simp only [Act.put,zqA,zqB,zqC,i64_w,i32_w];rfl
      refine pure_ (i:=11) (N:=some 58) (v:=undef) (a' := ?_) (zl 18 4095) rfl rfl (any_of HT_.out zb20) (fun _ _ _ h=>h) (Or.inr ⟨by rfl,rfl⟩) ?_ ?_
      rotate_left
      ·simp only [Act.put,zqA,zqB,zqC,i64_w,i32_w];rfl
      refine pure_ (i:=12) (N:=some 59) (v:=undef) (a' := ?_) (zl 18 8191) rfl rfl (any_of HT_.out zb20) (fun _ _ _ h=>h) (Or.inr ⟨by rfl,rfl⟩) ?_ ?_
      rotate_left
      ·simp only [Act.put,zqA,zqB,zqC,i64_w,i32_w];rfl
      refine pure_ (i:=13) (N:=some 60) (v:=undef) (a' := ?_) (zl 18 16383) rfl rfl (any_of HT_.out zb20) (fun _ _ _ h=>h) (Or.inr ⟨by rfl,rfl⟩) ?_ ?_
      rotate_left
      ·simp only [Act.put,zqA,zqB,zqC,i64_w,i32_w];rfl
      refine pure_ (i:=14) (N:=some 61) (v:=undef) (a' := ?_) (zl 18 32767) rfl rfl (any_of HT_.out zb20) (fun _ _ _ h=>h) (Or.inr ⟨by rfl,rfl⟩) ?_ ?_
      rotate_left
      ·simp only [Act.put,zqA,zqB,zqC,i64_w,i32_w];rfl
      refine pure_ (i:=15) (N:=some 62) (v:=undef) (a' := ?_) (zl 18 65535) rfl rfl (any_of HT_.out zb20) (fun _ _ _ h=>h) (Or.inr ⟨by rfl,rfl⟩) ?_ ?_
      rotate_left
      ·simp only [Act.put,zqA,zqB,zqC,i64_w,i32_w];rfl
      refine zpu 16 (N:=some 63) (zl 18 131071) HT_.out rfl rfl ?_
      refine zpu 17 (N:=some 64) (zl 18 262143) HT_.out rfl rfl ?_
      refine done_ (done_of HT_.out zb20) ?_
      try go_wp2
      go_meet
      case rel=>exact ⟨_,((t370 != false)),zb10,H',⟨by have:=HJ4.out;first|omega|exact Nat.le_refl _⟩,⟨zb6⟩,⟨zb4⟩,⟨zb2⟩⟩
     rw [if_pos c32] at H
     have c32b0:decide ((rd y357 (ji29)) ≤ a1)=true:=decide_eq_true c32
     clear c32
     by_cases c33:(ji29) < (y360.length:Int)
     ·rw [if_pos c33] at H
      have c33b0:=decide_eq_true c33
      clear c33
      have H' := Aside0.mk H
      clear H
      try go_wp2
      replace HO_5:=Aside0.mk (Kd.R_drew HO_5.out)
      replace HO_6:=Aside0.mk (Kd.R_drew HO_6.out)
      replace HO_82:=Aside0.mk (Kd.R_drew HO_82.out)
      replace BK79:=Aside0.mk (blk_drew BK79.out)
      replace HB:=Aside0.mk (below_drew1 HB.out)
      obtain ⟨Ao35,co35,eo35⟩:=Kd.R_slice HO_5.out
      (first|subst eo35|(injection eo35 with f1_ f2_ f3_;have f4_:=f1_.symm;have f5_:=f3_.symm;clear f1_ f2_ f3_;subst f4_;subst f5_))
      have p371:0 ≤ ((ji29):Int):=of_decide_eq_true zb5
      have q371:(ji29) < (y357.length:Int):=of_decide_eq_true zb5
      obtain ⟨ad371,e371,hx371_0⟩:=Kd.at_int (Kd.R_reads' HO_5.out).2.2 (ji29) p371 q371
      cases e371
      replace p371:=eq_true p371
      replace q371:=eq_true q371
      have p372:0 ≤ ((ji29):Int):=of_decide_eq_true zb5
      have q372:(ji29) < (y360.length:Int):=of_decide_eq_true zb5
      obtain ⟨Aoq1,coq1,eoq1⟩:=Kd.R_slice HO_6.out
      (first|subst eoq1|(injection eoq1 with f1_ f2_ f3_;have f4_:=f1_.symm;have f5_:=f3_.symm;clear f1_ f2_ f3_;subst f4_;subst f5_))
      obtain ⟨ad372,e372,hx372_0⟩:=Kd.at_int (Kd.R_reads' HO_6.out).2.2 (ji29) p372 q372
      cases e372
      replace p372:=eq_true p372
      replace q372:=eq_true q372
      refine start_ (n:=18) (S:=fun w' => w'.cell? ⟨gb79,0,none⟩=some (.string (⟨#[116]⟩:ByteArray))∧w'.cell? ⟨gb79,1,none⟩=some (.slice Ao13 y81.length co13)∧w'.cell? ⟨gb79,2,none⟩=some (.int .i64 x83_4)∧w'.cell? ⟨gb79,3,none⟩=some (.int .i64 x84_4)∧w'.cell? ⟨gb79,4,none⟩=some (.int .i64 x98_4)∧w'.cell? ⟨gb79,5,none⟩=some (.int .i64 x99_4)∧w'.cell? ⟨gb79,6,none⟩=some (.int .i64 x100_4)∧w'.cell? ⟨gb79,7,none⟩=some (.int .i64 x101_4)∧w'.cell? (ad371.add ((ji29)).toNat)=some (.int .i64 (rd y357 (ji29)))∧w'.cell? (ad372.add ((ji29)).toNat)=some (.int .i64 (rd y360 (ji29)))) (ds:=[]) (zl 18 0) zb20 rfl rfl ⟨(blk_cell BK79.out 0).trans rfl,(blk_cell BK79.out 1).trans rfl,(blk_cell BK79.out 2).trans rfl,(blk_cell BK79.out 3).trans rfl,(blk_cell BK79.out 4).trans rfl,(blk_cell BK79.out 5).trans rfl,(blk_cell BK79.out 6).trans rfl,(blk_cell BK79.out 7).trans rfl,hx371_0,hx372_0⟩ (fun hHeld=>?_);refine with_tabW tollbarlaw09_TableBounds.tab19 tollbarlaw09_TableBounds.bits19 (fun HT_ HW_=>?_)
      generalize wc.drew=w34 at HO_5 HO_6 HO_82 BK79 HB hx371_0 hx372_0 hHeld ⊢
      refine zpu 3 (N:=some 50) (zl 18 8) HT_.out rfl rfl ?_
      refine zpu 4 (N:=some 51) (zl 18 24) HT_.out rfl rfl ?_
      refine zpu 5 (N:=some 52) (zl 18 56) HT_.out rfl rfl ?_
      refine zpu 6 (N:=some 53) (zl 18 120) HT_.out rfl rfl ?_
      refine take_ (i:=0) (N:=some 47) (v:=?_) (a' := ?_) (zl 18 121) rfl rfl (take_ofW HT_.out HW_.out zb20) (fun _ _ _ h=>h) (Or.inl ⟨by rfl,?_⟩) hHeld ?_ ?_
      rotate_left
      ·rintro w' ⟨s0,s1,s2,s3,s4,s5,s6,s7,s8,s9⟩;go_simp;with_reducible rfl
      rotate_left
      ·simp only [Act.put,zqA,zqB,zqC,i64_w,i32_w];rfl
      refine take_ (i:=7) (N:=some 54) (v:=?_) (a' := ?_) (zl 18 249) rfl rfl (take_ofW HT_.out HW_.out zb20) (fun _ _ _ h=>h) (Or.inl ⟨by rfl,?_⟩) hHeld ?_ ?_
      rotate_left
      ·rintro w' ⟨s0,s1,s2,s3,s4,s5,s6,s7,s8,s9⟩;go_simp;with_reducible rfl
      rotate_left
      ·simp only [Act.put,zqA,zqB,zqC,i64_w,i32_w];rfl
      refine zpu 8 (N:=some 55) (zl 18 505) HT_.out rfl rfl ?_
      refine one_ (i:=1) (N:=some 48) (zl 18 507) rfl rfl (one_of HT_.out zb20) zb25 (fun K hK=>?_)
      refine Kd.N_lit_step k26 _ 26 ?hg (N' := 48) ?hd (xs:=([(⟨(⟨#[116]⟩:ByteArray),y81,x83_4,x84_4,x98_4,x99_4,x100_4,x101_4⟩:S26)]:List (S26))) (inner:=[.string (⟨#[116]⟩:ByteArray),.slice Ao13 y81.length co13,.int .i64 x83_4,.int .i64 x84_4,.int .i64 x98_4,.int .i64 x99_4,.int .i64 x100_4,.int .i64 x101_4]) (ok:=(fun k_=>some k_ ≠ (.slice (some ad371) y357.length co35:Value).ownBlock∧some k_ ≠ (.slice (some ad372) y360.length coq1:Value).ownBlock∧k_ ≠ gb79)) (okp:=(fun k_=>some k_ ≠ (.slice (some ad371) y357.length co35:Value).ownBlock∧some k_ ≠ (.slice (some ad372) y360.length coq1:Value).ownBlock∧k_ ≠ gb79)) ?hr ?hp (fun _ hk=>hk) ((show ∀ k_,w34.heap.size ≤ k_ → (fun k_=>some k_ ≠ (.slice (some ad371) y357.length co35:Value).ownBlock∧some k_ ≠ (.slice (some ad372) y360.length coq1:Value).ownBlock∧k_ ≠ gb79) k_ from fun k_ hk=>⟨Kd.fresh' (Kd.R_lt zb35) k_ hk,Kd.fresh' (Kd.R_lt zb36) k_ hk,Kd.freshB (g:=gb79) (o:=.cells #[.string (⟨#[116]⟩:ByteArray),.slice Ao13 y81.length co13,.int .i64 x83_4,.int .i64 x84_4,.int .i64 x98_4,.int .i64 x99_4,.int .i64 x100_4,.int .i64 x101_4] 26 (0,0)) zb4 k_ hk⟩) _ (Nat.le_refl _)) (Below.refl _ _) (Nat.le_refl _) zb30 ?_;(case hd=>rfl);(case hg=>rfl);(case hr=>first|(go_simp;done)|(go_simp;rfl));(case hp=>exact (Reps.c8 (show Kd.FK k26 _ _ (⟨(⟨#[116]⟩:ByteArray),y81,x83_4,x84_4,x98_4,x99_4,x100_4,x101_4⟩:S26) [.string (⟨#[116]⟩:ByteArray),.slice Ao13 y81.length co13,.int .i64 x83_4,.int .i64 x84_4,.int .i64 x98_4,.int .i64 x99_4,.int .i64 x100_4,.int .i64 x101_4] from (k26_mkF _ _ (⟨(⟨#[116]⟩:ByteArray),y81,x83_4,x84_4,x98_4,x99_4,x100_4,x101_4⟩:S26) (Kd.R_reads' (Kd.R_mono (ok' := (fun k_=>some k_ ≠ (.slice (some ad371) y357.length co35:Value).ownBlock∧some k_ ≠ (.slice (some ad372) y360.length coq1:Value).ownBlock∧k_ ≠ gb79)) (Kd.R_types (Kd.R_apart' (Kd.R_apart' (HO_82.out) (Kd.R_typed HO_5.out) zb25) (Kd.R_typed HO_6.out) zb25) BK79.out zb25) (fun k_ hk=>⟨hk.1.1.2,⟨hk.1.2,hk.2⟩⟩))).2.1 (Kd.R_F (Kd.R_mono (ok' := (fun k_=>some k_ ≠ (.slice (some ad371) y357.length co35:Value).ownBlock∧some k_ ≠ (.slice (some ad372) y360.length coq1:Value).ownBlock∧k_ ≠ gb79)) (Kd.R_types (Kd.R_apart' (Kd.R_apart' (HO_82.out) (Kd.R_typed HO_5.out) zb25) (Kd.R_typed HO_6.out) zb25) BK79.out zb25) (fun k_ hk=>⟨hk.1.1.2,⟨hk.1.2,hk.2⟩⟩))))) (Reps.none _ _)))
      intro v368 w36 ho37 hb hg_ hnew_
      have HS8_:=(hb.cell (World.block_lt_of_cell? _ _ (hHeld.2.2.2.2.2.2.2.2.1))).trans (hHeld.2.2.2.2.2.2.2.2.1)
      have HS9_:=(hb.cell (World.block_lt_of_cell? _ _ (hHeld.2.2.2.2.2.2.2.2.2))).trans (hHeld.2.2.2.2.2.2.2.2.2)
      clear hg_ hnew_
      (first|rw [← Ny367.out] at ho37|(simp only [Int.reduceToNat] at ho37;rw [← Ny367.out] at ho37))
      have n0_:=Aside0.mk (Kd.R_below zb35 hb)
      have n1_:=Aside0.mk (Kd.R_below zb36 hb)
      have n2_:=Aside0.mk (Kd.N_lower ho37 (below_size zb2))
      have n3_:=Aside0.mk (blk_below (g:=gb79) (o:=.cells #[.string (⟨#[116]⟩:ByteArray),.slice Ao13 y81.length co13,.int .i64 x83_4,.int .i64 x84_4,.int .i64 x98_4,.int .i64 x99_4,.int .i64 x100_4,.int .i64 x101_4] 26 (0,0)) zb4 hb)
      have n4_:=Aside0.mk (below_step zb2 hb)
      have n9_:=Aside0.mk (Kd.R_below zb6 hb)
      clear HO_5 HO_6 BK79 HB HO_82
      have HO_82:=n9_
      clear n9_
      have HO_5:=n0_
      have HO_6:=n1_
      have HO369:=n2_
      have BK79:=n3_
      have HB:=n4_
      clear n0_ n1_ n2_ n3_ n4_ hb ho37
      obtain ⟨Ao38,co38,eo38⟩:=Kd.N_slice HO369.out
      (first|subst eo38|(injection eo38 with f1_ f2_ f3_;have f4_:=f1_.symm;have f5_:=f3_.symm;clear f1_ f2_ f3_;subst f4_;subst f5_))
      refine hK.out _ _ ⟨(blk_cell BK79.out 0).trans rfl,(blk_cell BK79.out 1).trans rfl,(blk_cell BK79.out 2).trans rfl,(blk_cell BK79.out 3).trans rfl,(blk_cell BK79.out 4).trans rfl,(blk_cell BK79.out 5).trans rfl,(blk_cell BK79.out 6).trans rfl,(blk_cell BK79.out 7).trans rfl,HS8_,HS9_⟩ (fun hHeld=>?_)
      clear hK K
      refine norm_ (a' := ?_) ?_ ?_
      rotate_left
      ·show Act.put _ (some 48) _=_
       simp only [Act.put,zqA,zqB,zqC,i64_w,i32_w]
       rfl
      refine one_ (i:=2) (N:=some 49) (zl 18 511) rfl rfl (one_of HT_.out zb20) zb25 (fun K hK=>?_)
      refine goes_ Tryd.func9 zb20 rfl #[.slice Ao38 y367.length co38] (by rfl) rfl rfl zb3 ?_
      with_reducible refine (table_Right.calls kj4 _ _ y367 t370 _ ?side1 ?side2 A28.out).mono ?_
      (case side1=>exact zb54)
      (case side2=>exact (Kd.N_reads' HO369.out).2.1)
      rintro e w39 ⟨rfl,hb⟩
      have HS8_:=(hb.cell (World.block_lt_of_cell? _ _ (hHeld.2.2.2.2.2.2.2.2.1))).trans (hHeld.2.2.2.2.2.2.2.2.1)
      have HS9_:=(hb.cell (World.block_lt_of_cell? _ _ (hHeld.2.2.2.2.2.2.2.2.2))).trans (hHeld.2.2.2.2.2.2.2.2.2)
      refine ⟨_,rfl,?_⟩
      have n0_:=Aside0.mk (Kd.R_below zb35 hb)
      have n1_:=Aside0.mk (Kd.R_below zb36 hb)
      have n2_:=Aside0.mk (Kd.N_below (by (with_reducible repeat (first|apply Kd.N_alloc|apply Kd.N_drewN|apply Kd.N_drew));exact HO369.out) hb)
      have n3_:=Aside0.mk (blk_below (g:=gb79) (o:=.cells #[.string (⟨#[116]⟩:ByteArray),.slice Ao13 y81.length co13,.int .i64 x83_4,.int .i64 x84_4,.int .i64 x98_4,.int .i64 x99_4,.int .i64 x100_4,.int .i64 x101_4] 26 (0,0)) zb4 hb)
      have n4_:=Aside0.mk (below_step zb2 hb)
      have n9_:=Aside0.mk (Kd.R_below zb6 hb)
      clear HO_5 HO_6 HO369 BK79 HB HO_82
      have HO_82:=n9_
      clear n9_
      have HO_5:=n0_
      have HO_6:=n1_
      have HO369:=n2_
      have BK79:=n3_
      have HB:=n4_
      clear n0_ n1_ n2_ n3_ n4_
      (try clear hb)
      (try clear hb2)
      (try clear hk)
      (try clear hi)
      obtain ⟨Ao40,co40,eo40⟩:=Kd.R_slice HO_6.out
      (first|subst eo40|(injection eo40 with f1_ f2_ f3_;have f4_:=f1_.symm;have f5_:=f3_.symm;clear f1_ f2_ f3_;subst f4_;subst f5_))
      refine hK.out _ _ ⟨(blk_cell BK79.out 0).trans rfl,(blk_cell BK79.out 1).trans rfl,(blk_cell BK79.out 2).trans rfl,(blk_cell BK79.out 3).trans rfl,(blk_cell BK79.out 4).trans rfl,(blk_cell BK79.out 5).trans rfl,(blk_cell BK79.out 6).trans rfl,(blk_cell BK79.out 7).trans rfl,HS8_,HS9_⟩ (fun hHeld=>?_)
      clear hK K
      refine norm_ (a' := ?_) ?_ ?_
      rotate_left
      ·show Act.put _ (some 49) _=_
       simp only [Act.put,zqA,zqB,zqC,i64_w,i32_w]
       rfl
      refine zpu 9 (N:=some 56) (zl 18 1023) HT_.out rfl rfl ?_
      refine zpu 10 (N:=some 57) (zl 18 2047) HT_.out rfl rfl ?_
      refine zpu 11 (N:=some 58) (zl 18 4095) HT_.out rfl rfl ?_
      refine zpu 12 (N:=some 59) (zl 18 8191) HT_.out rfl rfl ?_
      refine zpu 13 (N:=some 60) (zl 18 16383) HT_.out rfl rfl ?_
      refine take_ (i:=14) (N:=some 61) (v:=?_) (a' := ?_) (zl 18 32767) rfl rfl (take_ofW HT_.out HW_.out zb20) (fun _ _ _ h=>h) (Or.inl ⟨by rfl,?_⟩) hHeld ?_ ?_
      rotate_left
      ·rintro w' ⟨s0,s1,s2,s3,s4,s5,s6,s7,s8,s9⟩;go_simp;with_reducible rfl
      rotate_left
      ·simp only [Act.put,zqA,zqB,zqC,i64_w,i32_w];rfl
      refine zpu 15 (N:=some 62) (zl 18 65535) HT_.out rfl rfl ?_
      refine zpu 16 (N:=some 63) (zl 18 131071) HT_.out rfl rfl ?_
      refine zpu 17 (N:=some 64) (zl 18 262143) HT_.out rfl rfl ?_
      refine done_ (done_of HT_.out zb20) ?_
      try go_wp2
      go_meet
      case rel=>exact ⟨_,((t370 != (decide (a1 ≤ (rd y360 (ji29)))))),(by first|rfl|(simp;done)|(simp only [← hji29] <;> (first|rfl|simp))|(simp [*];done)),H',⟨by have:=HJ4.out;first|omega|exact Nat.le_refl _⟩,⟨zb6⟩,⟨zb4⟩,⟨zb2⟩⟩
     ·rw [if_neg c33] at H
      exact absurd H zb30
    ·rw [if_neg c31] at H
     exact absurd H zb30
   case rest =>
    clear HC27
    try clear p2
    try clear c3
    try clear p3
    try clear q3
    try clear hx3
    try clear c8
    try clear c9
    try clear c30
    try clear c30b0
    try clear c31
    try clear c31b0
    try clear c32
    try clear c32b0
    try clear c33
    try clear c33b0
    try clear p37
    try clear q37
    try clear hx37
    try clear hcz17_0
    try clear hcz17_1
    try clear hcz17_2
    try clear hcz17_3
    try clear hcz17_4
    try clear hcz17_5
    try clear hcz17_6
    try clear hcz17_7
    try clear hcz19_0
    try clear hcz19_1
    try clear hcz19_2
    try clear hcz19_3
    try clear hcz19_4
    try clear hcz19_5
    try clear hcz19_6
    try clear hcz19_7
    try clear hcz21_0
    try clear hcz21_1
    try clear hcz21_2
    try clear hcz21_3
    try clear hcz21_4
    try clear hcz21_5
    try clear hcz21_6
    try clear hcz21_7
    try clear hcz23_0
    try clear hcz23_1
    try clear hcz23_2
    try clear hcz23_3
    try clear hcz23_4
    try clear hcz23_5
    try clear hcz23_6
    try clear hcz23_7
    try clear hcz25_0
    try clear hcz25_1
    try clear hcz25_2
    try clear hcz25_3
    try clear hcz25_4
    try clear hcz25_5
    try clear hcz25_6
    try clear hcz25_7
    try clear hcz26_0
    try clear hcz26_1
    try clear hcz26_2
    try clear hcz26_3
    try clear hcz26_4
    try clear hcz26_5
    try clear hcz26_6
    try clear hcz26_7
    try clear hfz15_0
    try clear hfz15_1
    try clear hfz15_2
    try clear hfz15_3
    try clear hfz15_4
    try clear hfz15_5
    try clear hfz15_6
    try clear hfz15_7
    try clear hfz17_0
    try clear hfz17_1
    try clear hfz17_2
    try clear hfz17_3
    try clear hfz17_4
    try clear hfz17_5
    try clear hfz17_6
    try clear hfz17_7
    try clear hfz19_0
    try clear hfz19_1
    try clear hfz19_2
    try clear hfz19_3
    try clear hfz19_4
    try clear hfz19_5
    try clear hfz19_6
    try clear hfz19_7
    try clear hfz21_0
    try clear hfz21_1
    try clear hfz21_2
    try clear hfz21_3
    try clear hfz21_4
    try clear hfz21_5
    try clear hfz21_6
    try clear hfz21_7
    try clear hfz23_0
    try clear hfz23_1
    try clear hfz23_2
    try clear hfz23_3
    try clear hfz23_4
    try clear hfz23_5
    try clear hfz23_6
    try clear hfz23_7
    try clear hfz25_0
    try clear hfz25_1
    try clear hfz25_2
    try clear hfz25_3
    try clear hfz25_4
    try clear hfz25_5
    try clear hfz25_6
    try clear hfz25_7
    try clear hfz26_0
    try clear hfz26_1
    try clear hfz26_2
    try clear hfz26_3
    try clear hfz26_4
    try clear hfz26_5
    try clear hfz26_6
    try clear hfz26_7
    try clear hx371_0
    try clear hx372_0
    try clear p371
    try clear p372
    try clear q371
    try clear q372
    obtain ⟨kq,x64_26,rfl,HA,HJ26,HO_82,BK79,HB⟩:=hcut
    cases kq with
    | zero=>exact absurd HA.out (by simp [tollbarlaw09_TableBounds.j1])
    | succ kj26 =>
     have H:=HA.out
     clear HA
     simp only [tollbarlaw09_TableBounds.j1] at H
     by_cases c47:x64_26=true
     ·subst c47
      rw [if_pos rfl] at H
      exact absurd ((Option.some.inj H).trans HRT.out) zb25
     replace c47:=Bool.eq_false_iff.mpr c47
     subst c47
     rw [if_neg (show ¬ (false=true) by decide)] at H
     obtain ⟨y373,hy373⟩ : ∃ y_:List (S26),y_=(([]:List (S26))):=⟨_,rfl⟩
     replace H:(tollbarlaw09_TableBounds.l0 kj26 (Go.bits .and .i64 a1 31) y373 (([]:List ByteArray)) 0)=some r:=by first|(rw [hy373];with_reducible exact H)|(have H2_:=(Option.bind_some _ _).symm.trans H;rw [hy373];with_reducible exact H2_)|(have H2_:=(Option.bind_some _ _).symm.trans H;with_reducible exact H2_)|with_reducible exact H|(rw [hy373];exact H)|exact H
     have Ny373:=Aside0.mk hy373
     clear hy373
     obtain ⟨y376,hy376⟩ : ∃ y_:List ByteArray,y_=(([]:List ByteArray)):=⟨_,rfl⟩
     replace H:(tollbarlaw09_TableBounds.l0 kj26 (Go.bits .and .i64 a1 31) y373 y376 0)=some r:=by first|(rw [hy376];with_reducible exact H)|(have H2_:=(Option.bind_some _ _).symm.trans H;rw [hy376];with_reducible exact H2_)|(have H2_:=(Option.bind_some _ _).symm.trans H;with_reducible exact H2_)|with_reducible exact H|(rw [hy376];exact H)|exact H
     have Ny376:=Aside0.mk hy376
     clear hy376
     have H' := Aside0.mk H
     clear H
     go_wp2_with (first|((with_reducible refine gate_dst (N:=67) rfl ?_);(try (refine gate_guard (by rfl) ?_;dsimp only));refine Kd.N_lit k26 _ 26 ?hg (N' := 67) ?hd (xs:=([]:List (S26))) (inner:=[]) (ok:=(fun k_=>some k_ ≠ (.slice Ao13 y81.length co13:Value).ownBlock∧k_ ≠ gb79)) (okp:=(fun k_=>some k_ ≠ (.slice Ao13 y81.length co13:Value).ownBlock∧k_ ≠ gb79)) ?hr ?hp (fun _ hk=>hk) ((show ∀ k_,wc.heap.size ≤ k_ → (fun k_=>some k_ ≠ (.slice Ao13 y81.length co13:Value).ownBlock∧k_ ≠ gb79) k_ from fun k_ hk=>⟨Kd.fresh' (Kd.R_lt zb6) k_ hk,Kd.freshB (g:=gb79) (o:=.cells #[.string (⟨#[116]⟩:ByteArray),.slice Ao13 y81.length co13,.int .i64 x83_4,.int .i64 x84_4,.int .i64 x98_4,.int .i64 x99_4,.int .i64 x100_4,.int .i64 x101_4] 26 (0,0)) zb4 k_ hk⟩) _ (Nat.le_refl _)) (Below.refl _ _) (Nat.le_refl _) zb30 ?_;(case hd=>rfl);(case hg=>rfl);(case hr=>first|(go_simp;done)|(go_simp;rfl));(case hp=>exact (Reps.none _ _));intro v374 w48 ho49 hb hg_ hnew_;clear hg_ hnew_;(first|rw [← Ny373.out] at ho49|(simp only [Int.reduceToNat] at ho49;rw [← Ny373.out] at ho49));replace HO_82:=Aside0.mk (Kd.R_below zb6 hb);have HO375:=Aside0.mk (Kd.N_lower ho49 (below_size zb2));replace BK79:=Aside0.mk (blk_below (g:=gb79) (o:=.cells #[.string (⟨#[116]⟩:ByteArray),.slice Ao13 y81.length co13,.int .i64 x83_4,.int .i64 x84_4,.int .i64 x98_4,.int .i64 x99_4,.int .i64 x100_4,.int .i64 x101_4] 26 (0,0)) zb4 hb);replace HB:=Aside0.mk (below_step zb2 hb);clear hb ho49)|((with_reducible refine gate_dst (N:=68) rfl ?_);(try (refine gate_guard (by rfl) ?_;dsimp only));refine Kd.R_lit Kd.string _ 9 ?hg (N:=68) ?hd (xs:=([]:List ByteArray)) (inner:=[]) (ok:=fun _=>True) (okp:=fun _=>True) ?hr ?hp (fun _ hk=>hk) trivial (Below.refl _ _) (Nat.le_refl _) zb30 ?_;(case hd=>rfl);(case hg=>rfl);(case hr=>first|(go_simp;done)|(go_simp;rfl));(case hp=>exact (Reps.none _ _));intro v377 w50 ho51 hb hg_ hnew_;clear hg_ hnew_;(first|rw [← Ny376.out] at ho51|(simp only [Int.reduceToNat] at ho51;rw [← Ny376.out] at ho51));replace HO375:=Aside0.mk (Kd.N_elder' (by (with_reducible repeat (first|apply Kd.N_alloc|apply Kd.N_drewN|apply Kd.N_drew));exact HO375.out) (Kd.R_base ho51) hb);have HO378:=Aside0.mk (Kd.R_lower (Kd.R_new' ho51 (Kd.R_lt zb6)) (below_size zb2));replace HO_82:=Aside0.mk (Kd.R_elder' zb6 (Kd.R_base ho51) hb);replace BK79:=Aside0.mk (blk_below (g:=gb79) (o:=.cells #[.string (⟨#[116]⟩:ByteArray),.slice Ao13 y81.length co13,.int .i64 x83_4,.int .i64 x84_4,.int .i64 x98_4,.int .i64 x99_4,.int .i64 x100_4,.int .i64 x101_4] 26 (0,0)) zb4 hb);replace HB:=Aside0.mk (below_step zb2 hb);clear hb ho51))
     go_loopg [10,11,12] kj26 (fun kq v10 v11 v12 w' => ∃ (x10_3:List (S26)) (x11_3:List ByteArray) (x12_3:Int),v12 = .int .i64 x12_3∧Aside0 (tollbarlaw09_TableBounds.l0 kq (Go.bits .and .i64 a1 31) x10_3 x11_3 x12_3=some r)∧Aside0 (kq ≤ kj26)∧Aside0 (Kd.N k26 26 w' w.heap.size (fun k_=>some k_ ≠ (v11:Value).ownBlock∧some k_ ≠ ((.slice Ao13 y81.length co13):Value).ownBlock∧k_ ≠ gb79) v10 x10_3)∧Aside0 (Kd.R Kd.string 9 w' w.heap.size (fun k_=>some k_ ≠ ((.slice Ao13 y81.length co13):Value).ownBlock) v11 x11_3)∧Aside0 (Kd.R Kd.string 9 w' w.heap.size (fun k_=>some k_ ≠ (v11:Value).ownBlock) (.slice Ao13 y81.length co13) y81)∧Aside0 (w'.heap[gb79]? = some (.cells #[.string (⟨#[116]⟩:ByteArray),(.slice Ao13 y81.length co13),.int .i64 x83_4,.int .i64 x84_4,.int .i64 x98_4,.int .i64 x99_4,.int .i64 x100_4,.int .i64 x101_4] 26 (0,0)))∧Aside0 (Below w.heap.size w w'))
     case atStart=>exact ⟨(y373),(y376),(0),zb10,H',⟨Nat.le_refl _⟩,⟨by (with_reducible repeat (first|apply Kd.N_alloc|apply Kd.N_drewN|apply Kd.N_drew));exact Kd.N_mono HO375.out (fun _ hk=>⟨hk.2,⟨hk.1.1,hk.1.2⟩⟩)⟩,⟨by (with_reducible repeat (first|apply Kd.R_alloc|apply Kd.R_drewN|apply Kd.R_drew));exact Kd.R_mono HO378.out (fun _ hk=>hk.2)⟩,⟨by (with_reducible repeat (first|apply Kd.R_alloc|apply Kd.R_drewN|apply Kd.R_drew));exact Kd.R_mono HO_82.out (fun _ hk=>hk.2)⟩,⟨zb4⟩,⟨zb2⟩⟩
     case round =>
      clear H'
      try clear p2
      try clear c3
      try clear p3
      try clear q3
      try clear hx3
      try clear c4
      try clear c8
      try clear c9
      try clear c30
      try clear c30b0
      try clear c31
      try clear c31b0
      try clear c32
      try clear c32b0
      try clear c33
      try clear c33b0
      try clear p37
      try clear q37
      try clear hx37
      try clear c47
      try clear hcz17_0
      try clear hcz17_1
      try clear hcz17_2
      try clear hcz17_3
      try clear hcz17_4
      try clear hcz17_5
      try clear hcz17_6
      try clear hcz17_7
      try clear hcz19_0
      try clear hcz19_1
      try clear hcz19_2
      try clear hcz19_3
      try clear hcz19_4
      try clear hcz19_5
      try clear hcz19_6
      try clear hcz19_7
      try clear hcz21_0
      try clear hcz21_1
      try clear hcz21_2
      try clear hcz21_3
      try clear hcz21_4
      try clear hcz21_5
      try clear hcz21_6
      try clear hcz21_7
      try clear hcz23_0
      try clear hcz23_1
      try clear hcz23_2
      try clear hcz23_3
      try clear hcz23_4
      try clear hcz23_5
      try clear hcz23_6
      try clear hcz23_7
      try clear hcz25_0
      try clear hcz25_1
      try clear hcz25_2
      try clear hcz25_3
      try clear hcz25_4
      try clear hcz25_5
      try clear hcz25_6
      try clear hcz25_7
      try clear hcz26_0
      try clear hcz26_1
      try clear hcz26_2
      try clear hcz26_3
      try clear hcz26_4
      try clear hcz26_5
      try clear hcz26_6
      try clear hcz26_7
      try clear hfz15_0
      try clear hfz15_1
      try clear hfz15_2
      try clear hfz15_3
      try clear hfz15_4
      try clear hfz15_5
      try clear hfz15_6
      try clear hfz15_7
      try clear hfz17_0
      try clear hfz17_1
      try clear hfz17_2
      try clear hfz17_3
      try clear hfz17_4
      try clear hfz17_5
      try clear hfz17_6
      try clear hfz17_7
      try clear hfz19_0
      try clear hfz19_1
      try clear hfz19_2
      try clear hfz19_3
      try clear hfz19_4
      try clear hfz19_5
      try clear hfz19_6
      try clear hfz19_7
      try clear hfz21_0
      try clear hfz21_1
      try clear hfz21_2
      try clear hfz21_3
      try clear hfz21_4
      try clear hfz21_5
      try clear hfz21_6
      try clear hfz21_7
      try clear hfz23_0
      try clear hfz23_1
      try clear hfz23_2
      try clear hfz23_3
      try clear hfz23_4
      try clear hfz23_5
      try clear hfz23_6
      try clear hfz23_7
      try clear hfz25_0
      try clear hfz25_1
      try clear hfz25_2
      try clear hfz25_3
      try clear hfz25_4
      try clear hfz25_5
      try clear hfz25_6
      try clear hfz25_7
      try clear hfz26_0
      try clear hfz26_1
      try clear hfz26_2
      try clear hfz26_3
      try clear hfz26_4
      try clear hfz26_5
      try clear hfz26_6
      try clear hfz26_7
      try clear hx371_0
      try clear hx372_0
      try clear p2
      try clear p3
      try clear p37
      try clear p371
      try clear p372
      try clear q3
      try clear q37
      try clear q371
      try clear q372
      obtain ⟨x10_3,x11_3,x12_3,rfl,HA,HK3,HO_10,HO_11,HO_82,BK79,HB⟩:=hrel
      cases gk with
      | zero=>exact absurd HA.out (by simp [tollbarlaw09_TableBounds.l0])
      | succ k3 =>
       have H:=HA.out
       clear HA
       simp only [tollbarlaw09_TableBounds.l0] at H
       by_cases c52:x12_3 < (Go.bits .and .i64 a1 31)
       ·rw [if_pos c52] at H
        have c52b0:=decide_eq_true c52
        clear c52
        obtain ⟨y379,hy379⟩ : ∃ y_:List Int,y_=(([(wrap64 (97 + x12_3)) % 256]:List Int)):=⟨_,rfl⟩
        replace H:(if 1 + (strOfNums y379).size ≤ 9223372036854775807 then (if x11_3.length < 8796093022208 then (if x10_3.length < 1599289640401 then (tollbarlaw09_TableBounds.l0 k3 (Go.bits .and .i64 a1 31) (x10_3 ++ [(⟨(⟨#[104]⟩:ByteArray) ++ (strOfNums y379),(([(⟨#[104]⟩:ByteArray) ++ (strOfNums y379)]:List ByteArray)),256,1,1,1,1,1⟩:S26)]) (x11_3 ++ [(⟨#[104]⟩:ByteArray) ++ (strOfNums y379)]) (wrap64 (x12_3 + 1))) else (none)) else (none)) else (none))=some r:=by first|(rw [hy379];with_reducible exact H)|(have H2_:=(Option.bind_some _ _).symm.trans H;rw [hy379];with_reducible exact H2_)|(have H2_:=(Option.bind_some _ _).symm.trans H;with_reducible exact H2_)|with_reducible exact H|(rw [hy379];exact H)|exact H
        have Ny379:=Aside0.mk hy379
        clear hy379
        by_cases c53:1 + (strOfNums y379).size ≤ 9223372036854775807;rotate_left
        ·rw [if_neg c53] at H
         exact absurd H zb30
        rw [if_pos c53] at H
        have c53b0:=eq_true c53
        have c53b1:=decide_eq_true c53
        try have c53b2:(9223372036854775807 < 1 + (strOfNums y379).size)=False:=eq_false (Nat.not_lt.2 c53)
        by_cases c54:x11_3.length < 8796093022208
        ·rw [if_pos c54] at H
         have LMc54:=Aside0.mk c54
         clear c54
         obtain ⟨y382,hy382⟩ : ∃ y_:List ByteArray,y_=(x11_3 ++ [(⟨#[104]⟩:ByteArray) ++ (strOfNums y379)]):=⟨_,rfl⟩
         replace H:(if x10_3.length < 1599289640401 then (tollbarlaw09_TableBounds.l0 k3 (Go.bits .and .i64 a1 31) (x10_3 ++ [(⟨(⟨#[104]⟩:ByteArray) ++ (strOfNums y379),(([(⟨#[104]⟩:ByteArray) ++ (strOfNums y379)]:List ByteArray)),256,1,1,1,1,1⟩:S26)]) y382 (wrap64 (x12_3 + 1))) else (none))=some r:=by first|(rw [hy382];with_reducible exact H)|(have H2_:=(Option.bind_some _ _).symm.trans H;rw [hy382];with_reducible exact H2_)|(have H2_:=(Option.bind_some _ _).symm.trans H;with_reducible exact H2_)|with_reducible exact H|(rw [hy382];exact H)|exact H
         have Ny382:=Aside0.mk hy382
         clear hy382
         obtain ⟨y385,hy385⟩ : ∃ y_:List ByteArray,y_=(([(⟨#[104]⟩:ByteArray) ++ (strOfNums y379)]:List ByteArray)):=⟨_,rfl⟩
         replace H:(if x10_3.length < 1599289640401 then (tollbarlaw09_TableBounds.l0 k3 (Go.bits .and .i64 a1 31) (x10_3 ++ [(⟨(⟨#[104]⟩:ByteArray) ++ (strOfNums y379),y385,256,1,1,1,1,1⟩:S26)]) y382 (wrap64 (x12_3 + 1))) else (none))=some r:=by first|(rw [hy385];with_reducible exact H)|(have H2_:=(Option.bind_some _ _).symm.trans H;rw [hy385];with_reducible exact H2_)|(have H2_:=(Option.bind_some _ _).symm.trans H;with_reducible exact H2_)|with_reducible exact H|(rw [hy385];exact H)|exact H
         have Ny385:=Aside0.mk hy385
         clear hy385
         by_cases c55:x10_3.length < 1599289640401;rotate_left
         ·rw [if_neg c55] at H
          exact absurd H zb30
         rw [if_pos c55] at H
         have LMc55:=Aside0.mk c55
         clear c55
         obtain ⟨y388,hy388⟩ : ∃ y_:List (S26),y_=(x10_3 ++ [(⟨(⟨#[104]⟩:ByteArray) ++ (strOfNums y379),y385,256,1,1,1,1,1⟩:S26)]):=⟨_,rfl⟩
         replace H:(tollbarlaw09_TableBounds.l0 k3 (Go.bits .and .i64 a1 31) y388 y382 (wrap64 (x12_3 + 1)))=some r:=by first|(rw [hy388];with_reducible exact H)|(have H2_:=(Option.bind_some _ _).symm.trans H;rw [hy388];with_reducible exact H2_)|(have H2_:=(Option.bind_some _ _).symm.trans H;with_reducible exact H2_)|with_reducible exact H|(rw [hy388];exact H)|exact H
         have Ny388:=Aside0.mk hy388
         clear hy388
         have H' := Aside0.mk H
         clear H
         go_wp2_with (first|((with_reducible refine gate_dst (N:=77) rfl ?_);(try (refine gate_guard (by rfl) ?_;dsimp only));refine Kd.R_lit (Kd.int .u8) _ 5 ?hg (N:=77) ?hd (xs:=([(wrap64 (97 + x12_3)) % 256]:List Int)) (inner:=[.int .u8 ((wrap64 (97 + x12_3)) % 256)]) (ok:=fun _=>True) (okp:=fun _=>True) ?hr ?hp (fun _ hk=>hk) trivial (Below.refl _ _) (Nat.le_refl _) zb30 ?_;(case hd=>rfl);(case hg=>rfl);(case hr=>first|(go_simp;done)|(go_simp;rfl));(case hp=>exact (Reps.one (show Kd.M (Kd.int .u8) _ _ _ ((wrap64 (97 + x12_3)) % 256) [.int .u8 ((wrap64 (97 + x12_3)) % 256)] from rfl) (Reps.none _ _)));intro v380 w56 ho57 hb hg_ hnew_;clear hg_ hnew_;(first|rw [← Ny379.out] at ho57|(simp only [Int.reduceToNat] at ho57;rw [← Ny379.out] at ho57));replace HO_10:=Aside0.mk (Kd.N_elder' zb17 (Kd.R_base ho57) hb);replace HO_11:=Aside0.mk (Kd.R_below zb39 hb);replace HO_82:=Aside0.mk (Kd.R_below zb6 hb);have HO381:=Aside0.mk (Kd.R_lower ho57 (below_size zb2));replace BK79:=Aside0.mk (blk_below (g:=gb79) (o:=.cells #[.string (⟨#[116]⟩:ByteArray),.slice Ao13 y81.length co13,.int .i64 x83_4,.int .i64 x84_4,.int .i64 x98_4,.int .i64 x99_4,.int .i64 x100_4,.int .i64 x101_4] 26 (0,0)) zb4 hb);replace HB:=Aside0.mk (below_step zb2 hb);clear hb ho57;have hcv58:=own_string (P:=Tryd.prog) Tryd.underlying40 Tryd.underlying5 Tryd.underlying9 (Kd.own_of_R HO381.out))|((with_reducible refine gate_builtin (b:=.append) (xs:=#[.tmp 80,.tmp 82]) rfl ?_);(try (refine gate_guard (by rfl) ?_;dsimp only));at_builtin;refine Kd.R_append Kd.string (w0:=w) w.heap.size rfl (.tmp 80) (.tmp 82) 24 9 (.string ⟨#[]⟩) 16 rfl Tryd.underlying24 info9 rfl zb25 zb18 u11 x11_3 ((⟨#[104]⟩:ByteArray) ++ (strOfNums y379)) [.string ((⟨#[104]⟩:ByteArray) ++ (strOfNums y379))] (fun k_=>some k_ ≠ (.slice Ao13 y81.length co13:Value).ownBlock) (fun _=>False) rfl rfl ?aP (fun _ hk=>hk.elim) ?aF ?aO ?aB ?aS ?aL ?_;(case aP=>exact rfl);(case aB=>exact zb58);(case aF=>exact (fun k_ hk=>Kd.fresh' (Kd.R_lt zb6) k_ hk));(case aO=>exact zb39);(case aS=>exact zb52);(case aL=>have:=LMc54.out;omega);intro v383 w59 ho hb hg hat;rw [← Ny382.out] at ho;replace HO_10:=Aside0.mk (Kd.N_afterv (ok:=(fun k_=>some k_ ≠ (.slice Ao13 y81.length co13:Value).ownBlock∧some k_ ≠ (v380:Value).ownBlock∧k_ ≠ gb79)) (by (with_reducible repeat (first|apply Kd.N_alloc|apply Kd.N_drewN|apply Kd.N_drew));exact Kd.N_mono HO_10.out (fun _ hk=>⟨⟨hk.1.2.1,⟨hk.2,hk.1.2.2⟩⟩,hk.1.1⟩)) hg hat);replace HO_82:=Aside0.mk (Kd.R_after (ok:=(fun _=>True)) (by (with_reducible repeat (first|apply Kd.R_alloc|apply Kd.R_drewN|apply Kd.R_drew));exact Kd.R_mono HO_82.out (fun _ hk=>⟨trivial,hk⟩)) hg hat);replace BK79:=Aside0.mk (blk_grown (g:=gb79) (o:=.cells #[.string (⟨#[116]⟩:ByteArray),.slice Ao13 y81.length co13,.int .i64 x83_4,.int .i64 x84_4,.int .i64 x98_4,.int .i64 x99_4,.int .i64 x100_4,.int .i64 x101_4] 26 (0,0)) zb4 hg (Kd.R_ne HO_11.out BK79.out zb25));replace HO381:=Aside0.mk (Kd.R_over' zb44 (Kd.R_typed zb39) zb25 hg);replace HB:=Aside0.mk (hb);have HO384:=Aside0.mk (ho);clear ho hb hg hat)|((with_reducible refine gate_dst (N:=87) rfl ?_);(try (refine gate_guard (by rfl) ?_;dsimp only));refine Kd.R_lit Kd.string _ 9 ?hg (N:=87) ?hd (xs:=([(⟨#[104]⟩:ByteArray) ++ (strOfNums y379)]:List ByteArray)) (inner:=[.string ((⟨#[104]⟩:ByteArray) ++ (strOfNums y379))]) (ok:=fun _=>True) (okp:=fun _=>True) ?hr ?hp (fun _ hk=>hk) trivial (Below.refl _ _) (Nat.le_refl _) zb30 ?_;(case hd=>rfl);(case hg=>rfl);(case hr=>first|(go_simp;done)|(go_simp;rfl));(case hp=>exact (Reps.one (show Kd.M Kd.string _ _ _ ((⟨#[104]⟩:ByteArray) ++ (strOfNums y379)) [.string ((⟨#[104]⟩:ByteArray) ++ (strOfNums y379))] from rfl) (Reps.none _ _)));intro v386 w60 ho61 hb hg_ hnew_;clear hg_ hnew_;(first|rw [← Ny385.out] at ho61|(simp only [Int.reduceToNat] at ho61;rw [← Ny385.out] at ho61));replace HO_10:=Aside0.mk (Kd.N_elder' zb17 (Kd.R_base ho61) hb);replace HO381:=Aside0.mk (Kd.R_below zb44 hb);have HO387:=Aside0.mk (Kd.R_lower (Kd.R_new' (Kd.R_new' ho61 (Kd.R_lt zb6)) (Kd.R_lt zb45)) (below_size zb2));replace HO_82:=Aside0.mk (Kd.R_elder' zb6 (Kd.R_base ho61) hb);replace HO384:=Aside0.mk (Kd.R_elder' zb45 (Kd.R_base ho61) hb);replace BK79:=Aside0.mk (blk_below (g:=gb79) (o:=.cells #[.string (⟨#[116]⟩:ByteArray),.slice Ao13 y81.length co13,.int .i64 x83_4,.int .i64 x84_4,.int .i64 x98_4,.int .i64 x99_4,.int .i64 x100_4,.int .i64 x101_4] 26 (0,0)) zb4 hb);replace HB:=Aside0.mk (below_step zb2 hb);clear hb ho61;obtain ⟨Ao62,co62,eo62⟩:=Kd.R_slice HO387.out;subst eo62)|((with_reducible refine gate_builtin (b:=.append) (xs:=#[.tmp 84,.tmp 89]) rfl ?_);(try (refine gate_guard (by rfl) ?_;dsimp only));at_builtin;refine Kd.N_append k26 (w0:=w) w.heap.size rfl (.tmp 84) (.tmp 89) 22 26 (.agg #[(.string ⟨#[]⟩),(.slice none 0 0),(.int .i64 0),(.int .i64 0),(.int .i64 0),(.int .i64 0),(.int .i64 0),(.int .i64 0)]) 88 rfl Tryd.underlying22 info26 rfl zb25 zb18 u10 x10_3 (⟨(⟨#[104]⟩:ByteArray) ++ (strOfNums y379),y385,256,1,1,1,1,1⟩:S26) [.string ((⟨#[104]⟩:ByteArray) ++ (strOfNums y379)),.slice Ao62 y385.length co62,.int .i64 256,.int .i64 1,.int .i64 1,.int .i64 1,.int .i64 1,.int .i64 1] (fun k_=>some k_ ≠ (.slice Ao13 y81.length co13:Value).ownBlock∧some k_ ≠ (v380:Value).ownBlock∧some k_ ≠ (v383:Value).ownBlock∧k_ ≠ gb79) (fun k_=>((fun k_=>some k_ ≠ (.slice Ao13 y81.length co13:Value).ownBlock∧some k_ ≠ (v380:Value).ownBlock∧some k_ ≠ (v383:Value).ownBlock∧k_ ≠ gb79)) k_∧some k_ ≠ (u10:Value).ownBlock) rfl rfl ?aP (fun _ hk=>hk) ?aF ?aO ?aB ?aS ?aL ?_;(case aP=>exact (k26_mkF _ _ (⟨(⟨#[104]⟩:ByteArray) ++ (strOfNums y379),y385,256,1,1,1,1,1⟩:S26) (Kd.R_reads' (Kd.R_mono (ok' := (fun k_=>((fun k_=>some k_ ≠ (.slice Ao13 y81.length co13:Value).ownBlock∧some k_ ≠ (v380:Value).ownBlock∧some k_ ≠ (v383:Value).ownBlock∧k_ ≠ gb79)) k_∧some k_ ≠ (u10:Value).ownBlock)) (Kd.R_types (Kd.R_apart' (Kd.R_apart' (HO387.out) (Kd.R_typed HO381.out) zb25) (Kd.N_typed HO_10.out) zb25) BK79.out zb25) (fun k_ hk=>⟨⟨hk.1.1.1.1.2,⟨hk.1.1.2,⟨hk.1.1.1.2,hk.2⟩⟩⟩,hk.1.2⟩))).2.1 (Kd.R_F (Kd.R_mono (ok' := (fun k_=>((fun k_=>some k_ ≠ (.slice Ao13 y81.length co13:Value).ownBlock∧some k_ ≠ (v380:Value).ownBlock∧some k_ ≠ (v383:Value).ownBlock∧k_ ≠ gb79)) k_∧some k_ ≠ (u10:Value).ownBlock)) (Kd.R_types (Kd.R_apart' (Kd.R_apart' (HO387.out) (Kd.R_typed HO381.out) zb25) (Kd.N_typed HO_10.out) zb25) BK79.out zb25) (fun k_ hk=>⟨⟨hk.1.1.1.1.2,⟨hk.1.1.2,⟨hk.1.1.1.2,hk.2⟩⟩⟩,hk.1.2⟩)))));(case aB=>exact zb58);(case aF=>exact (fun k_ hk=>⟨Kd.fresh' (Kd.R_lt zb6) k_ hk,Kd.fresh' (Kd.R_lt zb44) k_ hk,Kd.fresh' (Kd.R_lt zb45) k_ hk,Kd.freshB (g:=gb79) (o:=.cells #[.string (⟨#[116]⟩:ByteArray),.slice Ao13 y81.length co13,.int .i64 x83_4,.int .i64 x84_4,.int .i64 x98_4,.int .i64 x99_4,.int .i64 x100_4,.int .i64 x101_4] 26 (0,0)) zb4 k_ hk⟩));(case aO=>exact (by (with_reducible repeat (first|apply Kd.N_alloc|apply Kd.N_drewN|apply Kd.N_drew));exact Kd.N_mono HO_10.out (fun _ hk=>⟨hk.1.1.1,⟨hk.1.1.2.1,⟨hk.1.2,hk.1.1.2.2⟩⟩⟩)));(case aS=>exact zb52);(case aL=>have:=LMc55.out;omega);intro v389 w63 ho hb hg hat;rw [← Ny388.out] at ho;replace HO_82:=Aside0.mk (Kd.R_over' zb6 (Kd.N_typed zb17) zb25 hg);replace BK79:=Aside0.mk (blk_grown (g:=gb79) (o:=.cells #[.string (⟨#[116]⟩:ByteArray),.slice Ao13 y81.length co13,.int .i64 x83_4,.int .i64 x84_4,.int .i64 x98_4,.int .i64 x99_4,.int .i64 x100_4,.int .i64 x101_4] 26 (0,0)) zb4 hg (Kd.N_away HO_10.out (fun _ hk=>hk.1.1.2.2)));replace HO381:=Aside0.mk (Kd.R_over' zb44 (Kd.N_typed zb17) zb25 hg);replace HO384:=Aside0.mk (Kd.R_over' zb45 (Kd.N_typed zb17) zb25 hg);replace HB:=Aside0.mk (hb);have HO390:=Aside0.mk (ho);clear ho hb hg hat))
         go_roundg k3
         case measure=>have:=HJ4.out;have:=HJ26.out;have:=HK3.out;omega
         case rel=>exact ⟨(y388),(y382),(wrap64 (x12_3 + 1)),zb10,H',⟨by have:=HJ4.out;have:=HJ26.out;have:=HK3.out;omega⟩,⟨by (with_reducible repeat (first|apply Kd.N_alloc|apply Kd.N_drewN|apply Kd.N_drew));exact Kd.N_mono HO390.out (fun _ hk=>⟨hk.2.2.1,⟨hk.1,hk.2.2.2⟩⟩)⟩,⟨by (with_reducible repeat (first|apply Kd.R_alloc|apply Kd.R_drewN|apply Kd.R_drew));exact Kd.R_mono HO384.out (fun _ hk=>hk.1)⟩,⟨by (with_reducible repeat (first|apply Kd.R_alloc|apply Kd.R_drewN|apply Kd.R_drew));exact Kd.R_mono HO_82.out (fun _ hk=>hk.1.2)⟩,⟨zb4⟩,⟨zb2⟩⟩
        ·rw [if_neg c54] at H
         exact absurd H zb30
       rw [if_neg c52] at H
       have c52b0:=decide_eq_false c52
       clear c52
       replace H:=Option.bind_eq_some_iff.mp H
       obtain ⟨t392,A640,H⟩:=H
       try dsimp only at H
       have A64:=Aside0.mk A640
       clear A640
       by_cases c65:(Go.bits .and .i64 a1 31) ≥ 1
       ·rw [if_pos c65] at H
        have c65b0:decide (1 ≤ (Go.bits .and .i64 a1 31))=true:=decide_eq_true c65
        clear c65
        by_cases c66:(t392 == (decide ((Go.bits .and .i64 a1 31) ≤ 16)))=true;rotate_left
        ·rw [if_neg c66] at H
         have c66b0:(t392 == (decide ((Go.bits .and .i64 a1 31) ≤ 16)))=false:=by simpa using c66
         (try (have c66b1:decide (t392=(decide ((Go.bits .and .i64 a1 31) ≤ 16)))=false:=by simpa using c66))
         (try (have c66b2:(t392 == (decide ((Go.bits .and .i64 a1 31) ≤ 16)))=false:=by simpa using c66))
         (try (have c66b3 : ¬ (t392=(decide ((Go.bits .and .i64 a1 31) ≤ 16))):=by simpa using c66))
         clear c66
         exact absurd ((Option.some.inj H).trans HRT.out) zb25
        rw [if_pos c66] at H
        have c66b0:(t392 == (decide ((Go.bits .and .i64 a1 31) ≤ 16)))=true:=c66
        (try (have c66b1:decide (t392=(decide ((Go.bits .and .i64 a1 31) ≤ 16)))=true:=by simpa using c66))
        (try (have c66b2:(t392 == (decide ((Go.bits .and .i64 a1 31) ≤ 16)))=true:=by simpa using c66))
        clear c66
        obtain ⟨y393,hy393⟩ : ∃ y_:List (S26),y_=(([(⟨(⟨#[116]⟩:ByteArray),x11_3,256,1,1,1,1,1⟩:S26)]:List (S26))):=⟨_,rfl⟩
        replace H:((table_Right.f k3 y393).bind fun t396=>(some (t396 == (decide ((Go.bits .and .i64 a1 31) ≤ 8)))))=some r:=by first|(rw [hy393];with_reducible exact H)|(have H2_:=(Option.bind_some _ _).symm.trans H;rw [hy393];with_reducible exact H2_)|(have H2_:=(Option.bind_some _ _).symm.trans H;with_reducible exact H2_)|with_reducible exact H|(rw [hy393];exact H)|exact H
        have Ny393:=Aside0.mk hy393
        clear hy393
        replace H:=Option.bind_eq_some_iff.mp H
        obtain ⟨t396,A670,H⟩:=H
        try dsimp only at H
        have A67:=Aside0.mk A670
        clear A670
        obtain rfl:=Option.some.inj H
        obtain ⟨Ao68,co68,eo68⟩:=Kd.R_slice HO_11.out
        subst eo68
        go_wp2_with (first|((with_reducible refine gate_dst (N:=14) rfl ?_);(try (refine gate_guard (by rfl) ?_;dsimp only));refine box_event rfl (N:=14) rfl (cs:=#[.string (⟨#[]⟩:ByteArray),.slice none 0 0,.int .i64 0,.int .i64 0,.int .i64 0,.int .i64 0,.int .i64 0,.int .i64 0]) (t:=26) zS ?_;intro gb80 hg w69 hbox hb;replace HO_10:=Aside0.mk (Kd.N_below (Kd.N_elderB zb17 gb80 (Nat.le_of_eq hg.symm)) hb);replace HO_11:=Aside0.mk (Kd.R_below zb39 hb);replace HO_82:=Aside0.mk (Kd.R_below zb6 hb);have BK80:=Aside0.mk (hbox);have GW80:=zG hg zb2;have GE80:=GW80;replace HB:=Aside0.mk (below_step zb2 hb);have NB79_391:=Aside0.mk ((by rw [hg];exact Nat.ne_of_lt (blk_lt (g:=gb79) (o:=.cells #[.string (⟨#[116]⟩:ByteArray),.slice Ao13 y81.length co13,.int .i64 x83_4,.int .i64 x84_4,.int .i64 x98_4,.int .i64 x99_4,.int .i64 x100_4,.int .i64 x101_4] 26 (0,0)) zb4):gb79 ≠ gb80));have NB80_366:=Aside0.mk ((by rw [hg];exact Nat.ne_of_gt (blk_lt (g:=gb79) (o:=.cells #[.string (⟨#[116]⟩:ByteArray),.slice Ao13 y81.length co13,.int .i64 x83_4,.int .i64 x84_4,.int .i64 x98_4,.int .i64 x99_4,.int .i64 x100_4,.int .i64 x101_4] 26 (0,0)) zb4):gb80 ≠ gb79));replace BK79:=Aside0.mk (blk_below (g:=gb79) (o:=.cells #[.string (⟨#[116]⟩:ByteArray),.slice Ao13 y81.length co13,.int .i64 x83_4,.int .i64 x84_4,.int .i64 x98_4,.int .i64 x99_4,.int .i64 x100_4,.int .i64 x101_4] 26 (0,0)) zb4 hb);clear hb hbox hg;have hnb70:=NB80_366.out;have hnc70:=NB79_391.out;have hcz71_0:w69.cell? ⟨gb80,0,none⟩=some (.string (⟨#[]⟩:ByteArray)):=(blk_cell BK80.out 0).trans rfl;have hcz71_1:w69.cell? ⟨gb80,1,none⟩=some (.slice none 0 0):=(blk_cell BK80.out 1).trans rfl;have hcz71_2:w69.cell? ⟨gb80,2,none⟩=some (.int .i64 0):=(blk_cell BK80.out 2).trans rfl;have hcz71_3:w69.cell? ⟨gb80,3,none⟩=some (.int .i64 0):=(blk_cell BK80.out 3).trans rfl;have hcz71_4:w69.cell? ⟨gb80,4,none⟩=some (.int .i64 0):=(blk_cell BK80.out 4).trans rfl;have hcz71_5:w69.cell? ⟨gb80,5,none⟩=some (.int .i64 0):=(blk_cell BK80.out 5).trans rfl;have hcz71_6:w69.cell? ⟨gb80,6,none⟩=some (.int .i64 0):=(blk_cell BK80.out 6).trans rfl;have hcz71_7:w69.cell? ⟨gb80,7,none⟩=some (.int .i64 0):=(blk_cell BK80.out 7).trans rfl;have hfz71_0:=blk_frozen BK80.out 0;have hfz71_1:=blk_frozen BK80.out 1;have hfz71_2:=blk_frozen BK80.out 2;have hfz71_3:=blk_frozen BK80.out 3;have hfz71_4:=blk_frozen BK80.out 4;have hfz71_5:=blk_frozen BK80.out 5;have hfz71_6:=blk_frozen BK80.out 6;have hfz71_7:=blk_frozen BK80.out 7;obtain ⟨Ao72,co72,eo72⟩:=Kd.N_slice HO_10.out;subst eo72)|((with_reducible refine gate_callee (f:=9) rfl ?_);refine goesL_ (some 94) rfl rfl Tryd.func9 zb20 rfl #[.slice Ao72 x10_3.length co72] rfl zb3 ?_;(with_reducible refine (table_Right.calls k3 _ _ x10_3 t392 _ ?side1 ?side2 A64.out).mono ?_);(case side1=>refine (Kd.N_reads' (e:=26) (base:=w.heap.size) (ok:=fun k_=>((some k_ ≠ (.slice Ao68 x11_3.length co68:Value).ownBlock∧(some k_ ≠ (.slice Ao13 y81.length co13:Value).ownBlock∧k_ ≠ gb79))∧k_ ≠ gb80)) (n:=x10_3.length) (c:=co72) ?_).2.2;exact zb15);(case side2=>exact (Kd.N_reads' HO_10.out).2.1);rintro e w73 ⟨rfl,hb⟩;(try clear A64);refine ⟨_,rfl,?_⟩;replace HO_10:=Aside0.mk (Kd.N_below zb15 hb);replace HO_11:=Aside0.mk (Kd.R_below (by (with_reducible repeat (first|apply Kd.R_alloc|apply Kd.R_drewN|apply Kd.R_drew));exact (Kd.R_mono (Kd.R_far (p:=⟨gb80,7,none⟩) (Kd.R_far (p:=⟨gb80,6,none⟩) (Kd.R_far (p:=⟨gb80,5,none⟩) (Kd.R_far (p:=⟨gb80,4,none⟩) (Kd.R_far (p:=⟨gb80,3,none⟩) (Kd.R_far (p:=⟨gb80,2,none⟩) (Kd.R_far (p:=⟨gb80,1,none⟩) (Kd.R_far (p:=⟨gb80,0,none⟩) (Kd.R_types HO_11.out BK80.out (by decide)) (fun _ hk=>hk.2) (.string (⟨#[116]⟩:ByteArray))) (fun _ hk=>hk.2) (.slice Ao68 x11_3.length co68)) (fun _ hk=>hk.2) (.int .i64 256)) (fun _ hk=>hk.2) (.int .i64 1)) (fun _ hk=>hk.2) (.int .i64 1)) (fun _ hk=>hk.2) (.int .i64 1)) (fun _ hk=>hk.2) (.int .i64 1)) (fun _ hk=>hk.2) (.int .i64 1)) (fun _ h_=>h_.1))) hb);replace HO_82:=Aside0.mk (Kd.R_below (by (with_reducible repeat (first|apply Kd.R_alloc|apply Kd.R_drewN|apply Kd.R_drew));exact (Kd.R_mono (Kd.R_far (p:=⟨gb80,7,none⟩) (Kd.R_far (p:=⟨gb80,6,none⟩) (Kd.R_far (p:=⟨gb80,5,none⟩) (Kd.R_far (p:=⟨gb80,4,none⟩) (Kd.R_far (p:=⟨gb80,3,none⟩) (Kd.R_far (p:=⟨gb80,2,none⟩) (Kd.R_far (p:=⟨gb80,1,none⟩) (Kd.R_far (p:=⟨gb80,0,none⟩) (Kd.R_types HO_82.out BK80.out (by decide)) (fun _ hk=>hk.2) (.string (⟨#[116]⟩:ByteArray))) (fun _ hk=>hk.2) (.slice Ao68 x11_3.length co68)) (fun _ hk=>hk.2) (.int .i64 256)) (fun _ hk=>hk.2) (.int .i64 1)) (fun _ hk=>hk.2) (.int .i64 1)) (fun _ hk=>hk.2) (.int .i64 1)) (fun _ hk=>hk.2) (.int .i64 1)) (fun _ hk=>hk.2) (.int .i64 1)) (fun _ h_=>h_.1))) hb);replace BK79:=Aside0.mk (blk_below (g:=gb79) (o:=.cells #[.string (⟨#[116]⟩:ByteArray),.slice Ao13 y81.length co13,.int .i64 x83_4,.int .i64 x84_4,.int .i64 x98_4,.int .i64 x99_4,.int .i64 x100_4,.int .i64 x101_4] 26 (0,0)) zb8 hb);replace BK80:=Aside0.mk (blk_below (g:=gb80) (o:=.cells #[.string (⟨#[116]⟩:ByteArray),.slice Ao68 x11_3.length co68,.int .i64 256,.int .i64 1,.int .i64 1,.int .i64 1,.int .i64 1,.int .i64 1] 26 (0,0)) (by (with_reducible repeat (first|refine blk_drewN ?_ _|refine blk_drew ?_|refine blk_alloc ?_ _));refine blk_put (cs:=#[.string (⟨#[116]⟩:ByteArray),.slice Ao68 x11_3.length co68,.int .i64 256,.int .i64 1,.int .i64 1,.int .i64 1,.int .i64 1,.int .i64 0]) ?_ 7 _ rfl;(with_reducible repeat (first|refine blk_drewN ?_ _|refine blk_drew ?_|refine blk_alloc ?_ _));refine blk_put (cs:=#[.string (⟨#[116]⟩:ByteArray),.slice Ao68 x11_3.length co68,.int .i64 256,.int .i64 1,.int .i64 1,.int .i64 1,.int .i64 0,.int .i64 0]) ?_ 6 _ rfl;(with_reducible repeat (first|refine blk_drewN ?_ _|refine blk_drew ?_|refine blk_alloc ?_ _));refine blk_put (cs:=#[.string (⟨#[116]⟩:ByteArray),.slice Ao68 x11_3.length co68,.int .i64 256,.int .i64 1,.int .i64 1,.int .i64 0,.int .i64 0,.int .i64 0]) ?_ 5 _ rfl;(with_reducible repeat (first|refine blk_drewN ?_ _|refine blk_drew ?_|refine blk_alloc ?_ _));refine blk_put (cs:=#[.string (⟨#[116]⟩:ByteArray),.slice Ao68 x11_3.length co68,.int .i64 256,.int .i64 1,.int .i64 0,.int .i64 0,.int .i64 0,.int .i64 0]) ?_ 4 _ rfl;(with_reducible repeat (first|refine blk_drewN ?_ _|refine blk_drew ?_|refine blk_alloc ?_ _));refine blk_put (cs:=#[.string (⟨#[116]⟩:ByteArray),.slice Ao68 x11_3.length co68,.int .i64 256,.int .i64 0,.int .i64 0,.int .i64 0,.int .i64 0,.int .i64 0]) ?_ 3 _ rfl;(with_reducible repeat (first|refine blk_drewN ?_ _|refine blk_drew ?_|refine blk_alloc ?_ _));refine blk_put (cs:=#[.string (⟨#[116]⟩:ByteArray),.slice Ao68 x11_3.length co68,.int .i64 0,.int .i64 0,.int .i64 0,.int .i64 0,.int .i64 0,.int .i64 0]) ?_ 2 _ rfl;(with_reducible repeat (first|refine blk_drewN ?_ _|refine blk_drew ?_|refine blk_alloc ?_ _));refine blk_put (cs:=#[.string (⟨#[116]⟩:ByteArray),.slice none 0 0,.int .i64 0,.int .i64 0,.int .i64 0,.int .i64 0,.int .i64 0,.int .i64 0]) ?_ 1 _ rfl;(with_reducible repeat (first|refine blk_drewN ?_ _|refine blk_drew ?_|refine blk_alloc ?_ _));refine blk_put (cs:=#[.string (⟨#[]⟩:ByteArray),.slice none 0 0,.int .i64 0,.int .i64 0,.int .i64 0,.int .i64 0,.int .i64 0,.int .i64 0]) ?_ 0 _ rfl;(with_reducible repeat (first|refine blk_drewN ?_ _|refine blk_drew ?_|refine blk_alloc ?_ _));exact BK80.out) hb);replace HB:=Aside0.mk (below_step zb9 hb);(try clear hb);have hcz74_0:w73.cell? ⟨gb80,0,none⟩=some (.string (⟨#[116]⟩:ByteArray)):=(blk_cell BK80.out 0).trans rfl;have hcz74_1:w73.cell? ⟨gb80,1,none⟩=some (.slice Ao68 x11_3.length co68):=(blk_cell BK80.out 1).trans rfl;have hcz74_2:w73.cell? ⟨gb80,2,none⟩=some (.int .i64 256):=(blk_cell BK80.out 2).trans rfl;have hcz74_3:w73.cell? ⟨gb80,3,none⟩=some (.int .i64 1):=(blk_cell BK80.out 3).trans rfl;have hcz74_4:w73.cell? ⟨gb80,4,none⟩=some (.int .i64 1):=(blk_cell BK80.out 4).trans rfl;have hcz74_5:w73.cell? ⟨gb80,5,none⟩=some (.int .i64 1):=(blk_cell BK80.out 5).trans rfl;have hcz74_6:w73.cell? ⟨gb80,6,none⟩=some (.int .i64 1):=(blk_cell BK80.out 6).trans rfl;have hcz74_7:w73.cell? ⟨gb80,7,none⟩=some (.int .i64 1):=(blk_cell BK80.out 7).trans rfl;have hfz74_0:=blk_frozen BK80.out 0;have hfz74_1:=blk_frozen BK80.out 1;have hfz74_2:=blk_frozen BK80.out 2;have hfz74_3:=blk_frozen BK80.out 3;have hfz74_4:=blk_frozen BK80.out 4;have hfz74_5:=blk_frozen BK80.out 5;have hfz74_6:=blk_frozen BK80.out 6;have hfz74_7:=blk_frozen BK80.out 7)|((with_reducible refine gate_dst (N:=104) rfl ?_);(try (refine gate_guard (by rfl) ?_;dsimp only));refine Kd.N_lit k26 _ 26 ?hg (N' := 104) ?hd (xs:=([(⟨(⟨#[116]⟩:ByteArray),x11_3,256,1,1,1,1,1⟩:S26)]:List (S26))) (inner:=[.string (⟨#[116]⟩:ByteArray),.slice Ao68 x11_3.length co68,.int .i64 256,.int .i64 1,.int .i64 1,.int .i64 1,.int .i64 1,.int .i64 1]) (ok:=(fun k_=>some k_ ≠ (.slice Ao72 x10_3.length co72:Value).ownBlock∧some k_ ≠ (.slice Ao13 y81.length co13:Value).ownBlock∧k_ ≠ gb79∧k_ ≠ gb80)) (okp:=(fun k_=>some k_ ≠ (.slice Ao72 x10_3.length co72:Value).ownBlock∧some k_ ≠ (.slice Ao13 y81.length co13:Value).ownBlock∧k_ ≠ gb79∧k_ ≠ gb80)) ?hr ?hp (fun _ hk=>hk) ((show ∀ k_,w73.heap.size ≤ k_ → (fun k_=>some k_ ≠ (.slice Ao72 x10_3.length co72:Value).ownBlock∧some k_ ≠ (.slice Ao13 y81.length co13:Value).ownBlock∧k_ ≠ gb79∧k_ ≠ gb80) k_ from fun k_ hk=>⟨Kd.fresh' (Kd.N_lt zb17) k_ hk,Kd.fresh' (Kd.R_lt zb6) k_ hk,Kd.freshB (g:=gb79) (o:=.cells #[.string (⟨#[116]⟩:ByteArray),.slice Ao13 y81.length co13,.int .i64 x83_4,.int .i64 x84_4,.int .i64 x98_4,.int .i64 x99_4,.int .i64 x100_4,.int .i64 x101_4] 26 (0,0)) zb4 k_ hk,Kd.freshB (g:=gb80) (o:=.cells #[.string (⟨#[116]⟩:ByteArray),.slice Ao68 x11_3.length co68,.int .i64 256,.int .i64 1,.int .i64 1,.int .i64 1,.int .i64 1,.int .i64 1] 26 (0,0)) zb28 k_ hk⟩) _ (Nat.le_refl _)) (Below.refl _ _) (Nat.le_refl _) zb30 ?_;(case hd=>rfl);(case hg=>rfl);(case hr=>first|(go_simp;done)|(go_simp;rfl));(case hp=>exact (Reps.c8 (show Kd.FK k26 _ _ (⟨(⟨#[116]⟩:ByteArray),x11_3,256,1,1,1,1,1⟩:S26) [.string (⟨#[116]⟩:ByteArray),.slice Ao68 x11_3.length co68,.int .i64 256,.int .i64 1,.int .i64 1,.int .i64 1,.int .i64 1,.int .i64 1] from (k26_mkF _ _ (⟨(⟨#[116]⟩:ByteArray),x11_3,256,1,1,1,1,1⟩:S26) (Kd.R_reads' (Kd.R_mono (ok' := (fun k_=>some k_ ≠ (.slice Ao72 x10_3.length co72:Value).ownBlock∧some k_ ≠ (.slice Ao13 y81.length co13:Value).ownBlock∧k_ ≠ gb79∧k_ ≠ gb80)) (Kd.R_types (Kd.R_types (Kd.R_apart' (HO_11.out) (Kd.N_typed HO_10.out) zb25) BK79.out zb25) BK80.out zb25) (fun k_ hk=>⟨hk.1.1.2,⟨hk.1.1.1,⟨hk.1.2,hk.2⟩⟩⟩))).2.1 (Kd.R_F (Kd.R_mono (ok' := (fun k_=>some k_ ≠ (.slice Ao72 x10_3.length co72:Value).ownBlock∧some k_ ≠ (.slice Ao13 y81.length co13:Value).ownBlock∧k_ ≠ gb79∧k_ ≠ gb80)) (Kd.R_types (Kd.R_types (Kd.R_apart' (HO_11.out) (Kd.N_typed HO_10.out) zb25) BK79.out zb25) BK80.out zb25) (fun k_ hk=>⟨hk.1.1.2,⟨hk.1.1.1,⟨hk.1.2,hk.2⟩⟩⟩))))) (Reps.none _ _)));intro v394 w75 ho76 hb hg_ hnew_;clear hg_ hnew_;(first|rw [← Ny393.out] at ho76|(simp only [Int.reduceToNat] at ho76;rw [← Ny393.out] at ho76));replace HO_10:=Aside0.mk (Kd.N_elder' zb17 (Kd.N_base ho76) hb);replace HO_82:=Aside0.mk (Kd.R_below zb6 hb);have HO395:=Aside0.mk (Kd.N_lower ho76 (below_size zb9));replace BK79:=Aside0.mk (blk_below (g:=gb79) (o:=.cells #[.string (⟨#[116]⟩:ByteArray),.slice Ao13 y81.length co13,.int .i64 x83_4,.int .i64 x84_4,.int .i64 x98_4,.int .i64 x99_4,.int .i64 x100_4,.int .i64 x101_4] 26 (0,0)) zb4 hb);replace BK80:=Aside0.mk (blk_below (g:=gb80) (o:=.cells #[.string (⟨#[116]⟩:ByteArray),.slice Ao68 x11_3.length co68,.int .i64 256,.int .i64 1,.int .i64 1,.int .i64 1,.int .i64 1,.int .i64 1] 26 (0,0)) zb28 hb);replace HB:=Aside0.mk (below_step zb9 hb);clear hb ho76;obtain ⟨Ao77,co77,eo77⟩:=Kd.N_slice HO395.out;subst eo77)|(go_at_call 9;(with_reducible refine (table_Right.calls k3 _ _ y393 t396 _ ?side1 ?side2 A67.out).mono ?_);(case side1=>repeat (first|exact (Kd.N_reads' HO395.out).2.2|(with_reducible refine Kd.C_alloc ?_ _)|(with_reducible refine Kd.C_drewN ?_ _)|(with_reducible refine Kd.C_drew ?_)));(case side2=>exact (Kd.N_reads' HO395.out).2.1);rintro e w78 ⟨rfl,hb⟩;(try clear A67);replace HO_10:=Aside0.mk (Kd.N_below zb17 hb);replace HO_82:=Aside0.mk (Kd.R_below zb6 hb);replace HO395:=Aside0.mk (Kd.N_below (by (with_reducible repeat (first|apply Kd.N_alloc|apply Kd.N_drewN|apply Kd.N_drew));exact HO395.out) hb);replace BK79:=Aside0.mk (blk_below (g:=gb79) (o:=.cells #[.string (⟨#[116]⟩:ByteArray),.slice Ao13 y81.length co13,.int .i64 x83_4,.int .i64 x84_4,.int .i64 x98_4,.int .i64 x99_4,.int .i64 x100_4,.int .i64 x101_4] 26 (0,0)) zb4 hb);replace BK80:=Aside0.mk (blk_below (g:=gb80) (o:=.cells #[.string (⟨#[116]⟩:ByteArray),.slice Ao68 x11_3.length co68,.int .i64 256,.int .i64 1,.int .i64 1,.int .i64 1,.int .i64 1,.int .i64 1] 26 (0,0)) zb28 hb);replace HB:=Aside0.mk (below_step zb9 hb);(try clear hb)))
        go_ret
        exact ⟨zb7,zb9⟩
       rw [if_neg c65] at H
       have c65b0:decide (1 ≤ (Go.bits .and .i64 a1 31))=false:=decide_eq_false c65
       clear c65
       by_cases c85:(t392 == false)=true;rotate_left
       ·rw [if_neg c85] at H
        have c85b0:(t392 == false)=false:=by simpa using c85
        (try (have c85b1:decide (t392=false)=false:=by simpa using c85))
        (try (have c85b2:(t392 == false)=false:=by simpa using c85))
        (try (have c85b3 : ¬ (t392=false):=by simpa using c85))
        clear c85
        exact absurd ((Option.some.inj H).trans HRT.out) zb25
       rw [if_pos c85] at H
       have c85b0:(t392 == false)=true:=c85
       (try (have c85b1:decide (t392=false)=true:=by simpa using c85))
       (try (have c85b2:(t392 == false)=true:=by simpa using c85))
       clear c85
       obtain ⟨y397,hy397⟩ : ∃ y_:List (S26),y_=(([(⟨(⟨#[116]⟩:ByteArray),x11_3,256,1,1,1,1,1⟩:S26)]:List (S26))):=⟨_,rfl⟩
       replace H:((table_Right.f k3 y397).bind fun t400=>(some (t400 == false)))=some r:=by first|(rw [hy397];with_reducible exact H)|(have H2_:=(Option.bind_some _ _).symm.trans H;rw [hy397];with_reducible exact H2_)|(have H2_:=(Option.bind_some _ _).symm.trans H;with_reducible exact H2_)|with_reducible exact H|(rw [hy397];exact H)|exact H
       have Ny397:=Aside0.mk hy397
       clear hy397
       replace H:=Option.bind_eq_some_iff.mp H
       obtain ⟨t400,A860,H⟩:=H
       try dsimp only at H
       have A86:=Aside0.mk A860
       clear A860
       obtain rfl:=Option.some.inj H
       obtain ⟨Ao87,co87,eo87⟩:=Kd.R_slice HO_11.out
       subst eo87
       go_wp2_with (first|((with_reducible refine gate_dst (N:=14) rfl ?_);(try (refine gate_guard (by rfl) ?_;dsimp only));refine box_event rfl (N:=14) rfl (cs:=#[.string (⟨#[]⟩:ByteArray),.slice none 0 0,.int .i64 0,.int .i64 0,.int .i64 0,.int .i64 0,.int .i64 0,.int .i64 0]) (t:=26) zS ?_;intro gb80 hg w88 hbox hb;replace HO_10:=Aside0.mk (Kd.N_below (Kd.N_elderB zb17 gb80 (Nat.le_of_eq hg.symm)) hb);replace HO_11:=Aside0.mk (Kd.R_below zb39 hb);replace HO_82:=Aside0.mk (Kd.R_below zb6 hb);have BK80:=Aside0.mk (hbox);have GW80:=zG hg zb2;have GE80:=GW80;replace HB:=Aside0.mk (below_step zb2 hb);have NB79_391:=Aside0.mk ((by rw [hg];exact Nat.ne_of_lt (blk_lt (g:=gb79) (o:=.cells #[.string (⟨#[116]⟩:ByteArray),.slice Ao13 y81.length co13,.int .i64 x83_4,.int .i64 x84_4,.int .i64 x98_4,.int .i64 x99_4,.int .i64 x100_4,.int .i64 x101_4] 26 (0,0)) zb4):gb79 ≠ gb80));have NB80_366:=Aside0.mk ((by rw [hg];exact Nat.ne_of_gt (blk_lt (g:=gb79) (o:=.cells #[.string (⟨#[116]⟩:ByteArray),.slice Ao13 y81.length co13,.int .i64 x83_4,.int .i64 x84_4,.int .i64 x98_4,.int .i64 x99_4,.int .i64 x100_4,.int .i64 x101_4] 26 (0,0)) zb4):gb80 ≠ gb79));replace BK79:=Aside0.mk (blk_below (g:=gb79) (o:=.cells #[.string (⟨#[116]⟩:ByteArray),.slice Ao13 y81.length co13,.int .i64 x83_4,.int .i64 x84_4,.int .i64 x98_4,.int .i64 x99_4,.int .i64 x100_4,.int .i64 x101_4] 26 (0,0)) zb4 hb);clear hb hbox hg;have hnb89:=NB80_366.out;have hnc89:=NB79_391.out;have hcz90_0:w88.cell? ⟨gb80,0,none⟩=some (.string (⟨#[]⟩:ByteArray)):=(blk_cell BK80.out 0).trans rfl;have hcz90_1:w88.cell? ⟨gb80,1,none⟩=some (.slice none 0 0):=(blk_cell BK80.out 1).trans rfl;have hcz90_2:w88.cell? ⟨gb80,2,none⟩=some (.int .i64 0):=(blk_cell BK80.out 2).trans rfl;have hcz90_3:w88.cell? ⟨gb80,3,none⟩=some (.int .i64 0):=(blk_cell BK80.out 3).trans rfl;have hcz90_4:w88.cell? ⟨gb80,4,none⟩=some (.int .i64 0):=(blk_cell BK80.out 4).trans rfl;have hcz90_5:w88.cell? ⟨gb80,5,none⟩=some (.int .i64 0):=(blk_cell BK80.out 5).trans rfl;have hcz90_6:w88.cell? ⟨gb80,6,none⟩=some (.int .i64 0):=(blk_cell BK80.out 6).trans rfl;have hcz90_7:w88.cell? ⟨gb80,7,none⟩=some (.int .i64 0):=(blk_cell BK80.out 7).trans rfl;have hfz90_0:=blk_frozen BK80.out 0;have hfz90_1:=blk_frozen BK80.out 1;have hfz90_2:=blk_frozen BK80.out 2;have hfz90_3:=blk_frozen BK80.out 3;have hfz90_4:=blk_frozen BK80.out 4;have hfz90_5:=blk_frozen BK80.out 5;have hfz90_6:=blk_frozen BK80.out 6;have hfz90_7:=blk_frozen BK80.out 7;obtain ⟨Ao91,co91,eo91⟩:=Kd.N_slice HO_10.out;subst eo91)|((with_reducible refine gate_callee (f:=9) rfl ?_);refine goesL_ (some 94) rfl rfl Tryd.func9 zb20 rfl #[.slice Ao91 x10_3.length co91] rfl zb3 ?_;(with_reducible refine (table_Right.calls k3 _ _ x10_3 t392 _ ?side1 ?side2 A64.out).mono ?_);(case side1=>refine (Kd.N_reads' (e:=26) (base:=w.heap.size) (ok:=fun k_=>((some k_ ≠ (.slice Ao87 x11_3.length co87:Value).ownBlock∧(some k_ ≠ (.slice Ao13 y81.length co13:Value).ownBlock∧k_ ≠ gb79))∧k_ ≠ gb80)) (n:=x10_3.length) (c:=co91) ?_).2.2;exact zb16);(case side2=>exact (Kd.N_reads' HO_10.out).2.1);rintro e w92 ⟨rfl,hb⟩;(try clear A64);refine ⟨_,rfl,?_⟩;replace HO_10:=Aside0.mk (Kd.N_below zb16 hb);replace HO_11:=Aside0.mk (Kd.R_below (by (with_reducible repeat (first|apply Kd.R_alloc|apply Kd.R_drewN|apply Kd.R_drew));exact (Kd.R_mono (Kd.R_far (p:=⟨gb80,7,none⟩) (Kd.R_far (p:=⟨gb80,6,none⟩) (Kd.R_far (p:=⟨gb80,5,none⟩) (Kd.R_far (p:=⟨gb80,4,none⟩) (Kd.R_far (p:=⟨gb80,3,none⟩) (Kd.R_far (p:=⟨gb80,2,none⟩) (Kd.R_far (p:=⟨gb80,1,none⟩) (Kd.R_far (p:=⟨gb80,0,none⟩) (Kd.R_types HO_11.out BK80.out (by decide)) (fun _ hk=>hk.2) (.string (⟨#[116]⟩:ByteArray))) (fun _ hk=>hk.2) (.slice Ao87 x11_3.length co87)) (fun _ hk=>hk.2) (.int .i64 256)) (fun _ hk=>hk.2) (.int .i64 1)) (fun _ hk=>hk.2) (.int .i64 1)) (fun _ hk=>hk.2) (.int .i64 1)) (fun _ hk=>hk.2) (.int .i64 1)) (fun _ hk=>hk.2) (.int .i64 1)) (fun _ h_=>h_.1))) hb);replace HO_82:=Aside0.mk (Kd.R_below (by (with_reducible repeat (first|apply Kd.R_alloc|apply Kd.R_drewN|apply Kd.R_drew));exact (Kd.R_mono (Kd.R_far (p:=⟨gb80,7,none⟩) (Kd.R_far (p:=⟨gb80,6,none⟩) (Kd.R_far (p:=⟨gb80,5,none⟩) (Kd.R_far (p:=⟨gb80,4,none⟩) (Kd.R_far (p:=⟨gb80,3,none⟩) (Kd.R_far (p:=⟨gb80,2,none⟩) (Kd.R_far (p:=⟨gb80,1,none⟩) (Kd.R_far (p:=⟨gb80,0,none⟩) (Kd.R_types HO_82.out BK80.out (by decide)) (fun _ hk=>hk.2) (.string (⟨#[116]⟩:ByteArray))) (fun _ hk=>hk.2) (.slice Ao87 x11_3.length co87)) (fun _ hk=>hk.2) (.int .i64 256)) (fun _ hk=>hk.2) (.int .i64 1)) (fun _ hk=>hk.2) (.int .i64 1)) (fun _ hk=>hk.2) (.int .i64 1)) (fun _ hk=>hk.2) (.int .i64 1)) (fun _ hk=>hk.2) (.int .i64 1)) (fun _ h_=>h_.1))) hb);replace BK79:=Aside0.mk (blk_below (g:=gb79) (o:=.cells #[.string (⟨#[116]⟩:ByteArray),.slice Ao13 y81.length co13,.int .i64 x83_4,.int .i64 x84_4,.int .i64 x98_4,.int .i64 x99_4,.int .i64 x100_4,.int .i64 x101_4] 26 (0,0)) zb8 hb);replace BK80:=Aside0.mk (blk_below (g:=gb80) (o:=.cells #[.string (⟨#[116]⟩:ByteArray),.slice Ao87 x11_3.length co87,.int .i64 256,.int .i64 1,.int .i64 1,.int .i64 1,.int .i64 1,.int .i64 1] 26 (0,0)) (by (with_reducible repeat (first|refine blk_drewN ?_ _|refine blk_drew ?_|refine blk_alloc ?_ _));refine blk_put (cs:=#[.string (⟨#[116]⟩:ByteArray),.slice Ao87 x11_3.length co87,.int .i64 256,.int .i64 1,.int .i64 1,.int .i64 1,.int .i64 1,.int .i64 0]) ?_ 7 _ rfl;(with_reducible repeat (first|refine blk_drewN ?_ _|refine blk_drew ?_|refine blk_alloc ?_ _));refine blk_put (cs:=#[.string (⟨#[116]⟩:ByteArray),.slice Ao87 x11_3.length co87,.int .i64 256,.int .i64 1,.int .i64 1,.int .i64 1,.int .i64 0,.int .i64 0]) ?_ 6 _ rfl;(with_reducible repeat (first|refine blk_drewN ?_ _|refine blk_drew ?_|refine blk_alloc ?_ _));refine blk_put (cs:=#[.string (⟨#[116]⟩:ByteArray),.slice Ao87 x11_3.length co87,.int .i64 256,.int .i64 1,.int .i64 1,.int .i64 0,.int .i64 0,.int .i64 0]) ?_ 5 _ rfl;(with_reducible repeat (first|refine blk_drewN ?_ _|refine blk_drew ?_|refine blk_alloc ?_ _));refine blk_put (cs:=#[.string (⟨#[116]⟩:ByteArray),.slice Ao87 x11_3.length co87,.int .i64 256,.int .i64 1,.int .i64 0,.int .i64 0,.int .i64 0,.int .i64 0]) ?_ 4 _ rfl;(with_reducible repeat (first|refine blk_drewN ?_ _|refine blk_drew ?_|refine blk_alloc ?_ _));refine blk_put (cs:=#[.string (⟨#[116]⟩:ByteArray),.slice Ao87 x11_3.length co87,.int .i64 256,.int .i64 0,.int .i64 0,.int .i64 0,.int .i64 0,.int .i64 0]) ?_ 3 _ rfl;(with_reducible repeat (first|refine blk_drewN ?_ _|refine blk_drew ?_|refine blk_alloc ?_ _));refine blk_put (cs:=#[.string (⟨#[116]⟩:ByteArray),.slice Ao87 x11_3.length co87,.int .i64 0,.int .i64 0,.int .i64 0,.int .i64 0,.int .i64 0,.int .i64 0]) ?_ 2 _ rfl;(with_reducible repeat (first|refine blk_drewN ?_ _|refine blk_drew ?_|refine blk_alloc ?_ _));refine blk_put (cs:=#[.string (⟨#[116]⟩:ByteArray),.slice none 0 0,.int .i64 0,.int .i64 0,.int .i64 0,.int .i64 0,.int .i64 0,.int .i64 0]) ?_ 1 _ rfl;(with_reducible repeat (first|refine blk_drewN ?_ _|refine blk_drew ?_|refine blk_alloc ?_ _));refine blk_put (cs:=#[.string (⟨#[]⟩:ByteArray),.slice none 0 0,.int .i64 0,.int .i64 0,.int .i64 0,.int .i64 0,.int .i64 0,.int .i64 0]) ?_ 0 _ rfl;(with_reducible repeat (first|refine blk_drewN ?_ _|refine blk_drew ?_|refine blk_alloc ?_ _));exact BK80.out) hb);replace HB:=Aside0.mk (below_step zb9 hb);(try clear hb);have hcz93_0:w92.cell? ⟨gb80,0,none⟩=some (.string (⟨#[116]⟩:ByteArray)):=(blk_cell BK80.out 0).trans rfl;have hcz93_1:w92.cell? ⟨gb80,1,none⟩=some (.slice Ao87 x11_3.length co87):=(blk_cell BK80.out 1).trans rfl;have hcz93_2:w92.cell? ⟨gb80,2,none⟩=some (.int .i64 256):=(blk_cell BK80.out 2).trans rfl;have hcz93_3:w92.cell? ⟨gb80,3,none⟩=some (.int .i64 1):=(blk_cell BK80.out 3).trans rfl;have hcz93_4:w92.cell? ⟨gb80,4,none⟩=some (.int .i64 1):=(blk_cell BK80.out 4).trans rfl;have hcz93_5:w92.cell? ⟨gb80,5,none⟩=some (.int .i64 1):=(blk_cell BK80.out 5).trans rfl;have hcz93_6:w92.cell? ⟨gb80,6,none⟩=some (.int .i64 1):=(blk_cell BK80.out 6).trans rfl;have hcz93_7:w92.cell? ⟨gb80,7,none⟩=some (.int .i64 1):=(blk_cell BK80.out 7).trans rfl;have hfz93_0:=blk_frozen BK80.out 0;have hfz93_1:=blk_frozen BK80.out 1;have hfz93_2:=blk_frozen BK80.out 2;have hfz93_3:=blk_frozen BK80.out 3;have hfz93_4:=blk_frozen BK80.out 4;have hfz93_5:=blk_frozen BK80.out 5;have hfz93_6:=blk_frozen BK80.out 6;have hfz93_7:=blk_frozen BK80.out 7)|((with_reducible refine gate_dst (N:=104) rfl ?_);(try (refine gate_guard (by rfl) ?_;dsimp only));refine Kd.N_lit k26 _ 26 ?hg (N' := 104) ?hd (xs:=([(⟨(⟨#[116]⟩:ByteArray),x11_3,256,1,1,1,1,1⟩:S26)]:List (S26))) (inner:=[.string (⟨#[116]⟩:ByteArray),.slice Ao87 x11_3.length co87,.int .i64 256,.int .i64 1,.int .i64 1,.int .i64 1,.int .i64 1,.int .i64 1]) (ok:=(fun k_=>some k_ ≠ (.slice Ao91 x10_3.length co91:Value).ownBlock∧some k_ ≠ (.slice Ao13 y81.length co13:Value).ownBlock∧k_ ≠ gb79∧k_ ≠ gb80)) (okp:=(fun k_=>some k_ ≠ (.slice Ao91 x10_3.length co91:Value).ownBlock∧some k_ ≠ (.slice Ao13 y81.length co13:Value).ownBlock∧k_ ≠ gb79∧k_ ≠ gb80)) ?hr ?hp (fun _ hk=>hk) ((show ∀ k_,w92.heap.size ≤ k_ → (fun k_=>some k_ ≠ (.slice Ao91 x10_3.length co91:Value).ownBlock∧some k_ ≠ (.slice Ao13 y81.length co13:Value).ownBlock∧k_ ≠ gb79∧k_ ≠ gb80) k_ from fun k_ hk=>⟨Kd.fresh' (Kd.N_lt zb17) k_ hk,Kd.fresh' (Kd.R_lt zb6) k_ hk,Kd.freshB (g:=gb79) (o:=.cells #[.string (⟨#[116]⟩:ByteArray),.slice Ao13 y81.length co13,.int .i64 x83_4,.int .i64 x84_4,.int .i64 x98_4,.int .i64 x99_4,.int .i64 x100_4,.int .i64 x101_4] 26 (0,0)) zb4 k_ hk,Kd.freshB (g:=gb80) (o:=.cells #[.string (⟨#[116]⟩:ByteArray),.slice Ao87 x11_3.length co87,.int .i64 256,.int .i64 1,.int .i64 1,.int .i64 1,.int .i64 1,.int .i64 1] 26 (0,0)) zb28 k_ hk⟩) _ (Nat.le_refl _)) (Below.refl _ _) (Nat.le_refl _) zb30 ?_;(case hd=>rfl);(case hg=>rfl);(case hr=>first|(go_simp;done)|(go_simp;rfl));(case hp=>exact (Reps.c8 (show Kd.FK k26 _ _ (⟨(⟨#[116]⟩:ByteArray),x11_3,256,1,1,1,1,1⟩:S26) [.string (⟨#[116]⟩:ByteArray),.slice Ao87 x11_3.length co87,.int .i64 256,.int .i64 1,.int .i64 1,.int .i64 1,.int .i64 1,.int .i64 1] from (k26_mkF _ _ (⟨(⟨#[116]⟩:ByteArray),x11_3,256,1,1,1,1,1⟩:S26) (Kd.R_reads' (Kd.R_mono (ok' := (fun k_=>some k_ ≠ (.slice Ao91 x10_3.length co91:Value).ownBlock∧some k_ ≠ (.slice Ao13 y81.length co13:Value).ownBlock∧k_ ≠ gb79∧k_ ≠ gb80)) (Kd.R_types (Kd.R_types (Kd.R_apart' (HO_11.out) (Kd.N_typed HO_10.out) zb25) BK79.out zb25) BK80.out zb25) (fun k_ hk=>⟨hk.1.1.2,⟨hk.1.1.1,⟨hk.1.2,hk.2⟩⟩⟩))).2.1 (Kd.R_F (Kd.R_mono (ok' := (fun k_=>some k_ ≠ (.slice Ao91 x10_3.length co91:Value).ownBlock∧some k_ ≠ (.slice Ao13 y81.length co13:Value).ownBlock∧k_ ≠ gb79∧k_ ≠ gb80)) (Kd.R_types (Kd.R_types (Kd.R_apart' (HO_11.out) (Kd.N_typed HO_10.out) zb25) BK79.out zb25) BK80.out zb25) (fun k_ hk=>⟨hk.1.1.2,⟨hk.1.1.1,⟨hk.1.2,hk.2⟩⟩⟩))))) (Reps.none _ _)));intro v398 w94 ho95 hb hg_ hnew_;clear hg_ hnew_;(first|rw [← Ny397.out] at ho95|(simp only [Int.reduceToNat] at ho95;rw [← Ny397.out] at ho95));replace HO_10:=Aside0.mk (Kd.N_elder' zb17 (Kd.N_base ho95) hb);replace HO_82:=Aside0.mk (Kd.R_below zb6 hb);have HO399:=Aside0.mk (Kd.N_lower ho95 (below_size zb9));replace BK79:=Aside0.mk (blk_below (g:=gb79) (o:=.cells #[.string (⟨#[116]⟩:ByteArray),.slice Ao13 y81.length co13,.int .i64 x83_4,.int .i64 x84_4,.int .i64 x98_4,.int .i64 x99_4,.int .i64 x100_4,.int .i64 x101_4] 26 (0,0)) zb4 hb);replace BK80:=Aside0.mk (blk_below (g:=gb80) (o:=.cells #[.string (⟨#[116]⟩:ByteArray),.slice Ao87 x11_3.length co87,.int .i64 256,.int .i64 1,.int .i64 1,.int .i64 1,.int .i64 1,.int .i64 1] 26 (0,0)) zb28 hb);replace HB:=Aside0.mk (below_step zb9 hb);clear hb ho95;obtain ⟨Ao96,co96,eo96⟩:=Kd.N_slice HO399.out;subst eo96)|(go_at_call 9;(with_reducible refine (table_Right.calls k3 _ _ y397 t400 _ ?side1 ?side2 A86.out).mono ?_);(case side1=>repeat (first|exact (Kd.N_reads' HO399.out).2.2|(with_reducible refine Kd.C_alloc ?_ _)|(with_reducible refine Kd.C_drewN ?_ _)|(with_reducible refine Kd.C_drew ?_)));(case side2=>exact (Kd.N_reads' HO399.out).2.1);rintro e w97 ⟨rfl,hb⟩;(try clear A86);replace HO_10:=Aside0.mk (Kd.N_below zb17 hb);replace HO_82:=Aside0.mk (Kd.R_below zb6 hb);replace HO399:=Aside0.mk (Kd.N_below (by (with_reducible repeat (first|apply Kd.N_alloc|apply Kd.N_drewN|apply Kd.N_drew));exact HO399.out) hb);replace BK79:=Aside0.mk (blk_below (g:=gb79) (o:=.cells #[.string (⟨#[116]⟩:ByteArray),.slice Ao13 y81.length co13,.int .i64 x83_4,.int .i64 x84_4,.int .i64 x98_4,.int .i64 x99_4,.int .i64 x100_4,.int .i64 x101_4] 26 (0,0)) zb4 hb);replace BK80:=Aside0.mk (blk_below (g:=gb80) (o:=.cells #[.string (⟨#[116]⟩:ByteArray),.slice Ao87 x11_3.length co87,.int .i64 256,.int .i64 1,.int .i64 1,.int .i64 1,.int .i64 1,.int .i64 1] 26 (0,0)) zb28 hb);replace HB:=Aside0.mk (below_step zb9 hb);(try clear hb)))
       go_ret
       exact ⟨zb7,zb9⟩
/-- THE ONE PURE STATEMENT of tollbarlaw09_TableBounds: yours. -/
def tollbarlaw09_TableBounds.Pure:Prop := ∀ (a0:Int) (a1:Int),(Lit.int .i64 a0).wf=true → (Lit.int .i64 a1).wf=true → ∃ k,tollbarlaw09_TableBounds.f k a0 a1=some true
end Go.Proofs.YtclpanalnbmejaaDoor.P
namespace Go.Proofs.YtclpanalnbmejaaDoor.Pure
open Go.RowKit Go.Proofs.YtclpanalnbmejaaDoor.P Go.Proofs.YtclpanalnbmejaaDoorW.PrintWords Go.Proofs.YtclpanalnbmejaaDoorW.PrintLast Go.Proofs.YtclpanalnbmejaaDoorW.PrintMore
set_option linter.unusedVariables false
set_option linter.unusedSimpArgs false
theorem up {α:Type} {g:Nat → Option α} (hm : ∀ k,LeO (g k) (g (k + 1))) {n:Nat} {r:α} (h:g n=some r) : ∀ d,g (n + d)=some r
 | 0=>h
 | d + 1=>hm _ _ (up hm h d)
theorem up_to {α:Type} {g:Nat → Option α} (hm : ∀ k,LeO (g k) (g (k + 1))) {n k:Nat} {r:α} (h:g n=some r) (hk:n ≤ k):g k=some r:=by
 obtain ⟨d,rfl⟩ : ∃ d,k=n + d:=⟨k - n,by omega⟩
 exact up hm h d
theorem alive9_at:tollbarlaw09_alive.f 100=some true:=by kernel_rfl
theorem alive9_f (k:Nat) (hk:100 ≤ k):tollbarlaw09_alive.f k=some true:=up_to (fun k=>tollbarlaw09_alive.mono k) alive9_at hk
theorem and_mask (x : Int) (j : Nat) (hj : j ≤ 62) : Go.bits .and .i64 x (2 ^ j - 1) = x % 2 ^ j := by
  have hpos : 0 < 2 ^ j := Nat.two_pow_pos j
  have hlt : 2 ^ j ≤ 2 ^ 62 := Nat.pow_le_pow_right (by decide) hj
  have hc : ((2 : Int) ^ j - 1) = ((2 ^ j - 1 : Nat) : Int) := by rw [Int.natCast_sub hpos]; simp
  have hb : (2 ^ j - 1) % 2 ^ 64 = 2 ^ j - 1 := Nat.mod_eq_of_lt (by omega)
  have hd : ((2 : Int) ^ j) ∣ 2 ^ 64 := ⟨2 ^ (64 - j), by rw [← Int.pow_add]; congr 1; omega⟩
  have hk : (BitVec.ofInt 64 x &&& BitVec.ofInt 64 ((2 ^ j - 1 : Nat) : Int)).toNat = (x % ((2 ^ 64 : Nat) : Int)).toNat % 2 ^ j := by
    rw [BitVec.toNat_and, BitVec.ofInt_natCast, BitVec.toNat_ofNat, hb, Nat.and_two_pow_sub_one_eq_mod, BitVec.toNat_ofInt]
  have hg : bits .and .i64 x (2 ^ j - 1) = IntKind.i64.wrap (((BitVec.ofInt 64 x &&& BitVec.ofInt 64 ((2 ^ j - 1 : Nat) : Int)).toNat : Nat) : Int) := by rw [hc]; rfl
  have hx : (((x % ((2 ^ 64 : Nat) : Int)).toNat % 2 ^ j : Nat) : Int) = x % 2 ^ j := by
    rw [Int.natCast_emod, Int.toNat_of_nonneg (Int.emod_nonneg _ (by decide))]
    have := Int.emod_emod_of_dvd x hd
    simpa using this
  rw [hg, hk, hx, IntKind.wrap_i64]
  have h1 : 0 ≤ x % (2 : Int) ^ j := Int.emod_nonneg _ (by have : (0 : Int) < 2 ^ j := by exact_mod_cast hpos
                                                           omega)
  have h2 : x % (2 : Int) ^ j < 2 ^ j := Int.emod_lt_of_pos _ (by exact_mod_cast hpos)
  have h3 : (2 : Int) ^ j ≤ 2 ^ 62 := by exact_mod_cast hlt
  have h4 : (2 : Int) ^ 62 = 4611686018427387904 := by decide
  omega
theorem toList_data (s:ByteArray):s.toList=s.data.toList:=by
 simp [ByteArray.toList_eq]
def mkS (l:List UInt8):ByteArray:=⟨l.toArray⟩
theorem mkS_data (l:List UInt8):(mkS l).data.toList=l:=by simp [mkS]
theorem mkS_self (s:ByteArray):mkS s.data.toList=s:=by simp [mkS]
theorem mkS_size (l:List UInt8):(mkS l).size=l.length:=by rw [← data_length,mkS_data]
theorem Host_some (l:List UInt8) (hn:l.length ≤ 140737488355328) : ∃ u,line_Host.f (mkS l)=some (hostEnd (mkS u)):=by
 unfold line_Host.f
 rw [if_pos (by rw [mkS_size];exact hn)]
 exact ⟨(hostCut (strOfNums ((bytesOf (mkS l)).map foldC))).data.toList,by rw [mkS_self]⟩
/-- A test of each,and of any. -/
theorem anyO_eq {α:Type} (q:α → Option Bool) (p:α → Bool) : ∀ l:List α,(∀ x ∈ l,q x=some (p x)) → anyO q l=some (l.any p)
 | [],_=>rfl
 | x :: r,h=>by
  simp only [anyO,List.any_cons]
  rw [h x (List.mem_cons_self ..),Option.bind_some]
  cases hp:p x
  ·rw [if_neg (by simp)]
   simp only [Bool.false_or]
   exact anyO_eq q p r (fun y hy=>h y (List.mem_cons_of_mem _ hy))
  ·rw [if_pos rfl]
   rfl
def nameC (c:Int):Bool:=decide (97 ≤ c∧c ≤ 122) || (decide (48 ≤ c∧c ≤ 57) || decide (c=45))
def nameR (s:ByteArray):Nat → Nat → Bool
 | 0,_=>true
 | d + 1,i=>nameC (bt s i) && nameR s d (i + 1)
/-- Is a text a name? -/
def tblName (s:ByteArray):Bool:=decide (1 ≤ s.size∧s.size ≤ 30) && (decide (97 ≤ bt s 0∧bt s 0 ≤ 122) && nameR s s.size 0)
theorem name_step (k:Nat) (s:ByteArray) (i:Nat) (hi:i < s.size) (hs:s.size ≤ 140737488355328):table_Name.l0 (k + 1) s (s.size:Int) (i:Int)=if nameC (bt s i)=true then table_Name.l0 k s (s.size:Int) ((i + 1:Nat):Int) else some false:=by
 rw [table_Name.l0,if_pos (by omega),if_pos (by omega),if_pos (by omega)]
 have hw:wrap64 ((i:Int) + 1)=((i + 1:Nat):Int):=by unfold wrap64;omega
 rw [hw]
 obtain ⟨c,hc⟩ : ∃ c,bt s i=c:=⟨_,rfl⟩
 rw [hc]
 unfold nameC
 simp only [Bool.or_eq_true,decide_eq_true_eq]
 repeat' split
 all_goals first|rfl|(exfalso;omega)
theorem name_l0 (s:ByteArray) (hs:s.size ≤ 140737488355328) : ∀ (d k i:Nat),i + d=s.size → d < k → table_Name.l0 k s (s.size:Int) (i:Int)=some (nameR s d i)
 | d,0,_,_,h=>by omega
 | 0,k + 1,i,h,_=>by
  rw [table_Name.l0,if_neg (by omega)]
  rfl
 | d + 1,k + 1,i,h,hk=>by
  rw [name_step k s i (by omega) hs,name_l0 s hs d k (i + 1) (by omega) (by omega),nameR]
  cases nameC (bt s i) <;> rfl
theorem name_f (s:ByteArray) (hs:s.size ≤ 140737488355328) (k:Nat) (hk:40 ≤ k):table_Name.f k s=some (tblName s):=by
 obtain ⟨m,rfl⟩ : ∃ m,k=m + 1:=⟨k - 1,by omega⟩
 unfold table_Name.f tblName
 by_cases h0:s.toList=[]
 ·rw [if_pos h0]
  have hz:s.size=0:=by rw [← data_length,← toList_data,h0];rfl
  rw [table_Name.j0,if_pos rfl,hz]
  rfl
 ·rw [if_neg h0]
  have hz:1 ≤ s.size:=by
   rcases Nat.eq_zero_or_pos s.size with h|h
   ·exfalso
    apply h0
    rw [toList_data]
    exact List.length_eq_zero_iff.1 (by rw [data_length];exact h)
   ·exact h
  by_cases h1:(s.size:Int) > 30
  ·rw [if_pos h1,table_Name.j0,if_pos rfl,decide_eq_false (by omega)]
   rfl
  ·rw [if_neg h1,if_pos (by omega),decide_eq_true (show 1 ≤ s.size∧s.size ≤ 30 by omega),Bool.true_and]
   by_cases h2:bt s 0 < 97
   ·rw [if_pos h2,table_Name.j0,if_pos rfl,decide_eq_false (by omega)]
    rfl
   ·rw [if_neg h2,table_Name.j0]
    by_cases h3:bt s 0 > 122
    ·rw [decide_eq_true h3,if_pos rfl,decide_eq_false (by omega)]
     rfl
    ·rw [decide_eq_false h3,if_neg (by simp),decide_eq_true (show 97 ≤ bt s 0∧bt s 0 ≤ 122 by omega),Bool.true_and]
     exact name_l0 s hs s.size m 0 (by omega) (by omega)
/-- Is a text a host as it is told? -/
def hostB (h:ByteArray):Bool:=match line_Host.f h with
 | some p=>p.2 && (p.1.toList == h.toList)
 | none=>false
theorem right2_f (h:ByteArray) (hs:h.size ≤ 140737488355328):table_right_2.f h=some (!hostB h):=by
 obtain ⟨u,hu⟩:=Host_some h.data.toList (by rw [data_length];exact hs)
 rw [mkS_self] at hu
 unfold table_right_2.f hostB
 rw [hu,Option.bind_some]
 dsimp only
 cases (hostEnd (mkS u)).2
 ·rfl
 ·rw [if_pos rfl]
  rfl
def numB (a lo hi:Int):Bool:=decide (lo ≤ a∧a ≤ hi)
theorem right1_f (a lo hi:Int):table_right_1.f a lo hi=some (!numB a lo hi):=by
 unfold table_right_1.f numB
 by_cases h:a < lo
 ·rw [if_pos h,decide_eq_false (by omega)]
  rfl
 ·rw [if_neg h]
  by_cases h2:a > hi
  ·rw [decide_eq_true h2,decide_eq_false (by omega)]
   rfl
  ·rw [decide_eq_false h2,decide_eq_true (by omega)]
   rfl
def numsB (x:S26):Bool:=numB x.f2 256 1048576 && (numB x.f3 1 64 && (numB x.f4 1 64 && (numB x.f5 1 1048576 && (numB x.f6 1 1048576 && numB x.f7 1 1048576))))
/-- Is a slot right? -/
def slotB (x:S26):Bool:=tblName x.f0 && (numsB x && (x.f1.all hostB && decide (1 ≤ x.f1.length∧x.f1.length ≤ 8)))
theorem right_f (x:S26) (h0:x.f0.size ≤ 140737488355328) (h1 : ∀ h ∈ x.f1,h.size ≤ 140737488355328) (k:Nat) (hk:40 ≤ k):table_right.f k x.f0 x.f1 x.f2 x.f3 x.f4 x.f5 x.f6 x.f7=some (slotB x):=by
 unfold table_right.f table_bounds.f
 rw [Option.bind_some,anyO_eq _ (fun (b:S53) => !numB b.f0 b.f1 b.f2) _ (fun b _=>right1_f _ _ _),Option.bind_some,anyO_eq _ (fun h => !hostB h) _ (fun h hh=>right2_f h (h1 h hh)),Option.bind_some,name_f _ h0 k hk,Option.bind_some]
 have e1:([(⟨x.f2,256,1048576⟩:S53),⟨x.f3,1,64⟩,⟨x.f4,1,64⟩,⟨x.f5,1,1048576⟩,⟨x.f6,1,1048576⟩,⟨x.f7,1,1048576⟩].any fun b => !numB b.f0 b.f1 b.f2) = !numsB x:=by
  unfold numsB
  simp only [List.any_cons,List.any_nil,Bool.or_false,Bool.not_and]
 have e2:(x.f1.any fun h => !hostB h) = !(x.f1.all hostB):=by
  rw [List.all_eq_not_any_not,Bool.not_not]
 rw [e1,e2]
 unfold slotB
 cases tblName x.f0
 ·rfl
 ·cases numsB x
  ·rfl
  ·cases x.f1.all hostB
   ·rfl
   ·simp only [Bool.not_true,Bool.true_and,if_true,Bool.false_eq_true,if_false]
    by_cases hl:1 ≤ x.f1.length
    ·rw [if_pos hl]
     congr 1
     rw [decide_eq_decide]
     omega
    ·rw [if_neg hl,decide_eq_false (by omega)]
/-- Is a table right? -/
def rightT (t:List (S26)):Bool:=decide (1 ≤ t.length∧t.length ≤ 16) && (t.all slotB && (unlikeB [] (t.map (·.f0)) && unlikeB [] (t.flatMap (·.f1))))
def FitT (t:List (S26)):Prop := ∀ x ∈ t,x.f0.size ≤ 140737488355328 ∧ ∀ h ∈ x.f1,h.size ≤ 140737488355328
theorem slot_hosts {x:S26} (h:slotB x=true):x.f1.length ≤ 8∧1 ≤ x.f1.length:=by
 unfold slotB at h
 simp only [Bool.and_eq_true,decide_eq_true_iff] at h
 exact ⟨h.2.2.2.2,h.2.2.2.1⟩
theorem rd_slot (t:List (S26)) (i:Nat) (h:i < t.length):rd_T26 t (i:Int)=t[i]:=by
 unfold rd_T26
 rw [Int.toNat_natCast,List.getD_eq_getElem?_getD,List.getElem?_eq_getElem h]
 rfl
theorem Right_l0 (t:List (S26)) (hf:FitT t) (hl:t.length ≤ 16) : ∀ (d k i:Nat) (ns hs:List ByteArray),i + d=t.length → d + 42 ≤ k → ns.length ≤ i → hs.length ≤ 8 * i → (∀ s ∈ ns,s.size ≤ 140737488355328) → (∀ s ∈ hs,s.size ≤ 140737488355328) →
 table_Right.l0 k ns hs t (t.length:Int) (i:Int)=some ((t.drop i).all slotB && (unlikeB [] (ns ++ (t.drop i).map (·.f0)) && unlikeB [] (hs ++ (t.drop i).flatMap (·.f1))))
 | d,0,_,_,_,_,h,_,_,_,_=>by omega
 | 0,k + 1,i,ns,hs,h,hk,h1,h2,h3,h4=>by
  have hu : ∀ l:List ByteArray,l.length ≤ 1000 → (∀ s ∈ l,s.size ≤ 140737488355328) → table_unlike_string.f l=some (unlikeB [] l):=fun l hl hs=>by unfold table_unlike_string.f;rw [if_pos ⟨by omega,hs⟩]
  rw [table_Right.l0,if_neg (by omega),hu ns (by omega) h3,Option.bind_some,hu hs (by omega) h4,Option.bind_some,List.drop_of_length_le (by omega)]
  simp only [List.all_nil,List.map_nil,List.flatMap_nil,List.append_nil,Bool.true_and]
  cases unlikeB [] ns <;> rfl
 | d + 1,k + 1,i,ns,hs,h,hk,h1,h2,h3,h4=>by
  have hi:i < t.length:=by omega
  have hm:t[i] ∈ t:=List.getElem_mem hi
  have hw:wrap64 ((i:Int) + 1)=((i + 1:Nat):Int):=by unfold wrap64;omega
  rw [table_Right.l0,if_pos (by omega),if_pos (by omega),if_pos (by omega),rd_slot t i hi,right_f t[i] (hf _ hm).1 (hf _ hm).2 k (by omega),Option.bind_some,List.drop_eq_getElem_cons hi,List.all_cons,List.map_cons,List.flatMap_cons]
  cases hb:slotB t[i]
  ·rfl
  ·have hh:=slot_hosts hb
   rw [if_pos rfl,if_pos (by omega),if_pos (by omega),hw,Right_l0 t hf hl d k (i + 1) _ _ (by omega) (by omega) (by simp only [List.length_append,List.length_cons,List.length_nil];omega) (by rw [List.length_append];omega) (fun s hs_=>by
    rcases List.mem_append.1 hs_ with h5|h5
    ·exact h3 s h5
    ·rw [List.mem_singleton.1 h5];exact (hf _ hm).1) (fun s hs_=>by
    rcases List.mem_append.1 hs_ with h5|h5
    ·exact h4 s h5
    ·exact (hf _ hm).2 s h5),Bool.true_and,List.append_assoc,List.append_assoc,List.singleton_append]
theorem Right_f (t:List (S26)) (hf:FitT t) (k:Nat) (hk:60 ≤ k):table_Right.f k t=some (rightT t):=by
 obtain ⟨m,rfl⟩ : ∃ m,k=m + 1:=⟨k - 1,by omega⟩
 unfold table_Right.f rightT
 by_cases h1:(t.length:Int) < 1
 ·rw [if_pos h1,table_Right.j0,if_pos rfl,decide_eq_false (by omega)]
  rfl
 ·rw [if_neg h1,table_Right.j0]
  by_cases h2:(t.length:Int) > 16
  ·rw [decide_eq_true h2,if_pos rfl,decide_eq_false (by omega)]
   rfl
  ·rw [decide_eq_false h2,if_neg (by simp),decide_eq_true (show 1 ≤ t.length∧t.length ≤ 16 by omega),Bool.true_and]
   exact Right_l0 t hf (by omega) t.length m 0 [] [] (by omega) (by omega) (by simp) (by simp) (by simp) (by simp)
theorem bounds_rows : ∀ c:Fin 32,tollbarlaw09_TableBounds.l0 200 (c.val:Int) [] [] 0=some true:=by decide +kernel
theorem bounds_j1 (a1:Int) (k:Nat) (hk:200 ≤ k):tollbarlaw09_TableBounds.j1 (k + 1) a1 false=some true:=by
 have hm:Go.bits .and .i64 a1 31=a1 % 32:=and_mask a1 5 (by decide)
 obtain ⟨v,hv⟩ : ∃ v:Nat,a1 % 32=v:=⟨(a1 % 32).toNat,by omega⟩
 rw [tollbarlaw09_TableBounds.j1,if_neg (by simp),hm,hv]
 exact up_to (fun k=>(tollbarlaw09_TableBounds.mono_l k).2.2 _ _ _ _) (bounds_rows ⟨v,by omega⟩) hk
theorem bounds_name:tblName (⟨#[116]⟩:ByteArray)=true:=by kernel_rfl
theorem bounds_host:hostB (⟨#[104]⟩:ByteArray)=true:=by kernel_rfl
theorem right_one (x:S26) (h0:x.f0=(⟨#[116]⟩:ByteArray)) (h1:x.f1=[(⟨#[104]⟩:ByteArray)]):rightT [x]=numsB x:=by
 unfold rightT
 rw [List.all_cons,List.all_nil,Bool.and_true,List.map_cons,List.map_nil,List.flatMap_cons,List.flatMap_nil,List.append_nil,h1]
 unfold slotB
 rw [h0,h1,bounds_name,List.all_cons,bounds_host]
 show (true && ((true && (numsB x && true)) && true))=numsB x
 simp
theorem bounds_j0 (k:Nat) (hk:60 ≤ k) (a1 kk lo hi:Int) (x:S26) (h0:x.f0=(⟨#[116]⟩:ByteArray)) (h1:x.f1=[(⟨#[104]⟩:ByteArray)]) (hx:numsB x=numB a1 lo hi) (hl:rd [256,1,1,1,1,1] kk=lo) (hh:rd [1048576,64,64,1048576,1048576,1048576] kk=hi) (k0:0 ≤ kk) (k6:kk < 6) :
 tollbarlaw09_TableBounds.j0 (k + 1) a1 [256,1,1,1,1,1] [1048576,64,64,1048576,1048576,1048576] kk x.f0 x.f1 x.f2 x.f3 x.f4 x.f5 x.f6 x.f7=tollbarlaw09_TableBounds.j1 k a1 false:=by
 have hf:FitT [x]:=by
  intro y hy
  rw [List.mem_singleton.1 hy,h0,h1]
  refine ⟨by decide,fun h hh=>?_⟩
  rw [List.mem_singleton.1 hh]
  decide
 rw [tollbarlaw09_TableBounds.j0]
 show ((table_Right.f k [x]).bind _)=_
 rw [Right_f [x] hf k hk,Option.bind_some,right_one x h0 h1,hx,hl,hh,if_pos k0,if_pos (show kk < (([256,1,1,1,1,1]:List Int).length:Int) from k6)]
 unfold numB
 by_cases c:a1 ≥ lo
 ·rw [if_pos c,if_pos (show kk < (([1048576,64,64,1048576,1048576,1048576]:List Int).length:Int) from k6)]
  have e:decide (lo ≤ a1∧a1 ≤ hi)=decide (a1 ≤ hi):=by rw [decide_eq_decide];exact ⟨fun h=>h.2,fun h=>⟨c,h⟩⟩
  rw [e,bne_self_eq_false]
 ·rw [if_neg c,decide_eq_false (fun h=>c h.1),bne_self_eq_false]
theorem TableBounds:tollbarlaw09_TableBounds.Pure:=by
 intro a0 a1 _ _
 refine ⟨402,?_⟩
 have hm:Go.bits .and .i64 a0 1023=a0 % 1024:=and_mask a0 10 (by decide)
 obtain ⟨v,hv⟩ : ∃ v:Nat,a0 % 1024=v:=⟨(a0 % 1024).toNat,by omega⟩
 have ht:Int.tmod (v:Int) 6=((v % 6:Nat):Int):=(Int.ofNat_tmod v 6).symm
 unfold tollbarlaw09_TableBounds.f
 rw [alive9_f _ (by omega),Option.bind_some,if_pos rfl,Option.bind_some,Option.bind_some,Option.bind_some,hm,hv,ht]
 obtain ⟨c,hc⟩ : ∃ c,v % 6=c:=⟨_,rfl⟩
 rw [hc]
 have e1:numB 1 1 64=true:=rfl
 have e2:numB 1 1 1048576=true:=rfl
 have e3:numB 256 256 1048576=true:=rfl
 rcases (show c=0 ∨ c=1 ∨ c=2 ∨ c=3 ∨ c=4 ∨ c=5 by omega) with rfl|rfl|rfl|rfl|rfl|rfl
 ·rw [if_pos (by decide)]
  rw [bounds_j0 401 (by decide) a1 ((0:Nat):Int) 256 1048576 ⟨_,_,a1,1,1,1,1,1⟩ rfl rfl (by unfold numsB;rw [e1,e2];simp) rfl rfl (by decide) (by decide)]
  exact bounds_j1 a1 400 (by decide)
 ·rw [if_neg (by decide),if_pos (by decide)]
  rw [bounds_j0 401 (by decide) a1 ((1:Nat):Int) 1 64 ⟨_,_,256,a1,1,1,1,1⟩ rfl rfl (by unfold numsB;rw [e1,e2,e3];simp) rfl rfl (by decide) (by decide)]
  exact bounds_j1 a1 400 (by decide)
 ·rw [if_neg (by decide),if_neg (by decide),if_pos (by decide)]
  rw [bounds_j0 401 (by decide) a1 ((2:Nat):Int) 1 64 ⟨_,_,256,1,a1,1,1,1⟩ rfl rfl (by unfold numsB;rw [e1,e2,e3];simp) rfl rfl (by decide) (by decide)]
  exact bounds_j1 a1 400 (by decide)
 ·rw [if_neg (by decide),if_neg (by decide),if_neg (by decide),if_pos (by decide)]
  rw [bounds_j0 401 (by decide) a1 ((3:Nat):Int) 1 1048576 ⟨_,_,256,1,1,a1,1,1⟩ rfl rfl (by unfold numsB;rw [e1,e2,e3];simp) rfl rfl (by decide) (by decide)]
  exact bounds_j1 a1 400 (by decide)
 ·rw [if_neg (by decide),if_neg (by decide),if_neg (by decide),if_neg (by decide),if_pos (by decide)]
  rw [bounds_j0 401 (by decide) a1 ((4:Nat):Int) 1 1048576 ⟨_,_,256,1,1,1,a1,1⟩ rfl rfl (by unfold numsB;rw [e1,e2,e3];simp) rfl rfl (by decide) (by decide)]
  exact bounds_j1 a1 400 (by decide)
 ·rw [if_neg (by decide),if_neg (by decide),if_neg (by decide),if_neg (by decide),if_neg (by decide)]
  rw [bounds_j0 401 (by decide) a1 ((5:Nat):Int) 1 1048576 ⟨_,_,256,1,1,1,1,a1⟩ rfl rfl (by unfold numsB;rw [e1,e2,e3];simp) rfl rfl (by decide) (by decide)]
  exact bounds_j1 a1 400 (by decide)
end Go.Proofs.YtclpanalnbmejaaDoor.Pure
