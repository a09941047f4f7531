/- Each function below answers as its Lean twin says; plain lemmas; a row where its theorem stands. No further condition. (Laid by this repo's pack.py out of its texts and of the print's words.) -/
import Derived.Test.YtclpanalnbmejaaGreatDoorZ8974a307
import Derived.Test.YtclpanalnbmejaaGreatDoorZ09c410c2
import Derived.Test.YtclpanalnbmejaaGreatDoorZaa74bae2
import Derived.Test.YtclpanalnbmejaaGreatDoorZ2f8289bc
import Derived.Test.YtclpanalnbmejaaGreatDoorZd85dcb92
import Derived.Lib.IndexBytes
import Derived.Lib.Strings
import Derived.Lib.SlTrimSet
import Derived.Lib.LastIndexByte
namespace Go.Proofs.YtclpanalnbmejaaGreatDoor.P
open Go.RowKit Go.Proofs.YtclpanalnbmejaaGreatDoorW.PrintWords Go.Proofs.YtclpanalnbmejaaGreatDoorW.PrintLast Go.Proofs.YtclpanalnbmejaaGreatDoorW.PrintMore
attribute [local go_sem] max2_int min2_int max_two min_two max_three min_three max_four min_four
set_option linter.unusedVariables false
set_option linter.unusedSimpArgs false
def tollbarlaw09_alive.f (k:Nat)  : Option (Bool):=(table_Read.f k (⟨#[115,108,111,116,32,97,32,49,48,48,48,32,50,32,50,32,53,32,53,32,54,52,32,97,46,101,120,97,109,112,108,101,32,98,10]⟩:ByteArray)).bind fun bt220=>((table_Write.f k bt220.1).bind fun bt224=>((table_Read.f k (⟨#[115,108,111,116,32,97,10]⟩:ByteArray)).bind fun bt226=>(if bt220.2=0 then (if (bt220.1.length:Int)=1 then (if 0 < (bt220.1.length:Int) then (if ((rd_T64 bt220.1 0).f7)=64 then (if (((rd_T64 bt220.1 0).f1).length:Int)=2 then (if bt224.2=0 then (if bt224.1.toList=([115,108,111,116,32,97,32,49,48,48,48,32,50,32,50,32,53,32,53,32,54,52,32,97,46,101,120,97,109,112,108,101,32,98,10]:List UInt8) then (if bt226.2=20 then ((table_Right.f k bt220.1).bind fun t232=>(if t232=true then ((table_Right.f k ([]:List (S64))).bind fun t233=>(if t233=true then (some false) else ((table_Find.f k bt220.1 (⟨#[98]⟩:ByteArray)).bind fun t234=>(if t234=0 then ((table_Find.f k bt220.1 (⟨#[99]⟩:ByteArray)).bind fun t235=>(if t235=(-1) then ((table_Named.f bt220.1 (⟨#[97]⟩:ByteArray)).bind fun t236=>(if t236=0 then ((table_Name.f k (⟨#[97,45,49]⟩:ByteArray)).bind fun t237=>(if t237=true then ((table_Name.f k (⟨#[49,97]⟩:ByteArray)).bind fun t238=>(some (!t238))) else (some false))) else (some false))) else (some false))) else (some false))))) else (some false))) else (some false)) else (some false)) else (some false)) else (some false)) else (some false)) else (none)) else (some false)) else (some false))))
theorem tollbarlaw09_alive.mono : ∀ k,LeO (tollbarlaw09_alive.f k ) (tollbarlaw09_alive.f (k + 1) ):=by
 intro  k
 unfold tollbarlaw09_alive.f
 repeat' first
  | (with_reducible exact table_Find.mono _ _ _)
  | (with_reducible exact table_Name.mono _ _)
  | (with_reducible exact table_Read.mono _ _)
  | (with_reducible exact table_Right.mono _ _)
  | (with_reducible exact table_Write.mono _ _)
  | (with_reducible exact LeO.refl _)
  | (with_reducible exact LeO.none _)
  | (with_reducible refine LeO.ite ?_ ?_)
  | (with_reducible refine LeO.bind ?_ (fun _=>?_))
  | exact table_Find.mono _ _ _
  | exact table_Name.mono _ _
  | exact table_Read.mono _ _
  | exact table_Right.mono _ _
  | exact table_Write.mono _ _
  | exact LeO.none _
  | refine LeO.ite ?_ ?_
  | refine LeO.bind ?_ (fun _=>?_)
set_option maxHeartbeats 8000000 in
set_option maxRecDepth 100000 in
theorem tollbarlaw09_alive.calls (k:Nat)  (r:Bool) (w:World) (h:tollbarlaw09_alive.f k  = some r) (hr:r=true) (ht:Tabs w) :
 Calls Tryz.prog 10 #[] w fun e w' => e = .returned (.bool r)∧Below w.heap.size w w' := by
 have HTB:=Aside0.mk ht
 clear ht
 have HRT:=Aside0.mk hr
 clear hr
 have HB:=Aside0.mk (Below.refl w.heap.size w)
 unfold tollbarlaw09_alive.f at h
 have H:=h
 clear h
 replace H:=Option.bind_eq_some_iff.mp H
 obtain ⟨⟨t18,t48⟩,A10,H⟩:=H
 try dsimp only at H
 have A1:=Aside0.mk A10
 clear A10
 replace H:=Option.bind_eq_some_iff.mp H
 obtain ⟨⟨t45,t49⟩,A20,H⟩:=H
 try dsimp only at H
 have A2:=Aside0.mk A20
 clear A20
 replace H:=Option.bind_eq_some_iff.mp H
 obtain ⟨⟨t50,t51⟩,A30,H⟩:=H
 try dsimp only at H
 have A3:=Aside0.mk A30
 clear A30
 by_cases c4:t48=0;rotate_left
 ·rw [if_neg c4] at H
  have c4b0:=beq_eq_false_iff_ne.mpr c4
  have c4b1:=bne_iff_ne.mpr c4
  exact absurd ((Option.some.inj H).trans HRT.out) zb22
 rw [if_pos c4] at H
 have c4b0:=beq_iff_eq.mpr c4
 have c4b1:=bne_eq_false_iff_eq.mpr c4
 clear c4
 by_cases c5:(t18.length:Int)=1
 ·rw [if_pos c5] at H
  have c5b0:=beq_iff_eq.mpr c5
  have c5b1:=bne_eq_false_iff_eq.mpr c5
  clear c5
  by_cases c6:0 < (t18.length:Int);rotate_left
  ·rw [if_neg c6] at H
   exact absurd H zb24
  rw [if_pos c6] at H
  have c6b0:=decide_eq_true c6
  have c6b1:decide (0 < t18.length)=true:=decide_eq_true zb16
  clear c6
  by_cases c7:((rd_T64 t18 0).f7)=64;rotate_left
  ·rw [if_neg c7] at H
   have c7b0:=beq_eq_false_iff_ne.mpr c7
   have c7b1:=bne_iff_ne.mpr c7
   exact absurd ((Option.some.inj H).trans HRT.out) zb22
  rw [if_pos c7] at H
  have c7b0:=beq_iff_eq.mpr c7
  have c7b1:=bne_eq_false_iff_eq.mpr c7
  clear c7
  by_cases c8:(((rd_T64 t18 0).f1).length:Int)=2
  ·rw [if_pos c8] at H
   have c8b0:=beq_iff_eq.mpr c8
   have c8b1:=bne_eq_false_iff_eq.mpr c8
   clear c8
   by_cases c9:t49=0;rotate_left
   ·rw [if_neg c9] at H
    have c9b0:=beq_eq_false_iff_ne.mpr c9
    have c9b1:=bne_iff_ne.mpr c9
    exact absurd ((Option.some.inj H).trans HRT.out) zb22
   rw [if_pos c9] at H
   have c9b0:=beq_iff_eq.mpr c9
   have c9b1:=bne_eq_false_iff_eq.mpr c9
   clear c9
   by_cases c10:t45.toList=([115,108,111,116,32,97,32,49,48,48,48,32,50,32,50,32,53,32,53,32,54,52,32,97,46,101,120,97,109,112,108,101,32,98,10]:List UInt8)
   ·rw [if_pos c10] at H
    have c10b0:=beq_iff_eq.mpr c10
    have c10b1:=bne_eq_false_iff_eq.mpr c10
    clear c10
    by_cases c11:t51=20;rotate_left
    ·rw [if_neg c11] at H
     have c11b0:=beq_eq_false_iff_ne.mpr c11
     have c11b1:=bne_iff_ne.mpr c11
     exact absurd ((Option.some.inj H).trans HRT.out) zb22
    rw [if_pos c11] at H
    have c11b0:=beq_iff_eq.mpr c11
    have c11b1:=bne_eq_false_iff_eq.mpr c11
    clear c11
    replace H:=Option.bind_eq_some_iff.mp H
    obtain ⟨t47,A52,H⟩:=H
    try dsimp only at H
    have A12:=Aside0.mk A52
    clear A52
    by_cases c13:t47=true
    ·subst c13
     rw [if_pos rfl] at H
     replace H:=Option.bind_eq_some_iff.mp H
     obtain ⟨t46,A53,H⟩:=H
     try dsimp only at H
     have A14:=Aside0.mk A53
     clear A53
     by_cases c15:t46=true
     ·subst c15
      rw [if_pos rfl] at H
      exact absurd ((Option.some.inj H).trans HRT.out) zb22
     replace c15:=Bool.eq_false_iff.mpr c15
     subst c15
     rw [if_neg (show ¬ (false=true) by decide)] at H
     replace H:=Option.bind_eq_some_iff.mp H
     obtain ⟨t43,A18,H⟩:=H
     try dsimp only at H
     have A22:=Aside0.mk A18
     clear A18
     by_cases c23:t43=0;rotate_left
     ·rw [if_neg c23] at H
      have c23b0:=beq_eq_false_iff_ne.mpr c23
      have c23b1:=bne_iff_ne.mpr c23
      exact absurd ((Option.some.inj H).trans HRT.out) zb22
     rw [if_pos c23] at H
     have c23b0:=beq_iff_eq.mpr c23
     have c23b1:=bne_eq_false_iff_eq.mpr c23
     clear c23
     replace H:=Option.bind_eq_some_iff.mp H
     obtain ⟨t41,A54,H⟩:=H
     try dsimp only at H
     have A24:=Aside0.mk A54
     clear A54
     by_cases c25:t41=(-1)
     ·rw [if_pos c25] at H
      have c25b0:=beq_iff_eq.mpr c25
      have c25b1:=bne_eq_false_iff_eq.mpr c25
      clear c25
      replace H:=Option.bind_eq_some_iff.mp H
      obtain ⟨t40,A55,H⟩:=H
      try dsimp only at H
      have A26:=Aside0.mk A55
      clear A55
      by_cases c27:t40=0;rotate_left
      ·rw [if_neg c27] at H
       have c27b0:=beq_eq_false_iff_ne.mpr c27
       have c27b1:=bne_iff_ne.mpr c27
       exact absurd ((Option.some.inj H).trans HRT.out) zb22
      rw [if_pos c27] at H
      have c27b0:=beq_iff_eq.mpr c27
      have c27b1:=bne_eq_false_iff_eq.mpr c27
      clear c27
      replace H:=Option.bind_eq_some_iff.mp H
      obtain ⟨t42,A56,H⟩:=H
      try dsimp only at H
      have A28:=Aside0.mk A56
      clear A56
      by_cases c29:t42=true
      ·subst c29
       rw [if_pos rfl] at H
       replace H:=Option.bind_eq_some_iff.mp H
       obtain ⟨t21,A57,H⟩:=H
       try dsimp only at H
       have A30:=Aside0.mk A57
       clear A57
       obtain rfl:=Option.some.inj H
       go_enter Tryz.func10,Tryz.ntmps10
       go_wp2_with (first|((with_reducible refine gate_callee (f:=11) rfl ?_);refine goesL_ (some 10) rfl rfl Tryz.func11 zb14 rfl #[.string (⟨#[115,108,111,116,32,97,32,49,48,48,48,32,50,32,50,32,53,32,53,32,54,52,32,97,46,101,120,97,109,112,108,101,32,98,10]⟩:ByteArray)] rfl zb2 ?_;(with_reducible refine (table_Read.calls k (⟨#[115,108,111,116,32,97,32,49,48,48,48,32,50,32,50,32,53,32,53,32,54,52,32,97,46,101,120,97,109,112,108,101,32,98,10]⟩:ByteArray) t18 t48 _ A1.out ?hT).mono ?_);(case hT=>exact HTB.out.below zb0);rintro e w31 ⟨v58,rfl,ho0,hb⟩;(try clear A1);refine ⟨_,rfl,?_⟩;have HO19:=Aside0.mk (Kd.S_lower ho0 (below_size zb0));replace HB:=Aside0.mk (below_step zb0 hb);try clear hb ho0;obtain ⟨Ao32,co32,eo32⟩:=Kd.S_slice HO19.out;subst eo32)|((with_reducible refine gate_callee (f:=30) rfl ?_);refine goesL_ (some 15) rfl rfl Tryz.func30 zb14 rfl #[.slice Ao32 t18.length co32] rfl zb2 ?_;(with_reducible refine (table_Write.calls k _ _ t18 t45 t49 _ ?side1 ?side2 A2.out ?hT).mono ?_);(case hT=>exact HTB.out.below zb0);(case side1=>exact zb42);(case side2=>exact (Kd.S_reads' HO19.out).2.1);rintro e w33 ⟨rfl,hb⟩;(try clear A2);refine ⟨_,rfl,?_⟩;replace HO19:=Aside0.mk (Kd.S_below zb41 hb);replace HB:=Aside0.mk (below_step zb0 hb);(try clear hb))|((with_reducible refine gate_callee (f:=11) rfl ?_);refine goesL_ (some 19) rfl rfl Tryz.func11 zb14 rfl #[.string (⟨#[115,108,111,116,32,97,10]⟩:ByteArray)] rfl zb2 ?_;(with_reducible refine (table_Read.calls k (⟨#[115,108,111,116,32,97,10]⟩:ByteArray) t50 t51 _ A3.out ?hT).mono ?_);(case hT=>exact HTB.out.below zb0);rintro e w34 ⟨v59,rfl,ho0,hb⟩;(try clear A3);refine ⟨_,rfl,?_⟩;have HO44:=Aside0.mk (Kd.S_lower (Kd.S_new' ho0 (Kd.S_lt zb41)) (below_size zb0));replace HO19:=Aside0.mk (Kd.S_elder' zb41 (Kd.S_base ho0) hb);replace HB:=Aside0.mk (below_step zb0 hb);try clear hb ho0;have p16:0 ≤ (0:Int):=zb16;have q16:0 < (t18.length:Int):=of_decide_eq_true zb1;obtain ⟨ad16,A16_1,c16_1,e16,hx16_0,hx16_1,hx16_2,hx16_3,hx16_4,hx16_5,hx16_6,hx16_7,hl16_1,hi16_1⟩:=at_T64 (Kd.S_reads' HO19.out).2.2 0 p16 q16;cases e16;obtain ⟨ce16,hce16,hMe16,hcc16⟩:=Kd.S_get HO19.out z64 0 p16 (by first|exact q16|exact of_decide_eq_true (by first|(with_reducible assumption)|assumption)|(have e_:=(Kd.S_reads' HO19.out).1;omega));obtain ⟨ve16_1,rfl,ge16_1⟩:=k64_openM hMe16;have hv16_1:=hcc16 1 _ rfl;rw [add_field _ _ 1 zb16] at hv16_1;replace hv16_1:=Option.some.inj (hv16_1.symm.trans hx16_1);rw [hv16_1] at ge16_1;have HL16_1:=Aside0.mk (show Kd.R Kd.string 9 _ _ _ _ ((rd_T64 t18 0).f1) from ge16_1);clear hv16_1 ge16_1;clear hcc16 hce16;have qi16:(0 < t18.length)=True:=eq_true zb16;(try rw [show ((0:Int)).toNat=0 from rfl] at hx16_0);(try rw [show 0 * 8=0 from rfl] at hx16_0);(try rw [Addr.add_zero'] at hx16_0);(try rw [show ((0:Int)).toNat=0 from rfl] at hx16_1);(try rw [show 0 * 8=0 from rfl] at hx16_1);(try rw [Addr.add_zero'] at hx16_1);(try rw [show ((0:Int)).toNat=0 from rfl] at hx16_2);(try rw [show 0 * 8=0 from rfl] at hx16_2);(try rw [Addr.add_zero'] at hx16_2);(try rw [show ((0:Int)).toNat=0 from rfl] at hx16_3);(try rw [show 0 * 8=0 from rfl] at hx16_3);(try rw [Addr.add_zero'] at hx16_3);(try rw [show ((0:Int)).toNat=0 from rfl] at hx16_4);(try rw [show 0 * 8=0 from rfl] at hx16_4);(try rw [Addr.add_zero'] at hx16_4);(try rw [show ((0:Int)).toNat=0 from rfl] at hx16_5);(try rw [show 0 * 8=0 from rfl] at hx16_5);(try rw [Addr.add_zero'] at hx16_5);(try rw [show ((0:Int)).toNat=0 from rfl] at hx16_6);(try rw [show 0 * 8=0 from rfl] at hx16_6);(try rw [Addr.add_zero'] at hx16_6);(try rw [show ((0:Int)).toNat=0 from rfl] at hx16_7);(try rw [show 0 * 8=0 from rfl] at hx16_7);(try rw [Addr.add_zero'] at hx16_7);have HR16_1:=Aside0.mk hi16_1;have HC16_1:=Aside0.mk hl16_1;clear hi16_1 hl16_1;replace p16:=eq_true p16;replace q16:=eq_true q16;have p17:0 ≤ (0:Int):=zb16;have q17:0 < (t18.length:Int):=of_decide_eq_true zb1;obtain ⟨ad17,A17_1,c17_1,e17,hx17_0,hx17_1,hx17_2,hx17_3,hx17_4,hx17_5,hx17_6,hx17_7,hl17_1,hi17_1⟩:=at_T64 (Kd.S_reads' HO19.out).2.2 0 p17 q17;obtain rfl:ad16=ad17:=(by injection e17);obtain ⟨ce17,hce17,hMe17,hcc17⟩:=Kd.S_get HO19.out z64 0 p17 (by first|exact q17|exact of_decide_eq_true (by first|(with_reducible assumption)|assumption)|(have e_:=(Kd.S_reads' HO19.out).1;omega));obtain ⟨ve17_1,rfl,ge17_1⟩:=k64_openM hMe17;have hv17_1:=hcc17 1 _ rfl;rw [add_field _ _ 1 zb16] at hv17_1;replace hv17_1:=Option.some.inj (hv17_1.symm.trans hx17_1);rw [hv17_1] at ge17_1;have HL17_1:=Aside0.mk (show Kd.R Kd.string 9 _ _ _ _ ((rd_T64 t18 0).f1) from ge17_1);clear hv17_1 ge17_1;clear hcc17 hce17;have qi17:(0 < t18.length)=True:=eq_true zb16;(try rw [show ((0:Int)).toNat=0 from rfl] at hx17_0);(try rw [show 0 * 8=0 from rfl] at hx17_0);(try rw [Addr.add_zero'] at hx17_0);(try rw [show ((0:Int)).toNat=0 from rfl] at hx17_1);(try rw [show 0 * 8=0 from rfl] at hx17_1);(try rw [Addr.add_zero'] at hx17_1);(try rw [show ((0:Int)).toNat=0 from rfl] at hx17_2);(try rw [show 0 * 8=0 from rfl] at hx17_2);(try rw [Addr.add_zero'] at hx17_2);(try rw [show ((0:Int)).toNat=0 from rfl] at hx17_3);(try rw [show 0 * 8=0 from rfl] at hx17_3);(try rw [Addr.add_zero'] at hx17_3);(try rw [show ((0:Int)).toNat=0 from rfl] at hx17_4);(try rw [show 0 * 8=0 from rfl] at hx17_4);(try rw [Addr.add_zero'] at hx17_4);(try rw [show ((0:Int)).toNat=0 from rfl] at hx17_5);(try rw [show 0 * 8=0 from rfl] at hx17_5);(try rw [Addr.add_zero'] at hx17_5);(try rw [show ((0:Int)).toNat=0 from rfl] at hx17_6);(try rw [show 0 * 8=0 from rfl] at hx17_6);(try rw [Addr.add_zero'] at hx17_6);(try rw [show ((0:Int)).toNat=0 from rfl] at hx17_7);(try rw [show 0 * 8=0 from rfl] at hx17_7);(try rw [Addr.add_zero'] at hx17_7);have HR17_1:=Aside0.mk hi17_1;have HC17_1:=Aside0.mk hl17_1;clear hi17_1 hl17_1;replace p17:=eq_true p17;replace q17:=eq_true q17;have ea_:=Option.some.inj (hx16_1.symm.trans hx17_1);injection ea_ with ea_ en_ ec_;subst ea_;subst ec_;clear en_)|(go_at_call 31;(with_reducible refine (table_Right.calls k _ _ t18 true _ ?side1 ?side2 A12.out).mono ?_);(case side1=>exact zb42);(case side2=>exact (Kd.S_reads' HO19.out).2.1);rintro e w35 ⟨rfl,hb⟩;(try clear A12);replace HO19:=Aside0.mk (Kd.S_below zb41 hb);replace HO44:=Aside0.mk (Kd.S_below zb51 hb);replace HL16_1:=Aside0.mk (Kd.R_below zb49 hb);replace HL17_1:=Aside0.mk (Kd.R_below zb50 hb);replace HR16_1:=Aside0.mk (Kd.C_below zb29 hb);replace HR17_1:=Aside0.mk (Kd.C_below zb30 hb);replace HB:=Aside0.mk (below_step zb0 hb);(try clear hb))|(go_at_call 31;(refine (table_Right.calls k _ _ ([]:List (S64)) false _ ?side1 ?side2 A14.out).mono ?_);(case side1=>exact Kd.C_nil _ _);(case side2=>exact Nat.le_refl _);rintro e w36 ⟨rfl,hb⟩;(try clear A14);replace HO19:=Aside0.mk (Kd.S_below zb41 hb);replace HO44:=Aside0.mk (Kd.S_below zb51 hb);replace HL16_1:=Aside0.mk (Kd.R_below zb49 hb);replace HL17_1:=Aside0.mk (Kd.R_below zb50 hb);replace HR16_1:=Aside0.mk (Kd.C_below zb29 hb);replace HR17_1:=Aside0.mk (Kd.C_below zb30 hb);replace HB:=Aside0.mk (below_step zb0 hb);(try clear hb))|(go_at_call 32;(with_reducible refine (table_Find.calls k _ _ t18 (⟨#[98]⟩:ByteArray) t43 _ ?side1 ?side2 A22.out).mono ?_);(case side1=>exact zb42);(case side2=>exact (Kd.S_reads' HO19.out).2.1);rintro e w37 ⟨rfl,hb⟩;(try clear A22);replace HO19:=Aside0.mk (Kd.S_below zb41 hb);replace HO44:=Aside0.mk (Kd.S_below zb51 hb);replace HL16_1:=Aside0.mk (Kd.R_below zb49 hb);replace HL17_1:=Aside0.mk (Kd.R_below zb50 hb);replace HR16_1:=Aside0.mk (Kd.C_below zb29 hb);replace HR17_1:=Aside0.mk (Kd.C_below zb30 hb);replace HB:=Aside0.mk (below_step zb0 hb);(try clear hb))|(go_at_call 32;(with_reducible refine (table_Find.calls k _ _ t18 (⟨#[99]⟩:ByteArray) t41 _ ?side1 ?side2 A24.out).mono ?_);(case side1=>exact zb42);(case side2=>exact (Kd.S_reads' HO19.out).2.1);rintro e w38 ⟨rfl,hb⟩;(try clear A24);replace HO19:=Aside0.mk (Kd.S_below zb41 hb);replace HO44:=Aside0.mk (Kd.S_below zb51 hb);replace HL16_1:=Aside0.mk (Kd.R_below zb49 hb);replace HL17_1:=Aside0.mk (Kd.R_below zb50 hb);replace HR16_1:=Aside0.mk (Kd.C_below zb29 hb);replace HR17_1:=Aside0.mk (Kd.C_below zb30 hb);replace HB:=Aside0.mk (below_step zb0 hb);(try clear hb))|(go_at_call 33;(with_reducible refine (table_Named.calls _ _ t18 (⟨#[97]⟩:ByteArray) t40 _ ?side1 ?side2 A26.out).mono ?_);(case side1=>exact zb42);(case side2=>exact (Kd.S_reads' HO19.out).2.1);rintro e w39 ⟨rfl,hb⟩;(try clear A26);replace HO19:=Aside0.mk (Kd.S_below zb41 hb);replace HO44:=Aside0.mk (Kd.S_below zb51 hb);replace HL16_1:=Aside0.mk (Kd.R_below zb49 hb);replace HL17_1:=Aside0.mk (Kd.R_below zb50 hb);replace HR16_1:=Aside0.mk (Kd.C_below zb29 hb);replace HR17_1:=Aside0.mk (Kd.C_below zb30 hb);replace HB:=Aside0.mk (below_step zb0 hb);(try clear hb))|(go_at_call 14;(with_reducible refine (table_Name.calls k (⟨#[97,45,49]⟩:ByteArray) true _ A28.out).mono ?_);rintro e w' ⟨rfl,⟨nd,rfl⟩⟩;(try clear A28))|(go_at_call 14;(with_reducible refine (table_Name.calls k (⟨#[49,97]⟩:ByteArray) t21 _ A30.out).mono ?_);rintro e w' ⟨rfl,⟨nd,rfl⟩⟩;(try clear A30)))
       go_ret
       exact ⟨zb6,zb0⟩
      ·replace c29:=Bool.eq_false_iff.mpr c29
       subst c29
       rw [if_neg (show ¬ (false=true) by decide)] at H
       exact absurd ((Option.some.inj H).trans HRT.out) zb22
     ·rw [if_neg c25] at H
      have c25b0:=beq_eq_false_iff_ne.mpr c25
      have c25b1:=bne_iff_ne.mpr c25
      exact absurd ((Option.some.inj H).trans HRT.out) zb22
    ·replace c13:=Bool.eq_false_iff.mpr c13
     subst c13
     rw [if_neg (show ¬ (false=true) by decide)] at H
     exact absurd ((Option.some.inj H).trans HRT.out) zb22
   ·rw [if_neg c10] at H
    have c10b0:=beq_eq_false_iff_ne.mpr c10
    have c10b1:=bne_iff_ne.mpr c10
    exact absurd ((Option.some.inj H).trans HRT.out) zb22
  ·rw [if_neg c8] at H
   have c8b0:=beq_eq_false_iff_ne.mpr c8
   have c8b1:=bne_iff_ne.mpr c8
   exact absurd ((Option.some.inj H).trans HRT.out) zb22
 ·rw [if_neg c5] at H
  have c5b0:=beq_eq_false_iff_ne.mpr c5
  have c5b1:=bne_iff_ne.mpr c5
  exact absurd ((Option.some.inj H).trans HRT.out) zb22
def tollbarlaw09_TableReads.f (k:Nat) (a0:ByteArray):Option (Bool):=(tollbarlaw09_alive.f k).bind fun t377=>(if t377=true then ((table_Read.f k a0).bind fun bt378=>((tollbarref09_Read.f k a0).bind fun bt382=>(if bt378.2=bt382.2 then ((tollbarref09_Same.f k bt378.1 bt382.1).bind fun t386=>(if t386=true then ((table_Name.f k a0).bind fun t387=>((tollbarref09_Name.f k a0).bind fun t388=>(some (t387 == t388)))) else (some false))) else (some false)))) else (some false))
set_option maxHeartbeats 8000000 in
set_option maxRecDepth 100000 in
theorem tollbarlaw09_TableReads.calls (k:Nat) (a0:ByteArray) (r:Bool) (w:World) (h:tollbarlaw09_TableReads.f k a0=some r) (hr:r=true) (ht:Tabs w) :
 Calls Tryz.prog 3 #[.string a0] w fun e w' => e = .returned (.bool r)∧Below w.heap.size w w' := by
 have HTB:=Aside0.mk ht
 clear ht
 have HRT:=Aside0.mk hr
 clear hr
 have HB:=Aside0.mk (Below.refl w.heap.size w)
 unfold tollbarlaw09_TableReads.f at h
 have H:=h
 clear h
 replace H:=Option.bind_eq_some_iff.mp H
 obtain ⟨t377,A20,H⟩:=H
 try dsimp only at H
 have A2:=Aside0.mk A20
 clear A20
 by_cases c3:t377=true;rotate_left
 ·replace c3:=Bool.eq_false_iff.mpr c3
  subst c3
  rw [if_neg (show ¬ (false=true) by decide)] at H
  exact absurd ((Option.some.inj H).trans HRT.out) zb22
 subst c3
 rw [if_pos rfl] at H
 replace H:=Option.bind_eq_some_iff.mp H
 obtain ⟨⟨t378,t379⟩,A40,H⟩:=H
 try dsimp only at H
 have A4:=Aside0.mk A40
 clear A40
 replace H:=Option.bind_eq_some_iff.mp H
 obtain ⟨⟨t382,t385⟩,A50,H⟩:=H
 try dsimp only at H
 have A5:=Aside0.mk A50
 clear A50
 by_cases c6:t379=t385
 ·rw [if_pos c6] at H
  have c6b0:=beq_iff_eq.mpr c6
  have c6b1:=bne_eq_false_iff_eq.mpr c6
  clear c6
  replace H:=Option.bind_eq_some_iff.mp H
  obtain ⟨t386,A70,H⟩:=H
  try dsimp only at H
  have A7:=Aside0.mk A70
  clear A70
  by_cases c8:t386=true;rotate_left
  ·replace c8:=Bool.eq_false_iff.mpr c8
   subst c8
   rw [if_neg (show ¬ (false=true) by decide)] at H
   exact absurd ((Option.some.inj H).trans HRT.out) zb22
  subst c8
  rw [if_pos rfl] at H
  replace H:=Option.bind_eq_some_iff.mp H
  obtain ⟨t387,A90,H⟩:=H
  try dsimp only at H
  have A9:=Aside0.mk A90
  clear A90
  replace H:=Option.bind_eq_some_iff.mp H
  obtain ⟨t388,A100,H⟩:=H
  try dsimp only at H
  have A10:=Aside0.mk A100
  clear A100
  obtain rfl:=Option.some.inj H
  go_enter Tryz.func3,Tryz.ntmps3
  go_wp2_with (first|((with_reducible refine gate_callee (f:=10) rfl ?_);refine goesL_ (some 7) rfl rfl Tryz.func10 zb14 rfl #[] rfl zb2 ?_;(with_reducible refine (tollbarlaw09_alive.calls k  true _ A2.out rfl ?hT).mono ?_);(case hT=>exact HTB.out.below zb0);rintro e w11 ⟨rfl,hb⟩;(try clear A2);refine ⟨_,rfl,?_⟩;replace HB:=Aside0.mk (below_step zb0 hb);(try clear hb))|((with_reducible refine gate_callee (f:=11) rfl ?_);refine goesL_ (some 11) rfl rfl Tryz.func11 zb14 rfl #[.string a0] rfl zb2 ?_;(with_reducible refine (table_Read.calls k a0 t378 t379 _ A4.out ?hT).mono ?_);(case hT=>exact HTB.out.below zb0);rintro e w12 ⟨v380,rfl,ho0,hb⟩;(try clear A4);refine ⟨_,rfl,?_⟩;have HO381:=Aside0.mk (Kd.N_lower (Kd.N_mono (ok' := fun k_=>True) (Kd.S_N (Kd.S_bound ho0)) (fun k_ hk_=>trivial)) (below_size zb0));replace HB:=Aside0.mk (below_step zb0 hb);try clear hb ho0)|((with_reducible refine gate_callee (f:=12) rfl ?_);refine goesL_ (some 16) rfl rfl Tryz.func12 zb14 rfl #[.string a0] rfl zb2 ?_;(with_reducible refine (tollbarref09_Read.calls k a0 t382 t385 _ A5.out).mono ?_);rintro e w13 ⟨v383,rfl,ho0,hb⟩;(try clear A5);refine ⟨_,rfl,?_⟩;have HO384:=Aside0.mk (Kd.N_lower (Kd.N_mono (ok' := fun k_=>some k_ ≠ (v380:Value).ownBlock) ho0 (fun k_ hk_=>(Kd.fresh' (Kd.N_lt zb78) k_ hk_))) (below_size zb0));replace HO381:=Aside0.mk (Kd.N_elder' zb78 (Kd.N_base ho0) hb);replace HB:=Aside0.mk (below_step zb0 hb);try clear hb ho0;obtain ⟨Ao14,co14,eo14⟩:=Kd.N_slice HO381.out;subst eo14;obtain ⟨Ao15,co15,eo15⟩:=Kd.N_slice HO384.out;subst eo15)|(go_at_call 13;(with_reducible refine (tollbarref09_Same.calls k _ _ t378 _ _ t382 true _ ?side1 ?side2 ?side3 ?side4 A7.out).mono ?_);(case side1=>repeat (first|exact (Kd.N_reads' HO381.out).2.2|(with_reducible refine Kd.C_alloc ?_ _)|(with_reducible refine Kd.C_drewN ?_ _)|(with_reducible refine Kd.C_drew ?_)));(case side2=>exact (Kd.N_reads' HO381.out).2.1);(case side3=>repeat (first|exact (Kd.N_reads' HO384.out).2.2|(with_reducible refine Kd.C_alloc ?_ _)|(with_reducible refine Kd.C_drewN ?_ _)|(with_reducible refine Kd.C_drew ?_)));(case side4=>exact (Kd.N_reads' HO384.out).2.1);rintro e w16 ⟨rfl,hb⟩;(try clear A7);replace HO381:=Aside0.mk (Kd.N_below zb78 hb);replace HO384:=Aside0.mk (Kd.N_below (by (with_reducible repeat (first|apply Kd.N_alloc|apply Kd.N_drewN|apply Kd.N_drew));exact HO384.out) hb);replace HB:=Aside0.mk (below_step zb0 hb);(try clear hb))|(go_at_call 14;(with_reducible refine (table_Name.calls k a0 t387 _ A9.out).mono ?_);rintro e w' ⟨rfl,⟨nd,rfl⟩⟩;(try clear A9))|(go_at_call 15;(with_reducible refine (tollbarref09_Name.calls k a0 t388 _ A10.out).mono ?_);rintro e w' ⟨rfl,⟨nd,rfl⟩⟩;(try clear A10)))
  go_ret
  exact ⟨zb6,zb0⟩
 ·rw [if_neg c6] at H
  have c6b0:=beq_eq_false_iff_ne.mpr c6
  have c6b1:=bne_iff_ne.mpr c6
  exact absurd ((Option.some.inj H).trans HRT.out) zb22
/-- THE ONE PURE STATEMENT of tollbarlaw09_TableReads: yours. -/
def tollbarlaw09_TableReads.Pure:Prop := ∀ (a0:ByteArray),a0.size ≤ 140737488351232 → ∃ k,tollbarlaw09_TableReads.f k a0=some true
end Go.Proofs.YtclpanalnbmejaaGreatDoor.P
namespace Go.Proofs.YtclpanalnbmejaaGreatDoor.Pure
open Go.RowKit Go.Proofs.YtclpanalnbmejaaGreatDoor.P Go.Proofs.YtclpanalnbmejaaGreatDoorW.PrintWords Go.Proofs.YtclpanalnbmejaaGreatDoorW.PrintLast Go.Proofs.YtclpanalnbmejaaGreatDoorW.PrintMore
set_option linter.unusedVariables false
set_option linter.unusedSimpArgs false
theorem up {α:Type} {g:Nat → Option α} (hm : ∀ k,LeO (g k) (g (k + 1))) {n:Nat} {r:α} (h:g n=some r) : ∀ d,g (n + d)=some r
 | 0=>h
 | d + 1=>hm _ _ (up hm h d)
theorem up_to {α:Type} {g:Nat → Option α} (hm : ∀ k,LeO (g k) (g (k + 1))) {n k:Nat} {r:α} (h:g n=some r) (hk:n ≤ k):g k=some r:=by
 obtain ⟨d,rfl⟩ : ∃ d,k=n + d:=⟨k - n,by omega⟩
 exact up hm h d
theorem alive9_at:tollbarlaw09_alive.f 100=some true:=by kernel_rfl
theorem alive9_f (k:Nat) (hk:100 ≤ k):tollbarlaw09_alive.f k=some true:=up_to (fun k=>tollbarlaw09_alive.mono k) alive9_at hk
theorem str_append (xs ys:List Int):strOfNums (xs ++ ys)=strOfNums xs ++ strOfNums ys:=by
 apply ByteArray.ext
 simp [strOfNums]
theorem str_size (xs:List Int):(strOfNums xs).size=xs.length:=strOfNums_size xs
theorem toList_data (s:ByteArray):s.toList=s.data.toList:=by
 simp [ByteArray.toList_eq]
def mkS (l:List UInt8):ByteArray:=⟨l.toArray⟩
theorem mkS_data (l:List UInt8):(mkS l).data.toList=l:=by simp [mkS]
theorem mkS_self (s:ByteArray):mkS s.data.toList=s:=by simp [mkS]
theorem mkS_size (l:List UInt8):(mkS l).size=l.length:=by rw [← data_length,mkS_data]
theorem mkS_toList (l:List UInt8):(mkS l).toList=l:=by rw [toList_data,mkS_data]
theorem wn0 (n:Nat) (h:n ≤ 4398046511104):wrap64 ((n:Int) + 0)=(n:Int):=by unfold wrap64;omega
theorem wn1 (n:Nat) (h:n ≤ 4398046511104):wrap64 ((n:Int) + 1)=(n:Int) + 1:=by unfold wrap64;omega
theorem wnm (n:Nat) (h:n ≤ 4398046511104):wrap64 ((n:Int) + 1 - 1)=(n:Int):=by unfold wrap64;omega
theorem bt_mk (l:List UInt8) (i:Nat) (h:i < l.length):bt (mkS l) i=((l[i]).toNat:Int):=by
 unfold bt
 have hs:(mkS l).size=l.length:=mkS_size l
 rw [dif_pos (by rw [Int.toNat_natCast];omega)]
 have:(mkS l)[((i:Nat):Int).toNat]'(by rw [Int.toNat_natCast];omega)=l[i]:=by simp [mkS,ByteArray.getElem_eq_getElem_data]
 rw [this]
theorem mkS_extract (l:List UInt8) (a b:Nat):(mkS l).extract a b=mkS ((l.drop a).take (b - a)):=by
 rw [← mkS_self ((mkS l).extract a b),Lib.extract_data,mkS_data]
theorem seg_split (l:List UInt8) (f i:Nat) (h:f ≤ i) (hi:i < l.length):l.drop f=(l.drop f).take (i - f) ++ l[i] :: l.drop (i + 1)∧(l.drop f).take (i + 1 - f)=(l.drop f).take (i - f) ++ [l[i]]:=by
 have e1:(l.drop f).drop (i - f)=l.drop i:=by rw [List.drop_drop];congr 1;omega
 have e2:l.drop i=l[i] :: l.drop (i + 1):=List.drop_eq_getElem_cons hi
 refine ⟨?_,?_⟩
 ·rw [← e2,← e1,List.take_append_drop]
 ·have hl:i - f < (l.drop f).length:=by rw [List.length_drop];omega
  rw [show i + 1 - f=i - f + 1 by omega,List.take_succ_eq_append_getElem hl]
  congr 2
  rw [List.getElem_drop]
  congr 1
  omega
theorem mkS_bytes (l:List UInt8):bytesOf (mkS l)=l.map fun b=>(b.toNat:Int):=by unfold bytesOf;rw [mkS_data]
theorem index_append (sp:UInt8) (a b:List UInt8) (h:sp ∉ a):Lib.indexByte (a ++ sp :: b) sp=a.length:=by
 induction a with
 | nil=>simp [Lib.indexByte]
 | cons c a ih =>
  have hc:c ≠ sp:=fun e=>h (e ▸ List.mem_cons_self ..)
  have hb:(c == sp)=false:=by simpa using hc
  have h3:=ih (fun e=>h (List.mem_cons_of_mem _ e))
  have hn:((a.length:Int) == -1)=false:=by simp only [beq_eq_false_iff_ne];omega
  simp [Lib.indexByte,hb,h3,hn]
theorem index_none (sp:UInt8) (a:List UInt8) (h:sp ∉ a):Lib.indexByte a sp = -1:=by
 induction a with
 | nil=>simp [Lib.indexByte]
 | cons c a ih =>
  have hc:c ≠ sp:=fun e=>h (e ▸ List.mem_cons_self ..)
  have hb:(c == sp)=false:=by simpa using hc
  have h3:=ih (fun e=>h (List.mem_cons_of_mem _ e))
  simp [Lib.indexByte,hb,h3]
theorem slIndex (s:List UInt8) (sp:UInt8):stringslite_Index.f (mkS s) ⟨#[sp]⟩=some (Lib.indexByte s sp):=by
 show some (Lib.indexByte (mkS s).data.toList sp)=_
 rw [mkS_data]
theorem Cut_no (sp:UInt8) (s:List UInt8) (h:sp ∉ s):strings_Cut.f (mkS s) ⟨#[sp]⟩=some (mkS s,(⟨#[]⟩:ByteArray),false):=by
 unfold strings_Cut.f stringslite_Cut.f
 rw [slIndex,index_none sp s h,Option.bind_some,if_neg (by decide),Option.bind_some]
theorem Cut_yes (sp:UInt8) (a b:List UInt8) (h:sp ∉ a) (hn:(a ++ sp :: b).length ≤ 140737488355328):strings_Cut.f (mkS (a ++ sp :: b)) ⟨#[sp]⟩=some (mkS a,mkS b,true):=by
 unfold strings_Cut.f stringslite_Cut.f
 have hl:(a ++ sp :: b).length=a.length + b.length + 1:=by rw [List.length_append,List.length_cons];omega
 rw [hl] at hn
 have h1:((⟨#[sp]⟩:ByteArray).size:Int)=1:=rfl
 have hw:wrap64 ((a.length:Int) + 1)=(a.length:Int) + 1:=by unfold wrap64;omega
 have e1:((a.length:Int) + 1).toNat=a.length + 1:=by omega
 rw [slIndex,index_append sp a b h,Option.bind_some,h1,hw,mkS_size,hl,if_pos (by omega),if_pos (by omega),if_pos (by omega),if_pos (by omega),if_pos (by omega),Option.bind_some,e1,Int.toNat_natCast,mkS_extract,mkS_extract,List.drop_zero,Nat.sub_zero,List.take_left,← List.drop_drop,List.drop_left]
 rw [show List.drop 1 (sp :: b)=b from rfl,List.take_of_length_le (by omega)]
/-- What stands ahead of the first sp,and behind it. -/
theorem split_first (sp:UInt8) (s:List UInt8):sp ∉ s ∨ ∃ a b,s=a ++ sp :: b∧sp ∉ a:=by
 induction s with
 | nil=>exact .inl (by simp)
 | cons c s ih =>
  by_cases hc:c=sp
  ·exact .inr ⟨[],s,by rw [hc];rfl,by simp⟩
  ·rcases ih with h|⟨a,b,rfl,h⟩
   ·refine .inl fun hm=>?_
    rcases List.mem_cons.1 hm with e|e
    ·exact hc e.symm
    ·exact h e
   ·refine .inr ⟨c :: a,b,rfl,fun hm=>?_⟩
    rcases List.mem_cons.1 hm with e|e
    ·exact hc e.symm
    ·exact h e
theorem fold_tells (s:ByteArray) (hn:s.size ≤ 140737488355328):sign_Fold.f s=some (strOfNums ((bytesOf s).map foldC)):=if_pos hn
def Bytes (xs:List Int):Prop := ∀ x ∈ xs,0 ≤ x∧x ≤ 255
theorem foldC_byte (x:Int) (h0:0 ≤ x) (h1:x ≤ 255):0 ≤ foldC x∧foldC x ≤ 255:=by unfold foldC;split <;> omega
theorem bytes_str {xs:List Int} (h:Bytes xs):bytesOf (strOfNums xs)=xs:=by
 unfold bytesOf
 rw [strOfNums_data,List.map_map]
 conv=>rhs;rw [← List.map_id xs]
 refine List.map_congr_left fun x hx=>?_
 have:=h x hx
 show ((UInt8.ofNat x.toNat).toNat:Int)=x
 rw [UInt8.toNat_ofNat']
 omega
/-- The value of a digit,or -1. -/
def digV (c:Int):Int:=Lib.indexByte [48,49,50,51,52,53,54,55,56,57,97,98,99,100,101,102] (foldC c).toNat.toUInt8
/-- The number of digits,from n on. -/
def numL (base:Int):List Int → Int → Option Int
 | [],n=>some n
 | c :: r,n=>if 0 ≤ digV c∧digV c < base then numL base r (n * base + digV c) else none
theorem digV_lt (c:Int) (h0:0 ≤ c) (h1:c ≤ 255):digV c < 16:=by
 obtain ⟨n,rfl⟩:=Int.eq_ofNat_of_zero_le h0
 have h : ∀ m:Fin 256,digV (m.val:Int) < 16:=by decide +kernel
 exact h ⟨n,by omega⟩
theorem one_fold (s:ByteArray) (i:Int) (h0:0 ≤ i) (h:i < (s.size:Int)):sign_Fold.f (s.extract i.toNat (i + 1).toNat)=some (strOfNums [foldC (bt s i)]):=by
 have hl:i.toNat < s.data.toList.length:=by rw [data_length];omega
 have e1:(s.extract i.toNat (i + 1).toNat).data.toList=[s.data.toList[i.toNat]]:=by
  rw [Lib.extract_data,show (i + 1).toNat - i.toNat=1 by omega,List.drop_eq_getElem_cons hl]
  rfl
 have hz:(s.extract i.toNat (i + 1).toNat).size=1:=by rw [← data_length,e1];rfl
 rw [fold_tells _ (by omega)]
 unfold bytesOf
 rw [e1]
 have e2:((s.data.toList[i.toNat]).toNat:Int)=bt s i:=by
  unfold bt
  rw [dif_pos (by omega)]
  rfl
 simp only [List.map_cons,List.map_nil,e2]
theorem bt_one (x:Int) (h0:0 ≤ x) (h1:x ≤ 255):bt (strOfNums [x]) 0=x:=by
 have h:=bytes_str (xs:=[x]) (by intro y hy;rw [List.mem_singleton.1 hy];exact ⟨h0,h1⟩)
 rw [← rd_bytesOf,h]
 rfl
theorem index_dig (s:ByteArray) (i:Int):strings_IndexByte.f (⟨#[48,49,50,51,52,53,54,55,56,57,97,98,99,100,101,102]⟩:ByteArray) (bt (strOfNums [foldC (bt s i)]) 0)=some (digV (bt s i)):=by
 have hr:=bt_range s i
 have hf:=foldC_byte _ hr.1 hr.2
 rw [bt_one _ hf.1 hf.2]
 rfl
theorem pow_pos' (b:Int) (hb:1 ≤ b) : ∀ n:Nat,1 ≤ b ^ n
 | 0=>by simp
 | n + 1=>by
  rw [Int.pow_succ]
  have h1:=pow_pos' b hb n
  have h2:=Int.mul_le_mul_of_nonneg_left hb (show 0 ≤ b ^ n by omega)
  rw [Int.mul_one] at h2
  omega
theorem pow_mono' (b:Int) (hb:1 ≤ b) (i:Nat) : ∀ d:Nat,b ^ i ≤ b ^ (i + d)
 | 0=>Int.le_refl _
 | d + 1=>by
  rw [← Nat.add_assoc,Int.pow_succ]
  have h0:=pow_mono' b hb i d
  have h1:=pow_pos' b hb (i + d)
  have h2:=Int.mul_le_mul_of_nonneg_left hb (show 0 ≤ b ^ (i + d) by omega)
  rw [Int.mul_one] at h2
  omega
/-- Too long: none. -/
theorem number_long (s:ByteArray) (base most:Int) (hm:(s.size:Int) > most) (hs:s.size ≤ 140737488355327) (d:Nat) : ∀ (k:Nat) (n i:Int),0 ≤ i → (s.size:Int) - i=d → 2 * d + 1 ≤ k →
 sign_number.l0 k s base most n (s.size:Int) i=some (0,false):=by
 induction d with
 | zero =>
  intro k n i h0 hd hk
  obtain ⟨k,rfl⟩ : ∃ m,k=m + 1:=⟨k - 1,by omega⟩
  simp only [sign_number.l0]
  rw [if_neg (by omega)]
  repeat' split
  all_goals first|rfl|(exfalso;omega)
 | succ d ih =>
  intro k n i h0 hd hk
  obtain ⟨k,rfl⟩ : ∃ m,k=m + 2:=⟨k - 2,by omega⟩
  have hw:wrap64 (i + 1)=i + 1:=by unfold wrap64;omega
  have ih' := fun n=>ih k n (i + 1) (by omega) (by omega) (by omega)
  simp only [sign_number.l0]
  rw [if_pos (by omega),if_pos h0,hw,if_pos (by omega),if_pos (by omega),one_fold s i h0 (by omega),Option.bind_some,if_pos (by rw [str_size];simp),index_dig,Option.bind_some]
  simp only [sign_number.j1]
  rw [hw,ih',ih']
  repeat' split
  all_goals rfl
theorem number_short (s : ByteArray) (base : Int) (most : Nat) (hb0 : 0 ≤ base) (hB : base ^ most ≤ 4611686018427387904) (hb1 : 1 ≤ base) (hm : s.size ≤ most) (hs : s.size ≤ 140737488355327) (d : Nat) : ∀ (k : Nat) (n : Int) (i : Nat), i + d = s.size → 2 * d + 1 ≤ k → 0 ≤ n → n + 1 ≤ base ^ i →
    sign_number.l0 k s base most n (s.size : Int) i = some (match numL base ((bytesOf s).drop i) n with | some v => if s.size = 0 then (0, false) else (v, true) | none => (0, false)) := by
  induction d with
  | zero =>
    intro k n i hi hk h0 hn
    obtain ⟨k, rfl⟩ : ∃ m, k = m + 1 := ⟨k - 1, by omega⟩
    rw [List.drop_of_length_le (by rw [bytesOf_length]; omega)]
    simp only [sign_number.l0, numL]
    rw [if_neg (by omega)]
    by_cases hz : s.size = 0
    · have he : s.toList = [] := by rw [toList_data]; exact List.eq_nil_of_length_eq_zero (by rw [data_length]; exact hz)
      rw [if_pos he, if_pos hz]
    · have he : ¬ (s.toList = []) := by
        intro e
        rw [toList_data] at e
        have := data_length s
        rw [e] at this
        exact hz this.symm
      rw [if_neg he, if_neg hz, if_neg (by omega)]
  | succ d ih =>
    intro k n i hi hk h0 hn
    obtain ⟨k, rfl⟩ : ∃ m, k = m + 2 := ⟨k - 2, by omega⟩
    have hw : wrap64 ((i : Int) + 1) = (i : Int) + 1 := by unfold wrap64; omega
    have hl : i < (bytesOf s).length := by rw [bytesOf_length]; omega
    have hg : (bytesOf s)[i] = bt s i := by rw [← rd_bytesOf]; simp [rd, List.getD_eq_getElem?_getD, List.getElem?_eq_getElem hl]
    have hr := bt_range s i
    have hP : base ^ (i + 1) = base ^ i * base := Int.pow_succ _ _
    have hle : base ^ (i + 1) ≤ base ^ most := by
      have := pow_mono' base hb1 (i + 1) (most - (i + 1))
      rwa [show i + 1 + (most - (i + 1)) = most by omega] at this
    have h1 := Int.mul_le_mul_of_nonneg_right hn hb0
    rw [Int.add_mul, ← hP, Int.one_mul] at h1
    have h2 : 0 ≤ n * base := Int.mul_nonneg h0 hb0
    have h3 : 0 ≤ base := hb0
    have hdl := digV_lt _ hr.1 hr.2
    rw [List.drop_eq_getElem_cons hl, hg]
    simp only [sign_number.l0, numL]
    rw [if_pos (by omega), if_pos (by omega), hw, if_pos (by omega), if_pos (by omega), one_fold s i (by omega) (by omega), Option.bind_some, if_pos (by rw [str_size]; simp), index_dig, Option.bind_some]
    simp only [sign_number.j1]
    obtain ⟨D, hD⟩ : ∃ D, D = digV (bt s i) := ⟨_, rfl⟩
    rw [← hD] at hdl ⊢
    by_cases hv : 0 ≤ D ∧ D < base
    · rw [if_neg (by omega), decide_eq_false (by omega), if_neg (by simp), if_pos (by omega), hw, if_pos hv]
      have e1 : wrap64 (wrap64 (n * base) + D) = n * base + D := by unfold wrap64; omega
      rw [e1]
      have := ih k (n * base + D) (i + 1) (by omega) (by omega) (by omega) (by omega)
      rw [show (((i + 1 : Nat)) : Int) = (i : Int) + 1 by omega] at this
      exact this
    · rw [if_neg hv]
      by_cases hn0 : D < 0
      · rw [if_pos hn0, if_pos trivial]
      · rw [if_neg hn0, decide_eq_true (by omega), if_pos rfl]
/-- What number tells. -/
def numSpec (s:ByteArray) (base:Int) (most:Nat):Int × Bool :=
 if s.size=0 ∨ s.size > most then (0,false) else match numL base (bytesOf s) 0 with|some v=>(v,true)|none=>(0,false)
theorem number_f (s:ByteArray) (base:Int) (most:Nat) (hb1:1 ≤ base) (hB:base ^ most ≤ 4611686018427387904) (hs:s.size ≤ 140737488355327) (k:Nat) (hk:2 * s.size + 1 ≤ k):sign_number.f k s base most=some (numSpec s base most):=by
 unfold sign_number.f numSpec
 by_cases hm:s.size > most
 ·rw [if_pos (Or.inr hm)]
  exact number_long s base most (by omega) hs s.size k 0 0 (by omega) (by omega) hk
 ·have:=number_short s base most (by omega) hB hb1 (by omega) hs s.size k 0 0 (by omega) hk (by omega) (by simp)
  rw [show ((0:Nat):Int)=0 from rfl] at this
  rw [this]
  by_cases hz:s.size=0
  ·rw [if_pos (Or.inl hz),List.drop_zero]
   cases numL base (bytesOf s) 0 <;> simp [hz]
  ·rw [if_neg (by omega),List.drop_zero]
   cases numL base (bytesOf s) 0 <;> simp [hz]
theorem Decimal_f (s:ByteArray) (hs:s.size ≤ 140737488355327) (k:Nat) (hk:2 * s.size + 1 ≤ k):sign_Decimal.f k s=some (numSpec s 10 18):=by
 unfold sign_Decimal.f
 rw [show (18:Int)=((18:Nat):Int) from rfl,number_f s 10 18 (by decide) (by decide) hs k hk,Option.bind_some]
/-- How many commas. -/
def cntC (sp:UInt8):List UInt8 → Nat
 | []=>0
 | c :: l=>if c=sp then cntC sp l + 1 else cntC sp l
theorem cntC_count {sp:UInt8} (l:List UInt8):l.count sp=cntC sp l:=by
 induction l with
 | nil=>rfl
 | cons c l ih=>rw [List.count_cons,ih];by_cases hc:c=sp <;> simp [cntC,hc]
theorem cntC_append {sp:UInt8} (a b:List UInt8):cntC sp (a ++ b)=cntC sp a + cntC sp b:=by
 rw [← cntC_count,← cntC_count,← cntC_count,List.count_append]
theorem cntC_none {sp:UInt8} (l:List UInt8):cntC sp l=0 ↔ sp ∉ l:=by rw [← cntC_count];exact List.count_eq_zero
theorem cntC_le {sp:UInt8} (l:List UInt8):cntC sp l ≤ l.length:=by rw [← cntC_count];exact List.count_le_length
/-- The parts between commas. -/
def pcs (sp:UInt8):List UInt8 → List (List UInt8)
 | []=>[[]]
 | c :: l=>if c=sp then [] :: pcs sp l else (match pcs sp l with|p :: ps=>(c :: p) :: ps|[]=>[[c]])
theorem pcs_ne {sp:UInt8} (l:List UInt8) : ∃ p ps,pcs sp l=p :: ps:=by
 induction l with
 | nil=>exact ⟨[],[],rfl⟩
 | cons c l ih =>
  obtain ⟨p,ps,h⟩:=ih
  by_cases hc:c=sp
  ·exact ⟨[],pcs sp l,by simp [pcs,hc]⟩
  ·exact ⟨c :: p,ps,by simp [pcs,hc,h]⟩
theorem pcs_none {sp:UInt8} (l:List UInt8) (h:sp ∉ l):pcs sp l=[l]:=by
 induction l with
 | nil=>rfl
 | cons c l ih =>
  have hc:c ≠ sp:=fun e=>h (e ▸ List.mem_cons_self ..)
  simp [pcs,hc,ih (fun e=>h (List.mem_cons_of_mem _ e))]
theorem pcs_append {sp:UInt8} (a b:List UInt8):pcs sp (a ++ sp :: b)=pcs sp a ++ pcs sp b:=by
 induction a with
 | nil=>simp [pcs]
 | cons c a ih =>
  by_cases hc:c=sp
  ·simp [pcs,hc,ih]
  ·obtain ⟨p,ps,hp⟩:=pcs_ne (sp:=sp) a
   simp [pcs,hc,ih,hp]
theorem pcs_length {sp:UInt8} (l:List UInt8):(pcs sp l).length=cntC sp l + 1:=by
 induction l with
 | nil=>rfl
 | cons c l ih =>
  by_cases hc:c=sp
  ·simp [pcs,cntC,hc,ih]
  ·obtain ⟨p,ps,hp⟩:=pcs_ne (sp:=sp) l
   rw [hp] at ih
   simp only [pcs,hc,if_false,hp,cntC]
   simpa using ih
theorem pcs_le {sp:UInt8} (l:List UInt8) : ∀ p ∈ pcs sp l,p.length ≤ l.length:=by
 induction l with
 | nil=>intro p hp;simp [pcs] at hp;simp [hp]
 | cons c l ih =>
  intro p hp
  by_cases hc:c=sp
  ·simp only [pcs,hc,if_true] at hp
   rcases List.mem_cons.1 hp with rfl|hp
   ·simp
   ·have:=ih p hp;simp;omega
  ·obtain ⟨q,qs,hq⟩:=pcs_ne (sp:=sp) l
   simp only [pcs,hc,if_false,hq] at hp
   rcases List.mem_cons.1 hp with rfl|hp
   ·have:=ih q (by rw [hq];exact List.mem_cons_self ..);simp;omega
   ·have:=ih p (by rw [hq];exact List.mem_cons_of_mem _ hp);simp;omega
/-- What Split tells. -/
theorem index_splitC {sp:UInt8} (l:List UInt8) (h:0 < cntC sp l) : ∃ a b,l=a ++ sp :: b∧sp ∉ a∧Lib.indexByte l sp=a.length:=by
 induction l with
 | nil=>simp [cntC] at h
 | cons c l ih =>
  by_cases hc:c=sp
  ·exact ⟨[],l,by simp [hc],by simp,by simp [Lib.indexByte,hc]⟩
  ·have h' : 0 < cntC sp l:=by simpa [cntC,hc] using h
   obtain ⟨a,b,h1,h2,h3⟩:=ih h'
   refine ⟨c :: a,b,by simp [h1],?_,?_⟩
   ·intro hm
    rcases List.mem_cons.1 hm with e|e
    ·exact hc e.symm
    ·exact h2 e
   ·have hb:(c == sp)=false:=by simpa using hc
    have hn:((a.length:Int) == -1)=false:=by simp only [beq_eq_false_iff_ne];omega
    simp [Lib.indexByte,hb,h3,hn]
theorem gs_endC {sp:UInt8} (k:Nat) (s:ByteArray) (x3:Int) (x9:List ByteArray) (i:Nat) (hc:sp ∉ s.data.toList) (hx:x3=i) (hl:x9.length=i + 1) (hi:i ≤ 4398046511104) :
 strings_genSplit.l0 (k + 1) s ⟨#[sp]⟩ 0 x3 x9 i=some (x9.take i ++ (pcs sp s.data.toList).map mkS):=by
 simp only [strings_genSplit.l0]
 rw [if_neg (by omega),if_pos (by omega),if_pos (by omega),wn1 i hi,if_pos (by omega),if_pos (by omega),pcs_none _ hc]
 have e1:((i:Int) + 1).toNat=i + 1:=by omega
 rw [e1,Int.toNat_natCast,List.take_succ_eq_append_getElem (by rw [List.length_set];omega),List.take_set_of_le (Nat.le_refl _)]
 simp [mkS_self]
theorem extract_midC {sp : UInt8} (s : ByteArray) (a b : List UInt8) (hab : s.data.toList = a ++ sp :: b) : (s.extract (a.length + 1) s.size).data.toList = b ∧ s.extract 0 a.length = mkS a ∧ (s.extract (a.length + 1) s.size).size ≤ s.size := by
  have e2 : (s.extract (a.length + 1) s.size).data.toList = b := by
    rw [Lib.extract_to_end, hab, ← List.drop_drop, List.drop_left]; rfl
  refine ⟨e2, ?_, ?_⟩
  · have : (s.extract 0 a.length).data.toList = a := by
      rw [Lib.extract_data, hab, List.drop_zero, Nat.sub_zero, List.take_left]
    rw [← mkS_self (s.extract 0 _), this]
  · have hlen : a.length + b.length + 1 = s.size := by rw [← data_length, hab]; simp; omega
    rw [← data_length, e2]
    omega
theorem gs_stepC {sp:UInt8} (k:Nat) (s:ByteArray) (x3:Int) (x9:List ByteArray) (i:Nat) (a b:List UInt8) (hab:s.data.toList=a ++ sp :: b) (hidx:Lib.indexByte s.data.toList sp=a.length) (hx:(i:Int) < x3) (hl:i < x9.length) (hs:s.size ≤ 4398046511104) (hi:i ≤ 4398046511104) :
 ∀ R,strings_genSplit.l0 k (s.extract (a.length + 1) s.size) ⟨#[sp]⟩ 0 x3 (x9.set i (mkS a)) ((i:Int) + 1)=R → strings_genSplit.l0 (k + 1) s ⟨#[sp]⟩ 0 x3 x9 i=R:=by
 intro R hR
 have hlen:a.length + b.length + 1=s.size:=by rw [← data_length,hab];simp;omega
 have hix:strings_Index.f s ⟨#[sp]⟩=some (a.length:Int):=by
  show some (Lib.indexByte s.data.toList sp)=_
  rw [hidx]
 have hs1:((⟨#[sp]⟩:ByteArray).size:Int)=1:=rfl
 have e1:((a.length:Int) + 1).toNat=a.length + 1:=by omega
 obtain ⟨_,e3,_⟩:=extract_midC s a b hab
 simp only [strings_genSplit.l0]
 rw [if_pos hx,hix]
 rw [Option.bind_some]
 rw [if_neg (by omega),wn0 _ (by omega),hs1,wn1 _ (by omega),if_pos (by omega),if_pos (by omega),if_pos (by omega),if_pos (by omega),if_pos (by omega),if_pos (by omega),wn1 i hi,e1,Int.toNat_natCast,Int.toNat_natCast,e3]
 exact hR
theorem gs_l0C {sp:UInt8} (d:Nat) : ∀ (k:Nat) (s:ByteArray) (x3:Int) (x9:List ByteArray) (i:Nat),cntC sp s.data.toList=d → x3=i + d → x9.length=i + d + 1 → d + 1 ≤ k → s.size ≤ 4398046511104 →
 i + d ≤ 4398046511104 → strings_genSplit.l0 k s ⟨#[sp]⟩ 0 x3 x9 i=some (x9.take i ++ (pcs sp s.data.toList).map mkS):=by
 induction d with
 | zero =>
  intro k s x3 x9 i hc hx hl hk hs hid
  obtain ⟨k,rfl⟩ : ∃ m,k=m + 1:=⟨k - 1,by omega⟩
  exact gs_endC k s x3 x9 i ((cntC_none _).1 hc) (by omega) (by omega) (by omega)
 | succ d ih =>
  intro k s x3 x9 i hc hx hl hk hs hid
  obtain ⟨k,rfl⟩ : ∃ m,k=m + 1:=⟨k - 1,by omega⟩
  obtain ⟨a,b,hab,ha,hidx⟩:=index_splitC (sp:=sp) s.data.toList (by omega)
  obtain ⟨e2,_,e4⟩:=extract_midC s a b hab
  have hcb:cntC sp b=d:=by
   rw [hab,cntC_append,(cntC_none a).2 ha] at hc
   simp only [cntC,if_true] at hc
   omega
  refine gs_stepC k s x3 x9 i a b hab hidx (by omega) (by omega) hs (by omega) _ ?_
  have:=ih k (s.extract (a.length + 1) s.size) x3 (x9.set i (mkS a)) (i + 1) (by rw [e2];exact hcb) (by omega) (by rw [List.length_set];omega) (by omega) (by omega) (by omega)
  rw [show (((i + 1:Nat)):Int)=(i:Int) + 1 by omega] at this
  rw [this,e2,hab,pcs_append,pcs_none a ha,List.take_succ_eq_append_getElem (by rw [List.length_set];omega),List.take_set_of_le (Nat.le_refl _)]
  simp
theorem gs_firstC {sp:UInt8} (k:Nat) (s:ByteArray) (hs:s.size ≤ 4398046511103) :
 ∀ R,strings_genSplit.l0 k s ⟨#[sp]⟩ 0 ((cntC sp s.data.toList:Nat):Int) (List.replicate (cntC sp s.data.toList + 1) (⟨#[]⟩:ByteArray)) 0=R → strings_genSplit.f (k + 1) s ⟨#[sp]⟩ 0 (-1)=R:=by
 intro R hR
 have hcl:=cntC_le (sp:=sp) s.data.toList
 rw [data_length] at hcl
 have hcf:strings_Count.f s ⟨#[sp]⟩=some ((cntC sp s.data.toList:Nat):Int):=by
  rw [← cntC_count];rfl
 obtain ⟨c,hc⟩ : ∃ c,c=cntC sp s.data.toList:=⟨_,rfl⟩
 rw [← hc] at hcf hcl hR
 have hm:mn ((c:Int) + 1) ((s.size:Int) + 1)=(c:Int) + 1:=by unfold mn;split <;> omega
 have e1:((c:Int) + 1).toNat=c + 1:=by omega
 have hne : ¬ ((⟨#[sp]⟩:ByteArray).toList=[]):=by rw [toList_data];simp
 unfold strings_genSplit.f
 rw [if_neg (by decide),if_neg hne,if_pos (by decide),hcf]
 rw [Option.bind_some]
 simp only [strings_genSplit.j0]
 rw [wn1 c (by omega),wn1 s.size (by omega),hm,wnm c (by omega),e1,if_pos (by omega),if_pos (by omega)]
 exact hR
theorem Split_fC {sp:UInt8} (s:ByteArray) (hs:s.size ≤ 4398046511103) (k:Nat) (hk:s.size + 3 ≤ k):strings_Split.f k s ⟨#[sp]⟩=some ((pcs sp s.data.toList).map mkS):=by
 obtain ⟨k,rfl⟩ : ∃ m,k=m + 1:=⟨k - 1,by omega⟩
 have hcl:=cntC_le (sp:=sp) s.data.toList
 rw [data_length] at hcl
 unfold strings_Split.f
 have:=gs_l0C (cntC sp s.data.toList) k s ((cntC sp s.data.toList:Nat):Int) (List.replicate (cntC sp s.data.toList + 1) (⟨#[]⟩:ByteArray)) 0 rfl (by omega) (by rw [List.length_replicate];omega) (by omega) (by omega) (by omega)
 rw [show ((0:Nat):Int)=0 from rfl] at this
 rw [gs_firstC k s hs _ this]
 simp
theorem dec_fact (c:Int) (h0:0 ≤ c) (h1:c ≤ 255):tollbarref02_Digit.f c=some (decide (0 ≤ digV c∧digV c < 10))∧((0 ≤ digV c∧digV c < 10) → (c - 48) % 256=digV c):=by
 obtain ⟨n,rfl⟩:=Int.eq_ofNat_of_zero_le h0
 have h : ∀ m:Fin 256,tollbarref02_Digit.f (m.val:Int)=some (decide (0 ≤ digV (m.val:Int)∧digV (m.val:Int) < 10))∧((0 ≤ digV (m.val:Int)∧digV (m.val:Int) < 10) → ((m.val:Int) - 48) % 256=digV (m.val:Int)):=by decide +kernel
 exact h ⟨n,by omega⟩
def told (r:Option Int):Int × Bool:=match r with|some v=>(v,true)|none=>(0,false)
theorem refDec_l0 (s:ByteArray) (hm:s.size ≤ 18) (d:Nat) : ∀ (k:Nat) (n:Int) (i:Nat),i + d=s.size → d + 1 ≤ k → 0 ≤ n → n + 1 ≤ 10 ^ i →
 tollbarref02_Decimal.l0 k s n i=some (told (numL 10 ((bytesOf s).drop i) n)):=by
 induction d with
 | zero =>
  intro k n i hi hk h0 hn
  obtain ⟨k,rfl⟩ : ∃ m,k=m + 1:=⟨k - 1,by omega⟩
  rw [List.drop_of_length_le (by rw [bytesOf_length];omega)]
  simp only [tollbarref02_Decimal.l0,numL]
  rw [if_neg (by omega)]
  rfl
 | succ d ih =>
  intro k n i hi hk h0 hn
  obtain ⟨k,rfl⟩ : ∃ m,k=m + 1:=⟨k - 1,by omega⟩
  have hw:wrap64 ((i:Int) + 1)=((i + 1:Nat):Int):=by unfold wrap64;omega
  have hl:i < (bytesOf s).length:=by rw [bytesOf_length];omega
  have hg:(bytesOf s)[i]=bt s i:=by rw [← rd_bytesOf];simp [rd,List.getD_eq_getElem?_getD,List.getElem?_eq_getElem hl]
  have hr:=bt_range s i
  obtain ⟨f1,f2⟩:=dec_fact _ hr.1 hr.2
  have hP:(10:Int) ^ (i + 1)=10 ^ i * 10:=Int.pow_succ _ _
  have hle:=pow_mono' 10 (by decide) (i + 1) (18 - (i + 1))
  rw [show i + 1 + (18 - (i + 1))=18 by omega,hP] at hle
  have hc:(10:Int) ^ 18=1000000000000000000:=by decide
  rw [List.drop_eq_getElem_cons hl,hg]
  simp only [tollbarref02_Decimal.l0,numL]
  rw [if_pos (by omega),if_pos (by omega),f1,Option.bind_some]
  by_cases hv:0 ≤ digV (bt s i)∧digV (bt s i) < 10
  ·rw [decide_eq_true hv,if_pos rfl,if_pos hv,f2 hv,hw]
   have e1:wrap64 (wrap64 (n * 10) + digV (bt s i))=n * 10 + digV (bt s i):=by unfold wrap64;omega
   rw [e1]
   exact ih k _ (i + 1) (by omega) (by omega) (by omega) (by omega)
  ·rw [decide_eq_false hv,if_neg (by simp),if_neg hv]
   rfl
theorem refDecimal_f (s:ByteArray) (k:Nat) (hk:40 ≤ k) (hs:s.size ≤ 140737488355327):tollbarref02_Decimal.f k s=some (numSpec s 10 18):=by
 obtain ⟨k,rfl⟩ : ∃ m,k=m + 1:=⟨k - 1,by omega⟩
 unfold tollbarref02_Decimal.f numSpec
 by_cases h0:s.size=0
 ·rw [if_pos (by omega),if_pos (Or.inl h0)]
  simp only [tollbarref02_Decimal.j0]
  rfl
 ·rw [if_neg (by omega)]
  by_cases h1:s.size > 18
  ·rw [decide_eq_true (by omega),if_pos (Or.inr h1)]
   simp only [tollbarref02_Decimal.j0]
   rfl
  ·rw [decide_eq_false (by omega),if_neg (by omega)]
   simp only [tollbarref02_Decimal.j0]
   rw [if_neg (by simp)]
   have:=refDec_l0 s (by omega) s.size k 0 0 (by omega) (by omega) (by omega) (by simp)
   rw [show ((0:Nat):Int)=0 from rfl,List.drop_zero] at this
   exact this
def foldU (b:UInt8):UInt8:=UInt8.ofNat (foldC (b.toNat:Int)).toNat
theorem byteAll {P:UInt8 → Prop} (h : ∀ n:Fin 256,P (UInt8.ofNat n.val)) (b:UInt8):P b:=by
 have:=h ⟨b.toNat,b.toNat_lt⟩
 rwa [show UInt8.ofNat (⟨b.toNat,b.toNat_lt⟩:Fin 256).val=b from UInt8.ofNat_toNat] at this
def digU (b:UInt8):Bool:=([48,49,50,51,52,53,54,55,56,57]:List UInt8).contains b
theorem foldU_dig (b:UInt8):digU (foldU b)=digU b:=byteAll (P:=fun b=>digU (foldU b)=digU b) (by decide +kernel) b
theorem dig_host (b:UInt8):digU b=decide (48 ≤ (b.toNat:Int)∧(b.toNat:Int) ≤ 57):=byteAll (P:=fun b=>digU b=decide (48 ≤ (b.toNat:Int)∧(b.toNat:Int) ≤ 57)) (by decide +kernel) b
theorem dw_head (p:UInt8 → Bool) (l:List UInt8) : ∀ a,(l.dropWhile p).head? = some a → p a=false:=by
 induction l with
 | nil=>intro a h;simp at h
 | cons b l ih =>
  intro a h
  cases hb:p b
  ·simp [List.dropWhile,hb] at h;rw [← h];exact hb
  ·simp only [List.dropWhile,hb] at h;exact ih a h
theorem dw_append {p:UInt8 → Bool} (pre t:List UInt8) (h : ∀ a ∈ pre,p a=true):(pre ++ t).dropWhile p=t.dropWhile p:=by
 induction pre with
 | nil=>rfl
 | cons b l ih =>
  simp only [List.cons_append,List.dropWhile,h b (List.mem_cons_self ..)]
  exact ih (fun a ha=>h a (List.mem_cons_of_mem _ ha))
theorem dw_split (p:UInt8 → Bool) (l:List UInt8) : ∃ pre,l=pre ++ l.dropWhile p ∧ ∀ a ∈ pre,p a=true:=by
 induction l with
 | nil=>exact ⟨[],rfl,by simp⟩
 | cons b l ih =>
  obtain ⟨pre,h,hp⟩:=ih
  cases hb:p b
  ·exact ⟨[],by simp [List.dropWhile,hb],by simp⟩
  ·refine ⟨b :: pre,by simp only [List.dropWhile,hb,List.cons_append];rw [← h],?_⟩
   intro a ha
   rcases List.mem_cons.1 ha with rfl|ha
   ·exact hb
   ·exact hp a ha
theorem foldU_colon (b:UInt8):foldU b=58 ↔ b=58:=byteAll (P:=fun b=>foldU b=58 ↔ b=58) (by decide +kernel) b
theorem fold_mk (l:List UInt8):strOfNums ((bytesOf (mkS l)).map foldC)=mkS (l.map foldU):=by
 rw [mkS_bytes]
 unfold strOfNums mkS
 rw [List.map_map,List.map_map]
 rfl
theorem data_get (l:List UInt8) (j:Nat) (h:j < l.length):(((mkS l).data[j]!).toNat:Int)=(l[j].toNat:Int):=by
 have hs:j < (mkS l).data.size:=by show j < (mkS l).size;rw [mkS_size];exact h
 rw [getElem!_pos (mkS l).data j hs]
 simp [mkS]
theorem trimS_nil (l:List UInt8):Lib.trimS l [48,49,50,51,52,53,54,55,56,57]=[] ↔ ∀ x ∈ l,digU x=true:=by
 show (l.reverse.dropWhile digU).reverse.dropWhile digU=[] ↔ _
 constructor
 ·intro h
  obtain ⟨pre,h1,h2⟩:=dw_split digU (l.reverse.dropWhile digU).reverse
  rw [h,List.append_nil] at h1
  have h3:l.reverse.dropWhile digU=[]:=by
   cases hd:l.reverse.dropWhile digU with
   | nil=>rfl
   | cons a t =>
    have h4:=dw_head digU l.reverse a (by rw [hd];rfl)
    have h5:=h2 a (by rw [← h1,hd];simp)
    rw [h4] at h5
    cases h5
  obtain ⟨pre,h4,h5⟩:=dw_split digU l.reverse
  rw [h3,List.append_nil] at h4
  exact fun x hx=>h5 x (by rw [← h4];exact List.mem_reverse.2 hx)
 ·intro h
  have h1:l.reverse.dropWhile digU=[]:=by
   have:=dw_append (p:=digU) l.reverse [] (fun a ha=>h a (List.mem_reverse.1 ha))
   rwa [List.append_nil] at this
  rw [h1]
  rfl
/-- A port at the place n. -/
def PortAt (l:List UInt8) (n:Nat):Prop := ∃ h:n < l.length,l[n]=58 ∧ ∀ x ∈ l.drop (n + 1),digU x=true
theorem last_at (l:List UInt8) (n:Nat) (h:n < l.length) (hc:l[n]=58) (hn:58 ∉ l.drop (n + 1)):Lib.lastIndexByte (mkS l) 58=n:=by
 have hd:=fun j (hj:j < l.length)=>data_get l j hj
 have no : ∀ j (hj:j < l.length),n < j → l[j] ≠ 58:=by
  intro j hj hnj e
  apply hn
  rw [List.mem_iff_getElem]
  exact ⟨j - (n + 1),by rw [List.length_drop];omega,by rw [List.getElem_drop,← e];congr 1;omega⟩
 rcases Lib.lastIndexByte_spec (mkS l) 58 with ⟨_,h2⟩|⟨i,hi,h1,h2,h3⟩
 ·exfalso
  have:=h2 n (by rw [mkS_size];exact h)
  rw [hd n h,hc] at this
  exact this rfl
 ·rw [mkS_size] at hi h3
  rw [hd i hi] at h2
  have hi58:l[i]=58:=UInt8.toNat_inj.1 (by show _=58;omega)
  rcases Nat.lt_trichotomy i n with c|c|c
  ·have:=h3 n c h
   rw [hd n h,hc] at this
   exact absurd rfl this
  ·rw [h1,c]
  ·exact absurd hi58 (no i hi c)
theorem cut_port (l:List UInt8) (n:Nat) (h:PortAt l n):hostCut (mkS l)=mkS (l.take n):=by
 obtain ⟨hn,hc,hd⟩:=h
 have hl:=last_at l n hn hc (fun h=>by have:=hd 58 h;revert this;decide)
 have e1:((n:Int) + 1).toNat=n + 1:=by omega
 have e2:((mkS l).extract (n + 1) (mkS l).size).data.toList=l.drop (n + 1):=by
  rw [mkS_size,mkS_extract,mkS_data,List.take_of_length_le (by rw [List.length_drop];omega)]
 have hp:hostPort (mkS l)=true:=by
  unfold hostPort
  rw [hl,decide_eq_true (by omega),e1,e2,(trimS_nil _).2 hd]
  rfl
 unfold hostCut
 rw [if_pos hp,hl,Int.toNat_natCast,mkS_extract]
 rfl
theorem cut_none (l:List UInt8) (h : ∀ n,¬ PortAt l n):hostCut (mkS l)=mkS l:=by
 unfold hostCut
 rw [if_neg]
 intro hp
 unfold hostPort at hp
 simp only [Bool.and_eq_true,decide_eq_true_eq,List.isEmpty_iff] at hp
 obtain ⟨h0,h1⟩:=hp
 rcases Lib.lastIndexByte_spec (mkS l) 58 with ⟨e,_⟩|⟨i,hi,e,h2,_⟩
 ·omega
 ·rw [mkS_size] at hi
  rw [data_get l i hi] at h2
  have e1:((i:Int) + 1).toNat=i + 1:=by omega
  rw [e,e1,mkS_size,mkS_extract,mkS_data,List.take_of_length_le (by rw [List.length_drop];omega),trimS_nil] at h1
  exact h i ⟨hi,UInt8.toNat_inj.1 (by show _=58;omega),h1⟩
theorem port_fold (l:List UInt8) (n:Nat):PortAt (l.map foldU) n ↔ PortAt l n:=by
 unfold PortAt
 constructor
 ·rintro ⟨h,h1,h2⟩
  rw [List.length_map] at h
  refine ⟨h,?_,fun x hx=>?_⟩
  ·rw [List.getElem_map] at h1
   exact (foldU_colon _).1 h1
  ·rw [← foldU_dig]
   exact h2 _ (by rw [← List.map_drop];exact List.mem_map_of_mem hx)
 ·rintro ⟨h,h1,h2⟩
  refine ⟨by rw [List.length_map];exact h,?_,fun x hx=>?_⟩
  ·rw [List.getElem_map,h1];rfl
  ·rw [← List.map_drop] at hx
   obtain ⟨y,hy,rfl⟩:=List.mem_map.1 hx
   rw [foldU_dig]
   exact h2 y hy
/-- The host of a text of which n bytes stand ahead of the port. -/
def hostOf (l:List UInt8) (n:Nat):ByteArray × Bool:=hostEnd (mkS ((l.take n).map foldU))
theorem Host_port (l:List UInt8) (hn:l.length ≤ 140737488355328) (n:Nat) (h:PortAt l n):line_Host.f (mkS l)=some (hostOf l n):=by
 unfold line_Host.f hostOf
 rw [if_pos (by rw [mkS_size];exact hn),fold_mk,cut_port _ n ((port_fold l n).2 h),List.map_take]
theorem Host_none (l:List UInt8) (hn:l.length ≤ 140737488355328) (h : ∀ n,¬ PortAt l n):line_Host.f (mkS l)=some (hostOf l l.length):=by
 unfold line_Host.f hostOf
 rw [if_pos (by rw [mkS_size];exact hn),fold_mk,cut_none _ (fun n hp=>h n ((port_fold l n).1 hp)),List.take_length]
theorem refDigit_f (c:Int):tollbarref02_Digit.f c=some (decide (48 ≤ c∧c ≤ 57)):=by
 unfold tollbarref02_Digit.f
 by_cases h:c ≥ 48
 ·rw [if_pos h];congr 1;rw [Bool.eq_iff_iff,decide_eq_true_eq,decide_eq_true_eq];omega
 ·rw [if_neg h,decide_eq_false (by omega)]
theorem refFold_l0 (s:ByteArray) (hn:s.size ≤ 140737488355327) (d:Nat) : ∀ (k:Nat) (out:List Int) (i:Int),0 ≤ i → (s.size:Int) - i=d → d + 1 ≤ k → (out.length:Int)=i →
 tollbarref02_Fold.l0 k s out i=some (strOfNums (out ++ ((bytesOf s).drop i.toNat).map foldC)):=by
 induction d with
 | zero =>
  intro k out i h0 hd hk ho
  obtain ⟨k,rfl⟩ : ∃ m,k=m + 1:=⟨k - 1,by omega⟩
  simp only [tollbarref02_Fold.l0]
  rw [if_neg (by omega),List.drop_of_length_le (by rw [bytesOf_length];omega),List.map_nil,List.append_nil]
 | succ d ih =>
  intro k out i h0 hd hk ho
  obtain ⟨k,rfl⟩ : ∃ m,k=m + 1:=⟨k - 1,by omega⟩
  have hlt:i < (s.size:Int):=by omega
  have hl:i.toNat < (bytesOf s).length:=by rw [bytesOf_length];omega
  have hg:(bytesOf s)[i.toNat]=bt s i:=by rw [← rd_bytesOf];simp [rd,List.getD_eq_getElem?_getD,List.getElem?_eq_getElem hl]
  have hr:=bt_range s i
  have ih' := fun v=>ih k (out ++ [v]) (i + 1) (by omega) (by omega) (by omega) (by rw [List.length_append];simp;omega)
  have e1:(i + 1).toNat=i.toNat + 1:=by omega
  rw [List.drop_eq_getElem_cons hl,hg,List.map_cons]
  simp only [tollbarref02_Fold.l0]
  rw [if_pos hlt,if_pos h0,show wrap64 (i + 1)=i + 1 by unfold wrap64;omega]
  have hf : ∀ v,v=foldC (bt s i) → some (strOfNums (out ++ [v] ++ ((bytesOf s).drop (i.toNat + 1)).map foldC))=some (strOfNums (out ++ foldC (bt s i) :: ((bytesOf s).drop (i.toNat + 1)).map foldC)):=by
   intro v hv
   rw [hv,List.append_assoc]
   rfl
  have ho2:out.length < 140737488355328:=by omega
  by_cases h1:bt s i ≥ 65
  ·rw [if_pos h1]
   by_cases h2:bt s i ≤ 90
   ·rw [if_pos h2,if_pos ho2,ih',e1];exact hf _ (by unfold foldC;rw [if_pos ⟨h1,h2⟩];omega)
   ·rw [if_neg h2,if_pos ho2,ih',e1];exact hf _ (by unfold foldC;rw [if_neg (by omega)])
  ·rw [if_neg h1,if_pos ho2,ih',e1];exact hf _ (by unfold foldC;rw [if_neg (by omega)])
theorem refFold_f (s:ByteArray) (hn:s.size ≤ 140737488355327) (k:Nat) (hk:s.size + 1 ≤ k):tollbarref02_Fold.f k s=sign_Fold.f s:=by
 unfold tollbarref02_Fold.f sign_Fold.f
 rw [refFold_l0 s hn s.size k [] 0 (by omega) (by omega) hk rfl,if_pos (by omega)]
 rfl
theorem Fold_f (s:ByteArray) (hn:s.size ≤ 140737488355328):sign_Fold.f s=some (strOfNums ((bytesOf s).map foldC)):=if_pos hn
theorem ref_l1 (x:List UInt8) (hn:x.length ≤ 140737488355328) (d:Nat) : ∀ (k i:Nat),i + d=x.length → d + 1 ≤ k →
 tollbarref05_Host.l1 k (mkS x) i=some (if ((bytesOf (mkS x)).drop i).all hostC=true then (if x.length=0 ∨ 64 < x.length then ((⟨#[]⟩:ByteArray),false) else (mkS x,true)) else ((⟨#[]⟩:ByteArray),false)):=by
 induction d with
 | zero =>
  intro k i hi hk
  obtain ⟨k,rfl⟩ : ∃ m,k=m + 1:=⟨k - 1,by omega⟩
  rw [List.drop_of_length_le (by rw [bytesOf_length,mkS_size];omega),if_pos (show ([]:List Int).all hostC=true from rfl)]
  simp only [tollbarref05_Host.l1]
  rw [mkS_size,if_neg (by omega)]
  by_cases h0:x.length=0
  ·rw [if_pos (by omega),if_pos (Or.inl h0)]
  ·rw [if_neg (by omega)]
   by_cases h1:64 < x.length
   ·rw [if_pos (by omega),if_pos (Or.inr h1)]
   ·rw [if_neg (by omega),if_neg (by omega)]
 | succ d ih =>
  intro k i hi hk
  obtain ⟨k,rfl⟩ : ∃ m,k=m + 1:=⟨k - 1,by omega⟩
  have hlt:i < x.length:=by omega
  have ih' := ih k (i + 1) (by omega) (by omega)
  have hw:wrap64 ((i:Int) + 1)=((i + 1:Nat):Int):=by unfold wrap64;omega
  have hd:=bytes_drop_all hostC (mkS x) (i:Int) (by omega) (by rw [mkS_size];omega)
  rw [Int.toNat_natCast] at hd
  rw [hd]
  simp only [tollbarref05_Host.l1]
  rw [mkS_size,if_pos (by omega),if_pos (by omega),hw,ih',refDigit_f]
  have hr:=bt_range (mkS x) i
  generalize bt (mkS x) (i:Int)=c at hr ⊢
  have hh:hostC c=decide ((48 ≤ c∧c ≤ 57) ∨ (97 ≤ c∧c ≤ 122) ∨ c=45 ∨ c=46):=rfl
  simp only [Option.bind_some]
  by_cases a1:c ≥ 97
  ·rw [if_pos a1]
   by_cases a2:c ≤ 122
   ·rw [if_pos a2,hh,decide_eq_true (by omega),Bool.true_and]
   ·rw [if_neg a2,decide_eq_false (by omega),if_neg (by simp),if_neg (by omega),if_neg (by omega),hh,decide_eq_false (by omega),Bool.false_and,if_neg (by simp)]
  ·rw [if_neg a1]
   by_cases a2:48 ≤ c∧c ≤ 57
   ·rw [decide_eq_true a2,if_pos rfl,hh,decide_eq_true (by omega),Bool.true_and]
   ·rw [decide_eq_false a2,if_neg (by simp)]
    by_cases a3:c=45
    ·rw [if_pos a3,hh,decide_eq_true (by omega),Bool.true_and]
    ·rw [if_neg a3]
     by_cases a4:c=46
     ·rw [if_pos a4,hh,decide_eq_true (by omega),Bool.true_and]
     ·rw [if_neg a4,hh,decide_eq_false (by omega),Bool.false_and,if_neg (by simp)]
theorem ref_j3 (l:List UInt8) (hn:l.length ≤ 140737488355327) (n:Nat) (h:n ≤ l.length) (k:Nat) (hk:2 * l.length + 10 ≤ k):tollbarref05_Host.j3 k (mkS l) n=some (hostOf l n):=by
 obtain ⟨k,rfl⟩ : ∃ m,k=m + 1:=⟨k - 1,by omega⟩
 simp only [tollbarref05_Host.j3]
 have hl:(l.take n).length ≤ l.length:=by rw [List.length_take];omega
 rw [mkS_size,if_pos (by omega),if_pos (by omega),Int.toNat_natCast,mkS_extract,List.drop_zero,Nat.sub_zero,refFold_f _ (by rw [mkS_size];omega) k (by rw [mkS_size];omega),Fold_f _ (by rw [mkS_size];omega),fold_mk,Option.bind_some]
 have:=ref_l1 ((l.take n).map foldU) (by rw [List.length_map];omega) ((l.take n).map foldU).length k 0 (by omega) (by rw [List.length_map];omega)
 rw [show ((0:Nat):Int)=0 from rfl,List.drop_zero] at this
 rw [this]
 unfold hostOf hostEnd
 rw [mkS_size]
 congr 1
 by_cases c:((l.take n).map foldU).length=0 ∨ 64 < ((l.take n).map foldU).length
 ·rw [if_pos c]
  simp only [if_pos c]
  split <;> rfl
 ·rw [if_neg c]
  simp only [if_neg c]
theorem ref_j1 (l:List UInt8) (hn:l.length ≤ 140737488355327) (i:Nat) (h:i < l.length) (k:Nat) (hk:2 * l.length + 20 ≤ k) :
 tollbarref05_Host.j1 k (mkS l) (l.length:Int) (i:Int)=some (if l[i]=58 then hostOf l i else hostOf l l.length):=by
 obtain ⟨k,rfl⟩ : ∃ m,k=m + 2:=⟨k - 2,by omega⟩
 simp only [tollbarref05_Host.j1]
 rw [mkS_size,if_pos (by omega),if_pos (by omega),if_pos (by omega),bt_mk l i h]
 simp only [tollbarref05_Host.j2]
 by_cases c:l[i]=58
 ·rw [if_pos c,if_pos (by rw [c];rfl),ref_j3 l hn i (by omega) k (by omega)]
 ·rw [if_neg c,if_neg (by rw [beq_iff_eq];exact fun e=>c (UInt8.toNat_inj.1 (by show _=58;omega))),ref_j3 l hn l.length (by omega) k (by omega)]
theorem ref_l0 (l : List UInt8) (hn : l.length ≤ 140737488355327) (d : Nat) : ∀ (k : Nat), d ≤ l.length → 3 * l.length + 20 + d ≤ k → (∀ x ∈ l.drop d, digU x = true) →
    tollbarref05_Host.l0 k (mkS l) (l.length : Int) ((d : Int) - 1) = line_Host.f (mkS l) := by
  induction d with
  | zero =>
    intro k hd hk ha
    obtain ⟨k, rfl⟩ : ∃ m, k = m + 3 := ⟨k - 3, by omega⟩
    rw [List.drop_zero] at ha
    have hno : ∀ n, ¬ PortAt l n := by
      rintro n ⟨h, h1, _⟩
      have := ha _ (List.getElem_mem h)
      rw [h1] at this
      revert this
      decide
    rw [Host_none l (by omega) hno]
    simp only [tollbarref05_Host.l0]
    rw [if_neg (by omega)]
    simp only [tollbarref05_Host.j1]
    rw [if_neg (by omega)]
    simp only [tollbarref05_Host.j2]
    rw [if_neg (by simp), ref_j3 l hn l.length (by omega) k (by omega)]
  | succ d ih =>
    intro k hd hk ha
    obtain ⟨k, rfl⟩ : ∃ m, k = m + 1 := ⟨k - 1, by omega⟩
    have hlt : d < l.length := by omega
    have e : ((d + 1 : Nat) : Int) - 1 = (d : Int) := by omega
    have hw : wrap64 ((d : Int) - 1) = (d : Int) - 1 := by unfold wrap64; omega
    rw [e]
    simp only [tollbarref05_Host.l0]
    rw [mkS_size, if_pos (by omega), if_pos (by omega), if_pos (by omega), bt_mk l d hlt, refDigit_f, ← dig_host, Option.bind_some]
    cases hc : digU l[d]
    · rw [if_neg (by simp), ref_j1 l hn d hlt k (by omega)]
      by_cases c : l[d] = 58
      · rw [if_pos c, Host_port l (by omega) d ⟨hlt, c, ha⟩]
      · rw [if_neg c, Host_none l (by omega)]
        rintro n ⟨h, h1, h2⟩
        rcases Nat.lt_trichotomy n d with q | q | q
        · have := h2 l[d] (by
            rw [List.mem_iff_getElem]
            exact ⟨d - (n + 1), by rw [List.length_drop]; omega, by rw [List.getElem_drop]; congr 1; omega⟩)
          rw [hc] at this
          cases this
        · subst q; exact c h1
        · have := ha l[n] (by
            rw [List.mem_iff_getElem]
            exact ⟨n - (d + 1), by rw [List.length_drop]; omega, by rw [List.getElem_drop]; congr 1; omega⟩)
          rw [h1] at this
          revert this
          decide
    · rw [if_pos rfl, hw]
      refine ih k (by omega) (by omega) ?_
      intro x hx
      rw [List.drop_eq_getElem_cons hlt] at hx
      rcases List.mem_cons.1 hx with rfl | hx
      · exact hc
      · exact ha x hx
theorem refHost_f (l:List UInt8) (hn:l.length ≤ 140737488355327) (k:Nat) (hk:4 * l.length + 20 ≤ k):tollbarref05_Host.f k (mkS l)=line_Host.f (mkS l):=by
 unfold tollbarref05_Host.f
 rw [mkS_size,show wrap64 ((l.length:Int) - 1)=(l.length:Int) - 1 by unfold wrap64;omega]
 exact ref_l0 l hn l.length k (by omega) (by omega) (by simp)
theorem Host_some (l:List UInt8) (hn:l.length ≤ 140737488355328) : ∃ u,line_Host.f (mkS l)=some (hostEnd (mkS u)):=by
 unfold line_Host.f
 rw [if_pos (by rw [mkS_size];exact hn)]
 exact ⟨(hostCut (strOfNums ((bytesOf (mkS l)).map foldC))).data.toList,by rw [mkS_self]⟩
/-- A test of each,and of any. -/
theorem anyO_eq {α:Type} (q:α → Option Bool) (p:α → Bool) : ∀ l:List α,(∀ x ∈ l,q x=some (p x)) → anyO q l=some (l.any p)
 | [],_=>rfl
 | x :: r,h=>by
  simp only [anyO,List.any_cons]
  rw [h x (List.mem_cons_self ..),Option.bind_some]
  cases hp:p x
  ·rw [if_neg (by simp)]
   simp only [Bool.false_or]
   exact anyO_eq q p r (fun y hy=>h y (List.mem_cons_of_mem _ hy))
  ·rw [if_pos rfl]
   rfl
def nameC (c:Int):Bool:=decide (97 ≤ c∧c ≤ 122) || (decide (48 ≤ c∧c ≤ 57) || decide (c=45))
def nameR (s:ByteArray):Nat → Nat → Bool
 | 0,_=>true
 | d + 1,i=>nameC (bt s i) && nameR s d (i + 1)
/-- Is a text a name? -/
def tblName (s:ByteArray):Bool:=decide (1 ≤ s.size∧s.size ≤ 30) && (decide (97 ≤ bt s 0∧bt s 0 ≤ 122) && nameR s s.size 0)
theorem name_step (k:Nat) (s:ByteArray) (i:Nat) (hi:i < s.size) (hs:s.size ≤ 140737488355328):table_Name.l0 (k + 1) s (s.size:Int) (i:Int)=if nameC (bt s i)=true then table_Name.l0 k s (s.size:Int) ((i + 1:Nat):Int) else some false:=by
 rw [table_Name.l0,if_pos (by omega),if_pos (by omega),if_pos (by omega)]
 have hw:wrap64 ((i:Int) + 1)=((i + 1:Nat):Int):=by unfold wrap64;omega
 rw [hw]
 obtain ⟨c,hc⟩ : ∃ c,bt s i=c:=⟨_,rfl⟩
 rw [hc]
 unfold nameC
 simp only [Bool.or_eq_true,decide_eq_true_eq]
 repeat' split
 all_goals first|rfl|(exfalso;omega)
theorem name_l0 (s:ByteArray) (hs:s.size ≤ 140737488355328) : ∀ (d k i:Nat),i + d=s.size → d < k → table_Name.l0 k s (s.size:Int) (i:Int)=some (nameR s d i)
 | d,0,_,_,h=>by omega
 | 0,k + 1,i,h,_=>by
  rw [table_Name.l0,if_neg (by omega)]
  rfl
 | d + 1,k + 1,i,h,hk=>by
  rw [name_step k s i (by omega) hs,name_l0 s hs d k (i + 1) (by omega) (by omega),nameR]
  cases nameC (bt s i) <;> rfl
theorem name_f (s:ByteArray) (hs:s.size ≤ 140737488355328) (k:Nat) (hk:40 ≤ k):table_Name.f k s=some (tblName s):=by
 obtain ⟨m,rfl⟩ : ∃ m,k=m + 1:=⟨k - 1,by omega⟩
 unfold table_Name.f tblName
 by_cases h0:s.toList=[]
 ·rw [if_pos h0]
  have hz:s.size=0:=by rw [← data_length,← toList_data,h0];rfl
  rw [table_Name.j0,if_pos rfl,hz]
  rfl
 ·rw [if_neg h0]
  have hz:1 ≤ s.size:=by
   rcases Nat.eq_zero_or_pos s.size with h|h
   ·exfalso
    apply h0
    rw [toList_data]
    exact List.length_eq_zero_iff.1 (by rw [data_length];exact h)
   ·exact h
  by_cases h1:(s.size:Int) > 30
  ·rw [if_pos h1,table_Name.j0,if_pos rfl,decide_eq_false (by omega)]
   rfl
  ·rw [if_neg h1,if_pos (by omega),decide_eq_true (show 1 ≤ s.size∧s.size ≤ 30 by omega),Bool.true_and]
   by_cases h2:bt s 0 < 97
   ·rw [if_pos h2,table_Name.j0,if_pos rfl,decide_eq_false (by omega)]
    rfl
   ·rw [if_neg h2,table_Name.j0]
    by_cases h3:bt s 0 > 122
    ·rw [decide_eq_true h3,if_pos rfl,decide_eq_false (by omega)]
     rfl
    ·rw [decide_eq_false h3,if_neg (by simp),decide_eq_true (show 97 ≤ bt s 0∧bt s 0 ≤ 122 by omega),Bool.true_and]
     exact name_l0 s hs s.size m 0 (by omega) (by omega)
/-- Is a text a host as it is told? -/
def hostB (h:ByteArray):Bool:=match line_Host.f h with
 | some p=>p.2 && (p.1.toList == h.toList)
 | none=>false
theorem right2_f (h:ByteArray) (hs:h.size ≤ 140737488355328):table_right_2.f h=some (!hostB h):=by
 obtain ⟨u,hu⟩:=Host_some h.data.toList (by rw [data_length];exact hs)
 rw [mkS_self] at hu
 unfold table_right_2.f hostB
 rw [hu,Option.bind_some]
 dsimp only
 cases (hostEnd (mkS u)).2
 ·rfl
 ·rw [if_pos rfl]
  rfl
def numB (a lo hi:Int):Bool:=decide (lo ≤ a∧a ≤ hi)
theorem right1_f (a lo hi:Int):table_right_1.f a lo hi=some (!numB a lo hi):=by
 unfold table_right_1.f numB
 by_cases h:a < lo
 ·rw [if_pos h,decide_eq_false (by omega)]
  rfl
 ·rw [if_neg h]
  by_cases h2:a > hi
  ·rw [decide_eq_true h2,decide_eq_false (by omega)]
   rfl
  ·rw [decide_eq_false h2,decide_eq_true (by omega)]
   rfl
def numsB (x:S64):Bool:=numB x.f2 256 1048576 && (numB x.f3 1 64 && (numB x.f4 1 64 && (numB x.f5 1 1048576 && (numB x.f6 1 1048576 && numB x.f7 1 1048576))))
/-- Is a slot right? -/
def slotB (x:S64):Bool:=tblName x.f0 && (numsB x && (x.f1.all hostB && decide (1 ≤ x.f1.length∧x.f1.length ≤ 8)))
theorem right_f (x:S64) (h0:x.f0.size ≤ 140737488355328) (h1 : ∀ h ∈ x.f1,h.size ≤ 140737488355328) (k:Nat) (hk:40 ≤ k):table_right.f k x.f0 x.f1 x.f2 x.f3 x.f4 x.f5 x.f6 x.f7=some (slotB x):=by
 unfold table_right.f table_bounds.f
 rw [Option.bind_some,anyO_eq _ (fun (b:S111) => !numB b.f0 b.f1 b.f2) _ (fun b _=>right1_f _ _ _),Option.bind_some,anyO_eq _ (fun h => !hostB h) _ (fun h hh=>right2_f h (h1 h hh)),Option.bind_some,name_f _ h0 k hk,Option.bind_some]
 have e1:([(⟨x.f2,256,1048576⟩:S111),⟨x.f3,1,64⟩,⟨x.f4,1,64⟩,⟨x.f5,1,1048576⟩,⟨x.f6,1,1048576⟩,⟨x.f7,1,1048576⟩].any fun b => !numB b.f0 b.f1 b.f2) = !numsB x:=by
  unfold numsB
  simp only [List.any_cons,List.any_nil,Bool.or_false,Bool.not_and]
 have e2:(x.f1.any fun h => !hostB h) = !(x.f1.all hostB):=by
  rw [List.all_eq_not_any_not,Bool.not_not]
 rw [e1,e2]
 unfold slotB
 cases tblName x.f0
 ·rfl
 ·cases numsB x
  ·rfl
  ·cases x.f1.all hostB
   ·rfl
   ·simp only [Bool.not_true,Bool.true_and,if_true,Bool.false_eq_true,if_false]
    by_cases hl:1 ≤ x.f1.length
    ·rw [if_pos hl]
     congr 1
     rw [decide_eq_decide]
     omega
    ·rw [if_neg hl,decide_eq_false (by omega)]
theorem unlike_app : ∀ (a b S:List ByteArray),unlikeB S (a ++ b)=(unlikeB S a && unlikeB (S ++ a) b)
 | [],b,S=>by simp [unlikeB]
 | x :: r,b,S=>by
  rw [List.cons_append,unlikeB,unlikeB,unlike_app r b (S ++ [x])]
  cases hasB S x
  ·rw [if_neg (by simp),if_neg (by simp),List.append_assoc,List.singleton_append]
  ·rw [if_pos rfl,if_pos rfl]
   rfl
/-- Is a table right? -/
def rightT (t:List (S64)):Bool:=decide (1 ≤ t.length∧t.length ≤ 16) && (t.all slotB && (unlikeB [] (t.map (·.f0)) && unlikeB [] (t.flatMap (·.f1))))
def FitT (t:List (S64)):Prop := ∀ x ∈ t,x.f0.size ≤ 140737488355328 ∧ ∀ h ∈ x.f1,h.size ≤ 140737488355328
theorem slot_hosts {x:S64} (h:slotB x=true):x.f1.length ≤ 8∧1 ≤ x.f1.length:=by
 unfold slotB at h
 simp only [Bool.and_eq_true,decide_eq_true_iff] at h
 exact ⟨h.2.2.2.2,h.2.2.2.1⟩
theorem rd_slot (t:List (S64)) (i:Nat) (h:i < t.length):rd_T64 t (i:Int)=t[i]:=by
 unfold rd_T64
 rw [Int.toNat_natCast,List.getD_eq_getElem?_getD,List.getElem?_eq_getElem h]
 rfl
theorem Right_l0 (t:List (S64)) (hf:FitT t) (hl:t.length ≤ 16) : ∀ (d k i:Nat) (ns hs:List ByteArray),i + d=t.length → d + 42 ≤ k → ns.length ≤ i → hs.length ≤ 8 * i → (∀ s ∈ ns,s.size ≤ 140737488355328) → (∀ s ∈ hs,s.size ≤ 140737488355328) →
 table_Right.l0 k ns hs t (t.length:Int) (i:Int)=some ((t.drop i).all slotB && (unlikeB [] (ns ++ (t.drop i).map (·.f0)) && unlikeB [] (hs ++ (t.drop i).flatMap (·.f1))))
 | d,0,_,_,_,_,h,_,_,_,_=>by omega
 | 0,k + 1,i,ns,hs,h,hk,h1,h2,h3,h4=>by
  have hu : ∀ l:List ByteArray,l.length ≤ 1000 → (∀ s ∈ l,s.size ≤ 140737488355328) → table_unlike_string.f l=some (unlikeB [] l):=fun l hl hs=>by unfold table_unlike_string.f;rw [if_pos ⟨by omega,hs⟩]
  rw [table_Right.l0,if_neg (by omega),hu ns (by omega) h3,Option.bind_some,hu hs (by omega) h4,Option.bind_some,List.drop_of_length_le (by omega)]
  simp only [List.all_nil,List.map_nil,List.flatMap_nil,List.append_nil,Bool.true_and]
  cases unlikeB [] ns <;> rfl
 | d + 1,k + 1,i,ns,hs,h,hk,h1,h2,h3,h4=>by
  have hi:i < t.length:=by omega
  have hm:t[i] ∈ t:=List.getElem_mem hi
  have hw:wrap64 ((i:Int) + 1)=((i + 1:Nat):Int):=by unfold wrap64;omega
  rw [table_Right.l0,if_pos (by omega),if_pos (by omega),if_pos (by omega),rd_slot t i hi,right_f t[i] (hf _ hm).1 (hf _ hm).2 k (by omega),Option.bind_some,List.drop_eq_getElem_cons hi,List.all_cons,List.map_cons,List.flatMap_cons]
  cases hb:slotB t[i]
  ·rfl
  ·have hh:=slot_hosts hb
   rw [if_pos rfl,if_pos (by omega),if_pos (by omega),hw,Right_l0 t hf hl d k (i + 1) _ _ (by omega) (by omega) (by simp only [List.length_append,List.length_cons,List.length_nil];omega) (by rw [List.length_append];omega) (fun s hs_=>by
    rcases List.mem_append.1 hs_ with h5|h5
    ·exact h3 s h5
    ·rw [List.mem_singleton.1 h5];exact (hf _ hm).1) (fun s hs_=>by
    rcases List.mem_append.1 hs_ with h5|h5
    ·exact h4 s h5
    ·exact (hf _ hm).2 s h5),Bool.true_and,List.append_assoc,List.append_assoc,List.singleton_append]
theorem Right_f (t:List (S64)) (hf:FitT t) (k:Nat) (hk:60 ≤ k):table_Right.f k t=some (rightT t):=by
 obtain ⟨m,rfl⟩ : ∃ m,k=m + 1:=⟨k - 1,by omega⟩
 unfold table_Right.f rightT
 by_cases h1:(t.length:Int) < 1
 ·rw [if_pos h1,table_Right.j0,if_pos rfl,decide_eq_false (by omega)]
  rfl
 ·rw [if_neg h1,table_Right.j0]
  by_cases h2:(t.length:Int) > 16
  ·rw [decide_eq_true h2,if_pos rfl,decide_eq_false (by omega)]
   rfl
  ·rw [decide_eq_false h2,if_neg (by simp),decide_eq_true (show 1 ≤ t.length∧t.length ≤ 16 by omega),Bool.true_and]
   exact Right_l0 t hf (by omega) t.length m 0 [] [] (by omega) (by omega) (by simp) (by simp) (by simp) (by simp)
theorem right_all {t:List (S64)} (h:rightT t=true):1 ≤ t.length∧t.length ≤ 16∧t.all slotB=true:=by
 unfold rightT at h
 simp only [Bool.and_eq_true,decide_eq_true_iff] at h
 exact ⟨h.1.1,h.1.2,h.2.1⟩
theorem Text_f (n:Int) (h0 : -9223372036854775808 ≤ n) (h1:n ≤ 9223372036854775807):sign_Text.f n=some ⟨(Lib.itoa n).toArray⟩:=by
 unfold sign_Text.f strconv_FormatInt_86.f strconv_FormatInt_111.f
 rw [if_pos rfl,if_pos ⟨h0,h1⟩]
 rfl
theorem numD_bound (xs:List Int) : ∀ (n v:Int) (B:Int),0 ≤ n → n < B → numL 10 xs n=some v → 0 ≤ v∧v < B * 10 ^ xs.length:=by
 induction xs with
 | nil=>intro n v B h0 h1 h;simp only [numL,Option.some.injEq] at h;subst h;simpa using ⟨h0,h1⟩
 | cons x xs ih =>
  intro n v B h0 h1 h
  rw [numL] at h
  by_cases hd:0 ≤ digV x∧digV x < 10
  ·rw [if_pos hd] at h
   have:=ih _ v (B * 10) (by omega) (by omega) h
   rw [List.length_cons,Int.pow_succ,Int.mul_comm (10 ^ xs.length) 10,← Int.mul_assoc]
   exact this
  ·rw [if_neg hd] at h;cases h
theorem dec_bound (s : ByteArray) : 0 ≤ (numSpec s 10 18).1 ∧ (numSpec s 10 18).1 ≤ 1000000000000000000 := by
  unfold numSpec
  split
  · exact ⟨by decide, by decide⟩
  · rename_i h
    cases hv : numL 10 (bytesOf s) 0 with
    | none => exact ⟨by decide, by decide⟩
    | some v =>
      have := numD_bound (bytesOf s) 0 v 1 (by decide) (by decide) hv
      have hl : (bytesOf s).length ≤ 18 := by rw [bytesOf_length]; omega
      have h2 : (10 : Int) ^ (bytesOf s).length ≤ 10 ^ 18 := by
        have := pow_mono' 10 (by decide) (bytesOf s).length (18 - (bytesOf s).length)
        rwa [show (bytesOf s).length + (18 - (bytesOf s).length) = 18 by omega] at this
      exact ⟨this.1, by simp only; have h3 : (10 : Int) ^ 18 = 1000000000000000000 := by decide
                        omega⟩
/-- The number of a word,as it is told. -/
def numP (w:List UInt8):Option Int:=if (numSpec (mkS w) 10 18).2=true then (if Lib.itoa (numSpec (mkS w) 10 18).1=w then some (numSpec (mkS w) 10 18).1 else none) else none
def numsP:List (List UInt8) → Option (List Int)
 | []=>some []
 | w :: r=>(numP w).bind fun n=>(numsP r).map fun ns=>n :: ns
theorem dec_text (w:List UInt8):sign_Text.f (numSpec (mkS w) 10 18).1=some (mkS (Lib.itoa (numSpec (mkS w) 10 18).1)):=by
 have:=dec_bound (mkS w)
 exact Text_f _ (by omega) (by omega)
theorem slotNs_f (k:Nat) (hk:2000001 ≤ k) : ∀ ws:List (List UInt8),(∀ w ∈ ws,w.length ≤ 1000000) → slotNs k (ws.map mkS)=some (numsP ws)
 | [],_=>rfl
 | w :: r,h=>by
  have hw:=h w (List.mem_cons_self ..)
  rw [List.map_cons,slotNs,Decimal_f (mkS w) (by rw [mkS_size];omega) k (by rw [mkS_size];omega),Option.bind_some,numsP,numP]
  by_cases c:(numSpec (mkS w) 10 18).2=true
  ·rw [if_pos c,if_pos c,dec_text,Option.bind_some,mkS_toList,mkS_toList]
   by_cases e:Lib.itoa (numSpec (mkS w) 10 18).1=w
   ·rw [if_pos e,if_pos e,slotNs_f k hk r (fun x hx=>h x (List.mem_cons_of_mem _ hx)),Option.bind_some,Option.bind_some]
   ·rw [if_neg e,if_neg e,Option.bind_none]
  ·rw [if_neg c,if_neg c,Option.bind_none]
theorem numsP_len : ∀ (ws:List (List UInt8)) (ns:List Int),numsP ws=some ns → ns.length=ws.length
 | [],ns,h=>by injection h with h;rw [← h];rfl
 | w :: r,ns,h=>by
  rw [numsP] at h
  obtain ⟨n,h1,h2⟩:=Option.bind_eq_some_iff.1 h
  obtain ⟨ms,h3,h4⟩:=Option.map_eq_some_iff.1 h2
  rw [← h4,List.length_cons,List.length_cons,numsP_len r ms h3]
def SlotW:List UInt8:=[115,108,111,116]
def mkSlot (ws:List (List UInt8)):List Int → Option (S64)
 | [n0,n1,n2,n3,n4,n5]=>some ⟨mkS (ws.getD 1 []),(ws.drop 8).map mkS,n0,n1,n2,n3,n4,n5⟩
 | _=>none
/-- The slot of a line's words. -/
def slotV (ws:List (List UInt8)):Option (S64):=if ws.length < 8 then none else if ws.getD 0 []=SlotW then (numsP ((ws.drop 2).take 6)).bind (mkSlot ws) else none
def slotP (l:List UInt8):Option (S64):=slotV (pcs 32 l)
def encS:Option (S64) → ByteArray × List ByteArray × Int × Int × Int × Int × Int × Int × Bool
 | none=>slotE
 | some x=>(x.f0,x.f1,x.f2,x.f3,x.f4,x.f5,x.f6,x.f7,true)
theorem rdOf_mkN (ws:List (List UInt8)) (i:Nat):rdOf ByteArray.empty (ws.map mkS) (i:Int)=mkS (ws.getD i []):=by
 unfold rdOf
 rw [Int.toNat_natCast,List.getD_eq_getElem?_getD,List.getD_eq_getElem?_getD,List.getElem?_map]
 cases ws[i]? <;> rfl
theorem six {α:Type} (l:List α) (h:l.length=6) : ∃ a b c d e f,l=[a,b,c,d,e,f]:=by
 match l,h with
 | [a,b,c,d,e,f],_=>exact ⟨a,b,c,d,e,f,rfl⟩
theorem slot_f (l:List UInt8) (hl:l.length ≤ 1000000) (k:Nat) (hk:2000001 ≤ k):table_slot.f k (mkS l)=some (encS (slotP l)):=by
 unfold table_slot.f slotP slotV
 rw [Split_fC (sp:=32) (mkS l) (by rw [mkS_size];omega) k (by rw [mkS_size];omega),Option.bind_some,mkS_data]
 have hle:=pcs_le (sp:=32) l
 have hcl:(pcs 32 l).length ≤ l.length + 1:=by rw [pcs_length];have:=cntC_le (sp:=32) l;omega
 obtain ⟨ws,hws⟩ : ∃ ws,pcs 32 l=ws:=⟨_,rfl⟩
 rw [hws] at hle hcl ⊢
 rw [List.length_map]
 by_cases c8:ws.length < 8
 ·rw [if_pos c8,if_pos c8]
  rfl
 ·rw [if_neg c8,if_neg c8,show (0:Int)=((0:Nat):Int) from rfl,rdOf_mkN,mkS_toList]
  by_cases c0:ws.getD 0 []=SlotW
  ·rw [if_pos c0,if_pos (show ws.getD 0 []=([115,108,111,116]:List UInt8) from c0),← List.map_drop,← List.map_take,slotNs_f k hk _ (fun w hw=>Nat.le_trans (hle w (List.mem_of_mem_drop (List.mem_of_mem_take hw))) (by omega)),Option.bind_some]
   cases hn:numsP ((ws.drop 2).take 6) with
   | none=>rfl
   | some ns =>
    obtain ⟨a,b,c,d,e,f,rfl⟩:=six ns (by rw [numsP_len _ _ hn,List.length_take,List.length_drop];omega)
    dsimp only
    rw [if_pos (by simp only [List.length_drop,List.length_map];omega),show (1:Int)=((1:Nat):Int) from rfl,rdOf_mkN,← List.map_drop]
    rfl
  ·rw [if_neg c0,if_neg (show ¬ ws.getD 0 []=([115,108,111,116]:List UInt8) from c0)]
   rfl
theorem slotP_fit {l:List UInt8} {x:S64} (h:slotP l=some x):x.f0.size ≤ l.length∧(∀ y ∈ x.f1,y.size ≤ l.length)∧x.f1.length ≤ l.length + 1:=by
 have hle:=pcs_le (sp:=32) l
 have hcl:(pcs 32 l).length ≤ l.length + 1:=by rw [pcs_length];have:=cntC_le (sp:=32) l;omega
 unfold slotP slotV at h
 obtain ⟨ws,hws⟩ : ∃ ws,pcs 32 l=ws:=⟨_,rfl⟩
 rw [hws] at hle hcl h
 split at h
 ·cases h
 rename_i c8
 split at h
 rotate_left
 ·cases h
 obtain ⟨ns,hn,h2⟩:=Option.bind_eq_some_iff.1 h
 obtain ⟨a,b,c,d,e,f,rfl⟩:=six ns (by rw [numsP_len _ _ hn,List.length_take,List.length_drop];omega)
 injection h2 with h2
 subst h2
 dsimp only
 refine ⟨?_,fun y hy=>?_,?_⟩
 ·rw [mkS_size,List.getD_eq_getElem?_getD,List.getElem?_eq_getElem (show 1 < ws.length by omega)]
  exact hle _ (List.getElem_mem _)
 ·obtain ⟨w,hw,rfl⟩:=List.mem_map.1 hy
  rw [mkS_size]
  exact hle w (List.mem_of_mem_drop hw)
 ·rw [List.length_map,List.length_drop]
  omega
/-- The slots of a text's lines,the last of them empty. -/
def readPs:List (List UInt8) → Option (List (S64))
 | []=>none
 | p :: []=>if p=[] then some [] else none
 | p :: q :: r=>(slotP p).bind fun x=>(readPs (q :: r)).map fun t=>x :: t
theorem readPs_cons (p:List UInt8) (b:List UInt8):readPs (p :: pcs 10 b)=(slotP p).bind fun x=>(readPs (pcs 10 b)).map fun t=>x :: t:=by
 obtain ⟨q,r,h⟩:=pcs_ne (sp:=10) b
 rw [h]
 rfl
def endT (acc:List (S64)):Option (List (S64)) → List (S64) × Int
 | none=>([],20)
 | some t=>if rightT (acc ++ t)=true then (acc ++ t,0) else ([],60)
/-- What is read of a text. -/
def readR (l:List UInt8):List (S64) × Int:=if l.length > 4096 then ([],2) else endT [] (readPs (pcs 10 l))
theorem read_l0 (n:Nat) : ∀ (k:Nat) (l:List UInt8) (acc:List (S64)),l.length ≤ n → 2000100 + n ≤ k → acc.length + l.length ≤ 5000 → (∀ x ∈ acc,x.f0.size ≤ 5000 ∧ ∀ h ∈ x.f1,h.size ≤ 5000) →
 table_Read.l0 k (mkS l) acc=some (endT acc (readPs (pcs 10 l))):=by
 induction n with
 | zero =>
  intro k l acc hn hk hl hf
  obtain ⟨k,rfl⟩ : ∃ m,k=m + 1:=⟨k - 1,by omega⟩
  obtain rfl:l=[]:=List.length_eq_zero_iff.1 (by omega)
  rw [table_Read.l0,if_pos (mkS_toList []),Right_f acc (fun x hx=>⟨Nat.le_trans (hf x hx).1 (by decide),fun h hh=>Nat.le_trans ((hf x hx).2 h hh) (by decide)⟩) k (by omega),Option.bind_some]
  show _=some (if rightT (acc ++ [])=true then (acc ++ [],0) else ([],60))
  rw [List.append_nil]
  cases rightT acc <;> rfl
 | succ n ih =>
  intro k l acc hn hk hl hf
  by_cases h0:l.length ≤ n
  ·exact ih k l acc h0 (by omega) hl hf
  obtain ⟨k,rfl⟩ : ∃ m,k=m + 1:=⟨k - 1,by omega⟩
  have hne:l ≠ []:=fun e=>by rw [e] at h0;simp at h0
  rw [table_Read.l0,if_neg (by rw [mkS_toList];exact hne)]
  rcases split_first 10 l with hno|⟨a,b,rfl,hno⟩
  ·rw [Cut_no 10 l hno,Option.bind_some]
   dsimp only
   rw [slot_f l (by omega) k (by omega),Option.bind_some,if_neg (by simp),pcs_none l hno]
   show _=some (endT acc (if l=[] then some [] else none))
   rw [if_neg hne]
   rfl
  ·have hlen:(a ++ 10 :: b).length=a.length + b.length + 1:=by rw [List.length_append,List.length_cons];omega
   rw [Cut_yes 10 a b hno (by omega),Option.bind_some]
   dsimp only
   rw [slot_f a (by omega) k (by omega),Option.bind_some,if_pos rfl,pcs_append,pcs_none a hno,List.singleton_append,readPs_cons]
   cases hs:slotP a with
   | none=>rfl
   | some x =>
    have hx:=slotP_fit hs
    show (if true=true then (if acc.length < 1599289640401 then table_Read.l0 k (mkS b) (acc ++ [x]) else none) else some ([],20))=_
    rw [if_pos rfl,if_pos (by omega),ih k b (acc ++ [x]) (by omega) (by omega) (by simp only [List.length_append,List.length_singleton];omega) (fun y hy=>by
     rcases List.mem_append.1 hy with hy|hy
     ·exact hf y hy
     ·rw [List.mem_singleton.1 hy]
      exact ⟨by omega,fun h hh=>by have:=hx.2.1 h hh;omega⟩)]
    show some (endT (acc ++ [x]) (readPs (pcs 10 b)))=some (endT acc ((readPs (pcs 10 b)).map fun t=>x :: t))
    cases readPs (pcs 10 b) with
    | none=>rfl
    | some t =>
     show some (if rightT ((acc ++ [x]) ++ t)=true then ((acc ++ [x]) ++ t,0) else ([],60))=some (if rightT (acc ++ (x :: t))=true then (acc ++ (x :: t),0) else ([],60))
     rw [List.append_assoc,List.singleton_append]
set_option maxRecDepth 100000 in
theorem Read_f (l:List UInt8) (k:Nat) (hk:3000000 ≤ k):table_Read.f k (mkS l)=some (readR l):=by
 unfold table_Read.f readR
 rw [mkS_size]
 by_cases c:(l.length:Int) > 4096
 ·rw [if_pos c,if_pos (by omega)]
 ·rw [if_neg c,if_neg (by omega)]
  exact read_l0 4096 k l [] (by omega) (by omega) (by simp only [List.length_nil];omega) (fun x hx=>by cases hx)
/-- The decimal digits,as numbers. -/
def decI (u:Nat):List Int:=(Lib.decDigits u).map fun b=>(b.toNat:Int)
theorem decI_small (u:Nat) (h:u < 10):decI u=[48 + (u:Int)]:=by
 unfold decI
 rw [Lib.decDigits_one h,List.map_cons,List.map_nil]
 congr 1
 rw [UInt8.toNat_ofNat']
 omega
theorem decI_big (u:Nat) (h:10 ≤ u):decI u=decI (u / 10) ++ [48 + ((u % 10:Nat):Int)]:=by
 unfold decI
 rw [Lib.decDigits,dif_neg (by omega),List.map_append,List.map_cons,List.map_nil]
 congr 2
 rw [UInt8.toNat_ofNat']
 omega
theorem dec_str (u:Nat):(⟨(Lib.decDigits u).toArray⟩:ByteArray)=strOfNums (decI u):=by
 unfold decI strOfNums
 congr 2
 rw [List.map_map]
 conv=>lhs;rw [← List.map_id (Lib.decDigits u)]
 exact List.map_congr_left fun b _=>by simp
theorem dec_len (d:Nat) : ∀ u,u < 10 ^ (d + 1) → 1 ≤ (decI u).length∧(decI u).length ≤ d + 1:=by
 induction d with
 | zero=>intro u h;rw [decI_small u (by simpa using h)];simp
 | succ d ih =>
  intro u h
  by_cases h1:u < 10
  ·rw [decI_small u h1];simp
  ·have h2:u / 10 < 10 ^ (d + 1):=(Nat.div_lt_iff_lt_mul (by decide)).2 (by rwa [← Nat.pow_succ])
   have:=ih _ h2
   rw [decI_big u (by omega),List.length_append]
   simp
   omega
theorem str_ne (xs:List Int) (h:xs ≠ []) : ¬ ((strOfNums xs).toList=[]):=by
 intro e
 rw [toList_data] at e
 have:=data_length (strOfNums xs)
 rw [e,str_size] at this
 exact h (List.eq_nil_of_length_eq_zero this.symm)
theorem refText_step (k u:Nat) (xs:List Int) (hx:xs.length ≤ 100) (hu:u ≤ 9223372036854775807) (hp:xs=[] ∨ 0 < u) :
 ∀ R,tollbarref02_Text.l0 k ((u / 10:Nat):Int) (strOfNums ((48 + ((u % 10:Nat):Int)) :: xs))=R → tollbarref02_Text.l0 (k + 1) (u:Int) (strOfNums xs)=R:=by
 intro R hR
 have e1:Int.tmod (u:Int) 10=((u % 10:Nat):Int):=by rw [Int.tmod_eq_emod_of_nonneg (by omega)];omega
 have e2:Int.tdiv (u:Int) 10=((u / 10:Nat):Int):=by rw [Int.tdiv_eq_ediv_of_nonneg (by omega)];omega
 have e3:wrap64 (48 + ((u % 10:Nat):Int)) % 256=48 + ((u % 10:Nat):Int):=by unfold wrap64;omega
 have e4:wrap64 ((u / 10:Nat):Int)=((u / 10:Nat):Int):=by unfold wrap64;omega
 have e5:strOfNums [48 + ((u % 10:Nat):Int)] ++ strOfNums xs=strOfNums ((48 + ((u % 10:Nat):Int)) :: xs):=by rw [← str_append];rfl
 have e6:(strOfNums [48 + ((u % 10:Nat):Int)]).size + (strOfNums xs).size ≤ 9223372036854775807:=by rw [str_size,str_size,List.length_singleton];omega
 simp only [tollbarref02_Text.l0]
 rw [e1,e2,e3,e4,Option.bind_some,if_pos e6,e5,hR]
 rcases hp with hp|hp
 ·rw [if_pos (by rw [hp,toList_data];rfl)]
 ·rw [if_pos (show (u:Int) > 0 by omega)]
  split <;> rfl
theorem refText_end (k:Nat) (xs:List Int) (hx:xs ≠ []):tollbarref02_Text.l0 (k + 1) 0 (strOfNums xs)=some (strOfNums xs):=by
 simp only [tollbarref02_Text.l0]
 rw [if_neg (str_ne xs hx),if_neg (by decide)]
theorem refText_l0 (d:Nat) : ∀ (k u:Nat) (xs:List Int),u < 10 ^ d → d + 1 ≤ k → u ≤ 9223372036854775807 → xs.length + d ≤ 100 → xs ≠ [] →
 tollbarref02_Text.l0 k (u:Int) (strOfNums xs)=some (strOfNums ((if u=0 then [] else decI u) ++ xs)):=by
 induction d with
 | zero =>
  intro k u xs hu hk hb hx hne
  obtain ⟨k,rfl⟩ : ∃ m,k=m + 1:=⟨k - 1,by omega⟩
  obtain rfl:u=0:=by simpa using hu
  rw [if_pos rfl]
  exact refText_end k xs hne
 | succ d ih =>
  intro k u xs hu hk hb hx hne
  obtain ⟨k,rfl⟩ : ∃ m,k=m + 1:=⟨k - 1,by omega⟩
  by_cases h0:u=0
  ·subst h0
   rw [if_pos rfl]
   exact refText_end k xs hne
  ·refine refText_step k u xs (by omega) hb (Or.inr (by omega)) _ ?_
   have h2:u / 10 < 10 ^ d:=(Nat.div_lt_iff_lt_mul (by decide)).2 (by rwa [← Nat.pow_succ])
   rw [ih k (u / 10) _ h2 (by omega) (by omega) (by rw [List.length_cons];omega) (by simp),if_neg h0]
   by_cases h1:u < 10
   ·rw [if_pos (by omega),decI_small u h1,show u % 10=u by omega]
    rfl
   ·rw [if_neg (by omega),decI_big u (by omega),List.append_assoc]
    rfl
theorem refText_nat (k u:Nat) (hk:30 ≤ k) (hu:u ≤ 9223372036854775807):tollbarref02_Text.l0 k (u:Int) (⟨#[]⟩:ByteArray)=some (strOfNums (decI u)):=by
 obtain ⟨k,rfl⟩ : ∃ m,k=m + 1:=⟨k - 1,by omega⟩
 have hs:(⟨#[]⟩:ByteArray)=strOfNums []:=rfl
 rw [hs]
 refine refText_step k u [] (by simp) hu (Or.inl rfl) _ ?_
 have h3:(10:Nat) ^ 19=10000000000000000000:=by decide
 rw [refText_l0 19 k (u / 10) _ (by omega) (by omega) (by omega) (by simp) (by simp)]
 by_cases h1:u < 10
 ·rw [if_pos (by omega),decI_small u h1,show u % 10=u by omega]
  rfl
 ·rw [if_neg (by omega),decI_big u (by omega)]
theorem itoa_least:(⟨(Lib.itoa (-9223372036854775808)).toArray⟩:ByteArray)=⟨#[45,57,50,50,51,51,55,50,48,51,54,56,53,52,55,55,53,56,48,56]⟩:=by
 simp [Lib.itoa,Lib.decDigits]
theorem refText_f (k : Nat) (hk : 60 ≤ k) (n : Int) (h0 : -9223372036854775808 ≤ n) (h1 : n ≤ 9223372036854775807) : tollbarref02_Text.f k n = sign_Text.f n := by
  rw [Text_f n h0 h1]
  obtain ⟨k, rfl⟩ : ∃ m, k = m + 2 := ⟨k - 2, by omega⟩
  by_cases hm : n = -9223372036854775808
  · subst hm
    rw [tollbarref02_Text.f, if_pos rfl, itoa_least]
  · by_cases h : n < 0
    · have hw : wrap64 (-n) = ((n.natAbs : Nat) : Int) := by unfold wrap64; omega
      have hi : Lib.itoa n = 45 :: Lib.decDigits n.natAbs := by unfold Lib.itoa; rw [if_pos h]
      rw [tollbarref02_Text.f, if_neg hm, if_pos h, hw, tollbarref02_Text.f, if_neg (by omega), if_neg (by omega), refText_nat k n.natAbs (by omega) (by omega), Option.bind_some]
      have hl := dec_len 18 n.natAbs (by have : (10 : Nat) ^ 19 = 10000000000000000000 := by decide
                                         show n.natAbs < 10 ^ 19; omega)
      rw [if_pos (by rw [str_size]; omega), ← dec_str, hi]
      congr 1
    · have hi : Lib.itoa n = Lib.decDigits n.toNat := by unfold Lib.itoa; rw [if_neg h]
      have := refText_nat (k + 1) n.toNat (by omega) (by omega)
      rw [show ((n.toNat : Nat) : Int) = n by omega] at this
      rw [tollbarref02_Text.f, if_neg hm, if_neg h, this, hi, dec_str]
theorem refWords_l0 (l:List UInt8) (hn:l.length ≤ 4398046511100) (d:Nat) : ∀ (k:Nat) (out:List ByteArray) (f i:Nat),f ≤ i → i + d=l.length → 32 ∉ (l.drop f).take (i - f) → out.length ≤ i → d + 2 ≤ k →
 tollbarref09_Words.l0 k (mkS l) out f i=some (out ++ (pcs 32 (l.drop f)).map mkS):=by
 induction d with
 | zero =>
  intro k out f i hf hi hs ho hk
  obtain ⟨k,rfl⟩ : ∃ m,k=m + 2:=⟨k - 2,by omega⟩
  have hz:(mkS l).size=l.length:=mkS_size l
  have hw:wrap64 ((i:Int) + 1)=(i:Int) + 1:=wn1 i (by omega)
  have ht:(l.drop f).take (i - f)=l.drop f:=List.take_of_length_le (by rw [List.length_drop];omega)
  simp only [tollbarref09_Words.l0]
  rw [hz,if_pos (by omega),if_pos (by omega),if_pos (by omega),if_pos (by omega),if_pos (by omega),hw,if_neg (by omega),Int.toNat_natCast,Int.toNat_natCast,mkS_extract,ht]
  rw [ht] at hs
  rw [pcs_none _ hs]
  rfl
 | succ d ih =>
  intro k out f i hf hi hs ho hk
  obtain ⟨k,rfl⟩ : ∃ m,k=m + 1:=⟨k - 1,by omega⟩
  have hlt:i < l.length:=by omega
  have hz:(mkS l).size=l.length:=mkS_size l
  have hw:wrap64 ((i:Int) + 1)=((i + 1:Nat):Int):=by rw [wn1 i (by omega)];omega
  obtain ⟨e1,e2⟩:=seg_split l f i hf hlt
  have ih1:=fun o (h:o.length ≤ i + 1)=>ih k o (i + 1) (i + 1) (Nat.le_refl _) (by omega) (by simp) h (by omega)
  have ih2:=fun h=>ih k out f (i + 1) (by omega) (by omega) h (by omega) (by omega)
  simp only [tollbarref09_Words.l0]
  rw [hz,if_pos (by omega),if_neg (by omega),if_pos (by omega),if_pos (by omega),bt_mk l i hlt,hw]
  by_cases hc:l[i]=32
  ·have hb:((l[i]).toNat:Int)=32:=by rw [hc];rfl
   rw [if_pos hb,if_pos (by omega),if_pos (by omega),if_pos (by omega),Int.toNat_natCast,Int.toNat_natCast,mkS_extract,ih1 _ (by rw [List.length_append];simp;omega)]
   have e3:pcs 32 (l.drop f)=pcs 32 ((l.drop f).take (i - f)) ++ pcs 32 (l.drop (i + 1)):=by
    rw [← pcs_append]
    congr 1
    rw [← hc]
    exact e1
   rw [e3,pcs_none _ hs]
   simp
  ·have hb : ¬ ((l[i]).toNat:Int)=32:=fun e=>hc (UInt8.toNat_inj.1 (by show _=32;omega))
   rw [if_neg hb]
   refine ih2 ?_
   rw [e2]
   intro hm
   rcases List.mem_append.1 hm with hm|hm
   ·exact hs hm
   ·exact hc (List.mem_singleton.1 hm).symm
theorem refWords_f (l:List UInt8) (hn:l.length ≤ 4398046511100) (k:Nat) (hk:l.length + 2 ≤ k):tollbarref09_Words.f k (mkS l)=some ((pcs 32 l).map mkS):=by
 have:=refWords_l0 l hn l.length k [] 0 0 (Nat.le_refl _) (by omega) (by simp) (by simp) (by omega)
 unfold tollbarref09_Words.f
 rw [show ((0:Nat):Int)=0 from rfl] at this
 rw [this]
 rfl
/-- The lines of a text,and whether all of it is lines. -/
def dropL (ps:List (List UInt8)):List (List UInt8):=ps.dropLast
theorem dropL_cons (p:List UInt8) (b:List UInt8):dropL (p :: pcs 10 b)=p :: dropL (pcs 10 b):=by
 obtain ⟨q,r,h⟩:=pcs_ne (sp:=10) b
 unfold dropL
 rw [h]
 rfl
def lastE (ps:List (List UInt8)):Bool:=match ps.getLast? with|some p=>p.isEmpty|none=>false
theorem lastE_cons (p:List UInt8) (b:List UInt8):lastE (p :: pcs 10 b)=lastE (pcs 10 b):=by
 obtain ⟨q,r,h⟩:=pcs_ne (sp:=10) b
 unfold lastE
 rw [h]
 simp [List.getLast?_cons_cons]
theorem refLines_l0 (l:List UInt8) (hn:l.length ≤ 4398046511100) (d:Nat) : ∀ (k:Nat) (out:List ByteArray) (f i:Nat),f ≤ i → i + d=l.length → 10 ∉ (l.drop f).take (i - f) → out.length ≤ i → d + 1 ≤ k →
 tollbarref09_Lines.l0 k (mkS l) out f i=some (out ++ (dropL (pcs 10 (l.drop f))).map mkS,lastE (pcs 10 (l.drop f))):=by
 induction d with
 | zero =>
  intro k out f i hf hi hs ho hk
  obtain ⟨k,rfl⟩ : ∃ m,k=m + 1:=⟨k - 1,by omega⟩
  have hz:(mkS l).size=l.length:=mkS_size l
  have ht:(l.drop f).take (i - f)=l.drop f:=List.take_of_length_le (by rw [List.length_drop];omega)
  rw [ht] at hs
  rw [tollbarref09_Lines.l0,hz,if_neg (by omega),pcs_none _ hs]
  have e:lastE [l.drop f]=((f:Int) == (l.length:Int)):=by
   show (l.drop f).isEmpty=_
   rw [Bool.eq_iff_iff,List.isEmpty_iff,beq_iff_eq,List.drop_eq_nil_iff]
   omega
  rw [e]
  simp [dropL]
 | succ d ih =>
  intro k out f i hf hi hs ho hk
  obtain ⟨k,rfl⟩ : ∃ m,k=m + 1:=⟨k - 1,by omega⟩
  have hlt:i < l.length:=by omega
  have hz:(mkS l).size=l.length:=mkS_size l
  have hw:wrap64 ((i:Int) + 1)=((i + 1:Nat):Int):=by rw [wn1 i (by omega)];omega
  obtain ⟨e1,e2⟩:=seg_split l f i hf hlt
  rw [tollbarref09_Lines.l0,hz,if_pos (by omega),if_pos (by omega),bt_mk l i hlt,hw]
  by_cases hc:l[i]=10
  ·have hb:((l[i]).toNat:Int)=10:=by rw [hc];rfl
   rw [if_pos hb,if_pos (by omega),if_pos (by omega),if_pos (by omega),if_pos (by omega),Int.toNat_natCast,Int.toNat_natCast,mkS_extract,ih k _ (i + 1) (i + 1) (Nat.le_refl _) (by omega) (by simp) (by rw [List.length_append];simp;omega) (by omega)]
   have e3:pcs 10 (l.drop f)=(l.drop f).take (i - f) :: pcs 10 (l.drop (i + 1)):=by
    rw [← List.singleton_append,← pcs_none _ hs,← pcs_append]
    congr 1
    rw [← hc]
    exact e1
   rw [e3,dropL_cons,lastE_cons]
   simp
  ·have hb : ¬ ((l[i]).toNat:Int)=10:=fun e=>hc (UInt8.toNat_inj.1 (by show _=10;omega))
   rw [if_neg hb]
   refine ih k out f (i + 1) (by omega) (by omega) ?_ (by omega) (by omega)
   rw [e2]
   intro hm
   rcases List.mem_append.1 hm with hm|hm
   ·exact hs hm
   ·exact hc (List.mem_singleton.1 hm).symm
theorem refLines_f (l:List UInt8) (hn:l.length ≤ 4398046511100) (k:Nat) (hk:l.length + 1 ≤ k):tollbarref09_Lines.f k (mkS l)=some ((dropL (pcs 10 l)).map mkS,lastE (pcs 10 l)):=by
 have:=refLines_l0 l hn l.length k [] 0 0 (Nat.le_refl _) (by omega) (by simp) (by simp) (by omega)
 rw [List.nil_append,List.drop_zero] at this
 exact this
def readLs:List (List UInt8) → Option (List (S64))
 | []=>some []
 | p :: r=>(slotP p).bind fun x=>(readLs r).map fun t=>x :: t
theorem readPs_eq : ∀ ps:List (List UInt8),readPs ps=if lastE ps=true then readLs (dropL ps) else none
 | []=>rfl
 | [p]=>by
  unfold readPs lastE dropL
  cases p <;> rfl
 | p :: q :: r=>by
  rw [readPs,readPs_eq (q :: r)]
  have e1:lastE (p :: q :: r)=lastE (q :: r):=by unfold lastE;rw [List.getLast?_cons_cons]
  rw [e1]
  by_cases c:lastE (q :: r)=true
  ·rw [if_pos c,if_pos c]
   rfl
  ·rw [if_neg c,if_neg c]
   cases slotP p <;> rfl
theorem refNumber_f (w:List UInt8) (hw:w.length ≤ 1000000) (k:Nat) (hk:100 ≤ k) : ∃ n,tollbarref09_Number.f k (mkS w)=some (n,(numP w).isSome) ∧ ∀ v,numP w=some v → n=v:=by
 refine ⟨(numSpec (mkS w) 10 18).1,?_,?_⟩
 ·have hb:=dec_bound (mkS w)
  unfold tollbarref09_Number.f numP
  rw [refDecimal_f (mkS w) k (by omega) (by rw [mkS_size];omega),Option.bind_some]
  by_cases c:(numSpec (mkS w) 10 18).2=true
  ·rw [if_pos c,if_pos c,refText_f k (by omega) _ (by omega) (by omega),dec_text,Option.bind_some,mkS_toList,mkS_toList]
   by_cases e:Lib.itoa (numSpec (mkS w) 10 18).1=w
   ·rw [if_pos e,beq_iff_eq.2 e]
    rfl
   ·rw [if_neg e,beq_eq_false_iff_ne.2 e]
    rfl
  ·rw [if_neg c,if_neg c]
   rfl
 ·intro v h
  unfold numP at h
  split at h
  ·split at h
   ·injection h
   ·cases h
  ·cases h
theorem numsP_six (a b c d e f:List UInt8):numsP [a,b,c,d,e,f]=(numP a).bind fun x0=>(numP b).bind fun x1=>(numP c).bind fun x2=>(numP d).bind fun x3=>(numP e).bind fun x4=>(numP f).bind fun x5=>some [x0,x1,x2,x3,x4,x5]:=by
 simp only [numsP]
 cases numP a <;> cases numP b <;> cases numP c <;> cases numP d <;> cases numP e <;> cases numP f <;> rfl
theorem refRead_j1 (k:Nat) (hk:1000 ≤ k) (ls:List ByteArray) (out:List (S64)) (i:Nat) (hi:i < 10000) (ho:out.length ≤ 10000) (ws:List (List UInt8)) (h8:8 ≤ ws.length) (hle : ∀ w ∈ ws,w.length ≤ 1000000) (R:Option (List (S64) × Int))
 (hR : ∀ x,(numsP ((ws.drop 2).take 6)).bind (mkSlot ws)=some x → tollbarref09_Read.l0 k ls (out ++ [x]) ((i + 1:Nat):Int)=R) :
 tollbarref09_Read.j1 (k + 1) ls out (i:Int) (ws.map mkS) false=if ((numsP ((ws.drop 2).take 6)).bind (mkSlot ws)).isSome=true then R else some ([],20):=by
 have hr : ∀ j:Nat,rdOf ByteArray.empty (ws.map mkS) (j:Int)=mkS (ws.getD j []):=fun j=>rdOf_mkN ws j
 have hlen : ∀ j:Nat,(ws.getD j []).length ≤ 1000000:=fun j=>by
  rw [List.getD_eq_getElem?_getD]
  by_cases hj:j < ws.length
  ·rw [List.getElem?_eq_getElem hj]
   exact hle _ (List.getElem_mem hj)
  ·rw [List.getElem?_eq_none (by omega)]
   simp
 have hw:wrap64 ((i:Int) + 1)=((i + 1:Nat):Int):=by unfold wrap64;omega
 have hd:(ws.map mkS).drop 8=(ws.drop 8).map mkS:=(List.map_drop ..).symm
 have hsix:(ws.drop 2).take 6=[ws.getD 2 [],ws.getD 3 [],ws.getD 4 [],ws.getD 5 [],ws.getD 6 [],ws.getD 7 []]:=by
  match ws,h8 with
  | w0 :: w1 :: w2 :: w3 :: w4 :: w5 :: w6 :: w7 :: r,_=>rfl
 obtain ⟨n2,a2,b2⟩:=refNumber_f (ws.getD 2 []) (hlen 2) k (by omega)
 obtain ⟨n3,a3,b3⟩:=refNumber_f (ws.getD 3 []) (hlen 3) k (by omega)
 obtain ⟨n4,a4,b4⟩:=refNumber_f (ws.getD 4 []) (hlen 4) k (by omega)
 obtain ⟨n5,a5,b5⟩:=refNumber_f (ws.getD 5 []) (hlen 5) k (by omega)
 obtain ⟨n6,a6,b6⟩:=refNumber_f (ws.getD 6 []) (hlen 6) k (by omega)
 obtain ⟨n7,a7,b7⟩:=refNumber_f (ws.getD 7 []) (hlen 7) k (by omega)
 have r1:=hr 1
 have r2:=hr 2
 have r3:=hr 3
 have r4:=hr 4
 have r5:=hr 5
 have r6:=hr 6
 have r7:=hr 7
 rw [hsix,numsP_six] at hR ⊢
 rw [tollbarref09_Read.j1,if_neg (by simp),List.length_map,if_pos (by omega),if_pos (by omega),if_pos (by omega)]
 rw [show (2:Int)=((2:Nat):Int) from rfl,r2,a2,Option.bind_some,if_pos (by omega)]
 rw [show (3:Int)=((3:Nat):Int) from rfl,r3,a3,Option.bind_some,if_pos (by omega)]
 rw [show (4:Int)=((4:Nat):Int) from rfl,r4,a4,Option.bind_some,if_pos (by omega)]
 rw [show (5:Int)=((5:Nat):Int) from rfl,r5,a5,Option.bind_some,if_pos (by omega)]
 rw [show (6:Int)=((6:Nat):Int) from rfl,r6,a6,Option.bind_some,if_pos (by omega)]
 rw [show (7:Int)=((7:Nat):Int) from rfl,r7,a7,Option.bind_some,show (1:Int)=((1:Nat):Int) from rfl,r1,hd]
 cases c2:numP (ws.getD 2 []) with
 | none=>rfl
 | some x2 =>
  cases c3:numP (ws.getD 3 []) with
  | none=>rfl
  | some x3 =>
   cases c4:numP (ws.getD 4 []) with
   | none=>rfl
   | some x4 =>
    cases c5:numP (ws.getD 5 []) with
    | none=>rfl
    | some x5 =>
     cases c6:numP (ws.getD 6 []) with
     | none=>rfl
     | some x6 =>
      cases c7:numP (ws.getD 7 []) with
      | none=>rfl
      | some x7 =>
       rw [c2,c3,c4,c5,c6,c7] at hR
       have h:=hR ⟨mkS (ws.getD 1 []),(ws.drop 8).map mkS,x2,x3,x4,x5,x6,x7⟩ rfl
       rw [b2 x2 c2,b3 x3 c3,b4 x4 c4,b5 x5 c5,b6 x6 c6,b7 x7 c7]
       simp only [Option.isSome_some,if_true]
       rw [if_pos (by omega),show ((1:Nat):Int)=1 from rfl] at *
       rw [hw]
       exact h
theorem refName_step (k:Nat) (s:ByteArray) (i:Nat) (h1:1 ≤ i) (hi:i < s.size) (hs:s.size ≤ 140737488355328):tollbarref09_Name.l0 (k + 1) s (i:Int)=if nameC (bt s i)=true then tollbarref09_Name.l0 k s ((i + 1:Nat):Int) else some false:=by
 have hw:wrap64 ((i:Int) + 1)=((i + 1:Nat):Int):=by unfold wrap64;omega
 rw [tollbarref09_Name.l0,if_pos (by omega),if_pos (by omega),refDigit_f,hw,Option.bind_some]
 obtain ⟨c,hc⟩ : ∃ c,bt s i=c:=⟨_,rfl⟩
 rw [hc]
 unfold nameC
 simp only [Bool.or_eq_true,decide_eq_true_eq]
 repeat' split
 all_goals first|rfl|(exfalso;omega)
theorem refName_end (k:Nat) (s:ByteArray) (i:Nat) (h:i=s.size):tollbarref09_Name.l0 (k + 1) s (i:Int)=some (decide (1 ≤ s.size∧s.size ≤ 30)):=by
 rw [tollbarref09_Name.l0,if_neg (by omega)]
 by_cases h1:(s.size:Int) ≥ 1
 ·rw [if_pos h1]
  congr 1
  rw [decide_eq_decide]
  omega
 ·rw [if_neg h1,decide_eq_false (by omega)]
theorem refName_l0 (s:ByteArray) (hs:s.size ≤ 140737488355328) : ∀ (d k i:Nat),i + d=s.size → d < k → 1 ≤ i → tollbarref09_Name.l0 k s (i:Int)=some (nameR s d i && decide (1 ≤ s.size∧s.size ≤ 30))
 | d,0,_,_,h,_=>by omega
 | 0,k + 1,i,h,_,_=>by rw [refName_end k s i (by omega),nameR,Bool.true_and]
 | d + 1,k + 1,i,h,hk,h1=>by
  rw [refName_step k s i h1 (by omega) hs,refName_l0 s hs d k (i + 1) (by omega) (by omega) (by omega),nameR]
  cases nameC (bt s i) <;> rfl
theorem refName_f (s:ByteArray) (hs:s.size ≤ 140737488355328) (k:Nat) (hk:s.size + 2 ≤ k):tollbarref09_Name.f k s=some (tblName s):=by
 obtain ⟨m,rfl⟩ : ∃ m,k=m + 1:=⟨k - 1,by omega⟩
 unfold tollbarref09_Name.f tblName
 by_cases h0:s.size=0
 ·rw [show (0:Int)=((0:Nat):Int) from rfl,refName_end m s 0 h0.symm,decide_eq_false (by omega)]
  rfl
 ·obtain ⟨d,hd⟩ : ∃ d,s.size=d + 1:=⟨s.size - 1,by omega⟩
  rw [tollbarref09_Name.l0,if_pos (by omega),if_pos (by omega)]
  have hw:wrap64 ((0:Int) + 1)=((0 + 1:Nat):Int):=by unfold wrap64;omega
  rw [hw,refName_l0 s hs d m (0 + 1) (by omega) (by omega) (by omega),hd,nameR,← hd]
  obtain ⟨c,hc⟩ : ∃ c,bt s 0=c:=⟨_,rfl⟩
  have hc' : bt s ((0:Nat):Int)=c:=hc
  rw [hc,hc']
  by_cases h1:c ≥ 97
  ·rw [if_pos h1]
   by_cases h2:c ≤ 122
   ·rw [if_pos h2,decide_eq_true (show 97 ≤ c∧c ≤ 122 from ⟨h1,h2⟩)]
    have:nameC c=true:=by unfold nameC;rw [decide_eq_true (show 97 ≤ c∧c ≤ 122 from ⟨h1,h2⟩)];rfl
    rw [this,Bool.true_and,Bool.true_and,Bool.and_comm]
   ·rw [if_neg h2,decide_eq_false (show ¬ (97 ≤ c∧c ≤ 122) from fun h=>h2 h.2),Bool.false_and,Bool.and_false,if_pos rfl]
  ·rw [if_neg h1,decide_eq_false (show ¬ (97 ≤ c∧c ≤ 122) from fun h=>h1 h.1),Bool.false_and,Bool.and_false,if_pos rfl]
theorem refHostB (h:ByteArray) (hs:h.size ≤ 140737488355327) (k:Nat) (hk:4 * h.size + 20 ≤ k) (R:Option Bool):((tollbarref05_Host.f k h).bind fun bt=>if bt.2=true then (if bt.1.toList=h.toList then R else some false) else some false)=if hostB h=true then R else some false:=by
 have e:=refHost_f h.data.toList (by rw [data_length];exact hs) k (by rw [data_length];exact hk)
 obtain ⟨u,hu⟩:=Host_some h.data.toList (by rw [data_length];omega)
 rw [mkS_self] at hu e
 have hB:hostB h=((hostEnd (mkS u)).2 && ((hostEnd (mkS u)).1.toList == h.toList)):=by
  unfold hostB
  rw [hu]
 rw [e,hu,Option.bind_some,hB]
 by_cases hb:(hostEnd (mkS u)).2=true
 rotate_left
 ·rw [if_neg hb,Bool.eq_false_iff.2 hb,Bool.false_and,if_neg (by simp)]
 ·rw [if_pos hb,hb,Bool.true_and]
  by_cases he:(hostEnd (mkS u)).1.toList=h.toList
  ·rw [if_pos he,if_pos (beq_iff_eq.2 he)]
  ·rw [if_neg he,if_neg (fun h2=>he (beq_iff_eq.1 h2))]
def AskT:Nat:=1000000000000000
theorem one_l1 (x:S64) (hh : ∀ h ∈ x.f1,h.size ≤ 140737488351232) (h8:x.f1.length ≤ 8) : ∀ (d k i:Nat),i + d=x.f1.length → 600000000000000 + d < k → tollbarref09_One.l1 k (i:Int) x.f0 x.f1 x.f2 x.f3 x.f4 x.f5 x.f6 x.f7=some ((x.f1.drop i).all hostB)
 | d,0,_,_,h=>by omega
 | 0,k + 1,i,h,_=>by
  rw [tollbarref09_One.l1,if_neg (by omega),List.drop_of_length_le (by omega)]
  rfl
 | d + 1,k + 1,i,h,hk=>by
  have hi:i < x.f1.length:=by omega
  have hw:wrap64 ((i:Int) + 1)=((i + 1:Nat):Int):=by unfold wrap64;omega
  have hr:rdOf ByteArray.empty x.f1 (i:Int)=x.f1[i]:=by simp [rdOf,List.getD_eq_getElem?_getD,List.getElem?_eq_getElem hi]
  have hz:=hh _ (List.getElem_mem hi)
  rw [tollbarref09_One.l1,if_pos (by omega),if_pos (by omega),hr,hw,refHostB x.f1[i] (by omega) k (by omega),one_l1 x hh h8 d k (i + 1) (by omega) (by omega),List.drop_eq_getElem_cons hi,List.all_cons]
  cases hostB x.f1[i] <;> rfl
theorem one_step (k:Nat) (ms ns:List Int) (i:Nat) (hi:i < 6) (hm:ms.length=6) (hn:ns.length=6) (x:S64):tollbarref09_One.l0 (k + 1) ms ns (i:Int) x.f0 x.f1 x.f2 x.f3 x.f4 x.f5 x.f6 x.f7=if numB (rd ns i) 1 (rd ms i)=true then tollbarref09_One.l0 k ms ns ((i + 1:Nat):Int) x.f0 x.f1 x.f2 x.f3 x.f4 x.f5 x.f6 x.f7 else some false:=by
 have hw:wrap64 ((i:Int) + 1)=((i + 1:Nat):Int):=by unfold wrap64;omega
 rw [tollbarref09_One.l0,if_pos (by omega),if_pos (by omega),if_pos (by omega)]
 unfold numB
 by_cases a:rd ns (i:Int) < 1
 ·rw [if_pos a,decide_eq_false (by omega),if_neg (by simp)]
 ·rw [if_neg a,if_pos (by omega),hw]
  by_cases b:rd ns (i:Int) > rd ms (i:Int)
  ·rw [if_pos b,decide_eq_false (by omega),if_neg (by simp)]
  ·rw [if_neg b,decide_eq_true (by omega),if_pos rfl]
theorem one_f (x:S64) (h0:x.f0.size ≤ 140737488351232) (hh : ∀ h ∈ x.f1,h.size ≤ 140737488351232) (k:Nat) (hk:AskT ≤ k):tollbarref09_One.f k x.f0 x.f1 x.f2 x.f3 x.f4 x.f5 x.f6 x.f7=some (slotB x):=by
 unfold AskT at hk
 obtain ⟨m,rfl⟩ : ∃ m,k=m + 8:=⟨k - 8,by omega⟩
 unfold tollbarref09_One.f tollbarref09_numbers.f
 rw [Option.bind_some,show (0:Int)=((0:Nat):Int) from rfl,one_step (m + 7) _ _ 0 (by omega) rfl rfl,one_step (m + 6) _ _ (0 + 1) (by omega) rfl rfl,one_step (m + 5) _ _ (0 + 1 + 1) (by omega) rfl rfl,one_step (m + 4) _ _ (0 + 1 + 1 + 1) (by omega) rfl rfl,one_step (m + 3) _ _ (0 + 1 + 1 + 1 + 1) (by omega) rfl rfl,one_step (m + 2) _ _ (0 + 1 + 1 + 1 + 1 + 1) (by omega) rfl rfl]
 have e:tollbarref09_One.l0 (m + 2) [1048576,64,64,1048576,1048576,1048576] [x.f2,x.f3,x.f4,x.f5,x.f6,x.f7] ((0 + 1 + 1 + 1 + 1 + 1 + 1:Nat):Int) x.f0 x.f1 x.f2 x.f3 x.f4 x.f5 x.f6 x.f7=some (decide (256 ≤ x.f2) && (tblName x.f0 && (x.f1.all hostB && decide (1 ≤ x.f1.length∧x.f1.length ≤ 8)))):=by
  rw [tollbarref09_One.l0,if_neg (by decide)]
  by_cases a:x.f2 < 256
  ·rw [if_pos a,tollbarref09_One.j1,if_pos rfl,decide_eq_false (by omega)]
   rfl
  ·rw [if_neg a,decide_eq_true (show 256 ≤ x.f2 by omega),refName_f x.f0 (by omega) (m + 1) (by omega),Option.bind_some,Bool.true_and]
   cases tblName x.f0
   ·rw [if_neg (by simp),tollbarref09_One.j1,if_pos rfl]
    rfl
   ·rw [if_pos rfl,Bool.true_and]
    by_cases b:(x.f1.length:Int) < 1
    ·rw [if_pos b,tollbarref09_One.j1,if_pos rfl,decide_eq_false (by omega),Bool.and_false]
    ·rw [if_neg b,tollbarref09_One.j1]
     by_cases c:(x.f1.length:Int) > 8
     ·rw [decide_eq_true c,if_pos rfl,decide_eq_false (by omega),Bool.and_false]
     ·rw [decide_eq_false c,if_neg (by simp),decide_eq_true (show 1 ≤ x.f1.length∧x.f1.length ≤ 8 by omega),Bool.and_true]
      exact one_l1 x hh (by omega) x.f1.length m 0 (by omega) (by omega)
 rw [e]
 show (if numB x.f2 1 1048576=true then if numB x.f3 1 64=true then if numB x.f4 1 64=true then if numB x.f5 1 1048576=true then if numB x.f6 1 1048576=true then if numB x.f7 1 1048576=true then _ else some false else some false else some false else some false else some false else some false)=_
 unfold slotB numsB
 have e2:numB x.f2 256 1048576=(numB x.f2 1 1048576 && decide (256 ≤ x.f2)):=by
  unfold numB
  rw [← Bool.decide_and,decide_eq_decide]
  omega
 rw [e2]
 cases numB x.f2 1 1048576 <;> cases numB x.f3 1 64 <;> cases numB x.f4 1 64 <;> cases numB x.f5 1 1048576 <;> cases numB x.f6 1 1048576 <;> cases numB x.f7 1 1048576 <;> cases tblName x.f0 <;> cases decide (256 ≤ x.f2) <;> rfl
/-- The reference's check of what is left,the names and hosts that were met in hand. -/
def chkT:List ByteArray → List ByteArray → List (S64) → Bool
 | _,_,[]=>true
 | N,H,x :: r=>slotB x && (!hasB N x.f0 && (unlikeB H x.f1 && chkT (N ++ [x.f0]) (H ++ x.f1) r))
theorem chk_eq : ∀ (t:List (S64)) (N H:List ByteArray),chkT N H t=(t.all slotB && (unlikeB N (t.map (·.f0)) && unlikeB H (t.flatMap (·.f1))))
 | [],N,H=>rfl
 | x :: r,N,H=>by
  rw [chkT,chk_eq r,List.all_cons,List.map_cons,List.flatMap_cons,unlike_app,unlikeB]
  cases slotB x <;> cases hasB N x.f0 <;> cases unlikeB H x.f1 <;> simp
theorem hasB_cons (y:ByteArray) (S:List ByteArray) (s:ByteArray):hasB (y :: S) s=(y.toList == s.toList || hasB S s):=rfl
theorem rdOf_at (l:List ByteArray) (i:Nat) (h:i < l.length):rdOf ByteArray.empty l (i:Int)=l[i]:=by simp [rdOf,List.getD_eq_getElem?_getD,List.getElem?_eq_getElem h]
theorem r3_f (t:List (S64)) (i:Nat) (hi:i < t.length) (hn:t.length ≤ 16) (H:List ByteArray) (hH:H.length ≤ 128) (c:Nat) (hc:c < t[i].f1.length) (h8:t[i].f1.length ≤ 8) (F:Nat) (R:Bool) (hR : ∀ k,F ≤ k → tollbarref09_Right.l2 k t (H ++ [t[i].f1[c]]) (i:Int) ((c + 1:Nat):Int)=some R) :
 ∀ (d k j:Nat),j + d=H.length → F + d + 1 ≤ k → tollbarref09_Right.l3 k t H (i:Int) (c:Int) (j:Int)=some (!hasB (H.drop j) t[i].f1[c] && R)
 | d,0,_,_,h=>by omega
 | 0,k + 1,j,h,hk=>by
  have hw:wrap64 ((c:Int) + 1)=((c + 1:Nat):Int):=by unfold wrap64;omega
  rw [tollbarref09_Right.l3,if_neg (by omega),if_pos (by omega),if_pos (by omega),if_pos (by omega),rd_slot t i hi,if_pos (by omega),if_pos (by omega),rdOf_at _ c hc,hw,hR k (by omega),List.drop_of_length_le (by omega)]
  rfl
 | d + 1,k + 1,j,h,hk=>by
  have hj:j < H.length:=by omega
  have hw:wrap64 ((j:Int) + 1)=((j + 1:Nat):Int):=by unfold wrap64;omega
  rw [tollbarref09_Right.l3,if_pos (by omega),if_pos (by omega),if_pos (by omega),if_pos (by omega),if_pos (by omega),rd_slot t i hi,if_pos (by omega),rdOf_at _ c hc,rdOf_at _ j hj,hw,r3_f t i hi hn H hH c hc h8 F R hR d k (j + 1) (by omega) (by omega),List.drop_eq_getElem_cons hj,hasB_cons]
  by_cases e:H[j].toList=t[i].f1[c].toList
  ·rw [if_pos e,beq_iff_eq.2 e]
   rfl
  ·rw [if_neg e,beq_eq_false_iff_ne.2 e,Bool.false_or]
theorem r2_f (t:List (S64)) (i:Nat) (hi:i < t.length) (hn:t.length ≤ 16) (h8:t[i].f1.length ≤ 8) (F:Nat) (R:Bool) :
 ∀ (e k c:Nat) (H:List ByteArray),c + e=t[i].f1.length → H.length + e ≤ 128 → F + e * 131 + 1 ≤ k → (∀ k,F ≤ k → tollbarref09_Right.l0 k t (H ++ t[i].f1.drop c) ((i + 1:Nat):Int)=some R) → tollbarref09_Right.l2 k t H (i:Int) (c:Int)=some (unlikeB H (t[i].f1.drop c) && R)
 | e,0,_,_,_,_,h,_=>by omega
 | 0,k + 1,c,H,h,hH,hk,hR=>by
  have hw:wrap64 ((i:Int) + 1)=((i + 1:Nat):Int):=by unfold wrap64;omega
  have hd:t[i].f1.drop c=[]:=List.drop_of_length_le (by omega)
  have hr:=hR k (by omega)
  rw [hd,List.append_nil] at hr
  rw [tollbarref09_Right.l2,if_pos (by omega),if_pos (by omega),rd_slot t i hi,if_neg (by omega),hw,hr,hd]
  rfl
 | e + 1,k + 1,c,H,h,hH,hk,hR=>by
  have hc:c < t[i].f1.length:=by omega
  rw [tollbarref09_Right.l2,if_pos (by omega),if_pos (by omega),rd_slot t i hi,if_pos (by omega),show (0:Int)=((0:Nat):Int) from rfl,r3_f t i hi hn H (by omega) c hc h8 (F + e * 131 + 1) (unlikeB (H ++ [t[i].f1[c]]) (t[i].f1.drop (c + 1)) && R) (fun k hk=>r2_f t i hi hn h8 F R e k (c + 1) (H ++ [t[i].f1[c]]) (by omega) (by simp only [List.length_append,List.length_cons,List.length_nil];omega) hk (fun k hk=>by
   rw [List.append_assoc,List.singleton_append,← List.drop_eq_getElem_cons hc]
   exact hR k hk)) H.length k 0 (by omega) (by omega),List.drop_zero,List.drop_eq_getElem_cons hc,unlikeB]
  cases hasB H t[i].f1[c] <;> simp
theorem r1_f (t:List (S64)) (i:Nat) (hi:i < t.length) (hn:t.length ≤ 16) (H:List ByteArray) (F:Nat) (R:Bool) (hR : ∀ k,F ≤ k → tollbarref09_Right.l2 k t H (i:Int) 0=some R) :
 ∀ (d k j:Nat),j + d=i → F + d + 1 ≤ k → tollbarref09_Right.l1 k t H (i:Int) (j:Int)=some (!hasB (((t.take i).drop j).map (·.f0)) t[i].f0 && R)
 | d,0,_,_,h=>by omega
 | 0,k + 1,j,h,hk=>by
  rw [tollbarref09_Right.l1,if_neg (by omega),hR k (by omega),List.drop_of_length_le (by rw [List.length_take];omega)]
  rfl
 | d + 1,k + 1,j,h,hk=>by
  have hj:j < t.length:=by omega
  have hj2:j < (t.take i).length:=by rw [List.length_take];omega
  have hw:wrap64 ((j:Int) + 1)=((j + 1:Nat):Int):=by unfold wrap64;omega
  rw [tollbarref09_Right.l1,if_pos (by omega),if_pos (by omega),if_pos (by omega),if_pos (by omega),if_pos (by omega),rd_slot t i hi,rd_slot t j hj,hw,r1_f t i hi hn H F R hR d k (j + 1) (by omega) (by omega),List.drop_eq_getElem_cons hj2,List.map_cons,hasB_cons,List.getElem_take]
  by_cases e:t[j].f0.toList=t[i].f0.toList
  ·rw [if_pos e,beq_iff_eq.2 e]
   rfl
  ·rw [if_neg e,beq_eq_false_iff_ne.2 e,Bool.false_or]
def FitR (t:List (S64)):Prop := ∀ x ∈ t,x.f0.size ≤ 140737488351232 ∧ ∀ h ∈ x.f1,h.size ≤ 140737488351232
theorem r0_f (A:Nat) (hA:AskT ≤ A) (t:List (S64)) (hf:FitR t) (hn:t.length ≤ 16) (d:Nat) : ∀ (k i:Nat) (H:List ByteArray),i + d=t.length → H.length ≤ 8 * i → A + d * 2000 + 1 ≤ k → tollbarref09_Right.l0 k t H (i:Int)=some (chkT ((t.take i).map (·.f0)) H (t.drop i)):=by
 induction d with
 | zero =>
  intro k i H h hH hk
  obtain ⟨k,rfl⟩ : ∃ m,k=m + 1:=⟨k - 1,by omega⟩
  rw [tollbarref09_Right.l0,if_neg (by omega),List.drop_of_length_le (by omega)]
  rfl
 | succ d ih =>
  intro k i H h hH hk
  obtain ⟨k,rfl⟩ : ∃ m,k=m + 1:=⟨k - 1,by omega⟩
  have hi:i < t.length:=by omega
  have hm:=hf _ (List.getElem_mem hi)
  rw [tollbarref09_Right.l0,if_pos (by omega),if_pos (by omega),rd_slot t i hi,one_f t[i] hm.1 hm.2 k (by omega),Option.bind_some,List.drop_eq_getElem_cons hi,chkT]
  cases hb:slotB t[i]
  ·rfl
  ·have h8:=slot_hosts hb
   rw [if_pos rfl,show (0:Int)=((0:Nat):Int) from rfl,r1_f t i hi hn H (A + d * 2000 + 1 + 8 * 131 + 1) _ (fun k hk=>r2_f t i hi hn h8.1 (A + d * 2000 + 1) (chkT ((t.take (i + 1)).map (·.f0)) (H ++ t[i].f1) (t.drop (i + 1))) t[i].f1.length k 0 H (by omega) (by omega) (by have:=h8.1;omega) (fun k hk=>by rw [List.drop_zero];exact ih k (i + 1) _ (by omega) (by rw [List.length_append];omega) hk)) i k 0 (by omega) (by omega),List.drop_zero,List.drop_zero,List.take_succ_eq_append_getElem hi,List.map_append,List.map_cons,List.map_nil,Bool.true_and]
theorem refRight_f (t:List (S64)) (hf:FitR t) (k:Nat) (hk:AskT + 40000 ≤ k):tollbarref09_Right.f k t=some (rightT t):=by
 obtain ⟨m,rfl⟩ : ∃ m,k=m + 1:=⟨k - 1,by unfold AskT at hk;omega⟩
 unfold tollbarref09_Right.f rightT
 by_cases h1:(t.length:Int) < 1
 ·rw [if_pos h1,tollbarref09_Right.j0,if_pos rfl,decide_eq_false (by omega)]
  rfl
 ·rw [if_neg h1,tollbarref09_Right.j0]
  by_cases h2:(t.length:Int) > 16
  ·rw [decide_eq_true h2,if_pos rfl,decide_eq_false (by omega)]
   rfl
  ·rw [decide_eq_false h2,if_neg (by simp),decide_eq_true (show 1 ≤ t.length∧t.length ≤ 16 by omega),Bool.true_and,show (0:Int)=((0:Nat):Int) from rfl,r0_f AskT (Nat.le_refl _) t hf (by omega) t.length m 0 [] (by omega) (by simp) (by omega),chk_eq]
   rfl
theorem same_l0 (xs:List ByteArray) (hn:xs.length ≤ 4398046511104) (d:Nat) : ∀ (k:Nat) (i:Int),0 ≤ i → (xs.length:Int) - i=d → d + 1 ≤ k → tollbarref01_SameTexts.l0 k xs xs i=some true:=by
 induction d with
 | zero =>
  intro k i h0 hd hk
  obtain ⟨k,rfl⟩ : ∃ m,k=m + 1:=⟨k - 1,by omega⟩
  simp only [tollbarref01_SameTexts.l0]
  rw [if_neg (by omega)]
 | succ d ih =>
  intro k i h0 hd hk
  obtain ⟨k,rfl⟩ : ∃ m,k=m + 1:=⟨k - 1,by omega⟩
  simp only [tollbarref01_SameTexts.l0]
  rw [if_pos (by omega),if_pos h0,if_pos (by omega),if_pos trivial,show wrap64 (i + 1)=i + 1 by unfold wrap64;omega]
  exact ih k (i + 1) (by omega) (by omega) (by omega)
theorem same_self (xs:List ByteArray) (hn:xs.length ≤ 4398046511104) (k:Nat) (hk:xs.length + 1 ≤ k):tollbarref01_SameTexts.f k xs xs=some true:=by
 unfold tollbarref01_SameTexts.f
 rw [if_pos rfl]
 exact same_l0 xs hn xs.length k 0 (by omega) (by omega) hk
theorem endT_step (out:List (S64)) (x:S64) (o:Option (List (S64))):endT out (o.map fun t=>x :: t)=endT (out ++ [x]) o:=by
 cases o with
 | none=>rfl
 | some t =>
  show (if rightT (out ++ (x :: t))=true then (out ++ (x :: t),0) else ([],60))=(if rightT ((out ++ [x]) ++ t)=true then ((out ++ [x]) ++ t,0) else ([],60))
  rw [List.append_assoc,List.singleton_append]
theorem refRead_l0 (A:Nat) (hA:AskT + 50000 ≤ A) (ls:List (List UInt8)) (hn:ls.length ≤ 5000) (hl : ∀ p ∈ ls,p.length ≤ 4096) (d:Nat) : ∀ (k i:Nat) (out:List (S64)),i + d=ls.length → A + 2 * d + 1 ≤ k → out.length ≤ i → (∀ x ∈ out,x.f0.size ≤ 5000 ∧ ∀ h ∈ x.f1,h.size ≤ 5000) →
 tollbarref09_Read.l0 k (ls.map mkS) out (i:Int)=some (endT out (readLs (ls.drop i))):=by
 induction d with
 | zero =>
  intro k i out h hk ho hf
  obtain ⟨k,rfl⟩ : ∃ m,k=m + 1:=⟨k - 1,by omega⟩
  have hAk:A ≤ k:=by clear hA;omega
  have hk2:AskT + 40000 ≤ k:=Nat.le_trans (Nat.le_trans (Nat.add_le_add_left (by decide) _) hA) hAk
  clear hk hA hAk
  rw [tollbarref09_Read.l0,List.length_map,if_neg (by omega),refRight_f out (fun x hx=>⟨Nat.le_trans (hf x hx).1 (by decide),fun h hh=>Nat.le_trans ((hf x hx).2 h hh) (by decide)⟩) k hk2,Option.bind_some,List.drop_of_length_le (by omega)]
  show _=some (if rightT (out ++ [])=true then (out ++ [],0) else ([],60))
  rw [List.append_nil]
  cases rightT out <;> rfl
 | succ d ih =>
  intro k i out h hk ho hf
  obtain ⟨k,rfl⟩ : ∃ m,k=m + 2:=⟨k - 2,by omega⟩
  have hk1:A + 2 * d + 1 ≤ k:=by clear hA;omega
  have hk2:10000 ≤ k:=Nat.le_trans (Nat.le_trans (show 10000 ≤ AskT by unfold AskT;decide) (Nat.le_trans (Nat.le_add_right _ _) hA)) (by clear hA;omega)
  clear hk hA
  have hi:i < ls.length:=by omega
  have hp:=hl _ (List.getElem_mem hi)
  have hg:ls.getD i []=ls[i]:=by rw [List.getD_eq_getElem?_getD,List.getElem?_eq_getElem hi];rfl
  rw [tollbarref09_Read.l0,List.length_map,if_pos (by omega),if_pos (by omega),rdOf_mkN,hg,refWords_f _ (by omega) (k + 1) (by omega),Option.bind_some,List.length_map,List.drop_eq_getElem_cons hi,readLs]
  have hle:=pcs_le (sp:=32) ls[i]
  obtain ⟨ws,hws⟩ : ∃ ws,pcs 32 ls[i]=ws:=⟨_,rfl⟩
  have hsp:slotP ls[i]=slotV ws:=by unfold slotP;rw [hws]
  rw [hws] at hle ⊢
  rw [hsp]
  unfold slotV
  by_cases c8:ws.length < 8
  ·rw [if_pos (by omega),if_pos c8,tollbarref09_Read.j1,if_pos rfl]
   rfl
  ·rw [if_neg (by omega),if_neg c8,if_pos (by omega),show (0:Int)=((0:Nat):Int) from rfl,rdOf_mkN,mkS_toList]
   by_cases c0:ws.getD 0 []=SlotW
   ·rw [if_pos c0,c0,show (SlotW != ([115,108,111,116]:List UInt8))=false from rfl]
    cases hbo:(numsP ((ws.drop 2).take 6)).bind (mkSlot ws) with
    | none =>
     rw [refRead_j1 k (by omega) _ out i (by omega) (by omega) ws (by omega) (fun w hw=>by have:=hle w hw;omega) none (fun x hbx=>by rw [hbo] at hbx;cases hbx),hbo]
     rfl
    | some x =>
     have h1:slotP ls[i]=some x:=by rw [hsp];unfold slotV;rw [if_neg c8,if_pos c0,hbo]
     have h2:=slotP_fit h1
     rw [refRead_j1 k (by omega) _ out i (by omega) (by omega) ws (by omega) (fun w hw=>by have:=hle w hw;omega) (tollbarref09_Read.l0 k (ls.map mkS) (out ++ [x]) ((i + 1:Nat):Int)) (fun y hbx=>by rw [hbo] at hbx;injection hbx with hbx;rw [hbx]),hbo]
     show tollbarref09_Read.l0 k (ls.map mkS) (out ++ [x]) ((i + 1:Nat):Int)=some (endT out ((readLs (ls.drop (i + 1))).map fun t=>x :: t))
     rw [ih k (i + 1) (out ++ [x]) (by omega) hk1 (by simp only [List.length_append,List.length_singleton];omega) (fun y hy=>by
      rcases List.mem_append.1 hy with hy|hy
      ·exact hf y hy
      ·rw [List.mem_singleton.1 hy];exact ⟨by omega,fun z hz=>by have:=h2.2.1 z hz;omega⟩),endT_step]
   ·rw [if_neg c0,show (ws.getD 0 [] != ([115,108,111,116]:List UInt8))=true from bne_iff_ne.2 c0,tollbarref09_Read.j1,if_pos rfl]
    rfl
theorem refRead_f (l:List UInt8) (k:Nat) (hk:AskT + 70000 ≤ k):tollbarref09_Read.f k (mkS l)=some (readR l):=by
 unfold tollbarref09_Read.f readR
 have k1:5000 ≤ k:=Nat.le_trans (show 5000 ≤ AskT by unfold AskT;decide) (Nat.le_trans (Nat.le_add_right _ _) hk)
 rw [mkS_size]
 by_cases c:(l.length:Int) > 4096
 ·rw [if_pos c,if_pos (by omega)]
 ·rw [if_neg c,if_neg (by omega),refLines_f l (by omega) k (by omega),Option.bind_some,readPs_eq]
  by_cases e:lastE (pcs 10 l)=true
  ·rw [if_pos e,if_pos e]
   have hp:=pcs_length (sp:=10) l
   have hc:=cntC_le (sp:=10) l
   have hdl:(dropL (pcs 10 l)).length ≤ 4097:=by unfold dropL;rw [List.length_dropLast];omega
   obtain ⟨A,hA⟩ : ∃ A,AskT=A:=⟨_,rfl⟩
   rw [hA] at hk
   have hb:A + 50000 + 2 * (dropL (pcs 10 l)).length + 1 ≤ k:=by omega
   have h:=refRead_l0 (A + 50000) (by rw [hA];exact Nat.le_refl _) (dropL (pcs 10 l)) (by omega) (fun p hp_=>Nat.le_trans (pcs_le (sp:=10) l p ((List.dropLast_sublist _).subset hp_)) (by omega)) (dropL (pcs 10 l)).length k 0 [] (Nat.zero_add _) hb (Nat.zero_le _) (fun x hx=>by cases hx)
   rw [List.drop_zero] at h
   exact h
  ·rw [if_neg e,if_neg e]
   rfl
theorem sameInts_l0 (xs:List Int) (hn:xs.length ≤ 1000) (d:Nat) : ∀ (k i:Nat),i + d=xs.length → d + 1 ≤ k → tollbarref01_SameInts.l0 k xs xs (i:Int)=some true:=by
 induction d with
 | zero =>
  intro k i h hk
  obtain ⟨k,rfl⟩ : ∃ m,k=m + 1:=⟨k - 1,by omega⟩
  rw [tollbarref01_SameInts.l0,if_neg (by omega)]
 | succ d ih =>
  intro k i h hk
  obtain ⟨k,rfl⟩ : ∃ m,k=m + 1:=⟨k - 1,by omega⟩
  have hw:wrap64 ((i:Int) + 1)=((i + 1:Nat):Int):=by unfold wrap64;omega
  rw [tollbarref01_SameInts.l0,if_pos (by omega),if_pos (by omega),if_pos (by omega),if_pos rfl,hw]
  exact ih k (i + 1) (by omega) (by omega)
theorem sameInts_self (xs:List Int) (hn:xs.length ≤ 1000) (k:Nat) (hk:xs.length + 1 ≤ k):tollbarref01_SameInts.f k xs xs=some true:=by
 unfold tollbarref01_SameInts.f
 rw [if_pos rfl]
 exact sameInts_l0 xs hn xs.length k 0 (by omega) hk
theorem refSame_l0 (t:List (S64)) (hn:t.length ≤ 1000) (hh : ∀ x ∈ t,x.f1.length ≤ 1000) (d:Nat) : ∀ (k i:Nat),i + d=t.length → d + 1010 ≤ k → tollbarref09_Same.l0 k t t (i:Int)=some true:=by
 induction d with
 | zero =>
  intro k i h hk
  obtain ⟨k,rfl⟩ : ∃ m,k=m + 1:=⟨k - 1,by omega⟩
  rw [tollbarref09_Same.l0,if_neg (by omega)]
 | succ d ih =>
  intro k i h hk
  obtain ⟨k,rfl⟩ : ∃ m,k=m + 1:=⟨k - 1,by omega⟩
  have hi:i < t.length:=by omega
  have hm:=hh _ (List.getElem_mem hi)
  have hw:wrap64 ((i:Int) + 1)=((i + 1:Nat):Int):=by unfold wrap64;omega
  rw [tollbarref09_Same.l0,if_pos (by omega),if_pos (by omega),if_pos (by omega),if_pos rfl,rd_slot t i hi,same_self _ (by omega) k (by omega),Option.bind_some,if_pos rfl]
  unfold tollbarref09_numbers.f
  rw [Option.bind_some,Option.bind_some,sameInts_self _ (by simp) k (by simp only [List.length_cons,List.length_nil];omega),Option.bind_some,if_pos rfl,hw]
  exact ih k (i + 1) (by omega) (by omega)
theorem refSame_self (t:List (S64)) (hn:t.length ≤ 1000) (hh : ∀ x ∈ t,x.f1.length ≤ 1000) (k:Nat) (hk:2100 ≤ k):tollbarref09_Same.f k t t=some true:=by
 unfold tollbarref09_Same.f
 rw [if_pos rfl]
 exact refSame_l0 t hn hh t.length k 0 (by omega) (by omega)
theorem readR_small (l:List UInt8):(readR l).1.length ≤ 1000 ∧ ∀ x ∈ (readR l).1,x.f1.length ≤ 1000:=by
 have hnil:([]:List (S64)).length ≤ 1000 ∧ ∀ x ∈ ([]:List (S64)),x.f1.length ≤ 1000:=⟨by decide,fun x hx=>by cases hx⟩
 unfold readR
 split
 ·exact hnil
 ·cases readPs (pcs 10 l) with
  | none=>exact hnil
  | some t =>
   unfold endT
   dsimp only
   split
   ·rename_i hr
    rw [List.nil_append] at hr ⊢
    obtain ⟨h1,h2,h3⟩:=right_all hr
    exact ⟨by dsimp only;omega,fun x hx=>by have:=slot_hosts (List.all_eq_true.1 h3 x hx);omega⟩
   ·exact hnil
theorem TableReads:tollbarlaw09_TableReads.Pure:=by
 intro s hs
 have h0:mkS s.data.toList=s:=mkS_self s
 obtain ⟨k,hk1,hk2⟩ : ∃ k,AskT + 70000 ≤ k∧s.size + 2 ≤ k:=⟨AskT + 70000 + s.size,by omega,by omega⟩
 refine ⟨k,?_⟩
 have a1:100 ≤ k:=by omega
 have a2:3000000 ≤ k:=Nat.le_trans (show 3000000 ≤ AskT by unfold AskT;decide) (Nat.le_trans (Nat.le_add_right _ _) hk1)
 have a3:2100 ≤ k:=by omega
 obtain ⟨b1,b2⟩:=readR_small s.data.toList
 have hsz:s.size ≤ 140737488355328:=by omega
 unfold tollbarlaw09_TableReads.f
 rw [alive9_f k a1,Option.bind_some,if_pos rfl]
 have e1:=Read_f s.data.toList k a2
 have e2:=refRead_f s.data.toList k hk1
 rw [h0] at e1 e2
 rw [e1,Option.bind_some,e2,Option.bind_some,if_pos rfl,refSame_self _ b1 b2 k a3,Option.bind_some,if_pos rfl,name_f s hsz k (by omega),Option.bind_some,refName_f s hsz k hk2,Option.bind_some,beq_self_eq_true]
end Go.Proofs.YtclpanalnbmejaaGreatDoor.Pure
