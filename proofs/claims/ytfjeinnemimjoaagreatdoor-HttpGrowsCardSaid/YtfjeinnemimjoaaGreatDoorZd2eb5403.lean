/- Each function below answers as its Lean twin says; plain lemmas; a row where its theorem stands. No further condition. (Laid by this repo's pack.py out of its texts and of the print's words.) -/
import Derived.Test.YtfjeinnemimjoaaGreatDoorZ5c72ff57
import Derived.Test.YtfjeinnemimjoaaGreatDoorZab288596
import Derived.Test.YtfjeinnemimjoaaGreatDoorZ113d8020
import Derived.Deep.RegionHeld3
namespace Go.Proofs.YtfjeinnemimjoaaGreatDoor.P
open Go.RowKit Go.Proofs.YtfjeinnemimjoaaGreatDoorW.PrintWords Go.Proofs.YtfjeinnemimjoaaGreatDoorW.PrintLast Go.Proofs.YtfjeinnemimjoaaGreatDoorW.PrintMore
attribute [local go_sem] max2_int min2_int max_two min_two max_three min_three max_four min_four
set_option linter.unusedVariables false
set_option linter.unusedSimpArgs false
def http_Waits.f (k:Nat) (l0:List Int):Option (Bool):=(http_open.f k l0).bind fun bt596=>(if bt596.2.2.2.2.2.1=0 then (some false) else (if bt596.2.2.2.2.2.2.2.2=0 then (if bt596.2.2.1=0 then (some false) else ((field_Has.f k bt596.2.2.2.1 (⟨#[69,120,112,101,99,116]⟩:ByteArray) (⟨#[49,48,48,45,99,111,110,116,105,110,117,101]⟩:ByteArray)).bind fun t610=>(if t610=true then (if 0 ≤ bt596.2.2.2.2.2.1 then (if bt596.2.2.2.2.2.1 ≤ (l0.length:Int) then ((http_body.f k (l0.drop (bt596.2.2.2.2.2.1:Int).toNat) bt596.2.2.2.2.2.2.1 bt596.2.2.2.2.2.2.2.1).bind fun bt612=>(if bt612.2.1 < 0 then (some (bt612.2.2 == 0)) else (some false))) else (none)) else (none)) else (some false)))) else (some false)))
set_option maxHeartbeats 8000000 in
set_option maxRecDepth 100000 in
theorem http_Waits.calls (k:Nat) (A0:Option Addr) (c0:Nat) (l0:List Int) (r:Bool) (w:World) (hr0:Kd.C (Kd.int .u8) w A0 l0.length l0) (hc0:l0.length ≤ c0) (h:http_Waits.f k l0=some r) :
 Calls Tryz.prog 25 #[.slice A0 l0.length c0] w fun e w' => e = .returned (.bool r)∧Below w.heap.size w w' := by
 have hu33:=Tryz.underlying33
 have HR0:=Aside0.mk hr0
 have HC0:=Aside0.mk hc0
 clear hr0 hc0
 have HB:=Aside0.mk (Below.refl w.heap.size w)
 unfold http_Waits.f at h
 have H:=h
 clear h
 replace H:=Option.bind_eq_some_iff.mp H
 obtain ⟨⟨t52,t58,t56,t57,t59,t53,t61,t62,t63⟩,A20,H⟩:=H
 try dsimp only at H
 have A2:=Aside0.mk A20
 clear A20
 by_cases c3:t53=0
 ·rw [if_pos c3] at H
  have c3b0:=beq_iff_eq.mpr c3
  have c3b1:=bne_eq_false_iff_eq.mpr c3
  clear c3
  obtain rfl:=Option.some.inj H
  go_enter Tryz.func25,Tryz.ntmps25
  go_wp2_with (first|((with_reducible refine gate_callee (f:=54) rfl ?_);refine goesL_ (some 12) rfl rfl Tryz.func54 zb7 rfl #[.slice A0 l0.length c0] rfl zb1 ?_;(with_reducible refine (http_open.calls k _ _ l0 t52 t58 t56 t57 t59 t53 t61 t62 t63 _ ?side1 ?side2 A2.out).mono ?_);(case side1=>exact zb18);(case side2=>exact HC0.out);rintro e w4 ⟨v68,v69,rfl,ho0,ho1,hb⟩;(try clear A2);refine ⟨_,rfl,?_⟩;have HO50:=Aside0.mk (Kd.R_lower ho0 (below_size zb0));have HO51:=Aside0.mk (Kd.R_lower ho1 (below_size zb0));replace HB:=Aside0.mk (below_step zb0 hb);try clear hb ho0 ho1)|((with_reducible refine gate_dst (N:=3) rfl ?_);refine box_event rfl (N:=3) rfl (cs:=#[.string (⟨#[]⟩:ByteArray),.string (⟨#[]⟩:ByteArray),.int .i64 0,.slice none 0 0,.slice none 0 0]) (t:=33) zS ?_;intro gb49 hg w5 hbox hb;replace HO50:=Aside0.mk (Kd.R_below zb83 hb);replace HO51:=Aside0.mk (Kd.R_below zb39 hb);have BK49:=Aside0.mk (hbox);have GW49:=zG hg zb0;have GE49:=GW49;replace HB:=Aside0.mk (below_step zb0 hb);clear hb hbox hg;obtain ⟨hcz6_0,hcz6_1,hcz6_2,hcz6_3,hcz6_4,hfz6_0,hfz6_1,hfz6_2,hfz6_3,hfz6_4⟩:=zq5 BK49.out;obtain ⟨Ao7,co7,eo7⟩:=Kd.R_slice HO50.out;subst eo7;obtain ⟨Ao8,co8,eo8⟩:=Kd.R_slice HO51.out;subst eo8))
  go_ret
  exact ⟨zb3,zb27⟩
 rw [if_neg c3] at H
 have c3b0:=beq_eq_false_iff_ne.mpr c3
 have c3b1:=bne_iff_ne.mpr c3
 by_cases c9:t63=0;rotate_left
 ·rw [if_neg c9] at H
  have c9b0:=beq_eq_false_iff_ne.mpr c9
  have c9b1:=bne_iff_ne.mpr c9
  obtain rfl:=Option.some.inj H
  go_enter Tryz.func25,Tryz.ntmps25
  go_wp2_with (first|((with_reducible refine gate_callee (f:=54) rfl ?_);refine goesL_ (some 12) rfl rfl Tryz.func54 zb7 rfl #[.slice A0 l0.length c0] rfl zb1 ?_;(with_reducible refine (http_open.calls k _ _ l0 t52 t58 t56 t57 t59 t53 t61 t62 t63 _ ?side1 ?side2 A2.out).mono ?_);(case side1=>exact zb18);(case side2=>exact HC0.out);rintro e w44 ⟨v68,v69,rfl,ho0,ho1,hb⟩;(try clear A2);refine ⟨_,rfl,?_⟩;have HO50:=Aside0.mk (Kd.R_lower ho0 (below_size zb0));have HO51:=Aside0.mk (Kd.R_lower ho1 (below_size zb0));replace HB:=Aside0.mk (below_step zb0 hb);try clear hb ho0 ho1)|((with_reducible refine gate_dst (N:=3) rfl ?_);refine box_event rfl (N:=3) rfl (cs:=#[.string (⟨#[]⟩:ByteArray),.string (⟨#[]⟩:ByteArray),.int .i64 0,.slice none 0 0,.slice none 0 0]) (t:=33) zS ?_;intro gb49 hg w45 hbox hb;replace HO50:=Aside0.mk (Kd.R_below zb83 hb);replace HO51:=Aside0.mk (Kd.R_below zb39 hb);have BK49:=Aside0.mk (hbox);have GW49:=zG hg zb0;have GE49:=GW49;replace HB:=Aside0.mk (below_step zb0 hb);clear hb hbox hg;obtain ⟨hcz46_0,hcz46_1,hcz46_2,hcz46_3,hcz46_4,hfz46_0,hfz46_1,hfz46_2,hfz46_3,hfz46_4⟩:=zq5 BK49.out;obtain ⟨Ao47,co47,eo47⟩:=Kd.R_slice HO50.out;subst eo47;obtain ⟨Ao48,co48,eo48⟩:=Kd.R_slice HO51.out;subst eo48))
  go_ret
  exact ⟨zb3,zb27⟩
 rw [if_pos c9] at H
 have c9b0:=beq_iff_eq.mpr c9
 have c9b1:=bne_eq_false_iff_eq.mpr c9
 clear c9
 by_cases c10:t56=0
 ·rw [if_pos c10] at H
  have c10b0:=beq_iff_eq.mpr c10
  have c10b1:=bne_eq_false_iff_eq.mpr c10
  clear c10
  obtain rfl:=Option.some.inj H
  go_enter Tryz.func25,Tryz.ntmps25
  go_wp2_with (first|((with_reducible refine gate_callee (f:=54) rfl ?_);refine goesL_ (some 12) rfl rfl Tryz.func54 zb7 rfl #[.slice A0 l0.length c0] rfl zb1 ?_;(with_reducible refine (http_open.calls k _ _ l0 t52 t58 t56 t57 t59 t53 t61 t62 t63 _ ?side1 ?side2 A2.out).mono ?_);(case side1=>exact zb18);(case side2=>exact HC0.out);rintro e w11 ⟨v68,v69,rfl,ho0,ho1,hb⟩;(try clear A2);refine ⟨_,rfl,?_⟩;have HO50:=Aside0.mk (Kd.R_lower ho0 (below_size zb0));have HO51:=Aside0.mk (Kd.R_lower ho1 (below_size zb0));replace HB:=Aside0.mk (below_step zb0 hb);try clear hb ho0 ho1)|((with_reducible refine gate_dst (N:=3) rfl ?_);refine box_event rfl (N:=3) rfl (cs:=#[.string (⟨#[]⟩:ByteArray),.string (⟨#[]⟩:ByteArray),.int .i64 0,.slice none 0 0,.slice none 0 0]) (t:=33) zS ?_;intro gb49 hg w12 hbox hb;replace HO50:=Aside0.mk (Kd.R_below zb83 hb);replace HO51:=Aside0.mk (Kd.R_below zb39 hb);have BK49:=Aside0.mk (hbox);have GW49:=zG hg zb0;have GE49:=GW49;replace HB:=Aside0.mk (below_step zb0 hb);clear hb hbox hg;obtain ⟨hcz13_0,hcz13_1,hcz13_2,hcz13_3,hcz13_4,hfz13_0,hfz13_1,hfz13_2,hfz13_3,hfz13_4⟩:=zq5 BK49.out;obtain ⟨Ao14,co14,eo14⟩:=Kd.R_slice HO50.out;subst eo14;obtain ⟨Ao15,co15,eo15⟩:=Kd.R_slice HO51.out;subst eo15))
  go_ret
  exact ⟨zb3,zb27⟩
 rw [if_neg c10] at H
 have c10b0:=beq_eq_false_iff_ne.mpr c10
 have c10b1:=bne_iff_ne.mpr c10
 replace H:=Option.bind_eq_some_iff.mp H
 obtain ⟨t66,A73,H⟩:=H
 try dsimp only at H
 have A16:=Aside0.mk A73
 clear A73
 by_cases c17:t66=true
 ·subst c17
  rw [if_pos rfl] at H
  by_cases c18:0 ≤ t53;rotate_left
  ·rw [if_neg c18] at H
   exact absurd H zb48
  rw [if_pos c18] at H
  have c18b0:=eq_true c18
  have c18b1:=decide_eq_true c18
  clear c18
  by_cases c19:t53 ≤ (l0.length:Int)
  ·rw [if_pos c19] at H
   have c19b0:=eq_true c19
   have c19b1:=decide_eq_true c19
   clear c19
   replace H:=Option.bind_eq_some_iff.mp H
   obtain ⟨⟨t60,t67,t72⟩,A74,H⟩:=H
   try dsimp only at H
   have A20:=Aside0.mk A74
   clear A74
   by_cases c21:t67 < 0
   ·rw [if_pos c21] at H
    have c21b0:=decide_eq_true c21
    clear c21
    obtain rfl:=Option.some.inj H
    go_enter Tryz.func25,Tryz.ntmps25
    go_wp2_with (first|((with_reducible refine gate_callee (f:=54) rfl ?_);refine goesL_ (some 12) rfl rfl Tryz.func54 zb7 rfl #[.slice A0 l0.length c0] rfl zb1 ?_;(with_reducible refine (http_open.calls k _ _ l0 t52 t58 t56 t57 t59 t53 t61 t62 t63 _ ?side1 ?side2 A2.out).mono ?_);(case side1=>exact zb18);(case side2=>exact HC0.out);rintro e w22 ⟨v68,v69,rfl,ho0,ho1,hb⟩;(try clear A2);refine ⟨_,rfl,?_⟩;have HO50:=Aside0.mk (Kd.R_lower ho0 (below_size zb0));have HO51:=Aside0.mk (Kd.R_lower ho1 (below_size zb0));replace HB:=Aside0.mk (below_step zb0 hb);try clear hb ho0 ho1)|((with_reducible refine gate_dst (N:=3) rfl ?_);refine box_event rfl (N:=3) rfl (cs:=#[.string (⟨#[]⟩:ByteArray),.string (⟨#[]⟩:ByteArray),.int .i64 0,.slice none 0 0,.slice none 0 0]) (t:=33) zS ?_;intro gb49 hg w23 hbox hb;replace HO50:=Aside0.mk (Kd.R_below zb83 hb);replace HO51:=Aside0.mk (Kd.R_below zb39 hb);have BK49:=Aside0.mk (hbox);have GW49:=zG hg zb0;have GE49:=GW49;replace HB:=Aside0.mk (below_step zb0 hb);clear hb hbox hg;obtain ⟨hcz24_0,hcz24_1,hcz24_2,hcz24_3,hcz24_4,hfz24_0,hfz24_1,hfz24_2,hfz24_3,hfz24_4⟩:=zq5 BK49.out;obtain ⟨Ao25,co25,eo25⟩:=Kd.R_slice HO50.out;subst eo25;obtain ⟨Ao26,co26,eo26⟩:=Kd.R_slice HO51.out;subst eo26)|(go_at_call 58;(with_reducible refine (field_Has.calls k _ _ t57 (⟨#[69,120,112,101,99,116]⟩:ByteArray) (⟨#[49,48,48,45,99,111,110,116,105,110,117,101]⟩:ByteArray) true _ ?side1 ?side2 A16.out).mono ?_);(case side1=>refine (Kd.R_reads' (e:=55) (base:=w.heap.size) (ok:=fun k_=>True) (n:=t57.length) (c:=co25) ?_).2.2;exact zb67);(case side2=>exact (Kd.R_reads' HO50.out).2.1);rintro e w27 ⟨rfl,hb⟩;(try clear A16);replace HO50:=Aside0.mk (Kd.R_below zb67 hb);replace HO51:=Aside0.mk (Kd.R_below (by (with_reducible repeat (first|apply Kd.R_alloc|apply Kd.R_drewN|apply Kd.R_drew));exact (Kd.R_mono (Kd.R_far (p:=⟨gb49,4,none⟩) (Kd.R_far (p:=⟨gb49,3,none⟩) (Kd.R_far (p:=⟨gb49,2,none⟩) (Kd.R_far (p:=⟨gb49,1,none⟩) (Kd.R_far (p:=⟨gb49,0,none⟩) (Kd.R_types HO51.out BK49.out (by decide)) (fun _ hk=>hk.2) (.string t52)) (fun _ hk=>hk.2) (.string t58)) (fun _ hk=>hk.2) (.int .i64 t56)) (fun _ hk=>hk.2) (.slice Ao25 t57.length co25)) (fun _ hk=>hk.2) (.slice Ao26 t59.length co26)) (fun _ h_=>h_.1))) hb);replace BK49:=Aside0.mk (blk_below (g:=gb49) (o:=.cells #[.string t52,.string t58,.int .i64 t56,.slice Ao25 t57.length co25,.slice Ao26 t59.length co26] 33 (0,0)) (by (with_reducible repeat (first|refine blk_drewN ?_ _|refine blk_drew ?_|refine blk_alloc ?_ _));refine blk_put (cs:=#[.string t52,.string t58,.int .i64 t56,.slice Ao25 t57.length co25,.slice none 0 0]) ?_ 4 _ rfl;(with_reducible repeat (first|refine blk_drewN ?_ _|refine blk_drew ?_|refine blk_alloc ?_ _));refine blk_put (cs:=#[.string t52,.string t58,.int .i64 t56,.slice none 0 0,.slice none 0 0]) ?_ 3 _ rfl;(with_reducible repeat (first|refine blk_drewN ?_ _|refine blk_drew ?_|refine blk_alloc ?_ _));refine blk_put (cs:=#[.string t52,.string t58,.int .i64 0,.slice none 0 0,.slice none 0 0]) ?_ 2 _ rfl;(with_reducible repeat (first|refine blk_drewN ?_ _|refine blk_drew ?_|refine blk_alloc ?_ _));refine blk_put (cs:=#[.string t52,.string (⟨#[]⟩:ByteArray),.int .i64 0,.slice none 0 0,.slice none 0 0]) ?_ 1 _ rfl;(with_reducible repeat (first|refine blk_drewN ?_ _|refine blk_drew ?_|refine blk_alloc ?_ _));refine blk_put (cs:=#[.string (⟨#[]⟩:ByteArray),.string (⟨#[]⟩:ByteArray),.int .i64 0,.slice none 0 0,.slice none 0 0]) ?_ 0 _ rfl;(with_reducible repeat (first|refine blk_drewN ?_ _|refine blk_drew ?_|refine blk_alloc ?_ _));exact BK49.out) hb);replace HB:=Aside0.mk (below_step zb27 hb);(try clear hb);obtain ⟨i70,hi70,_,hsz28,_⟩:=info_parts info5;obtain ⟨A28,hcut28,hA28,hC28⟩:=print_drop_of (P:=Tryz.prog) (Value.int .u8) 0 23 5 .i64 Tryz.underlying23 hi70 hsz28 A0 c0 l0 t53 (of_decide_eq_true zb5) (of_decide_eq_true zb5) HC0.out;have HR65:=Aside0.mk (Kd.C_of_reads (h1:=fun _=>rfl) (hA28 _ (Kd.reads_of_C HR0.out)));have HC65:=Aside0.mk hC28;clear hA28 hC28 hi70 hsz28)|((with_reducible refine gate_callee (f:=55) rfl ?_);refine goesL_ (some 41) rfl rfl Tryz.func55 zb7 rfl #[.slice A28 (l0.drop (t53:Int).toNat).length (c0 - t53.toNat),.int .i64 t61,.bool t62] rfl zb100 ?_;(with_reducible refine (http_body.calls k _ _ (l0.drop (t53:Int).toNat) t61 t62 t60 t67 t72 _ ?side1 ?side2 A20.out).mono ?_);(case side1=>exact zb121);(case side2=>exact HC65.out);rintro e w29 ⟨v75,rfl,ho0,hb⟩;(try clear A20);refine ⟨_,rfl,?_⟩;replace HO50:=Aside0.mk (Kd.R_below zb83 hb);have HO76:=Aside0.mk (Kd.R_lower (Kd.R_new' ho0 (Kd.R_lt zb39)) (below_size zb27));replace HO51:=Aside0.mk (Kd.R_elder' zb39 (Kd.R_base ho0) hb);replace BK49:=Aside0.mk (blk_below (g:=gb49) (o:=.cells #[.string t52,.string t58,.int .i64 t56,.slice Ao25 t57.length co25,.slice Ao26 t59.length co26] 33 (0,0)) (by (with_reducible repeat (first|refine blk_drewN ?_ _|refine blk_drew ?_|refine blk_alloc ?_ _));exact BK49.out) hb);replace HB:=Aside0.mk (below_step zb27 hb);try clear hb ho0))
    go_ret
    exact ⟨zb3,zb27⟩
   rw [if_neg c21] at H
   have c21b0:=decide_eq_false c21
   clear c21
   obtain rfl:=Option.some.inj H
   go_enter Tryz.func25,Tryz.ntmps25
   go_wp2_with (first|((with_reducible refine gate_callee (f:=54) rfl ?_);refine goesL_ (some 12) rfl rfl Tryz.func54 zb7 rfl #[.slice A0 l0.length c0] rfl zb1 ?_;(with_reducible refine (http_open.calls k _ _ l0 t52 t58 t56 t57 t59 t53 t61 t62 t63 _ ?side1 ?side2 A2.out).mono ?_);(case side1=>exact zb18);(case side2=>exact HC0.out);rintro e w30 ⟨v68,v69,rfl,ho0,ho1,hb⟩;(try clear A2);refine ⟨_,rfl,?_⟩;have HO50:=Aside0.mk (Kd.R_lower ho0 (below_size zb0));have HO51:=Aside0.mk (Kd.R_lower ho1 (below_size zb0));replace HB:=Aside0.mk (below_step zb0 hb);try clear hb ho0 ho1)|((with_reducible refine gate_dst (N:=3) rfl ?_);refine box_event rfl (N:=3) rfl (cs:=#[.string (⟨#[]⟩:ByteArray),.string (⟨#[]⟩:ByteArray),.int .i64 0,.slice none 0 0,.slice none 0 0]) (t:=33) zS ?_;intro gb49 hg w31 hbox hb;replace HO50:=Aside0.mk (Kd.R_below zb83 hb);replace HO51:=Aside0.mk (Kd.R_below zb39 hb);have BK49:=Aside0.mk (hbox);have GW49:=zG hg zb0;have GE49:=GW49;replace HB:=Aside0.mk (below_step zb0 hb);clear hb hbox hg;obtain ⟨hcz32_0,hcz32_1,hcz32_2,hcz32_3,hcz32_4,hfz32_0,hfz32_1,hfz32_2,hfz32_3,hfz32_4⟩:=zq5 BK49.out;obtain ⟨Ao33,co33,eo33⟩:=Kd.R_slice HO50.out;subst eo33;obtain ⟨Ao34,co34,eo34⟩:=Kd.R_slice HO51.out;subst eo34)|(go_at_call 58;(with_reducible refine (field_Has.calls k _ _ t57 (⟨#[69,120,112,101,99,116]⟩:ByteArray) (⟨#[49,48,48,45,99,111,110,116,105,110,117,101]⟩:ByteArray) true _ ?side1 ?side2 A16.out).mono ?_);(case side1=>refine (Kd.R_reads' (e:=55) (base:=w.heap.size) (ok:=fun k_=>True) (n:=t57.length) (c:=co33) ?_).2.2;exact zb68);(case side2=>exact (Kd.R_reads' HO50.out).2.1);rintro e w35 ⟨rfl,hb⟩;(try clear A16);replace HO50:=Aside0.mk (Kd.R_below zb68 hb);replace HO51:=Aside0.mk (Kd.R_below (by (with_reducible repeat (first|apply Kd.R_alloc|apply Kd.R_drewN|apply Kd.R_drew));exact (Kd.R_mono (Kd.R_far (p:=⟨gb49,4,none⟩) (Kd.R_far (p:=⟨gb49,3,none⟩) (Kd.R_far (p:=⟨gb49,2,none⟩) (Kd.R_far (p:=⟨gb49,1,none⟩) (Kd.R_far (p:=⟨gb49,0,none⟩) (Kd.R_types HO51.out BK49.out (by decide)) (fun _ hk=>hk.2) (.string t52)) (fun _ hk=>hk.2) (.string t58)) (fun _ hk=>hk.2) (.int .i64 t56)) (fun _ hk=>hk.2) (.slice Ao33 t57.length co33)) (fun _ hk=>hk.2) (.slice Ao34 t59.length co34)) (fun _ h_=>h_.1))) hb);replace BK49:=Aside0.mk (blk_below (g:=gb49) (o:=.cells #[.string t52,.string t58,.int .i64 t56,.slice Ao33 t57.length co33,.slice Ao34 t59.length co34] 33 (0,0)) (by (with_reducible repeat (first|refine blk_drewN ?_ _|refine blk_drew ?_|refine blk_alloc ?_ _));refine blk_put (cs:=#[.string t52,.string t58,.int .i64 t56,.slice Ao33 t57.length co33,.slice none 0 0]) ?_ 4 _ rfl;(with_reducible repeat (first|refine blk_drewN ?_ _|refine blk_drew ?_|refine blk_alloc ?_ _));refine blk_put (cs:=#[.string t52,.string t58,.int .i64 t56,.slice none 0 0,.slice none 0 0]) ?_ 3 _ rfl;(with_reducible repeat (first|refine blk_drewN ?_ _|refine blk_drew ?_|refine blk_alloc ?_ _));refine blk_put (cs:=#[.string t52,.string t58,.int .i64 0,.slice none 0 0,.slice none 0 0]) ?_ 2 _ rfl;(with_reducible repeat (first|refine blk_drewN ?_ _|refine blk_drew ?_|refine blk_alloc ?_ _));refine blk_put (cs:=#[.string t52,.string (⟨#[]⟩:ByteArray),.int .i64 0,.slice none 0 0,.slice none 0 0]) ?_ 1 _ rfl;(with_reducible repeat (first|refine blk_drewN ?_ _|refine blk_drew ?_|refine blk_alloc ?_ _));refine blk_put (cs:=#[.string (⟨#[]⟩:ByteArray),.string (⟨#[]⟩:ByteArray),.int .i64 0,.slice none 0 0,.slice none 0 0]) ?_ 0 _ rfl;(with_reducible repeat (first|refine blk_drewN ?_ _|refine blk_drew ?_|refine blk_alloc ?_ _));exact BK49.out) hb);replace HB:=Aside0.mk (below_step zb27 hb);(try clear hb);obtain ⟨i71,hi71,_,hsz36,_⟩:=info_parts info5;obtain ⟨A36,hcut36,hA36,hC36⟩:=print_drop_of (P:=Tryz.prog) (Value.int .u8) 0 23 5 .i64 Tryz.underlying23 hi71 hsz36 A0 c0 l0 t53 (of_decide_eq_true zb5) (of_decide_eq_true zb5) HC0.out;have HR65:=Aside0.mk (Kd.C_of_reads (h1:=fun _=>rfl) (hA36 _ (Kd.reads_of_C HR0.out)));have HC65:=Aside0.mk hC36;clear hA36 hC36 hi71 hsz36)|((with_reducible refine gate_callee (f:=55) rfl ?_);refine goesL_ (some 41) rfl rfl Tryz.func55 zb7 rfl #[.slice A36 (l0.drop (t53:Int).toNat).length (c0 - t53.toNat),.int .i64 t61,.bool t62] rfl zb100 ?_;(with_reducible refine (http_body.calls k _ _ (l0.drop (t53:Int).toNat) t61 t62 t60 t67 t72 _ ?side1 ?side2 A20.out).mono ?_);(case side1=>exact zb121);(case side2=>exact HC65.out);rintro e w37 ⟨v75,rfl,ho0,hb⟩;(try clear A20);refine ⟨_,rfl,?_⟩;replace HO50:=Aside0.mk (Kd.R_below zb83 hb);have HO76:=Aside0.mk (Kd.R_lower (Kd.R_new' ho0 (Kd.R_lt zb39)) (below_size zb27));replace HO51:=Aside0.mk (Kd.R_elder' zb39 (Kd.R_base ho0) hb);replace BK49:=Aside0.mk (blk_below (g:=gb49) (o:=.cells #[.string t52,.string t58,.int .i64 t56,.slice Ao33 t57.length co33,.slice Ao34 t59.length co34] 33 (0,0)) (by (with_reducible repeat (first|refine blk_drewN ?_ _|refine blk_drew ?_|refine blk_alloc ?_ _));exact BK49.out) hb);replace HB:=Aside0.mk (below_step zb27 hb);try clear hb ho0))
   go_ret
   exact ⟨zb3,zb27⟩
  ·rw [if_neg c19] at H
   exact absurd H zb48
 ·replace c17:=Bool.eq_false_iff.mpr c17
  subst c17
  rw [if_neg (show ¬ (false=true) by decide)] at H
  obtain rfl:=Option.some.inj H
  go_enter Tryz.func25,Tryz.ntmps25
  go_wp2_with (first|((with_reducible refine gate_callee (f:=54) rfl ?_);refine goesL_ (some 12) rfl rfl Tryz.func54 zb7 rfl #[.slice A0 l0.length c0] rfl zb1 ?_;(with_reducible refine (http_open.calls k _ _ l0 t52 t58 t56 t57 t59 t53 t61 t62 t63 _ ?side1 ?side2 A2.out).mono ?_);(case side1=>exact zb18);(case side2=>exact HC0.out);rintro e w38 ⟨v68,v69,rfl,ho0,ho1,hb⟩;(try clear A2);refine ⟨_,rfl,?_⟩;have HO50:=Aside0.mk (Kd.R_lower ho0 (below_size zb0));have HO51:=Aside0.mk (Kd.R_lower ho1 (below_size zb0));replace HB:=Aside0.mk (below_step zb0 hb);try clear hb ho0 ho1)|((with_reducible refine gate_dst (N:=3) rfl ?_);refine box_event rfl (N:=3) rfl (cs:=#[.string (⟨#[]⟩:ByteArray),.string (⟨#[]⟩:ByteArray),.int .i64 0,.slice none 0 0,.slice none 0 0]) (t:=33) zS ?_;intro gb49 hg w39 hbox hb;replace HO50:=Aside0.mk (Kd.R_below zb83 hb);replace HO51:=Aside0.mk (Kd.R_below zb39 hb);have BK49:=Aside0.mk (hbox);have GW49:=zG hg zb0;have GE49:=GW49;replace HB:=Aside0.mk (below_step zb0 hb);clear hb hbox hg;obtain ⟨hcz40_0,hcz40_1,hcz40_2,hcz40_3,hcz40_4,hfz40_0,hfz40_1,hfz40_2,hfz40_3,hfz40_4⟩:=zq5 BK49.out;obtain ⟨Ao41,co41,eo41⟩:=Kd.R_slice HO50.out;subst eo41;obtain ⟨Ao42,co42,eo42⟩:=Kd.R_slice HO51.out;subst eo42)|(go_at_call 58;(with_reducible refine (field_Has.calls k _ _ t57 (⟨#[69,120,112,101,99,116]⟩:ByteArray) (⟨#[49,48,48,45,99,111,110,116,105,110,117,101]⟩:ByteArray) false _ ?side1 ?side2 A16.out).mono ?_);(case side1=>refine (Kd.R_reads' (e:=55) (base:=w.heap.size) (ok:=fun k_=>True) (n:=t57.length) (c:=co41) ?_).2.2;exact zb69);(case side2=>exact (Kd.R_reads' HO50.out).2.1);rintro e w43 ⟨rfl,hb⟩;(try clear A16);replace HO50:=Aside0.mk (Kd.R_below zb69 hb);replace HO51:=Aside0.mk (Kd.R_below (by (with_reducible repeat (first|apply Kd.R_alloc|apply Kd.R_drewN|apply Kd.R_drew));exact (Kd.R_mono (Kd.R_far (p:=⟨gb49,4,none⟩) (Kd.R_far (p:=⟨gb49,3,none⟩) (Kd.R_far (p:=⟨gb49,2,none⟩) (Kd.R_far (p:=⟨gb49,1,none⟩) (Kd.R_far (p:=⟨gb49,0,none⟩) (Kd.R_types HO51.out BK49.out (by decide)) (fun _ hk=>hk.2) (.string t52)) (fun _ hk=>hk.2) (.string t58)) (fun _ hk=>hk.2) (.int .i64 t56)) (fun _ hk=>hk.2) (.slice Ao41 t57.length co41)) (fun _ hk=>hk.2) (.slice Ao42 t59.length co42)) (fun _ h_=>h_.1))) hb);replace BK49:=Aside0.mk (blk_below (g:=gb49) (o:=.cells #[.string t52,.string t58,.int .i64 t56,.slice Ao41 t57.length co41,.slice Ao42 t59.length co42] 33 (0,0)) (by (with_reducible repeat (first|refine blk_drewN ?_ _|refine blk_drew ?_|refine blk_alloc ?_ _));refine blk_put (cs:=#[.string t52,.string t58,.int .i64 t56,.slice Ao41 t57.length co41,.slice none 0 0]) ?_ 4 _ rfl;(with_reducible repeat (first|refine blk_drewN ?_ _|refine blk_drew ?_|refine blk_alloc ?_ _));refine blk_put (cs:=#[.string t52,.string t58,.int .i64 t56,.slice none 0 0,.slice none 0 0]) ?_ 3 _ rfl;(with_reducible repeat (first|refine blk_drewN ?_ _|refine blk_drew ?_|refine blk_alloc ?_ _));refine blk_put (cs:=#[.string t52,.string t58,.int .i64 0,.slice none 0 0,.slice none 0 0]) ?_ 2 _ rfl;(with_reducible repeat (first|refine blk_drewN ?_ _|refine blk_drew ?_|refine blk_alloc ?_ _));refine blk_put (cs:=#[.string t52,.string (⟨#[]⟩:ByteArray),.int .i64 0,.slice none 0 0,.slice none 0 0]) ?_ 1 _ rfl;(with_reducible repeat (first|refine blk_drewN ?_ _|refine blk_drew ?_|refine blk_alloc ?_ _));refine blk_put (cs:=#[.string (⟨#[]⟩:ByteArray),.string (⟨#[]⟩:ByteArray),.int .i64 0,.slice none 0 0,.slice none 0 0]) ?_ 0 _ rfl;(with_reducible repeat (first|refine blk_drewN ?_ _|refine blk_drew ?_|refine blk_alloc ?_ _));exact BK49.out) hb);replace HB:=Aside0.mk (below_step zb27 hb);(try clear hb)))
  go_ret
  exact ⟨zb3,zb27⟩
def line_RequestLine.f (a0_0:ByteArray) (a0_1:ByteArray) (a0_2:Int) (l0_3:List (S55)) (l0_4:List Int):Option (ByteArray):=if a0_0.size + 1 ≤ 9223372036854775807 then (if (a0_0 ++ (⟨#[32]⟩:ByteArray)).size + a0_1.size ≤ 9223372036854775807 then (if ((a0_0 ++ (⟨#[32]⟩:ByteArray)) ++ a0_1).size + 8 ≤ 9223372036854775807 then ((sign_Text.f a0_2).bind fun t626=>(if (((a0_0 ++ (⟨#[32]⟩:ByteArray)) ++ a0_1) ++ (⟨#[32,72,84,84,80,47,49,46]⟩:ByteArray)).size + t626.size ≤ 9223372036854775807 then (if ((((a0_0 ++ (⟨#[32]⟩:ByteArray)) ++ a0_1) ++ (⟨#[32,72,84,84,80,47,49,46]⟩:ByteArray)) ++ t626).size + 2 ≤ 9223372036854775807 then (some (((((a0_0 ++ (⟨#[32]⟩:ByteArray)) ++ a0_1) ++ (⟨#[32,72,84,84,80,47,49,46]⟩:ByteArray)) ++ t626) ++ (⟨#[13,10]⟩:ByteArray))) else (none)) else (none))) else (none)) else (none)) else (none)
def line_RequestLine.T1:Bool × List (List Nat × List Nat):=(true,[([],[]),([0],[0]),([1],[1]),([],[]),([3],[3]),([2,4],[2,4]),([5],[5]),([],[]),([7],[7]),([8],[8]),([6,9],[6,9]),([10],[10]),([11,9,0,1,2,3,4,5,6,7,8,9,10,11],[11])])
def line_RequestLine.B1:List Nat:=[0,1,3,0,8,31,63,0,128,384,1023,2047,4095]
theorem line_RequestLine.tab1:rtab .any (opsOf Tryz.f75 1)=line_RequestLine.T1:=by kernel_rfl
theorem line_RequestLine.bits1:waitsOk line_RequestLine.T1.2 line_RequestLine.B1=true:=by kernel_rfl
set_option maxHeartbeats 8000000 in
set_option maxRecDepth 100000 in
theorem line_RequestLine.calls (a0_0:ByteArray) (a0_1:ByteArray) (a0_2:Int) (A0_3:Option Addr) (c0_3:Nat) (l0_3:List (S55)) (A0_4:Option Addr) (c0_4:Nat) (l0_4:List Int) (r:ByteArray) (w:World) (hr0_3:Kd.C k55 w A0_3 l0_3.length l0_3) (hc0_3:l0_3.length ≤ c0_3) (hr0_4:Kd.C (Kd.int .u8) w A0_4 l0_4.length l0_4) (hc0_4:l0_4.length ≤ c0_4) (h:line_RequestLine.f a0_0 a0_1 a0_2 l0_3 l0_4=some r) (ht:Tabs w) :
 Calls Tryz.prog 75 #[.agg #[.string a0_0,.string a0_1,.int .i64 a0_2,.slice A0_3 l0_3.length c0_3,.slice A0_4 l0_4.length c0_4]] w fun e w' => e = .returned (.string r)∧Below w.heap.size w w' := by
 have HTB:=Aside0.mk ht
 clear ht
 have hu33:=Tryz.underlying33
 have HR0_3:=Aside0.mk hr0_3
 have HC0_3:=Aside0.mk hc0_3
 clear hr0_3 hc0_3
 have HR0_4:=Aside0.mk hr0_4
 have HC0_4:=Aside0.mk hc0_4
 clear hr0_4 hc0_4
 have HB:=Aside0.mk (Below.refl w.heap.size w)
 unfold line_RequestLine.f at h
 have H:=h
 clear h
 by_cases c2:a0_0.size + 1 ≤ 9223372036854775807;rotate_left
 ·rw [if_neg c2] at H
  exact absurd H zb48
 rw [if_pos c2] at H
 have c2b0:=eq_true c2
 have c2b1:=decide_eq_true c2
 try have c2b2:(9223372036854775807 < a0_0.size + 1)=False:=eq_false (Nat.not_lt.2 c2)
 by_cases c3:(a0_0 ++ (⟨#[32]⟩:ByteArray)).size + a0_1.size ≤ 9223372036854775807
 ·rw [if_pos c3] at H
  have c3b0:=eq_true c3
  have c3b1:=decide_eq_true c3
  try have c3b2:(9223372036854775807 < (a0_0 ++ (⟨#[32]⟩:ByteArray)).size + a0_1.size)=False:=eq_false (Nat.not_lt.2 c3)
  try (have c3b3:=c3b0;simp only [ByteArray.size_append] at c3b3;have c3b4:=c3b2;simp only [ByteArray.size_append] at c3b4)
  try have c3b5:(9223372036854775807 < a0_0.size + 1 + a0_1.size)=False:=eq_false (by have q_:=c3;simp only [ByteArray.size_append] at q_;have e0_:(⟨#[32]⟩:ByteArray).size=1:=rfl;omega)
  try have c3b6:(a0_0.size + 1 + a0_1.size ≤ 9223372036854775807)=True:=eq_true (by have q_:=c3;simp only [ByteArray.size_append] at q_;have e0_:(⟨#[32]⟩:ByteArray).size=1:=rfl;omega)
  by_cases c4:((a0_0 ++ (⟨#[32]⟩:ByteArray)) ++ a0_1).size + 8 ≤ 9223372036854775807;rotate_left
  ·rw [if_neg c4] at H
   exact absurd H zb48
  rw [if_pos c4] at H
  have c4b0:=eq_true c4
  have c4b1:=decide_eq_true c4
  try have c4b2:(9223372036854775807 < ((a0_0 ++ (⟨#[32]⟩:ByteArray)) ++ a0_1).size + 8)=False:=eq_false (Nat.not_lt.2 c4)
  try (have c4b3:=c4b0;simp only [ByteArray.size_append] at c4b3;have c4b4:=c4b2;simp only [ByteArray.size_append] at c4b4)
  try have c4b5:(9223372036854775807 < a0_0.size + 1 + a0_1.size + 8)=False:=eq_false (by have q_:=c4;simp only [ByteArray.size_append] at q_;have e0_:(⟨#[32]⟩:ByteArray).size=1:=rfl;omega)
  try have c4b6:(a0_0.size + 1 + a0_1.size + 8 ≤ 9223372036854775807)=True:=eq_true (by have q_:=c4;simp only [ByteArray.size_append] at q_;have e0_:(⟨#[32]⟩:ByteArray).size=1:=rfl;omega)
  replace H:=Option.bind_eq_some_iff.mp H
  obtain ⟨t626,A50,H⟩:=H
  try dsimp only at H
  have A5:=Aside0.mk A50
  clear A50
  by_cases c6:(((a0_0 ++ (⟨#[32]⟩:ByteArray)) ++ a0_1) ++ (⟨#[32,72,84,84,80,47,49,46]⟩:ByteArray)).size + t626.size ≤ 9223372036854775807
  ·rw [if_pos c6] at H
   have c6b0:=eq_true c6
   have c6b1:=decide_eq_true c6
   try have c6b2:(9223372036854775807 < (((a0_0 ++ (⟨#[32]⟩:ByteArray)) ++ a0_1) ++ (⟨#[32,72,84,84,80,47,49,46]⟩:ByteArray)).size + t626.size)=False:=eq_false (Nat.not_lt.2 c6)
   try (have c6b3:=c6b0;simp only [ByteArray.size_append] at c6b3;have c6b4:=c6b2;simp only [ByteArray.size_append] at c6b4)
   try have c6b5:(9223372036854775807 < a0_0.size + 1 + a0_1.size + 8 + t626.size)=False:=eq_false zb111
   try have c6b6:(a0_0.size + 1 + a0_1.size + 8 + t626.size ≤ 9223372036854775807)=True:=eq_true zb111
   by_cases c7:((((a0_0 ++ (⟨#[32]⟩:ByteArray)) ++ a0_1) ++ (⟨#[32,72,84,84,80,47,49,46]⟩:ByteArray)) ++ t626).size + 2 ≤ 9223372036854775807;rotate_left
   ·rw [if_neg c7] at H
    exact absurd H zb48
   rw [if_pos c7] at H
   have c7b0:=eq_true c7
   have c7b1:=decide_eq_true c7
   try have c7b2:(9223372036854775807 < ((((a0_0 ++ (⟨#[32]⟩:ByteArray)) ++ a0_1) ++ (⟨#[32,72,84,84,80,47,49,46]⟩:ByteArray)) ++ t626).size + 2)=False:=eq_false (Nat.not_lt.2 c7)
   try (have c7b3:=c7b0;simp only [ByteArray.size_append] at c7b3;have c7b4:=c7b2;simp only [ByteArray.size_append] at c7b4)
   try have c7b5:(9223372036854775807 < a0_0.size + 1 + a0_1.size + 8 + t626.size + 2)=False:=eq_false zb112
   try have c7b6:(a0_0.size + 1 + a0_1.size + 8 + t626.size + 2 ≤ 9223372036854775807)=True:=eq_true zb112
   obtain rfl:=Option.some.inj H
   go_enter Tryz.func75,Tryz.ntmps75
   try go_wp2_with (first|((with_reducible refine gate_dst (N:=1) rfl ?_);refine box_event rfl (N:=1) rfl (cs:=#[.string a0_0,.string a0_1,.int .i64 a0_2,.slice A0_3 l0_3.length c0_3,.slice A0_4 l0_4.length c0_4]) (t:=33) zS ?_;intro gb625 hg w8 hbox hb;have GW625:=zG hg zb0;have GE625:=GW625;have BK625:=Aside0.mk hbox;replace HB:=Aside0.mk (below_step zb0 hb);clear hb hbox hg))
   replace BK625:=Aside0.mk (blk_drew BK625.out)
   replace HB:=Aside0.mk (below_drew1 HB.out)
   refine start_ (n:=13) (S:=fun w' => w'.cell? ⟨gb625,0,none⟩=some (.string a0_0)∧w'.cell? ⟨gb625,1,none⟩=some (.string a0_1)∧w'.cell? ⟨gb625,2,none⟩=some (.int .i64 a0_2)∧w'.cell? ⟨gb625,3,none⟩=some (.slice A0_3 l0_3.length c0_3)∧w'.cell? ⟨gb625,4,none⟩=some (.slice A0_4 l0_4.length c0_4)) (ds:=[]) (zl 13 0) zb7 rfl rfl ⟨(blk_cell BK625.out 0).trans rfl,(blk_cell BK625.out 1).trans rfl,(blk_cell BK625.out 2).trans rfl,(blk_cell BK625.out 3).trans rfl,(blk_cell BK625.out 4).trans rfl⟩ (fun hHeld=>?_);refine with_tabW line_RequestLine.tab1 line_RequestLine.bits1 (fun HT_ HW_=>?_)
   generalize w8.drew=w9 at BK625 HB hHeld ⊢
   refine zpu 0 (N:=some 3) (zl 13 1) HT_.out rfl rfl ?_
   refine zpu 3 (N:=some 6) (zl 13 9) HT_.out rfl rfl ?_
   refine zpu 7 (N:=some 10) (zl 13 137) HT_.out rfl rfl ?_
   refine take_ (i:=1) (N:=some 4) (v:=?_) (a' := ?_) (zl 13 139) rfl rfl (take_ofW HT_.out HW_.out zb7) (fun _ _ _ h=>h) (Or.inl ⟨zb77,?_⟩) hHeld ?_ ?_
   rotate_left
   ·rintro w' ⟨s0,s1,s2,s3,s4⟩;go_simp;with_reducible rfl
   rotate_left
   ·simp only [Act.put,zqA,zqB,zqC,i64_w,i32_w];rfl
   refine zpu 2 (N:=some 5) (zl 13 143) HT_.out rfl rfl ?_
   refine take_ (i:=4) (N:=some 7) (v:=?_) (a' := ?_) (zl 13 159) rfl rfl (take_ofW HT_.out HW_.out zb7) (fun _ _ _ h=>h) (Or.inl ⟨zb77,?_⟩) hHeld ?_ ?_
   rotate_left
   ·rintro w' ⟨s0,s1,s2,s3,s4⟩;go_simp;with_reducible rfl
   rotate_left
   ·simp only [Act.put,zqA,zqB,zqC,i64_w,i32_w];rfl
   refine zpu 5 (N:=some 8) (zl 13 191) HT_.out rfl rfl ?_
   refine zpu 6 (N:=some 9) (zl 13 255) HT_.out rfl rfl ?_
   refine take_ (i:=8) (N:=some 11) (v:=?_) (a' := ?_) (zl 13 511) rfl rfl (take_ofW HT_.out HW_.out zb7) (fun _ _ _ h=>h) (Or.inl ⟨zb77,?_⟩) hHeld ?_ ?_
   rotate_left
   ·rintro w' ⟨s0,s1,s2,s3,s4⟩;go_simp;with_reducible rfl
   rotate_left
   ·simp only [Act.put,zqA,zqB,zqC,i64_w,i32_w];rfl
   refine one_ (i:=9) (N:=some 12) (zl 13 1023) rfl rfl (one_of HT_.out zb7) zb92 (fun K hK=>?_)
   refine goes_ Tryz.func86 zb7 rfl #[.int .i64 a0_2] zb77 rfl rfl zb1 ?_
   with_reducible refine (sign_Text.calls a0_2 t626 _ A5.out ?hT).mono ?_;(case hT=>exact HTB.out.below zb101)
   rintro e w10 ⟨rfl,hb⟩
   refine ⟨_,rfl,?_⟩
   replace BK625:=Aside0.mk (blk_below (g:=gb625) (o:=.cells #[.string a0_0,.string a0_1,.int .i64 a0_2,.slice A0_3 l0_3.length c0_3,.slice A0_4 l0_4.length c0_4] 33 (0,0)) (by (with_reducible repeat (first|refine blk_drewN ?_ _|refine blk_drew ?_|refine blk_alloc ?_ _));exact BK625.out) hb)
   replace HB:=Aside0.mk (below_step zb101 hb)
   (try clear hb)
   (try clear hb2)
   (try clear hk)
   (try clear hi)
   refine hK.out _ _ ⟨(blk_cell BK625.out 0).trans rfl,(blk_cell BK625.out 1).trans rfl,(blk_cell BK625.out 2).trans rfl,(blk_cell BK625.out 3).trans rfl,(blk_cell BK625.out 4).trans rfl⟩ (fun hHeld=>?_)
   clear hK K
   refine norm_ (a' := ?_) ?_ ?_
   rotate_left
   ·show Act.put _ (some 12) _=_
    simp only [Act.put,zqA,zqB,zqC,i64_w,i32_w]
    rfl
   refine zpu 10 (N:=some 13) (zl 13 2047) HT_.out rfl rfl ?_
   refine zpu 11 (N:=some 14) (zl 13 4095) HT_.out rfl rfl ?_
   refine zpu 12 (N:=some 2) (zl 13 8191) HT_.out rfl rfl ?_
   refine done_ (done_of HT_.out zb7) ?_
   try go_wp2
   go_ret
   exact ⟨zb3,zb101⟩
  ·rw [if_neg c6] at H
   exact absurd H zb48
 ·rw [if_neg c3] at H
  exact absurd H zb48
def http_WriteRequest.f (k:Nat) (a0:ByteArray) (a1:ByteArray) (a2:Int) (l3:List (S55)) (l4:List Int):Option (List Int):=(line_RequestLine.f a0 a1 a2 l3 l4).bind fun s=>http_write.f k s l3 l4
set_option maxHeartbeats 8000000 in
set_option maxRecDepth 100000 in
theorem http_WriteRequest.callsB (k:Nat) (a0:ByteArray) (a1:ByteArray) (a2:Int) (A3:Option Addr) (c3:Nat) (l3:List (S55)) (A4:Option Addr) (c4:Nat) (l4:List Int) (r:List Int) (w:World) (hr3:Kd.C k55 w A3 l3.length l3) (hc3:l3.length ≤ c3) (hr4:Kd.C (Kd.int .u8) w A4 l4.length l4) (hc4:l4.length ≤ c4) (h:http_WriteRequest.f k a0 a1 a2 l3 l4=some r) (ht:Tabs w) :
 Calls Tryz.prog 36 #[.agg #[.string a0,.string a1,.int .i64 a2,.slice A3 l3.length c3,.slice A4 l4.length c4]] w fun e w' => ∃ v,e = .returned v∧BufM w' w.heap.size v r∧Below w.heap.size w w' := by
 have hu:=Tryz.underlying33
 unfold http_WriteRequest.f at h
 obtain ⟨s,hs,h'⟩:=Option.bind_eq_some_iff.1 h
 have HS:=Aside0.mk hs
 have HW:=Aside0.mk h'
 have R3:=Aside0.mk hr3
 have R4:=Aside0.mk hr4
 have C3:=Aside0.mk hc3
 have C4:=Aside0.mk hc4
 have HT:=Aside0.mk ht
 clear h hs h' hr3 hr4 hc3 hc4 ht
 go_enter Tryz.func36,Tryz.ntmps36
 go_wp2_with (first
  | ((with_reducible refine gate_dst (N:=1) rfl ?_);refine box_event ?hg (N:=1) ?hd (cs:=#[.string a0,.string a1,.int .i64 a2,.slice A3 l3.length c3,.slice A4 l4.length c4]) (t:=33) ?hr ?_;(case hd=>rfl);(case hg=>rfl);(case hr=>first|(go_simp;done)|(go_simp;rfl));intro X hX w5 hBX hb5;have BX:=Aside0.mk hBX;have L5:=Aside0.mk hb5;have EX:=Aside0.mk hX;have q0:w5.cell? ⟨X,0,none⟩=some (.string a0):=(blk_cell BX.out 0).trans rfl;have q1:w5.cell? ⟨X,1,none⟩=some (.string a1):=(blk_cell BX.out 1).trans rfl;have q2:w5.cell? ⟨X,2,none⟩=some (.int .i64 a2):=(blk_cell BX.out 2).trans rfl;have q3:w5.cell? ⟨X,3,none⟩=some (.slice A3 l3.length c3):=(blk_cell BX.out 3).trans rfl;have q4:w5.cell? ⟨X,4,none⟩=some (.slice A4 l4.length c4):=(blk_cell BX.out 4).trans rfl;clear hBX hb5 hX))
 go_region_held3 (fun w' => w'.cell? ⟨X,0,none⟩=some (.string a0)∧w'.cell? ⟨X,1,none⟩=some (.string a1)∧w'.cell? ⟨X,2,none⟩=some (.int .i64 a2)∧w'.cell? ⟨X,3,none⟩=some (.slice A3 l3.length c3)∧w'.cell? ⟨X,4,none⟩=some (.slice A4 l4.length c4)) (go_keep)
  (first
   | (go_at_call 75;refine (line_RequestLine.calls a0 a1 a2 A3 c3 l3 A4 c4 l4 s _ (Kd.C_drew (Kd.C_below R3.out L5.out)) C3.out (Kd.C_drew (Kd.C_below R4.out L5.out)) C4.out HS.out (Tabs.below HT.out (below_drew1 L5.out))).mono ?_;rintro E w6 ⟨rfl,hb6⟩;have BX6:=Aside0.mk (blk_below (blk_drew BX.out) hb6);have L6:=Aside0.mk ((below_drew1 L5.out).trans (hbase2 (below_drew1 L5.out).size hb6));have q0:w6.cell? ⟨X,0,none⟩=some (.string a0):=(blk_cell BX6.out 0).trans rfl;have q1:w6.cell? ⟨X,1,none⟩=some (.string a1):=(blk_cell BX6.out 1).trans rfl;have q2:w6.cell? ⟨X,2,none⟩=some (.int .i64 a2):=(blk_cell BX6.out 2).trans rfl;have q3:w6.cell? ⟨X,3,none⟩=some (.slice A3 l3.length c3):=(blk_cell BX6.out 3).trans rfl;have q4:w6.cell? ⟨X,4,none⟩=some (.slice A4 l4.length c4):=(blk_cell BX6.out 4).trans rfl;clear hb6)
   | (go_at_call 74;refine (http_write.callsB k s A3 c3 l3 A4 c4 l4 r _ (Kd.C_below R3.out L6.out) C3.out (Kd.C_below R4.out L6.out) C4.out HW.out).mono ?_;rintro E w7 ⟨v7,rfl,hB7,hb7⟩;obtain ⟨A7,c7,e7⟩:=hB7.form;subst e7;have B7:=Aside0.mk hB7;have L7:=Aside0.mk hb7;have BX7:=Aside0.mk (blk_below BX6.out hb7);have q0:w7.cell? ⟨X,0,none⟩=some (.string a0):=(blk_cell BX7.out 0).trans rfl;have q1:w7.cell? ⟨X,1,none⟩=some (.string a1):=(blk_cell BX7.out 1).trans rfl;have q2:w7.cell? ⟨X,2,none⟩=some (.int .i64 a2):=(blk_cell BX7.out 2).trans rfl;have q3:w7.cell? ⟨X,3,none⟩=some (.slice A3 l3.length c3):=(blk_cell BX7.out 3).trans rfl;have q4:w7.cell? ⟨X,4,none⟩=some (.slice A4 l4.length c4):=(blk_cell BX7.out 4).trans rfl;clear hB7 hb7))
 go_wp2
 go_ret
 exact ⟨_,rfl,BufM.lower B7.out L6.out.size,L6.out.trans (hbase2 L6.out.size L7.out)⟩
end Go.Proofs.YtfjeinnemimjoaaGreatDoor.P
