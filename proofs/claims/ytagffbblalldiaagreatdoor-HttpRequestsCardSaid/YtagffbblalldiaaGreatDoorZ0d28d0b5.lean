/- Each function below answers as its Lean twin says; plain lemmas; a row where its theorem stands. No further condition. (Laid by this repo's pack.py out of its texts and of the print's words.) -/
import Derived.Test.YtagffbblalldiaaGreatDoorZ8a043510
import Derived.Test.YtagffbblalldiaaGreatDoorZbf959539
import Derived.WalkSpells
import Derived.Deep.RegionHeld3
import Derived.Lib.SlBytesConst
import Derived.Deep.QuietTactic
import Derived.BigQuiet
import Derived.Shelf.Strings.SlTrimAscii
import Derived.Shelf.Abstract
import Derived.Deep.AppendSrc
import Derived.Deep.MidRow
import Derived.Lib.ConvBytes
set_option maxRecDepth 100000
set_option maxHeartbeats 16000000
namespace Go.Proofs.YtagffbblalldiaaGreatDoor.P
open Go.RowKit Go.Proofs.YtagffbblalldiaaGreatDoorW.PrintWords Go.Proofs.YtagffbblalldiaaGreatDoorW.PrintLast Go.Proofs.YtagffbblalldiaaGreatDoorW.PrintMore
attribute [local go_sem] max2_int min2_int max_two min_two max_three min_three max_four min_four
set_option linter.unusedVariables false
set_option linter.unusedSimpArgs false
def http_Head.f (k:Nat) (l0:List Int):Option (ByteArray × ByteArray × Int × (List (S36)) × List Int × Int × Int):=(http_open.f k l0).bind fun bt535=>(if bt535.2.2.2.2.2.1=0 then (some ((⟨#[]⟩:ByteArray),(⟨#[]⟩:ByteArray),0,([]:List (S36)),([]:List Int),0,bt535.2.2.2.2.2.2.2.2)) else (if bt535.2.2.2.2.2.2.2.2=0 then (some (bt535.1,bt535.2.1,bt535.2.2.1,bt535.2.2.2.1,bt535.2.2.2.2.1,bt535.2.2.2.2.2.1,0)) else (some ((⟨#[]⟩:ByteArray),(⟨#[]⟩:ByteArray),0,([]:List (S36)),([]:List Int),0,bt535.2.2.2.2.2.2.2.2))))
theorem http_Head.calls (k:Nat) (A0:Option Addr) (c0:Nat) (l0:List Int) (r1:ByteArray) (r2:ByteArray) (r3:Int) (r4:List (S36)) (r5:List Int) (r6:Int) (r7:Int) (w:World) (hr0:Kd.C (Kd.int .u8) w A0 l0.length l0) (hc0:l0.length ≤ c0) (h:http_Head.f k l0=some (r1,r2,r3,r4,r5,r6,r7)) :
 Calls Tryz.prog 14 #[.slice A0 l0.length c0] w fun e w' => ∃ v3_ v4_:Value,e = .returned (.tuple #[.agg #[.string r1,.string r2,.int .i64 r3,v3_,v4_],.int .i64 r6,.int .i64 r7])∧Kd.R k36 36 w' w.heap.size (fun _=>True) v3_ r4∧Kd.R (Kd.int .u8) 5 w' w.heap.size (fun _=>True) v4_ r5∧Below w.heap.size w w' := by
 have hu26:=Tryz.underlying26
 have HR0:=Aside0.mk hr0
 have HC0:=Aside0.mk hc0
 clear hr0 hc0
 have HB:=zB w
 unfold http_Head.f at h
 have H:=h
 clear h
 replace H:=Option.bind_eq_some_iff.mp H
 obtain ⟨⟨t31,t34,t35,t38,t40,t39,t41,t42,t37⟩,A20,H⟩:=H
 try dsimp only at H
 have A2:=Aside0.mk A20
 clear A20
 by_cases c3:t39=0
 ·rw [if_pos c3] at H
  have c3b0:=beq_iff_eq.mpr c3
  have c3b1:=bne_eq_false_iff_eq.mpr c3
  clear c3
  simp only [zi,zj] at H
  obtain ⟨rfl,rfl,rfl,rfl,rfl,rfl,rfl⟩:=H
  go_enter Tryz.func14,Tryz.ntmps14
  go_wp2_with (first|((with_reducible refine gate_dst (N:=2) rfl ?_);refine box_event rfl (N:=2) rfl (cs:=#[.string (⟨#[]⟩:ByteArray),.string (⟨#[]⟩:ByteArray),.int .i64 0,.slice none 0 0,.slice none 0 0]) (t:=26) zS ?_;intro gb29 hg w4 hbox hb;have GW29:=zG hg zb0;have GE29:=GW29;have BK29:=Aside0.mk hbox;replace HB:=Aside0.mk (below_step zb0 hb);clear hb hbox hg)|((with_reducible refine gate_callee (f:=44) rfl ?_);refine goesL_ (some 12) rfl rfl Tryz.func44 zb7 rfl #[.slice A0 l0.length c0] rfl zb2 ?_;(with_reducible refine (http_open.calls k _ _ l0 t31 t34 t35 t38 t40 t39 t41 t42 t37 _ ?side1 ?side2 A2.out).mono ?_);(case side1=>exact zb19);(case side2=>exact HC0.out);rintro e w5 ⟨v43,v45,rfl,ho0,ho1,hb⟩;(try clear A2);refine ⟨_,rfl,?_⟩;have HO32:=Aside0.mk (Kd.R_lower ho0 (below_size zb13));have HO33:=Aside0.mk (Kd.R_lower ho1 (below_size zb13));replace BK29:=Aside0.mk (blk_below (g:=gb29) (o:=.cells #[.string (⟨#[]⟩:ByteArray),.string (⟨#[]⟩:ByteArray),.int .i64 0,.slice none 0 0,.slice none 0 0] 26 (0,0)) zb25 hb);replace HB:=Aside0.mk (below_step zb13 hb);try clear hb ho0 ho1)|((with_reducible refine gate_dst (N:=5) rfl ?_);refine box_event rfl (N:=5) rfl (cs:=#[.string (⟨#[]⟩:ByteArray),.string (⟨#[]⟩:ByteArray),.int .i64 0,.slice none 0 0,.slice none 0 0]) (t:=26) zS ?_;intro gb30 hg w6 hbox hb;replace HO32:=Aside0.mk (Kd.R_below zb119 hb);replace HO33:=Aside0.mk (Kd.R_below zb120 hb);have BK30:=Aside0.mk (hbox);have GW30:=zG hg zb13;have GE30:=GW30;replace HB:=Aside0.mk (below_step zb13 hb);have NB29_548:=Aside0.mk ((by rw [hg];exact Nat.ne_of_lt (blk_lt (g:=gb29) (o:=.cells #[.string (⟨#[]⟩:ByteArray),.string (⟨#[]⟩:ByteArray),.int .i64 0,.slice none 0 0,.slice none 0 0] 26 (0,0)) zb25):gb29 ≠ gb30));have NB30_534:=Aside0.mk ((by rw [hg];exact Nat.ne_of_gt (blk_lt (g:=gb29) (o:=.cells #[.string (⟨#[]⟩:ByteArray),.string (⟨#[]⟩:ByteArray),.int .i64 0,.slice none 0 0,.slice none 0 0] 26 (0,0)) zb25):gb30 ≠ gb29));replace BK29:=Aside0.mk (blk_below (g:=gb29) (o:=.cells #[.string (⟨#[]⟩:ByteArray),.string (⟨#[]⟩:ByteArray),.int .i64 0,.slice none 0 0,.slice none 0 0] 26 (0,0)) zb25 hb);clear hb hbox hg;have hnb7:=NB30_534.out;have hnc7:=NB29_548.out;obtain ⟨hcz8_0,hcz8_1,hcz8_2,hcz8_3,hcz8_4,hfz8_0,hfz8_1,hfz8_2,hfz8_3,hfz8_4⟩:=zq5 BK30.out;obtain ⟨Ao9,co9,eo9⟩:=Kd.R_slice HO32.out;subst eo9;obtain ⟨Ao10,co10,eo10⟩:=Kd.R_slice HO33.out;subst eo10;obtain ⟨hcz11_0,hcz11_1,hcz11_2,hcz11_3,hcz11_4,hfz11_0,hfz11_1,hfz11_2,hfz11_3,hfz11_4⟩:=zq5 BK29.out))
  refine bodyPost_ret (results_ctt rfl _ _ gb29 26 #[.string (⟨#[]⟩:ByteArray),.string (⟨#[]⟩:ByteArray),.int .i64 0,.slice none 0 0,.slice none 0 0] (0,0) _ rfl zb14 Tryz.underlying26 rfl zb7) rfl ?_
  exact ⟨_,_,zb3,zb6,zb6,zb22⟩
 rw [if_neg c3] at H
 have c3b0:=beq_eq_false_iff_ne.mpr c3
 have c3b1:=bne_iff_ne.mpr c3
 by_cases c12:t37=0;rotate_left
 ·rw [if_neg c12] at H
  have c12b0:=beq_eq_false_iff_ne.mpr c12
  have c12b1:=bne_iff_ne.mpr c12
  simp only [zi,zj] at H
  obtain ⟨rfl,rfl,rfl,rfl,rfl,rfl,rfl⟩:=H
  go_enter Tryz.func14,Tryz.ntmps14
  go_wp2_with (first|((with_reducible refine gate_dst (N:=2) rfl ?_);refine box_event rfl (N:=2) rfl (cs:=#[.string (⟨#[]⟩:ByteArray),.string (⟨#[]⟩:ByteArray),.int .i64 0,.slice none 0 0,.slice none 0 0]) (t:=26) zS ?_;intro gb29 hg w21 hbox hb;have GW29:=zG hg zb0;have GE29:=GW29;have BK29:=Aside0.mk hbox;replace HB:=Aside0.mk (below_step zb0 hb);clear hb hbox hg)|((with_reducible refine gate_callee (f:=44) rfl ?_);refine goesL_ (some 12) rfl rfl Tryz.func44 zb7 rfl #[.slice A0 l0.length c0] rfl zb2 ?_;(with_reducible refine (http_open.calls k _ _ l0 t31 t34 t35 t38 t40 t39 t41 t42 t37 _ ?side1 ?side2 A2.out).mono ?_);(case side1=>exact zb19);(case side2=>exact HC0.out);rintro e w22 ⟨v43,v45,rfl,ho0,ho1,hb⟩;(try clear A2);refine ⟨_,rfl,?_⟩;have HO32:=Aside0.mk (Kd.R_lower ho0 (below_size zb13));have HO33:=Aside0.mk (Kd.R_lower ho1 (below_size zb13));replace BK29:=Aside0.mk (blk_below (g:=gb29) (o:=.cells #[.string (⟨#[]⟩:ByteArray),.string (⟨#[]⟩:ByteArray),.int .i64 0,.slice none 0 0,.slice none 0 0] 26 (0,0)) zb25 hb);replace HB:=Aside0.mk (below_step zb13 hb);try clear hb ho0 ho1)|((with_reducible refine gate_dst (N:=5) rfl ?_);refine box_event rfl (N:=5) rfl (cs:=#[.string (⟨#[]⟩:ByteArray),.string (⟨#[]⟩:ByteArray),.int .i64 0,.slice none 0 0,.slice none 0 0]) (t:=26) zS ?_;intro gb30 hg w23 hbox hb;replace HO32:=Aside0.mk (Kd.R_below zb119 hb);replace HO33:=Aside0.mk (Kd.R_below zb120 hb);have BK30:=Aside0.mk (hbox);have GW30:=zG hg zb13;have GE30:=GW30;replace HB:=Aside0.mk (below_step zb13 hb);have NB29_548:=Aside0.mk ((by rw [hg];exact Nat.ne_of_lt (blk_lt (g:=gb29) (o:=.cells #[.string (⟨#[]⟩:ByteArray),.string (⟨#[]⟩:ByteArray),.int .i64 0,.slice none 0 0,.slice none 0 0] 26 (0,0)) zb25):gb29 ≠ gb30));have NB30_534:=Aside0.mk ((by rw [hg];exact Nat.ne_of_gt (blk_lt (g:=gb29) (o:=.cells #[.string (⟨#[]⟩:ByteArray),.string (⟨#[]⟩:ByteArray),.int .i64 0,.slice none 0 0,.slice none 0 0] 26 (0,0)) zb25):gb30 ≠ gb29));replace BK29:=Aside0.mk (blk_below (g:=gb29) (o:=.cells #[.string (⟨#[]⟩:ByteArray),.string (⟨#[]⟩:ByteArray),.int .i64 0,.slice none 0 0,.slice none 0 0] 26 (0,0)) zb25 hb);clear hb hbox hg;have hnb24:=NB30_534.out;have hnc24:=NB29_548.out;obtain ⟨hcz25_0,hcz25_1,hcz25_2,hcz25_3,hcz25_4,hfz25_0,hfz25_1,hfz25_2,hfz25_3,hfz25_4⟩:=zq5 BK30.out;obtain ⟨Ao26,co26,eo26⟩:=Kd.R_slice HO32.out;subst eo26;obtain ⟨Ao27,co27,eo27⟩:=Kd.R_slice HO33.out;subst eo27;obtain ⟨hcz28_0,hcz28_1,hcz28_2,hcz28_3,hcz28_4,hfz28_0,hfz28_1,hfz28_2,hfz28_3,hfz28_4⟩:=zq5 BK29.out))
  refine bodyPost_ret (results_ctt rfl _ _ gb29 26 #[.string (⟨#[]⟩:ByteArray),.string (⟨#[]⟩:ByteArray),.int .i64 0,.slice none 0 0,.slice none 0 0] (0,0) _ rfl zb14 Tryz.underlying26 rfl zb7) rfl ?_
  exact ⟨_,_,zb3,zb6,zb6,zb22⟩
 rw [if_pos c12] at H
 have c12b0:=beq_iff_eq.mpr c12
 have c12b1:=bne_eq_false_iff_eq.mpr c12
 clear c12
 simp only [zi,zj] at H
 obtain ⟨rfl,rfl,rfl,rfl,rfl,rfl,rfl⟩:=H
 go_enter Tryz.func14,Tryz.ntmps14
 go_wp2_with (first|((with_reducible refine gate_dst (N:=2) rfl ?_);refine box_event rfl (N:=2) rfl (cs:=#[.string (⟨#[]⟩:ByteArray),.string (⟨#[]⟩:ByteArray),.int .i64 0,.slice none 0 0,.slice none 0 0]) (t:=26) zS ?_;intro gb29 hg w13 hbox hb;have GW29:=zG hg zb0;have GE29:=GW29;have BK29:=Aside0.mk hbox;replace HB:=Aside0.mk (below_step zb0 hb);clear hb hbox hg)|((with_reducible refine gate_callee (f:=44) rfl ?_);refine goesL_ (some 12) rfl rfl Tryz.func44 zb7 rfl #[.slice A0 l0.length c0] rfl zb2 ?_;(with_reducible refine (http_open.calls k _ _ l0 t31 t34 t35 t38 t40 t39 t41 t42 t37 _ ?side1 ?side2 A2.out).mono ?_);(case side1=>exact zb19);(case side2=>exact HC0.out);rintro e w14 ⟨v43,v45,rfl,ho0,ho1,hb⟩;(try clear A2);refine ⟨_,rfl,?_⟩;have HO32:=Aside0.mk (Kd.R_lower ho0 (below_size zb13));have HO33:=Aside0.mk (Kd.R_lower ho1 (below_size zb13));replace BK29:=Aside0.mk (blk_below (g:=gb29) (o:=.cells #[.string (⟨#[]⟩:ByteArray),.string (⟨#[]⟩:ByteArray),.int .i64 0,.slice none 0 0,.slice none 0 0] 26 (0,0)) zb25 hb);replace HB:=Aside0.mk (below_step zb13 hb);try clear hb ho0 ho1)|((with_reducible refine gate_dst (N:=5) rfl ?_);refine box_event rfl (N:=5) rfl (cs:=#[.string (⟨#[]⟩:ByteArray),.string (⟨#[]⟩:ByteArray),.int .i64 0,.slice none 0 0,.slice none 0 0]) (t:=26) zS ?_;intro gb30 hg w15 hbox hb;replace HO32:=Aside0.mk (Kd.R_below zb119 hb);replace HO33:=Aside0.mk (Kd.R_below zb120 hb);have BK30:=Aside0.mk (hbox);have GW30:=zG hg zb13;have GE30:=GW30;replace HB:=Aside0.mk (below_step zb13 hb);have NB29_548:=Aside0.mk ((by rw [hg];exact Nat.ne_of_lt (blk_lt (g:=gb29) (o:=.cells #[.string (⟨#[]⟩:ByteArray),.string (⟨#[]⟩:ByteArray),.int .i64 0,.slice none 0 0,.slice none 0 0] 26 (0,0)) zb25):gb29 ≠ gb30));have NB30_534:=Aside0.mk ((by rw [hg];exact Nat.ne_of_gt (blk_lt (g:=gb29) (o:=.cells #[.string (⟨#[]⟩:ByteArray),.string (⟨#[]⟩:ByteArray),.int .i64 0,.slice none 0 0,.slice none 0 0] 26 (0,0)) zb25):gb30 ≠ gb29));replace BK29:=Aside0.mk (blk_below (g:=gb29) (o:=.cells #[.string (⟨#[]⟩:ByteArray),.string (⟨#[]⟩:ByteArray),.int .i64 0,.slice none 0 0,.slice none 0 0] 26 (0,0)) zb25 hb);clear hb hbox hg;have hnb16:=NB30_534.out;have hnc16:=NB29_548.out;obtain ⟨hcz17_0,hcz17_1,hcz17_2,hcz17_3,hcz17_4,hfz17_0,hfz17_1,hfz17_2,hfz17_3,hfz17_4⟩:=zq5 BK30.out;obtain ⟨Ao18,co18,eo18⟩:=Kd.R_slice HO32.out;subst eo18;obtain ⟨Ao19,co19,eo19⟩:=Kd.R_slice HO33.out;subst eo19;obtain ⟨hcz20_0,hcz20_1,hcz20_2,hcz20_3,hcz20_4,hfz20_0,hfz20_1,hfz20_2,hfz20_3,hfz20_4⟩:=zq5 BK29.out))
 refine bodyPost_ret (results_ctt rfl _ _ gb29 26 #[.string t31,.string t34,.int .i64 t35,.slice Ao18 t38.length co18,.slice Ao19 t40.length co19] (0,0) _ rfl zb14 Tryz.underlying26 rfl zb7) rfl ?_
 exact ⟨_,_,zb3,by (with_reducible repeat (first|apply Kd.R_alloc|apply Kd.R_drewN|apply Kd.R_drew));exact Kd.R_mono (zf5 (g:=gb29) (Kd.R_far (p:=⟨gb30,4,none⟩) (Kd.R_far (p:=⟨gb30,3,none⟩) (Kd.R_far (p:=⟨gb30,2,none⟩) (Kd.R_far (p:=⟨gb30,1,none⟩) (Kd.R_far (p:=⟨gb30,0,none⟩) (Kd.R_types (Kd.R_types HO32.out BK30.out (by decide)) BK29.out (by decide)) (fun _ hk=>hk.1.2) (.string t31)) (fun _ hk=>hk.1.2) (.string t34)) (fun _ hk=>hk.1.2) (.int .i64 t35)) (fun _ hk=>hk.1.2) (.slice Ao18 t38.length co18)) (fun _ hk=>hk.1.2) (.slice Ao19 t40.length co19)) (fun _ hk=>hk.2)) (fun _ hk=>trivial),by (with_reducible repeat (first|apply Kd.R_alloc|apply Kd.R_drewN|apply Kd.R_drew));exact Kd.R_mono (zf5 (g:=gb29) (Kd.R_far (p:=⟨gb30,4,none⟩) (Kd.R_far (p:=⟨gb30,3,none⟩) (Kd.R_far (p:=⟨gb30,2,none⟩) (Kd.R_far (p:=⟨gb30,1,none⟩) (Kd.R_far (p:=⟨gb30,0,none⟩) (Kd.R_types (Kd.R_types HO33.out BK30.out (by decide)) BK29.out (by decide)) (fun _ hk=>hk.1.2) (.string t31)) (fun _ hk=>hk.1.2) (.string t34)) (fun _ hk=>hk.1.2) (.int .i64 t35)) (fun _ hk=>hk.1.2) (.slice Ao18 t38.length co18)) (fun _ hk=>hk.1.2) (.slice Ao19 t40.length co19)) (fun _ hk=>hk.2)) (fun _ hk=>trivial),zb22⟩
def http_Host.l0:Nat → List ByteArray → Int → Int → Option (ByteArray)
 | 0,_,_,_=>none
 | k + 1,x9,x10,x11=>if x11 < x10 then (if 0 ≤ x11 then (if x11 < (x9.length:Int) then ((line_Host.f (rdOf ByteArray.empty x9 x11)).bind fun bt303=>(some bt303.1)) else (none)) else (none)) else (some (⟨#[]⟩:ByteArray))
def http_Host.f (k:Nat) (a0_0:ByteArray) (a0_1:ByteArray) (a0_2:Int) (l0_3:List (S36)) (l0_4:List Int):Option (ByteArray):=(field_Get.f k l0_3 (⟨#[72,111,115,116]⟩:ByteArray)).bind fun t299=>(http_Host.l0 k t299 (t299.length:Int) 0)
theorem http_Host.calls (k:Nat) (a0_0:ByteArray) (a0_1:ByteArray) (a0_2:Int) (A0_3:Option Addr) (c0_3:Nat) (l0_3:List (S36)) (A0_4:Option Addr) (c0_4:Nat) (l0_4:List Int) (r:ByteArray) (w:World) (hr0_3:Kd.C k36 w A0_3 l0_3.length l0_3) (hc0_3:l0_3.length ≤ c0_3) (hr0_4:Kd.C (Kd.int .u8) w A0_4 l0_4.length l0_4) (hc0_4:l0_4.length ≤ c0_4) (h:http_Host.f k a0_0 a0_1 a0_2 l0_3 l0_4=some r) :
 Calls Tryz.prog 19 #[.agg #[.string a0_0,.string a0_1,.int .i64 a0_2,.slice A0_3 l0_3.length c0_3,.slice A0_4 l0_4.length c0_4]] w fun e w' => e = .returned (.string r)∧Below w.heap.size w w' := by
 have hu26:=Tryz.underlying26
 have HR0_3:=Aside0.mk hr0_3
 have HC0_3:=Aside0.mk hc0_3
 clear hr0_3 hc0_3
 have HR0_4:=Aside0.mk hr0_4
 have HC0_4:=Aside0.mk hc0_4
 clear hr0_4 hc0_4
 have HB:=zB w
 unfold http_Host.f at h
 have H:=h
 clear h
 replace H:=Option.bind_eq_some_iff.mp H
 obtain ⟨t299,A20,H⟩:=H
 try dsimp only at H
 have A2:=Aside0.mk A20
 clear A20
 have H' := Aside0.mk H
 clear H
 go_enter Tryz.func19,Tryz.ntmps19
 go_wp2_with (first|((with_reducible refine gate_dst (N:=1) rfl ?_);refine box_event rfl (N:=1) rfl (cs:=#[.string a0_0,.string a0_1,.int .i64 a0_2,.slice A0_3 l0_3.length c0_3,.slice A0_4 l0_4.length c0_4]) (t:=26) zS ?_;intro gb298 hg w3 hbox hb;have GW298:=zG hg zb0;have GE298:=GW298;have BK298:=Aside0.mk hbox;replace HB:=Aside0.mk (below_step zb0 hb);clear hb hbox hg;obtain ⟨hcz4_0,hcz4_1,hcz4_2,hcz4_3,hcz4_4,hfz4_0,hfz4_1,hfz4_2,hfz4_3,hfz4_4⟩:=zq5 BK298.out)|((with_reducible refine gate_callee (f:=50) rfl ?_);refine goesL_ (some 9) rfl rfl Tryz.func50 zb7 rfl #[.slice A0_3 l0_3.length c0_3,.string (⟨#[72,111,115,116]⟩:ByteArray)] rfl zb2 ?_;(with_reducible refine (field_Get.calls k _ _ l0_3 (⟨#[72,111,115,116]⟩:ByteArray) t299 _ ?side1 ?side2 A2.out).mono ?_);(case side1=>exact zb42);(case side2=>exact HC0_3.out);rintro e w5 ⟨v300,rfl,ho0,hb⟩;(try clear A2);refine ⟨_,rfl,?_⟩;have HO301:=Aside0.mk (Kd.R_lower ho0 (below_size zb59));replace BK298:=Aside0.mk (blk_below (g:=gb298) (o:=.cells #[.string a0_0,.string a0_1,.int .i64 a0_2,.slice A0_3 l0_3.length c0_3,.slice A0_4 l0_4.length c0_4] 26 (0,0)) zb110 hb);replace HB:=Aside0.mk (below_step zb59 hb);try clear hb ho0;obtain ⟨Ao6,co6,eo6⟩:=Kd.R_slice HO301.out;subst eo6))
 go_loopg [11] k (fun kq v11 w' => ∃ (x11_1:Int),v11 = .int .i64 x11_1∧Aside0 (http_Host.l0 kq t299 (t299.length:Int) x11_1=some r)∧Aside0 (kq ≤ k)∧Aside0 (Kd.R Kd.string 9 w' w.heap.size (fun _=>True) (.slice Ao6 t299.length co6) t299)∧Aside0 (w'.heap[gb298]? = some (.cells #[.string a0_0,.string a0_1,.int .i64 a0_2,(.slice A0_3 l0_3.length c0_3),(.slice A0_4 l0_4.length c0_4)] 26 (0,0)))∧Aside0 (Below w.heap.size w w'))
 case atStart=>exact ⟨(0),zb4,H',⟨Nat.le_refl _⟩,⟨by (with_reducible repeat (first|apply Kd.R_alloc|apply Kd.R_drewN|apply Kd.R_drew));exact HO301.out⟩,⟨zb110⟩,⟨zb59⟩⟩
 case round =>
  clear H'
  try clear c1
  try clear p2
  try clear c5
  try clear hcz4_0
  try clear hcz4_1
  try clear hcz4_2
  try clear hcz4_3
  try clear hcz4_4
  try clear hfz4_0
  try clear hfz4_1
  try clear hfz4_2
  try clear hfz4_3
  try clear hfz4_4
  obtain ⟨x11_1,rfl,HA,HK1,HO_9,BK298,HB⟩:=hrel
  cases gk with
  | zero=>exact absurd HA.out (by simp [http_Host.l0])
  | succ k1 =>
   have H:=HA.out
   clear HA
   simp only [http_Host.l0] at H
   by_cases c7:x11_1 < (t299.length:Int);rotate_left
   ·rw [if_neg c7] at H
    have c7b0:=decide_eq_false c7
    clear c7
    obtain rfl:=Option.some.inj H
    go_wp2
    go_ret
    exact ⟨zb3,zb59⟩
   rw [if_pos c7] at H
   have c7b0:=decide_eq_true c7
   clear c7
   by_cases c8:0 ≤ x11_1
   ·rw [if_pos c8] at H
    have c8b0:=decide_eq_true c8
    clear c8
    by_cases c9:x11_1 < (t299.length:Int)
    ·rw [if_pos c9] at H
     have c9b0:=decide_eq_true c9
     clear c9
     replace H:=Option.bind_eq_some_iff.mp H
     obtain ⟨⟨t303,t304⟩,A100,H⟩:=H
     try dsimp only at H
     have A10:=Aside0.mk A100
     clear A100
     obtain rfl:=Option.some.inj H
     have p302:0 ≤ (x11_1:Int):=of_decide_eq_true zb1
     have q302:x11_1 < (t299.length:Int):=of_decide_eq_true zb1
     obtain ⟨ad302,e302,hx302_0⟩:=Kd.at_string (Kd.R_reads' HO_9.out).2.2 x11_1 p302 q302
     cases e302
     replace p302:=eq_true p302
     replace q302:=eq_true q302
     go_wp2_with (first|((with_reducible refine gate_callee (f:=51) rfl ?_);refine goesL_ (some 17) rfl rfl Tryz.func51 zb7 rfl #[.string (rdOf ByteArray.empty t299 x11_1)] rfl zb2 ?_;(with_reducible refine (line_Host.calls (rdOf ByteArray.empty t299 x11_1) t303 t304 _ A10.out).mono ?_);rintro e w11 ⟨rfl,hb⟩;(try clear A10);refine ⟨_,rfl,?_⟩;replace HO_9:=Aside0.mk (Kd.R_below (by (with_reducible repeat (first|apply Kd.R_alloc|apply Kd.R_drewN|apply Kd.R_drew));exact HO_9.out) hb);replace BK298:=Aside0.mk (blk_below (g:=gb298) (o:=.cells #[.string a0_0,.string a0_1,.int .i64 a0_2,.slice A0_3 l0_3.length c0_3,.slice A0_4 l0_4.length c0_4] 26 (0,0)) zb110 hb);replace HB:=Aside0.mk (below_step zb59 hb);(try clear hb)))
     go_ret
     exact ⟨zb3,zb59⟩
    ·rw [if_neg c9] at H
     exact absurd H zb24
   ·rw [if_neg c8] at H
    exact absurd H zb24
def bytes_Clone.f (l0:List Int):Option (List Int):=if l0.length ≤ 140737488355328 then some l0 else none
theorem bytes_Clone.calls (A0:Option Addr) (c0:Nat) (l0:List Int) (r:List Int) (w:World) (hr0:Kd.C (Kd.int .u8) w A0 l0.length l0) (hc0:l0.length ≤ c0) (h:bytes_Clone.f l0=some r) :
 Calls Tryz.prog 62 #[.slice A0 l0.length c0] w fun e w' => ∃ v0_:Value,e = .returned (v0_)∧Kd.R (Kd.int .u8) 5 w' w.heap.size (fun _=>True) v0_ r∧Below w.heap.size w w' := by
 have hl:l0.length ≤ 140737488355328∧l0=r:=by
  unfold bytes_Clone.f at h
  split at h
  ·exact ⟨by assumption,by simpa using h⟩
  cases h
 obtain ⟨hl,rfl⟩:=hl
 clear h
 have HR:=Aside0.mk hr0
 cases A0 with
 | none =>
  have he:l0=[]:=by
   cases l0 with
   | nil=>rfl
   | cons x y=>obtain ⟨ad,e,_⟩:=hr0.2.2 zb24;cases e
  subst he
  clear HR hr0
  have hnil : ∀ W:World,(binOp .eql 22 (.slice none 0 c0) (.slice none 0 0)).run Tryz.prog W = .ok (.bool true) W:=fun W=>by
   simp only [binOp]
   simp [Op.equal,Op.maxDepth,Lib.run_equalIn_slice_nil W 9999 22 _ none 0 c0 0 0 Tryz.underlying22]
  go_enter Tryz.func62,Tryz.ntmps62
  go_wp2
  go_ret
  exact ⟨_,rfl,Kd.R_nil _ _ _ _ _,Below.refl _ _⟩
 | some ad =>
  have HL:=Aside0.mk hl
  have hnil : ∀ W:World,(binOp .eql 22 (.slice (some ad) l0.length c0) (.slice none 0 0)).run Tryz.prog W = .ok (.bool false) W:=fun W=>by
   simp only [binOp]
   simp [Op.equal,Op.maxDepth,Lib.run_equalIn_slice_nil W 9999 22 _ (some ad) l0.length c0 0 0 Tryz.underlying22]
  have HB:=zB w
  clear hr0 hl hc0
  go_enter Tryz.func62,Tryz.ntmps62
  go_wp2_with (first
   | ((with_reducible refine gate_dst (N:=5) rfl ?_);refine Kd.R_lit (Kd.int .u8) _ 5 ?hg (N:=5) ?hd (xs:=([]:List Int)) (inner:=[]) (ok:=fun _=>True) (okp:=fun _=>True) ?hr ?hp (fun _ hk=>hk) trivial (Below.refl _ _) (Nat.le_refl _) zb24 ?_;(case hd=>rfl);(case hg=>rfl);(case hr=>first|(go_simp;done)|(go_simp;rfl));(case hp=>exact (Reps.none _ _));intro v5 w2 ho3 hb hg_ hnew_;clear hg_ hnew_;have HO5:=Aside0.mk (Kd.R_lower ho3 (below_size zb0));have n1_:=Aside0.mk (below_step zb0 hb);clear HB;have HB:=n1_;clear n1_;clear hb ho3)
   | ((with_reducible refine gate_builtin (b:=.append) (xs:=#[.tmp 5,.tmp 6]) rfl ?_);at_builtin;refine Kd.R_append_rows (Kd.int .u8) (w0:=w) w.heap.size rfl (.tmp 5) (.tmp 6) 22 5 (.int .u8 0) 1 rfl Tryz.underlying22 info5 rfl zb78 zb10 v5 [] l0 _ _ _ (fun _=>True) (fun _=>False) rfl rfl ?aO ?aR (fun _ _ h=>h) (fun _ h=>h.elim) (fun _ _=>trivial) ?aB ?aS ?aL ?_;(case aO=>exact HO5.out);(case aR=>exact Kd.C_below HR.out HB.out);(case aB=>exact HB.out);(case aS=>exact HB.out.size);(case aL=>have:=HL.out;simp only [List.length_nil];omega);intro v3 w3 ho hb3 hg3 hat;have HO7:=Aside0.mk ho;have HB7:=Aside0.mk hb3;clear ho hb3 hg3 hat))
  go_ret
  exact ⟨_,zb130,HO7.out,HB7.out⟩
/-- The reader's block: its bytes,its place,and whether more are needed. -/
def Rdr (w:World) (g:Nat) (A:Option Addr) (n c:Nat) (p:Int) (m:Bool):Prop:=w.heap[g]? = some (.cells #[.slice A n c,.int .i64 p,.bool m] 150 (0,0))
theorem keep_set {w w1:World} {g:Nat} (h:KeepBut w w1 g none) (j:Nat) (u:Value):KeepBut w (w1.setCell ⟨g,j,none⟩ u) g none :=
 ⟨by simpa [World.setCell] using h.1,fun i hi hg hr=>(Below.heap_setCell w1 ⟨g,j,none⟩ u i hg).trans (h.2 i hi hg hr)⟩
theorem keep_trans {w w1 w2:World} {g:Nat} (h:KeepBut w w1 g none) (k:KeepBut w1 w2 g none):KeepBut w w2 g none :=
 ⟨Nat.le_trans h.1 k.1,fun i hi hg hr=>(k.2 i (Nat.lt_of_lt_of_le hi h.1) hg hr).trans (h.2 i hi hg hr)⟩
theorem keep_below {w w1:World} (g:Nat) (h:Below w.heap.size w w1):KeepBut w w1 g none:=⟨h.size,fun i hi _ _=>h.block i hi⟩
theorem below_less {w w1:World} {g:Nat} (hg:g ≤ w.heap.size) (h:Below w.heap.size w w1):Below g w w1:=⟨h.os,h.tape,h.output,h.size,fun b hb=>h.block b (Nat.lt_of_lt_of_le hb hg)⟩
theorem below_base {w w1:World} {b g:Nat} (hg:b ≤ g) (h:Below g w w1):Below b w w1:=⟨h.os,h.tape,h.output,h.size,fun i hi=>h.block i (Nat.lt_of_lt_of_le hi hg)⟩
/-- What a call of the reader's has turned: its own block alone;new blocks. -/
def Went (w w' : World) (g:Nat) (A:Option Addr) (n c:Nat) (p:Int) (m:Bool):Prop:=Rdr w' g A n c p m∧Below g w w' ∧ KeepBut w w' g none
theorem Went.step {w w1 w2:World} {g:Nat} {A:Option Addr} {n c:Nat} {p:Int} {m:Bool} (h:Went w w1 g A n c p m) (hb:Below w1.heap.size w1 w2):Went w w2 g A n c p m :=
 ⟨blk_below h.1 hb,h.2.1.trans (below_less (Nat.le_of_lt (blk_lt h.1)) hb),keep_trans h.2.2 (keep_below g hb)⟩
theorem Went.then_ {w w1 w2:World} {g:Nat} {A:Option Addr} {n c:Nat} {p q:Int} {m m2:Bool} (h:Went w w1 g A n c p m) (k:Went w1 w2 g A n c q m2):Went w w2 g A n c q m2 :=
 ⟨k.1,h.2.1.trans k.2.1,keep_trans h.2.2 k.2.2⟩
theorem Went.more {w w1:World} {g:Nat} {A:Option Addr} {n c:Nat} {p:Int} {m:Bool} (h:Went w w1 g A n c p m):w1.cell? ⟨g,2,none⟩=some (.bool m):=(blk_cell h.1 2).trans rfl
theorem Went.place {w w1:World} {g:Nat} {A:Option Addr} {n c:Nat} {p:Int} {m:Bool} (h:Went w w1 g A n c p m):w1.cell? ⟨g,1,none⟩=some (.int .i64 p):=(blk_cell h.1 1).trans rfl
theorem Went.bytes {w w1:World} {g:Nat} {A:Option Addr} {n c:Nat} {p:Int} {m:Bool} (h:Went w w1 g A n c p m):w1.cell? ⟨g,0,none⟩=some (.slice A n c):=(blk_cell h.1 0).trans rfl
/-- What line tells: the text,the error,the new place,whether more are needed. -/
def chunk_reader_line.f (k:Nat) (l:List Int) (p:Int):Option (ByteArray × Int × Int × Bool) :=
 if 0 ≤ p then (if p ≤ (l.length:Int) then ((line_Cut.f k (l.drop p.toNat) 256).bind fun c=>some (c.1,c.2.2,wrap64 (p + c.2.1),(decide (c.2.1=0) && decide (c.2.2=0)))) else none) else none
theorem chunk_reader_line.calls (k:Nat) (g:Nat) (A:Option Addr) (c:Nat) (l:List Int) (p:Int) (m:Bool) (s:ByteArray) (e q:Int) (m' : Bool) (w:World) (hr:Rdr w g A l.length c p m) (hC:Kd.C (Kd.int .u8) w A l.length l) (hc:l.length ≤ c) (h:chunk_reader_line.f k l p=some (s,e,q,m')) :
 Calls Tryz.prog 165 #[.pointer (some ⟨g,0,none⟩)] w fun E w' => E = .returned (.tuple #[.string s,.int .i64 e])∧Went w w' g A l.length c q m' := by
 unfold chunk_reader_line.f at h
 by_cases h0:0 ≤ p;rotate_left
 ·rw [if_neg h0] at h
  cases h
 rw [if_pos h0] at h
 by_cases h1:p ≤ (l.length:Int)
 ·rw [if_pos h1] at h
  obtain ⟨⟨s1,n,e1⟩,hcut,h⟩:=Option.bind_eq_some_iff.1 h
  simp only [zi,zj] at h
  obtain ⟨rfl,rfl,hq,hm⟩:=h
  have HQ:=Aside0.mk hq
  have HM:=Aside0.mk hm
  have HK:=Aside0.mk hcut
  clear hq hm hcut
  have hg:=blk_lt hr
  have hc0:w.cell? ⟨g,0,none⟩=some (.slice A l.length c):=(blk_cell hr 0).trans rfl
  have hc1:w.cell? ⟨g,1,none⟩=some (.int .i64 p):=(blk_cell hr 1).trans rfl
  obtain ⟨i011,hi011,_,hsz11,_⟩:=info_parts info5
  obtain ⟨A',hsl,hrd,hcc⟩:=print_drop_of (P:=Tryz.prog) (Value.int .u8) 0 22 5 .i64 Tryz.underlying22 hi011 hsz11 A c l p h0 h1 hc
  have HR:=Aside0.mk (Kd.C_of_reads (h1:=fun _=>rfl) (hrd _ (Kd.reads_of_C hC)))
  have HCC:=Aside0.mk hcc
  have HRR:=Aside0.mk hr
  clear hrd hcc hi011 hsz11 hr hC hc h0 h1
  go_enter Tryz.func165,Tryz.ntmps165
  go_wp2_with fail
  go_region_held3 (fun w' => w'.cell? ⟨g,0,none⟩=some (.slice A l.length c)∧w'.cell? ⟨g,1,none⟩=some (.int .i64 p))
   (first|go_keep)
   (first|(go_at_call 108;(try rw [← List.length_drop]);refine (line_Cut.calls k A' _ (l.drop p.toNat) 256 s1 n e1 _ (Kd.C_drew HR.out) HCC.out HK.out).mono ?_;rintro E w1 ⟨rfl,hb⟩;have k0:=pw_cell_below hb hc0;have k1:=pw_cell_below hb hc1))
  have R1:Rdr w1 g A l.length c p m:=blk_below (w:=w.drew) HRR.out hb
  have B1:Below g w w1:=⟨hb.os,hb.tape,hb.output,hb.size,fun b hb' => hb.block b (Nat.lt_trans hb' hg)⟩
  have K1:KeepBut w w1 g none:=⟨hb.size,fun i hi _ _=>hb.block i hi⟩
  have f1:=blk_frozen R1 1
  have f2:=blk_frozen R1 2
  have k2:w1.cell? ⟨g,2,none⟩=some (.bool m):=(blk_cell R1 2).trans rfl
  have R1' := Aside0.mk R1
  have B1' := Aside0.mk B1
  have K1' := Aside0.mk K1
  clear R1 B1 K1 h hb HR HCC HRR HK hsl hc0 hc1
  by_cases c0:n=0;rotate_left
  ·have d0:(n == 0)=false:=beq_eq_false_iff_ne.2 c0
   have hm:Aside0 (m' = false):=⟨by rw [← HM.out,decide_eq_false c0,Bool.false_and]⟩
   clear HM c0
   go_wp2
   go_ret2
   refine ⟨rfl,?_,(B1'.out.setCell (Nat.le_refl _) _).setCell (Nat.le_refl _) _,keep_set (keep_set K1'.out 1 _) 2 _⟩
   exact blk_put (blk_put R1'.out 1 _ rfl) 2 _ (by rw [hm.out,← HQ.out];rfl)
  have d0:(n == 0)=true:=beq_iff_eq.2 c0
  by_cases c1:e1=0
  ·have d1:(e1 == 0)=true:=beq_iff_eq.2 c1
   have hm:Aside0 (m' = true):=⟨by rw [← HM.out,decide_eq_true c0,decide_eq_true c1];rfl⟩
   clear HM c0 c1
   go_wp2
   go_ret2
   refine ⟨rfl,?_,(B1'.out.setCell (Nat.le_refl _) _).setCell (Nat.le_refl _) _,keep_set (keep_set K1'.out 1 _) 2 _⟩
   exact blk_put (blk_put R1'.out 1 _ rfl) 2 _ (by rw [hm.out,← HQ.out];rfl)
  ·have d1:(e1 == 0)=false:=beq_eq_false_iff_ne.2 c1
   have hm:Aside0 (m' = false):=⟨by rw [← HM.out,decide_eq_false c1,Bool.and_false]⟩
   clear HM c0 c1
   go_wp2
   go_ret2
   refine ⟨rfl,?_,(B1'.out.setCell (Nat.le_refl _) _).setCell (Nat.le_refl _) _,keep_set (keep_set K1'.out 1 _) 2 _⟩
   exact blk_put (blk_put R1'.out 1 _ rfl) 2 _ (by rw [hm.out,← HQ.out];rfl)
 ·rw [if_neg h1] at h
  cases h
/-- What data tells: the bytes,the error,the new place,whether more bytes are needed. -/
def dataOf (rest:List Int) (p n:Int) (m:Bool):List Int × Int × Int × Bool :=
 if n < (rest.length:Int) then
  (if rd rest n=13 then
   (if n + 1 < (rest.length:Int) then (if rd rest (n + 1)=10 then (rest.take n.toNat,0,wrap64 (p + (n + 2)),m) else ([],20,p,m)) else ([],0,p,true))
  else ([],20,p,m))
 else ([],0,p,true)
def chunk_reader_data.f (l:List Int) (p n:Int) (m:Bool):Option (List Int × Int × Int × Bool) :=
 if 0 ≤ p∧p ≤ (l.length:Int)∧0 ≤ n∧n ≤ 4611686018427387904 then some (dataOf (l.drop p.toNat) p n m) else none
/-- What data hands back: a piece of the bytes;and what it has turned. -/
def DataPost (w00 w:World) (g:Nat) (A:Option Addr) (n c:Nat) (r:List Int) (e q:Int) (m:Bool) (E:Ending) (w' : World):Prop := ∃ A2 c2,E = .returned (.tuple #[.slice A2 r.length c2,.int .i64 e])∧Kd.C (Kd.int .u8) w00 A2 r.length r∧r.length ≤ c2∧Went w w' g A n c q m
theorem data_none {w00 w w' : World} {g:Nat} {A:Option Addr} {n c:Nat} {e q:Int} {m:Bool} (h:Went w w' g A n c q m):DataPost w00 w g A n c [] e q m (.returned (.tuple #[.slice none 0 0,.int .i64 e])) w' := ⟨none,0,rfl,Kd.C_nil _ _,Nat.le_refl _,h⟩
theorem data_some {w00 w w' : World} {g:Nat} {A:Option Addr} {n c:Nat} {e q:Int} {m:Bool} {A2:Option Addr} {c2 j:Nat} {r:List Int} (h:Went w w' g A n c q m) (hj:r.length=j) (hC:Kd.C (Kd.int .u8) w00 A2 r.length r) (hc:r.length ≤ c2):DataPost w00 w g A n c r e q m (.returned (.tuple #[.slice A2 j c2,.int .i64 e])) w' := ⟨A2,c2,by rw [hj],hC,hc,h⟩
theorem chunk_reader_data.calls (g:Nat) (A:Option Addr) (c:Nat) (l:List Int) (p n:Int) (m:Bool) (r:List Int) (e q:Int) (m' : Bool) (w00 w:World) (hr:Rdr w g A l.length c p m) (hC:Kd.C (Kd.int .u8) w00 A l.length l) (hB0:Below w00.heap.size w00 w) (hg0:w00.heap.size ≤ g) (hc:l.length ≤ c) (h:chunk_reader_data.f l p n m=some (r,e,q,m')) :
 Calls Tryz.prog 123 #[.pointer (some ⟨g,0,none⟩),.int .i64 n] w (DataPost w00 w g A l.length c r e q m'):=by
 unfold chunk_reader_data.f at h
 by_cases hb:0 ≤ p∧p ≤ (l.length:Int)∧0 ≤ n∧n ≤ 4611686018427387904;rotate_left
 ·rw [if_neg hb] at h
  cases h
 rw [if_pos hb] at h
 obtain ⟨h0,h1,n0,n1⟩:=hb
 have H:=Aside0.mk (Option.some.inj h)
 clear h
 have hg:=blk_lt hr
 have hB00:=Aside0.mk hB0
 have hg00:=Aside0.mk hg0
 have hc0:w.cell? ⟨g,0,none⟩=some (.slice A l.length c):=(blk_cell hr 0).trans rfl
 have hc1:w.cell? ⟨g,1,none⟩=some (.int .i64 p):=(blk_cell hr 1).trans rfl
 have hc2:w.cell? ⟨g,2,none⟩=some (.bool m):=(blk_cell hr 2).trans rfl
 have f1:=blk_frozen hr 1
 have f2:=blk_frozen hr 2
 obtain ⟨i011,hi011,_,hsz11,_⟩:=info_parts info5
 obtain ⟨A',hsl,hrd,hcc⟩:=print_drop_of (P:=Tryz.prog) (Value.int .u8) 0 22 5 .i64 Tryz.underlying22 hi011 hsz11 A c l p h0 h1 hc
 have hCr:=Kd.C_of_reads (h1:=fun _=>rfl) (hrd _ (Kd.reads_of_C hC))
 obtain ⟨rest,hrest⟩ : ∃ rest,rest=l.drop p.toNat:=⟨_,rfl⟩
 rw [← hrest] at hsl hCr hcc H
 have hrl:rest.length=l.length - p.toNat:=by rw [hrest,List.length_drop]
 rw [hrl] at hsl
 obtain ⟨cc,hcc'⟩ : ∃ cc,cc=c - p.toNat:=⟨_,rfl⟩
 rw [← hcc'] at hsl hcc
 rw [← hrl] at hsl
 have HR:=Aside0.mk hCr
 have HCC:=Aside0.mk hcc
 have HRR:=Aside0.mk hr
 have HN:=Aside0.mk (And.intro n0 n1)
 clear hrd hCr hcc hsz11 hr hC hc hrest hrl hcc'
 have kc:=fun (w:World) (C:Array Value) (n c:Nat)=>Lib.run_convert_bytes_const (P:=Tryz.prog) w 22 5 C n c Tryz.underlying22 Tryz.underlying5
 clear hB0 hg0
 go_enter Tryz.func123,Tryz.ntmps123
 go_wp2_with fail
 go_quiet (fail)
 obtain ⟨w0,hw0⟩ : ∃ w0,w0=w.drewN nq:=⟨_,rfl⟩
 rw [← hw0]
 have hb0:Below w.heap.size w w0:=by rw [hw0];exact pw_below_drewN (Below.refl _ _) nq
 have W0:Went w w0 g A l.length c p m:=Went.step ⟨HRR.out,Below.refl _ _,keep_below g (Below.refl _ _)⟩ hb0
 have hz:w0.heap.size=w.heap.size:=by rw [hw0];simp
 have k1:=W0.place
 have k2:=W0.more
 have g1:=blk_frozen W0.1 1
 have g2:=blk_frozen W0.1 2
 have W0' := Aside0.mk W0
 have HB0:=Aside0.mk hb0
 clear W0 hc0 hc1 hc2 f1 f2 hw0 hb0 hz
 have W1:=Aside0.mk (W0'.out.step (below_alloc (Below.refl _ _) (.cells #[.int .u8 13,.int .u8 10] 5 (2,3))))
 have c13:(w0.alloc (.cells #[.int .u8 13,.int .u8 10] 5 (2,3))).cell? ⟨w0.heap.size,0,none⟩=some (.int .u8 13):=by rw [cell_of_row _ _ _ _ _ _ (blk_new _ _)];rfl
 have c10:(w0.alloc (.cells #[.int .u8 13,.int .u8 10] 5 (2,3))).cell? ⟨w0.heap.size,1,none⟩=some (.int .u8 10):=by rw [cell_of_row _ _ _ _ _ _ (blk_new _ _)];rfl
 have HC1:=Aside0.mk (Kd.C_below HR.out (hB00.out.trans (below_base hg00.out W1.out.2.1)))
 obtain ⟨w1,hw1⟩ : ∃ w1,w1=w0.alloc (.cells #[.int .u8 13,.int .u8 10] 5 (2,3)):=⟨_,rfl⟩
 rw [← hw1] at W1 c13 c10 HC1
 have hww:=hw1.symm
 clear hw1
 have hwn:wrap64 n=n:=by unfold wrap64;omega
 have hw1:wrap64 (n + 1)=n + 1:=by unfold wrap64;omega
 have hw2:wrap64 (n + 2)=n + 2:=by unfold wrap64;omega
 go_wp2_with fail
 go_loopw [7,8,21] (fun _ _ v wr => ∃ i:Int,v = .int .i64 i∧w1=wr∧Aside0 ((i=0 ∨ i=1 ∨ i=2)∧(i ≠ 0 → n < (rest.length:Int) → rd rest n=13)∧(i=2 → n + 1 < (rest.length:Int) → rd rest (n + 1)=10))) (fun _ _ v _=>(2 - intOf v).toNat)
 case atStart=>exact ⟨0,rfl,rfl,⟨zb10,fun h=>absurd rfl h,fun h=>by omega⟩⟩
 case round =>
  obtain ⟨i,rfl,rfl,HI⟩:=hrel
  obtain ⟨hi,_,_⟩:=HI.out
  rcases hi with rfl|rfl|rfl
  ·skip
   by_cases a0:n < (rest.length:Int);rotate_left
   ·have q1:(n < (rest.length:Int))=False:=eq_false a0
    have q2:decide (n < (rest.length:Int))=false:=decide_eq_false a0
    have HX:Aside0 (((1:Int)=0 ∨ (1:Int)=1 ∨ (1:Int)=2)∧((1:Int) ≠ 0 → n < (rest.length:Int) → rd rest n=13)∧((1:Int)=2 → n + 1 < (rest.length:Int) → rd rest (n + 1)=10)):=⟨⟨zb10,fun _ h=>absurd h a0,fun h=>by omega⟩⟩
    clear a0 HI
    go_wp2_with fail
    go_roundw
    case rel=>exact ⟨1,rfl,(by first|rfl|trivial),HX⟩
    case measure=>simp [intOf]
   obtain ⟨ad,e0,hx⟩:=Kd.at_int HC1.out n n0 a0
   subst e0
   have p1:(0 ≤ n)=True:=eq_true zb10
   have q1:(n < (rest.length:Int))=True:=eq_true a0
   have q2:decide (n < (rest.length:Int))=true:=decide_eq_true a0
   by_cases b1:rd rest n=13
   ·have d1:(rd rest n == 13)=true:=beq_iff_eq.2 b1
    have d2:(rd rest n != 13)=false:=bne_eq_false_iff_eq.2 b1
    have HI2:=Aside0.mk (And.intro b1 a0)
    have HI3:Aside0 ((1:Int)=0 ∨ (1:Int)=1 ∨ (1:Int)=2):=⟨zb10⟩
    have HX:Aside0 (((1:Int)=0 ∨ (1:Int)=1 ∨ (1:Int)=2)∧((1:Int) ≠ 0 → n < (rest.length:Int) → rd rest n=13)∧((1:Int)=2 → n + 1 < (rest.length:Int) → rd rest (n + 1)=10)):=⟨⟨zb10,fun _ _=>b1,fun h=>by omega⟩⟩
    clear b1 a0 HI HI2 HI3
    go_wp2_with fail
    go_roundw
    case rel=>exact ⟨1,rfl,(by first|rfl|trivial),HX⟩
    case measure=>simp [intOf]
   have d1:(rd rest n == 13)=false:=beq_eq_false_iff_ne.2 b1
   have d2:(rd rest n != 13)=true:=bne_iff_ne.2 b1
   have HD:Aside0 (dataOf rest p n m=([],20,p,m)):=⟨by unfold dataOf;rw [if_pos a0,if_neg b1]⟩
   rw [HD.out] at H
   have HE:=H.out
   simp only [Prod.mk.injEq] at HE
   obtain ⟨rfl,rfl,rfl,rfl⟩:=HE
   clear b1 a0 HI HD H
   go_wp2_with fail
   go_ret2
   exact data_none W1.out
  ·skip
   by_cases a0:n + 1 < (rest.length:Int);rotate_left
   ·have q1:(n + 1 < (rest.length:Int))=False:=eq_false a0
    have q2:decide (n + 1 < (rest.length:Int))=false:=decide_eq_false a0
    have HX:Aside0 (((2:Int)=0 ∨ (2:Int)=1 ∨ (2:Int)=2)∧((2:Int) ≠ 0 → n < (rest.length:Int) → rd rest n=13)∧((2:Int)=2 → n + 1 < (rest.length:Int) → rd rest (n + 1)=10)):=⟨⟨zb10,fun _ h=>HI.out.2.1 zb10 h,fun _ h=>absurd h a0⟩⟩
    clear a0 HI
    go_wp2_with fail
    go_roundw
    case rel=>exact ⟨2,rfl,(by first|rfl|trivial),HX⟩
    case measure=>simp [intOf]
   obtain ⟨ad,e0,hx⟩:=Kd.at_int HC1.out (n + 1) zb10 a0
   subst e0
   have p1:(0 ≤ n + 1)=True:=eq_true zb10
   have q1:(n + 1 < (rest.length:Int))=True:=eq_true a0
   have q2:decide (n + 1 < (rest.length:Int))=true:=decide_eq_true a0
   by_cases b1:rd rest (n + 1)=10
   ·have d1:(rd rest (n + 1) == 10)=true:=beq_iff_eq.2 b1
    have d2:(rd rest (n + 1) != 10)=false:=bne_eq_false_iff_eq.2 b1
    have HI2:=Aside0.mk (And.intro b1 a0)
    have HI3:Aside0 ((2:Int)=0 ∨ (2:Int)=1 ∨ (2:Int)=2):=⟨zb10⟩
    have HX:Aside0 (((2:Int)=0 ∨ (2:Int)=1 ∨ (2:Int)=2)∧((2:Int) ≠ 0 → n < (rest.length:Int) → rd rest n=13)∧((2:Int)=2 → n + 1 < (rest.length:Int) → rd rest (n + 1)=10)):=⟨⟨zb10,fun _ h=>HI.out.2.1 zb10 h,fun _ _=>b1⟩⟩
    clear b1 a0 HI HI2 HI3
    go_wp2_with fail
    go_roundw
    case rel=>exact ⟨2,rfl,(by first|rfl|trivial),HX⟩
    case measure=>simp [intOf]
   have d1:(rd rest (n + 1) == 10)=false:=beq_eq_false_iff_ne.2 b1
   have d2:(rd rest (n + 1) != 10)=true:=bne_iff_ne.2 b1
   have HD:Aside0 (dataOf rest p n m=([],20,p,m)):=⟨by unfold dataOf;rw [if_pos (by omega),if_pos (HI.out.2.1 (by omega) (by omega)),if_pos a0,if_neg b1]⟩
   rw [HD.out] at H
   have HE:=H.out
   simp only [Prod.mk.injEq] at HE
   obtain ⟨rfl,rfl,rfl,rfl⟩:=HE
   clear b1 a0 HI HD H
   go_wp2_with fail
   go_ret2
   exact data_none W1.out
  obtain ⟨_,i1,i2⟩:=HI.out
  have I1:=Aside0.mk (i1 zb10)
  have I2:=Aside0.mk (i2 rfl)
  clear i1 i2 HI
  by_cases a0:(rest.length:Int) < n + 2
  ·have q1:((rest.length:Int) < n + 2)=True:=eq_true a0
   have q2:decide ((rest.length:Int) < n + 2)=true:=decide_eq_true a0
   have HD:Aside0 (dataOf rest p n m=([],0,p,true)):=⟨by
    unfold dataOf
    by_cases e1:n < (rest.length:Int)
    ·rw [if_pos e1,if_pos (I1.out e1),if_neg zb10]
    rw [if_neg e1]⟩
   rw [HD.out] at H
   have HE:=H.out
   simp only [Prod.mk.injEq] at HE
   obtain ⟨rfl,rfl,rfl,rfl⟩:=HE
   clear a0 HD H I1 I2
   have k2' := W1.out.more
   have g2' := blk_frozen W1.out.1 2
   go_wp2_with fail
   go_ret2
   exact data_none ⟨blk_put W1.out.1 2 _ rfl,W1.out.2.1.setCell (Nat.le_refl _) _,keep_set W1.out.2.2 2 _⟩
  have q1:((rest.length:Int) < n + 2)=False:=eq_false a0
  have q2:decide ((rest.length:Int) < n + 2)=false:=decide_eq_false a0
  have q3:(n ≤ (rest.length:Int))=True:=eq_true zb10
  have HD:Aside0 (dataOf rest p n m=(rest.take n.toNat,0,wrap64 (p + (n + 2)),m)):=⟨by
   unfold dataOf
   rw [if_pos zb10,if_pos (I1.out zb10),if_pos zb10,if_pos (I2.out zb10)]⟩
  rw [HD.out] at H
  have HE:=H.out
  simp only [Prod.mk.injEq] at HE
  obtain ⟨rfl,rfl,rfl,rfl⟩:=HE
  have hnn:n.toNat ≤ rest.length:=by omega
  have q4:(n ≤ (cc:Int))=True:=eq_true (by have:=HCC.out;omega)
  have q5:(0 ≤ n)=True:=eq_true n0
  have HT:=Aside0.mk (Kd.C_of_reads (h1:=fun _=>rfl) ((Kd.reads_of_C (d:=(0:Int)) HR.out).take_ n.toNat hnn))
  have hlt:(rest.take n.toNat).length=n.toNat:=by rw [List.length_take];omega
  have HLT:=Aside0.mk hlt
  clear a0 HD H I1 I2 hnn hlt
  have k1' := W1.out.place
  have g1' := blk_frozen W1.out.1 1
  go_wp2_with fail
  go_ret2
  refine data_some (j:=n.toNat) ⟨?_,W1.out.2.1.setCell (Nat.le_refl _) _,keep_set W1.out.2.2 1 _⟩ HLT.out (by rw [HLT.out];exact HT.out) (by have:=HCC.out;have:=HLT.out;have h1:=HT.out.1;rw [List.length_take];omega)
  exact blk_put W1.out.1 1 _ rfl
def sign_Hex.f (k:Nat) (a0:ByteArray):Option (Int × Bool):=(sign_number.f k a0 16 15).bind fun bt245=>(some (bt245.1,bt245.2))
theorem sign_Hex.calls (k:Nat) (a0:ByteArray) (r1:Int) (r2:Bool) (w:World) (h:sign_Hex.f k a0=some (r1,r2)) :
 Calls Tryz.prog 166 #[.string a0] w fun e w' => e = .returned (.tuple #[.int .i64 r1,.bool r2])∧Below w.heap.size w w' := by
 have HB:=zB w
 unfold sign_Hex.f at h
 have H:=h
 clear h
 replace H:=Option.bind_eq_some_iff.mp H
 obtain ⟨⟨t245,t246⟩,A20,H⟩:=H
 try dsimp only at H
 have A2:=Aside0.mk A20
 clear A20
 simp only [zi,zj] at H
 obtain ⟨rfl,rfl⟩:=H
 go_enter Tryz.func166,Tryz.ntmps166
 go_wp2_with (first|((with_reducible refine gate_callee (f:=156) rfl ?_);refine goesL_ (some 5) rfl rfl Tryz.func156 zb7 rfl #[.string a0,.int .i64 16,.int .i64 15] rfl zb2 ?_;(with_reducible refine (sign_number.calls k a0 16 15 t245 t246 _ A2.out).mono ?_);rintro e w3 ⟨rfl,hb⟩;(try clear A2);refine ⟨_,rfl,?_⟩;replace HB:=Aside0.mk (below_step zb0 hb);(try clear hb)))
 go_ret2
 exact ⟨zb3,zb0⟩
/-- At a cutset of ASCII bytes. -/
def strings_TrimRight.f (a0 a1:ByteArray):Option ByteArray :=
 if a0.size ≤ 9223372036854775807∧a1.size < 4294967281∧a1.data.toList.all (fun b=>decide (b.toNat < 128))=true then some ⟨(Lib.trimRightS a0.data.toList a1.data.toList).toArray⟩ else none
theorem strings_TrimRight.calls (a0 a1:ByteArray) (r:ByteArray) (w:World) (h:strings_TrimRight.f a0 a1=some r) :
 Calls Tryz.prog 167 #[.string a0,.string a1] w fun e w' => e = .returned (.string r)∧Below w.heap.size w w' := by
 unfold strings_TrimRight.f at h
 split at h
 ·rename_i hc
  obtain rfl:=Option.some.inj h
  exact Go.Proofs.Any.strings_TrimRight_laid Tryz.lays162 zb7 a0 a1 w hc.1 hc.2.1 (Go.Proofs.ascii_of_all hc.2.2)
 cases h
/-- What size tells: the size,the error,the new place,whether more bytes are needed. -/
def chunk_reader_size.f (k:Nat) (l:List Int) (p:Int):Option (Int × Int × Int × Bool) :=
 (chunk_reader_line.f k l p).bind fun x=>if x.2.1=0 then (if x.2.2.2=true then some (0,0,x.2.2.1,true) else
  (strings_Cut.f x.1 (⟨#[59]⟩:ByteArray)).bind fun c=>(strings_TrimRight.f c.1 (⟨#[32,9]⟩:ByteArray)).bind fun t=>(sign_Hex.f k t).bind fun h =>
   if h.2=true then ((sign_Value.f c.2.1).bind fun v=>if v=true then some (h.1,0,x.2.2.1,false) else some (0,30,x.2.2.1,false)) else some (0,30,x.2.2.1,false))
  else some (0,x.2.1,x.2.2.1,x.2.2.2)
theorem chunk_reader_size.calls (k:Nat) (g:Nat) (A:Option Addr) (c:Nat) (l:List Int) (p:Int) (m:Bool) (n e q:Int) (m' : Bool) (w:World) (hr:Rdr w g A l.length c p m) (hC:Kd.C (Kd.int .u8) w A l.length l) (hc:l.length ≤ c) (h:chunk_reader_size.f k l p=some (n,e,q,m')) :
 Calls Tryz.prog 122 #[.pointer (some ⟨g,0,none⟩)] w fun E w' => E = .returned (.tuple #[.int .i64 n,.int .i64 e])∧Went w w' g A l.length c q m' := by
 unfold chunk_reader_size.f at h
 obtain ⟨⟨s,e1,q1,m1⟩,hl,h⟩:=Option.bind_eq_some_iff.1 h
 simp only at h
 have HL:=Aside0.mk hl
 have HR:=Aside0.mk hr
 have HC:=Aside0.mk hC
 clear hl hr hC
 by_cases c1:e1=0;rotate_left
 ·rw [if_neg c1] at h
  simp only [zi,zj] at h
  obtain ⟨rfl,rfl,rfl,rfl⟩:=h
  have d1:(e1 == 0)=false:=beq_eq_false_iff_ne.2 c1
  have d2:(e1 != 0)=true:=bne_iff_ne.2 c1
  clear c1
  go_enter Tryz.func122,Tryz.ntmps122
  go_wp2_with (first|(go_at_call 165;(with_reducible refine (chunk_reader_line.calls k g A c l p m s e1 q1 m1 _ HR.out HC.out hc HL.out).mono ?_);rintro E w1 ⟨rfl,hw⟩;have hm:=hw.more;have W1:=Aside0.mk hw;clear hw))
  go_ret2
  exact ⟨rfl,W1.out⟩
 subst c1
 rw [if_pos rfl] at h
 cases m1
 ·rw [if_neg zb24] at h
  obtain ⟨⟨s1,r1,b1⟩,h1,h⟩:=Option.bind_eq_some_iff.1 h
  obtain ⟨t,h2,h⟩:=Option.bind_eq_some_iff.1 h
  obtain ⟨⟨n1,o1⟩,h3,h⟩:=Option.bind_eq_some_iff.1 h
  simp only at h h1 h2 h3
  have H1:=Aside0.mk h1
  have H2:=Aside0.mk h2
  have H3:=Aside0.mk h3
  clear h1 h2 h3
  cases o1
  ·rw [if_neg zb24] at h
   simp only [zi,zj] at h
   obtain ⟨rfl,rfl,rfl,rfl⟩:=h
   go_enter Tryz.func122,Tryz.ntmps122
   go_wp2_with (first|(go_at_call 165;(with_reducible refine (chunk_reader_line.calls k g A c l p m s 0 q1 false _ HR.out HC.out hc HL.out).mono ?_);rintro E w1 ⟨rfl,hw⟩;have hm:=hw.more;have W1:=Aside0.mk hw;clear hw)|(go_at_call 110;(with_reducible refine (strings_Cut.calls s _ s1 r1 b1 _ H1.out).mono ?_);rintro E w2 ⟨rfl,hd⟩;have W2:=Aside0.mk (W1.out.step hd.below);clear hd)|(go_at_call 167;(with_reducible refine (strings_TrimRight.calls s1 _ t _ H2.out).mono ?_);rintro E w3 ⟨rfl,hd⟩;have W3:=Aside0.mk (W2.out.step hd);clear hd)|(go_at_call 166;(with_reducible refine (sign_Hex.calls k t n1 false _ H3.out).mono ?_);rintro E w4 ⟨rfl,hd⟩;have W4:=Aside0.mk (W3.out.step hd);clear hd))
   go_ret2
   exact ⟨rfl,W4.out⟩
  rw [if_pos rfl] at h
  obtain ⟨v,h4,h⟩:=Option.bind_eq_some_iff.1 h
  have H4:=Aside0.mk h4
  clear h4
  cases v
  ·rw [if_neg zb24] at h
   simp only [zi,zj] at h
   obtain ⟨rfl,rfl,rfl,rfl⟩:=h
   go_enter Tryz.func122,Tryz.ntmps122
   go_wp2_with (first|(go_at_call 165;(with_reducible refine (chunk_reader_line.calls k g A c l p m s 0 q1 false _ HR.out HC.out hc HL.out).mono ?_);rintro E w1 ⟨rfl,hw⟩;have hm:=hw.more;have W1:=Aside0.mk hw;clear hw)|(go_at_call 110;(with_reducible refine (strings_Cut.calls s _ s1 r1 b1 _ H1.out).mono ?_);rintro E w2 ⟨rfl,hd⟩;have W2:=Aside0.mk (W1.out.step hd.below);clear hd)|(go_at_call 167;(with_reducible refine (strings_TrimRight.calls s1 _ t _ H2.out).mono ?_);rintro E w3 ⟨rfl,hd⟩;have W3:=Aside0.mk (W2.out.step hd);clear hd)|(go_at_call 166;(with_reducible refine (sign_Hex.calls k t n1 true _ H3.out).mono ?_);rintro E w4 ⟨rfl,hd⟩;have W4:=Aside0.mk (W3.out.step hd);clear hd)|(go_at_call 114;(with_reducible refine (sign_Value.calls r1 false _ H4.out).mono ?_);rintro E w5 ⟨rfl,hd⟩;have W5:=Aside0.mk (W4.out.step hd.below);clear hd))
   go_ret2
   exact ⟨rfl,W5.out⟩
  rw [if_pos rfl] at h
  simp only [zi,zj] at h
  obtain ⟨rfl,rfl,rfl,rfl⟩:=h
  go_enter Tryz.func122,Tryz.ntmps122
  go_wp2_with (first|(go_at_call 165;(with_reducible refine (chunk_reader_line.calls k g A c l p m s 0 q1 false _ HR.out HC.out hc HL.out).mono ?_);rintro E w1 ⟨rfl,hw⟩;have hm:=hw.more;have W1:=Aside0.mk hw;clear hw)|(go_at_call 110;(with_reducible refine (strings_Cut.calls s _ s1 r1 b1 _ H1.out).mono ?_);rintro E w2 ⟨rfl,hd⟩;have W2:=Aside0.mk (W1.out.step hd.below);clear hd)|(go_at_call 167;(with_reducible refine (strings_TrimRight.calls s1 _ t _ H2.out).mono ?_);rintro E w3 ⟨rfl,hd⟩;have W3:=Aside0.mk (W2.out.step hd);clear hd)|(go_at_call 166;(with_reducible refine (sign_Hex.calls k t n1 true _ H3.out).mono ?_);rintro E w4 ⟨rfl,hd⟩;have W4:=Aside0.mk (W3.out.step hd);clear hd)|(go_at_call 114;(with_reducible refine (sign_Value.calls r1 true _ H4.out).mono ?_);rintro E w5 ⟨rfl,hd⟩;have W5:=Aside0.mk (W4.out.step hd.below);clear hd))
  go_ret2
  exact ⟨rfl,W5.out⟩
 ·rw [if_pos rfl] at h
  simp only [zi,zj] at h
  obtain ⟨rfl,rfl,rfl,rfl⟩:=h
  go_enter Tryz.func122,Tryz.ntmps122
  go_wp2_with (first|(go_at_call 165;(with_reducible refine (chunk_reader_line.calls k g A c l p m s 0 q1 true _ HR.out HC.out hc HL.out).mono ?_);rintro E w1 ⟨rfl,hw⟩;have hm:=hw.more;have W1:=Aside0.mk hw;clear hw))
  go_ret2
  exact ⟨rfl,W1.out⟩
/-- What trailer tells from the n-th line on: the error,the new place,whether more bytes are needed. -/
def chunk_reader_trailer.l:Nat → List Int → Int → Int → Option (Int × Int × Bool)
 | 0,_,_,_=>none
 | k + 1,l,p,n=>(chunk_reader_line.f k l p).bind fun x=>if x.2.1=0 then (if x.2.2.2=true then some (0,x.2.2.1,true) else if x.1.toList=([]:List UInt8) then some (0,x.2.2.1,false) else
  (field_Parse.f x.1).bind fun y=>if y.2.2=0 then (if n=40 then some (3,x.2.2.1,false) else chunk_reader_trailer.l k l x.2.2.1 (n + 1)) else some (y.2.2,x.2.2.1,false))
  else some (x.2.1,x.2.2.1,x.2.2.2)
def chunk_reader_trailer.f (k:Nat) (l:List Int) (p:Int):Option (Int × Int × Bool):=chunk_reader_trailer.l k l p 0
theorem chunk_reader_trailer.calls (k:Nat) (g:Nat) (A:Option Addr) (c:Nat) (l:List Int) (p:Int) (m:Bool) (e q:Int) (m' : Bool) (w0 w:World) (hr:Rdr w g A l.length c p m) (hC:Kd.C (Kd.int .u8) w0 A l.length l) (hB0:Below w0.heap.size w0 w) (hg0:w0.heap.size ≤ g) (hc:l.length ≤ c) (h:chunk_reader_trailer.f k l p=some (e,q,m')) :
 Calls Tryz.prog 124 #[.pointer (some ⟨g,0,none⟩)] w fun E w' => E = .returned (.int .i64 e)∧Went w w' g A l.length c q m' := by
 unfold chunk_reader_trailer.f at h
 have hu:=Tryz.underlying36
 have HR:=Aside0.mk hr
 have HC:=Aside0.mk hC
 have H:=Aside0.mk h
 have hg:=blk_lt hr
 clear hr hC h
 go_enter Tryz.func124,Tryz.ntmps124
 go_wp2_with fail
 go_loopg [3,4,5,6,7] k (fun kq v3 _ _ _ _ wr => ∃ (n p:Int) (m:Bool),v3 = .int .i64 n∧Aside0 (0 ≤ n∧n ≤ 40)∧Aside0 (chunk_reader_trailer.l kq l p n=some (e,q,m'))∧Aside0 (Went w wr g A l.length c p m))
 case atStart=>exact ⟨0,p,m,rfl,⟨zb10⟩,H,⟨HR.out,Below.refl _ _,keep_below g (Below.refl _ _)⟩⟩
 case round =>
  obtain ⟨n,p,m,rfl,HN,H,W⟩:=hrel
  cases gk with
  | zero=>exact absurd H.out (by simp [chunk_reader_trailer.l])
  | succ k =>
   have h:=H.out
   clear H
   simp only [chunk_reader_trailer.l] at h
   obtain ⟨⟨s,e1,q1,m1⟩,hl,h⟩:=Option.bind_eq_some_iff.1 h
   simp only at h
   have HL:=Aside0.mk hl
   have HC' := Aside0.mk (Kd.C_below HC.out (hB0.trans (below_base hg0 W.out.2.1)))
   have hm0:=W.out.more
   clear hl
   have call:=fun (v:Unit)=>chunk_reader_line.calls k g A c l p m s e1 q1 m1 wr W.out.1 HC'.out hc HL.out
   have CALL:=Aside0.mk call
   clear call hm0
   have hN:=HN.out
   by_cases c1:e1=0;rotate_left
   ·rw [if_neg c1] at h
    simp only [zi,zj] at h
    obtain ⟨rfl,rfl,rfl⟩:=h
    have d1:(e1 == 0)=false:=beq_eq_false_iff_ne.2 c1
    have d2:(e1 != 0)=true:=bne_iff_ne.2 c1
    clear c1
    go_wp2_with (go_at_call 165;(with_reducible refine (CALL.out ()).mono ?_);rintro E w1 ⟨rfl,hw⟩;have hm:=hw.more;have W1:=Aside0.mk (W.out.then_ hw);clear hw)
    go_ret
    exact ⟨rfl,W1.out⟩
   subst c1
   rw [if_pos rfl] at h
   cases m1
   ·rw [if_neg zb24] at h
    by_cases c2:s.toList=[]
    ·rw [if_pos c2] at h
     simp only [zi,zj] at h
     obtain ⟨rfl,rfl,rfl⟩:=h
     have d2:s.toList.isEmpty=true:=List.isEmpty_iff.2 c2
     go_wp2_with (go_at_call 165;(with_reducible refine (CALL.out ()).mono ?_);rintro E w1 ⟨rfl,hw⟩;have hm:=hw.more;have W1:=Aside0.mk (W.out.then_ hw);clear hw)
     go_ret
     exact ⟨rfl,W1.out⟩
    rw [if_neg c2] at h
    have d2:s.toList.isEmpty=false:=by rw [Bool.eq_false_iff];exact fun e=>c2 (List.isEmpty_iff.1 e)
    have d3:(s.toList=[])=False:=eq_false c2
    clear c2
    obtain ⟨⟨y1,y2,y3⟩,hp,h⟩:=Option.bind_eq_some_iff.1 h
    simp only at h
    have HP:=Aside0.mk hp
    clear hp
    by_cases c3:y3=0;rotate_left
    ·rw [if_neg c3] at h
     simp only [zi,zj] at h
     obtain ⟨rfl,rfl,rfl⟩:=h
     have d4:(y3 == 0)=false:=beq_eq_false_iff_ne.2 c3
     have d5:(y3 != 0)=true:=bne_iff_ne.2 c3
     clear c3
     go_wp2_with (first|(go_at_call 165;(with_reducible refine (CALL.out ()).mono ?_);rintro E w1 ⟨rfl,hw⟩;have hm:=hw.more;have W1:=Aside0.mk (W.out.then_ hw);clear hw)|(go_at_call 109;(with_reducible refine (field_Parse.calls s y1 y2 y3 _ HP.out).mono ?_);rintro E w2 ⟨rfl,hd⟩;have W2:=Aside0.mk (W1.out.step hd);clear hd))
     go_ret
     exact ⟨rfl,W2.out.step (below_alloc (Below.refl _ _) _)⟩
    subst c3
    rw [if_pos rfl] at h
    by_cases c4:n=40
    ·subst c4
     rw [if_pos rfl] at h
     simp only [zi,zj] at h
     obtain ⟨rfl,rfl,rfl⟩:=h
     go_wp2_with (first|(go_at_call 165;(with_reducible refine (CALL.out ()).mono ?_);rintro E w1 ⟨rfl,hw⟩;have hm:=hw.more;have W1:=Aside0.mk (W.out.then_ hw);clear hw)|(go_at_call 109;(with_reducible refine (field_Parse.calls s y1 y2 0 _ HP.out).mono ?_);rintro E w2 ⟨rfl,hd⟩;have W2:=Aside0.mk (W1.out.step hd);clear hd))
     go_ret
     exact ⟨rfl,W2.out.step (below_alloc (Below.refl _ _) _)⟩
    rw [if_neg c4] at h
    have d4:(n == 40)=false:=beq_eq_false_iff_ne.2 c4
    have H2:=Aside0.mk h
    have hw:wrap64 (n + 1)=n + 1:=by unfold wrap64;omega
    have HN2:Aside0 (0 ≤ n + 1∧n + 1 ≤ 40):=⟨zb10⟩
    clear h c4
    go_wp2_with (first|(go_at_call 165;(with_reducible refine (CALL.out ()).mono ?_);rintro E w1 ⟨rfl,hw⟩;have hm:=hw.more;have W1:=Aside0.mk (W.out.then_ hw);clear hw)|(go_at_call 109;(with_reducible refine (field_Parse.calls s y1 y2 0 _ HP.out).mono ?_);rintro E w2 ⟨rfl,hd⟩;have W2:=Aside0.mk (W1.out.step hd);clear hd))
    go_roundg k
    case rel=>exact ⟨n + 1,q1,false,rfl,HN2,H2,⟨W2.out.step (below_alloc (Below.refl _ _) _)⟩⟩
    case measure=>exact Nat.lt_succ_self k
   ·rw [if_pos rfl] at h
    simp only [zi,zj] at h
    obtain ⟨rfl,rfl,rfl⟩:=h
    go_wp2_with (go_at_call 165;(with_reducible refine (CALL.out ()).mono ?_);rintro E w1 ⟨rfl,hw⟩;have hm:=hw.more;have W1:=Aside0.mk (W.out.then_ hw);clear hw)
    go_ret
    exact ⟨rfl,W1.out⟩
def chunk_Decode.l:Nat → List Int → Int → Int → List Int → Option (List Int × Int × Int)
 | 0,_,_,_,_=>none
 | k + 1,l,p,left,out=>(chunk_reader_size.f k l p).bind fun x=>if x.2.1=0 then (if x.2.2.2=true then some ([],0,0) else
  if x.1=0 then ((chunk_reader_trailer.f k l x.2.2.1).bind fun y=>if y.1=0 then (if y.2.2=true then some ([],0,0) else some (out,y.2.1,0)) else some ([],0,y.1))
  else if x.1 > left then some ([],0,2)
  else (chunk_reader_data.f l x.2.2.1 x.1 false).bind fun d=>if d.2.1=0 then (if d.2.2.2=true then some ([],0,0) else if out.length + d.1.length ≤ 140737488355328 then chunk_Decode.l k l d.2.2.1 (wrap64 (left - x.1)) (out ++ d.1) else none) else some ([],0,d.2.1))
  else some ([],0,x.2.1)
def chunk_Decode.f (k:Nat) (l0:List Int) (a1:Int):Option (List Int × Int × Int):=chunk_Decode.l k l0 0 (mx a1 0) []
theorem went_rdr {w w' : World} {g:Nat} {A:Option Addr} {n c:Nat} {p:Int} {m:Bool} (h:Went w w' g A n c p m):Rdr w' g A n c p m:=h.1
theorem dec_blk_grown {w w1:World} {g:Nat} {o:Obj} {row:Option Nat} (h:w.heap[g]? = some o) (hg:w.grownBy w1 row) (hne:some g ≠ row):w1.heap[g]? = some o:=(hg.block g (blk_lt h) hne).trans h
/-- What Decode hands back. -/
def DecPost (w:World) (r1:List Int) (r2 r3:Int) (E:Ending) (w' : World):Prop := ∃ v0_:Value,E = .returned (.tuple #[v0_,.int .i64 r2,.int .i64 r3])∧Kd.R (Kd.int .u8) 5 w' w.heap.size (fun _=>True) v0_ r1∧Below w.heap.size w w'
theorem dec_none {w w' : World} {r2 r3:Int} (h:Below w.heap.size w w'):DecPost w [] r2 r3 (.returned (.tuple #[.slice none 0 0,.int .i64 r2,.int .i64 r3])) w' := ⟨_,rfl,Kd.R_nil _ _ _ _ _,h⟩
/-- The reader and what was collected,beside it. -/
def Dec (w wr:World) (g:Nat) (A:Option Addr) (n c:Nat) (p:Int) (v:Value) (out:List Int):Prop:=Rdr wr g A n c p false∧Below w.heap.size w wr∧w.heap.size ≤ g∧Kd.R (Kd.int .u8) 5 wr w.heap.size (fun k=>k ≠ g) v out
theorem Dec.went {w wr w1:World} {g:Nat} {A:Option Addr} {n c:Nat} {p q:Int} {v:Value} {out:List Int} (h:Dec w wr g A n c p v out) (k:Went wr w1 g A n c q false):Dec w w1 g A n c q v out :=
 ⟨k.1,h.2.1.trans (below_base h.2.2.1 k.2.1),h.2.2.1,Kd.R_keep h.2.2.2 k.2.2 (fun _ hk=>hk)⟩
theorem Dec.below {w wr w1:World} {g:Nat} {A:Option Addr} {n c:Nat} {p q:Int} {m:Bool} {v:Value} {out:List Int} (h:Dec w wr g A n c p v out) (k:Went wr w1 g A n c q m):Below w.heap.size w w1:=h.2.1.trans (below_base h.2.2.1 k.2.1)
theorem chunk_Decode.calls (k:Nat) (A0:Option Addr) (c0:Nat) (l0:List Int) (a1:Int) (r1:List Int) (r2:Int) (r3:Int) (w:World) (hr0:Kd.C (Kd.int .u8) w A0 l0.length l0) (hc0:l0.length ≤ c0) (h:chunk_Decode.f k l0 a1=some (r1,r2,r3)) :
 Calls Tryz.prog 79 #[.slice A0 l0.length c0,.int .i64 a1] w fun e w' => ∃ v0_:Value,e = .returned (.tuple #[v0_,.int .i64 r2,.int .i64 r3])∧Kd.R (Kd.int .u8) 5 w' w.heap.size (fun _=>True) v0_ r1∧Below w.heap.size w w' := by
 show Calls Tryz.prog 79 #[.slice A0 l0.length c0,.int .i64 a1] w (DecPost w r1 r2 r3)
 have hu:=Tryz.underlying150
 have HC:=Aside0.mk hr0
 have H:=Aside0.mk h
 clear hr0 h
 have HD0:Aside0 (Dec w ((w.alloc (.cells #[.slice A0 l0.length c0,.int .i64 0,.bool false] 150)).alloc (.cells #[] 5)) w.heap.size A0 l0.length c0 0 (.slice (some ⟨w.heap.size + 1,0,none⟩) 0 0) []):=⟨by
  refine ⟨?_,?_,Nat.le_refl _,?_⟩
  ·exact blk_alloc (blk_new w _) _
  ·exact below_alloc (below_alloc (Below.refl _ _) _) _
  have ho:=own_lit (w.alloc (.cells #[.slice A0 l0.length c0,.int .i64 0,.bool false] 150)) w.heap.size 5 .u8 [] zb24 zb24
  have hz:(w.alloc (.cells #[.slice A0 l0.length c0,.int .i64 0,.bool false] 150)).heap.size=w.heap.size + 1:=by simp
  rw [hz] at ho
  exact Kd.R_of_own (h1:=fun _=>rfl) ho (fun k hk=>by
   have:w.heap.size + 1=k:=by simpa [Value.ownBlock] using hk
   omega)⟩
 obtain ⟨mm,hmm⟩ : ∃ mm,mm=mx a1 0:=⟨_,rfl⟩
 unfold chunk_Decode.f at H
 rw [← hmm] at H
 have hmx:=hmm.symm
 clear hmm
 go_enter Tryz.func79,Tryz.ntmps79
 go_wp2_with fail
 all_goals
  go_loopg [8,9,10,11,12] k (fun kq v8 v9 _ _ _ wr => ∃ (p left:Int) (out:List Int),v8 = .int .i64 left∧Aside0 (chunk_Decode.l kq l0 p left out=some (r1,r2,r3))∧Aside0 (Dec w wr w.heap.size A0 l0.length c0 p v9 out))
  case atStart=>first|exact ⟨0,0,[],rfl,⟨(show mm=0 by rw [← hmx];unfold mx;split <;> omega) ▸ H.out⟩,HD0⟩|exact ⟨0,a1,[],rfl,⟨(show mm=a1 by rw [← hmx];unfold mx;split <;> omega) ▸ H.out⟩,HD0⟩
  case round =>
   obtain ⟨p,left,out,rfl,H,D⟩:=hrel
   cases gk with
   | zero=>exact absurd H.out (by simp [chunk_Decode.l])
   | succ k =>
    clear HD0 hmx
    have h:=H.out
    clear H
    simp only [chunk_Decode.l] at h
    obtain ⟨⟨n1,e1,q1,m1⟩,hl,h⟩:=Option.bind_eq_some_iff.1 h
    simp only at h
    have call:=fun (v:Unit)=>chunk_reader_size.calls k w.heap.size A0 c0 l0 p false n1 e1 q1 m1 wr D.out.1 (Kd.C_below HC.out D.out.2.1) hc0 hl
    have CALL:=Aside0.mk call
    clear call hl
    by_cases c1:e1=0;rotate_left
    ·rw [if_neg c1] at h
     simp only [zi,zj] at h
     obtain ⟨rfl,rfl,rfl⟩:=h
     have d1:(e1 == 0)=false:=beq_eq_false_iff_ne.2 c1
     have d2:(e1 != 0)=true:=bne_iff_ne.2 c1
     clear c1
     go_wp2_with (first|(go_at_call 122;(with_reducible refine (CALL.out ()).mono ?_);rintro E w1 ⟨rfl,hw⟩;have hm:=hw.more;have W1:=Aside0.mk hw;clear hw))
     go_ret3
     exact dec_none (D.out.below W1.out)
    subst c1
    rw [if_pos rfl] at h
    cases m1
    ·rw [if_neg zb24] at h
     by_cases c2:n1=0
     ·subst c2
      rw [if_pos rfl] at h
      obtain ⟨⟨e2,q2,m2⟩,ht,h⟩:=Option.bind_eq_some_iff.1 h
      simp only at h
      have HT:=Aside0.mk ht
      clear ht
      by_cases c3:e2=0;rotate_left
      ·rw [if_neg c3] at h
       simp only [zi,zj] at h
       obtain ⟨rfl,rfl,rfl⟩:=h
       have d1:(e2 == 0)=false:=beq_eq_false_iff_ne.2 c3
       have d2:(e2 != 0)=true:=bne_iff_ne.2 c3
       clear c3
       go_wp2_with (first|(go_at_call 122;(with_reducible refine (CALL.out ()).mono ?_);rintro E w1 ⟨rfl,hw⟩;have hm:=hw.more;have W1:=Aside0.mk hw;clear hw)|(go_at_call 124;(with_reducible refine (chunk_reader_trailer.calls k w.heap.size A0 c0 l0 q1 false _ _ _ w w1 (went_rdr W1.out) HC.out (D.out.below W1.out) (Nat.le_refl _) hc0 HT.out).mono ?_);rintro E w2 ⟨rfl,hw⟩;have hm2:=hw.more;have hp2:=hw.place;have W2:=Aside0.mk hw;clear hw))
       go_ret3
       exact dec_none ((D.out.went W1.out).below W2.out)
      subst c3
      rw [if_pos rfl] at h
      cases m2
      ·rw [if_neg zb24] at h
       simp only [zi,zj] at h
       obtain ⟨rfl,rfl,rfl⟩:=h
       go_wp2_with (first|(go_at_call 122;(with_reducible refine (CALL.out ()).mono ?_);rintro E w1 ⟨rfl,hw⟩;have hm:=hw.more;have W1:=Aside0.mk hw;clear hw)|(go_at_call 124;(with_reducible refine (chunk_reader_trailer.calls k w.heap.size A0 c0 l0 q1 false _ _ _ w w1 (went_rdr W1.out) HC.out (D.out.below W1.out) (Nat.le_refl _) hc0 HT.out).mono ?_);rintro E w2 ⟨rfl,hw⟩;have hm2:=hw.more;have hp2:=hw.place;have W2:=Aside0.mk hw;clear hw))
       have D3:=Aside0.mk ((D.out.went W1.out).went W2.out)
       go_quiet (fail)
       go_wp2_with fail
       go_ret3
       exact ⟨_,rfl,Kd.R_mono (Kd.R_below D3.out.2.2.2 (pw_below_drewN (Below.refl _ _) _)) (fun _ _=>trivial),pw_below_drewN D3.out.2.1 _⟩
      ·rw [if_pos rfl] at h
       simp only [zi,zj] at h
       obtain ⟨rfl,rfl,rfl⟩:=h
       go_wp2_with (first|(go_at_call 122;(with_reducible refine (CALL.out ()).mono ?_);rintro E w1 ⟨rfl,hw⟩;have hm:=hw.more;have W1:=Aside0.mk hw;clear hw)|(go_at_call 124;(with_reducible refine (chunk_reader_trailer.calls k w.heap.size A0 c0 l0 q1 false _ _ _ w w1 (went_rdr W1.out) HC.out (D.out.below W1.out) (Nat.le_refl _) hc0 HT.out).mono ?_);rintro E w2 ⟨rfl,hw⟩;have hm2:=hw.more;have hp2:=hw.place;have W2:=Aside0.mk hw;clear hw))
       go_ret3
       exact dec_none ((D.out.went W1.out).below W2.out)
     rw [if_neg c2] at h
     have d2:(n1 == 0)=false:=beq_eq_false_iff_ne.2 c2
     clear c2
     by_cases c3:n1 > left
     ·rw [if_pos c3] at h
      simp only [zi,zj] at h
      obtain ⟨rfl,rfl,rfl⟩:=h
      have d3:decide (n1 > left)=true:=decide_eq_true c3
      have d4:(left < n1)=True:=eq_true c3
      clear c3
      go_wp2_with (first|(go_at_call 122;(with_reducible refine (CALL.out ()).mono ?_);rintro E w1 ⟨rfl,hw⟩;have hm:=hw.more;have W1:=Aside0.mk hw;clear hw))
      go_ret3
      exact dec_none (D.out.below W1.out)
     rw [if_neg c3] at h
     have d3:decide (n1 > left)=false:=decide_eq_false c3
     have d4:(left < n1)=False:=eq_false c3
     clear c3
     obtain ⟨⟨r3',e3,q3,m3⟩,ht,h⟩:=Option.bind_eq_some_iff.1 h
     simp only at h
     have HT:=Aside0.mk ht
     clear ht
     by_cases c4:e3=0;rotate_left
     ·rw [if_neg c4] at h
      simp only [zi,zj] at h
      obtain ⟨rfl,rfl,rfl⟩:=h
      have d5:(e3 == 0)=false:=beq_eq_false_iff_ne.2 c4
      have d6:(e3 != 0)=true:=bne_iff_ne.2 c4
      clear c4
      go_wp2_with (first|(go_at_call 122;(with_reducible refine (CALL.out ()).mono ?_);rintro E w1 ⟨rfl,hw⟩;have hm:=hw.more;have W1:=Aside0.mk hw;clear hw)|(go_at_call 123;(with_reducible refine (chunk_reader_data.calls w.heap.size A0 c0 l0 q1 n1 false r3' _ _ _ w w1 (went_rdr W1.out) HC.out (D.out.below W1.out) (Nat.le_refl _) hc0 HT.out).mono ?_);rintro E w2 ⟨A2,c2,rfl,hCr,hcr,hw⟩;have hm2:=hw.more;have W2:=Aside0.mk hw;have HCr:=Aside0.mk hCr;have Hcr:=Aside0.mk hcr;clear hw hCr hcr))
      go_ret3
      exact dec_none ((D.out.went W1.out).below W2.out)
     subst c4
     rw [if_pos rfl] at h
     cases m3
     ·rw [if_neg zb24] at h
      by_cases c5:out.length + r3'.length ≤ 140737488355328
      ·rw [if_pos c5] at h
       have HLEN:=Aside0.mk c5
       have H2:=Aside0.mk h
       clear c5 h
       go_wp2_with (first|(go_at_call 122;(with_reducible refine (CALL.out ()).mono ?_);rintro E w1 ⟨rfl,hw⟩;have hm:=hw.more;have W1:=Aside0.mk hw;clear hw)|(go_at_call 123;(with_reducible refine (chunk_reader_data.calls w.heap.size A0 c0 l0 q1 n1 false r3' _ _ _ w w1 (went_rdr W1.out) HC.out (D.out.below W1.out) (Nat.le_refl _) hc0 HT.out).mono ?_);rintro E w2 ⟨A2,c2,rfl,hCr,hcr,hw⟩;have hm2:=hw.more;have W2:=Aside0.mk hw;have HCr:=Aside0.mk hCr;have Hcr:=Aside0.mk hcr;clear hw hCr hcr;have D2:=Aside0.mk ((D.out.went W1.out).went W2.out))|((with_reducible refine gate_builtin (b:=.append) (xs:=#[.tmp 57,.tmp 58]) rfl ?_);at_builtin;refine Kd.R_append_rows (Kd.int .u8) (w0:=w) w.heap.size rfl (.tmp 57) (.tmp 58) 22 5 (.int .u8 0) 1 rfl Tryz.underlying22 info5 rfl zb78 zb10 u9 out r3' _ _ _ (fun k_=>k_ ≠ w.heap.size) (fun _=>False) rfl rfl ?aO ?aR (fun _ _ h=>h) (fun _ h=>h.elim) ?aF ?aB ?aS ?aL ?_;(case aO=>exact (D2.out).2.2.2);(case aR=>exact Kd.C_below HCr.out D2.out.2.1);(case aF=>intro k_ hk e_;have:=blk_lt D2.out.1;omega);(case aB=>exact D2.out.2.1);(case aS=>exact D2.out.2.1.size);(case aL=>have:=HLEN.out;omega);intro v3 w3 ho hb3 hg3 hat;have D3:=Aside0.mk (show Dec w w3 w.heap.size A0 l0.length c0 q3 v3 (out ++ r3') from ⟨dec_blk_grown D2.out.1 hg3 (fun e=>(D2.out).2.2.2.1 _ e.symm rfl),hb3,Nat.le_refl _,ho⟩);clear ho hb3 hg3 hat))
       go_roundg k
       case rel=>exact ⟨q3,wrap64 (left - n1),out ++ r3',rfl,H2,D3⟩
       case measure=>exact Nat.lt_succ_self k
      ·rw [if_neg c5] at h
       cases h
     ·rw [if_pos rfl] at h
      simp only [zi,zj] at h
      obtain ⟨rfl,rfl,rfl⟩:=h
      go_wp2_with (first|(go_at_call 122;(with_reducible refine (CALL.out ()).mono ?_);rintro E w1 ⟨rfl,hw⟩;have hm:=hw.more;have W1:=Aside0.mk hw;clear hw)|(go_at_call 123;(with_reducible refine (chunk_reader_data.calls w.heap.size A0 c0 l0 q1 n1 false r3' _ _ _ w w1 (went_rdr W1.out) HC.out (D.out.below W1.out) (Nat.le_refl _) hc0 HT.out).mono ?_);rintro E w2 ⟨A2,c2,rfl,hCr,hcr,hw⟩;have hm2:=hw.more;have W2:=Aside0.mk hw;have HCr:=Aside0.mk hCr;have Hcr:=Aside0.mk hcr;clear hw hCr hcr))
      go_ret3
      exact dec_none ((D.out.went W1.out).below W2.out)
    ·rw [if_pos rfl] at h
     simp only [zi,zj] at h
     obtain ⟨rfl,rfl,rfl⟩:=h
     go_wp2_with (first|(go_at_call 122;(with_reducible refine (CALL.out ()).mono ?_);rintro E w1 ⟨rfl,hw⟩;have hm:=hw.more;have W1:=Aside0.mk hw;clear hw))
     go_ret3
     exact dec_none (D.out.below W1.out)
def http_body.f (k:Nat) (l0:List Int) (a1:Int) (a2:Bool):Option (List Int × Int × Int):=if a2=true then ((chunk_Decode.f k l0 4096).bind fun bt251=>(if bt251.2.2=2 then (some (([]:List Int),(-1),413)) else (if bt251.2.2=0 then (if bt251.2.1=0 then (some (([]:List Int),(-1),0)) else (some (bt251.1,bt251.2.1,0))) else (some (([]:List Int),(-1),400))))) else (if (l0.length:Int) < a1 then (some (([]:List Int),(-1),0)) else (if 0 ≤ a1 then (if a1 ≤ (l0.length:Int) then ((bytes_Clone.f (l0.take (a1:Int).toNat)).bind fun t248=>(some (t248,a1,0))) else (none)) else (none)))
theorem http_body.calls (k:Nat) (A0:Option Addr) (c0:Nat) (l0:List Int) (a1:Int) (a2:Bool) (r1:List Int) (r2:Int) (r3:Int) (w:World) (hr0:Kd.C (Kd.int .u8) w A0 l0.length l0) (hc0:l0.length ≤ c0) (h:http_body.f k l0 a1 a2=some (r1,r2,r3)) :
 Calls Tryz.prog 45 #[.slice A0 l0.length c0,.int .i64 a1,.bool a2] w fun e w' => ∃ v0_:Value,e = .returned (.tuple #[v0_,.int .i64 r2,.int .i64 r3])∧Kd.R (Kd.int .u8) 5 w' w.heap.size (fun _=>True) v0_ r1∧Below w.heap.size w w' := by
 have HR0:=Aside0.mk hr0
 have HC0:=Aside0.mk hc0
 clear hr0 hc0
 have HB:=zB w
 unfold http_body.f at h
 have H:=h
 clear h
 by_cases c4:a2=true;rotate_left
 ·replace c4:=Bool.eq_false_iff.mpr c4
  subst c4
  rw [if_neg zf] at H
  by_cases c13:(l0.length:Int) < a1
  ·rw [if_pos c13] at H
   have c13b0:=decide_eq_true c13
   clear c13
   simp only [zi,zj] at H
   obtain ⟨rfl,rfl,rfl⟩:=H
   go_enter Tryz.func45,Tryz.ntmps45
   go_wp2
   go_ret3
   exact ⟨_,zb3,zb6,zb0⟩
  rw [if_neg c13] at H
  have c13b0:=decide_eq_false c13
  clear c13
  by_cases c14:0 ≤ a1;rotate_left
  ·rw [if_neg c14] at H
   exact absurd H zb24
  rw [if_pos c14] at H
  have c14b0:=eq_true c14
  have c14b1:=decide_eq_true c14
  clear c14
  by_cases c15:a1 ≤ (l0.length:Int);rotate_left
  ·rw [if_neg c15] at H
   exact absurd H zb24
  rw [if_pos c15] at H
  have c15b0:=eq_true c15
  have c15b1:=decide_eq_true c15
  clear c15
  replace H:=Option.bind_eq_some_iff.mp H
  obtain ⟨t248,A160,H⟩:=H
  try dsimp only at H
  have A16:=Aside0.mk A160
  clear A160
  simp only [zi,zj] at H
  obtain ⟨rfl,rfl,rfl⟩:=H
  obtain ⟨i017,hi017,_,hsz17,_⟩:=info_parts info5
  obtain ⟨hcut17,hA17,hC17⟩:=print_take_of (P:=Tryz.prog) (Value.int .u8) 0 22 5 .i64 Tryz.underlying22 hi017 hsz17 A0 c0 l0 a1 (of_decide_eq_true zb1) (of_decide_eq_true zb1) HC0.out
  have HR247:=Aside0.mk (Kd.C_of_reads (h1:=fun _=>rfl) (hA17 _ (Kd.reads_of_C HR0.out)))
  have HC247:=Aside0.mk hC17
  clear hA17 hC17 hi017 hsz17
  go_enter Tryz.func45,Tryz.ntmps45
  go_wp2_with (first|((with_reducible refine gate_callee (f:=62) rfl ?_);refine goesL_ (some 21) rfl rfl Tryz.func62 zb7 rfl #[.slice A0 (l0.take (a1:Int).toNat).length c0] rfl zb79 ?_;(with_reducible refine (bytes_Clone.calls _ _ (l0.take (a1:Int).toNat) t248 _ ?side1 ?side2 A16.out).mono ?_);(case side1=>repeat (first|exact HR247.out|(with_reducible refine Kd.C_alloc ?_ _)|(with_reducible refine Kd.C_drewN ?_ _)|(with_reducible refine Kd.C_drew ?_)));(case side2=>exact HC247.out);rintro e w18 ⟨v249,rfl,ho0,hb⟩;(try clear A16);refine ⟨_,rfl,?_⟩;have HO250:=Aside0.mk (Kd.R_lower ho0 (below_size zb0));replace HB:=Aside0.mk (below_step zb0 hb);try clear hb ho0))
  go_ret3
  exact ⟨_,zb3,by (with_reducible repeat (first|apply Kd.R_alloc|apply Kd.R_drewN|apply Kd.R_drew));exact HO250.out,zb0⟩
 subst c4
 rw [if_pos rfl] at H
 replace H:=Option.bind_eq_some_iff.mp H
 obtain ⟨⟨t251,t252,t253⟩,A50,H⟩:=H
 try dsimp only at H
 have A5:=Aside0.mk A50
 clear A50
 by_cases c6:t253=2
 ·rw [if_pos c6] at H
  have c6b0:=beq_iff_eq.mpr c6
  have c6b1:=bne_eq_false_iff_eq.mpr c6
  clear c6
  simp only [zi,zj] at H
  obtain ⟨rfl,rfl,rfl⟩:=H
  go_enter Tryz.func45,Tryz.ntmps45
  go_wp2_with (first|((with_reducible refine gate_callee (f:=79) rfl ?_);refine goesL_ (some 25) rfl rfl Tryz.func79 zb7 rfl #[.slice A0 l0.length c0,.int .i64 4096] rfl zb2 ?_;(with_reducible refine (chunk_Decode.calls k _ _ l0 4096 t251 t252 t253 _ ?side1 ?side2 A5.out).mono ?_);(case side1=>exact zb9);(case side2=>exact HC0.out);rintro e w7 ⟨v254,rfl,ho0,hb⟩;(try clear A5);refine ⟨_,rfl,?_⟩;have HO255:=Aside0.mk (Kd.R_lower ho0 (below_size zb0));replace HB:=Aside0.mk (below_step zb0 hb);try clear hb ho0))
  go_ret3
  exact ⟨_,zb3,zb6,zb0⟩
 ·rw [if_neg c6] at H
  have c6b0:=beq_eq_false_iff_ne.mpr c6
  have c6b1:=bne_iff_ne.mpr c6
  by_cases c8:t253=0
  ·rw [if_pos c8] at H
   have c8b0:=beq_iff_eq.mpr c8
   have c8b1:=bne_eq_false_iff_eq.mpr c8
   clear c8
   by_cases c9:t252=0
   ·rw [if_pos c9] at H
    have c9b0:=beq_iff_eq.mpr c9
    have c9b1:=bne_eq_false_iff_eq.mpr c9
    clear c9
    simp only [zi,zj] at H
    obtain ⟨rfl,rfl,rfl⟩:=H
    go_enter Tryz.func45,Tryz.ntmps45
    go_wp2_with (first|((with_reducible refine gate_callee (f:=79) rfl ?_);refine goesL_ (some 25) rfl rfl Tryz.func79 zb7 rfl #[.slice A0 l0.length c0,.int .i64 4096] rfl zb2 ?_;(with_reducible refine (chunk_Decode.calls k _ _ l0 4096 t251 t252 t253 _ ?side1 ?side2 A5.out).mono ?_);(case side1=>exact zb9);(case side2=>exact HC0.out);rintro e w10 ⟨v254,rfl,ho0,hb⟩;(try clear A5);refine ⟨_,rfl,?_⟩;have HO255:=Aside0.mk (Kd.R_lower ho0 (below_size zb0));replace HB:=Aside0.mk (below_step zb0 hb);try clear hb ho0))
    go_ret3
    exact ⟨_,zb3,zb6,zb0⟩
   ·rw [if_neg c9] at H
    have c9b0:=beq_eq_false_iff_ne.mpr c9
    have c9b1:=bne_iff_ne.mpr c9
    simp only [zi,zj] at H
    obtain ⟨rfl,rfl,rfl⟩:=H
    go_enter Tryz.func45,Tryz.ntmps45
    go_wp2_with (first|((with_reducible refine gate_callee (f:=79) rfl ?_);refine goesL_ (some 25) rfl rfl Tryz.func79 zb7 rfl #[.slice A0 l0.length c0,.int .i64 4096] rfl zb2 ?_;(with_reducible refine (chunk_Decode.calls k _ _ l0 4096 t251 t252 t253 _ ?side1 ?side2 A5.out).mono ?_);(case side1=>exact zb9);(case side2=>exact HC0.out);rintro e w11 ⟨v254,rfl,ho0,hb⟩;(try clear A5);refine ⟨_,rfl,?_⟩;have HO255:=Aside0.mk (Kd.R_lower ho0 (below_size zb0));replace HB:=Aside0.mk (below_step zb0 hb);try clear hb ho0))
    go_ret3
    exact ⟨_,zb3,by (with_reducible repeat (first|apply Kd.R_alloc|apply Kd.R_drewN|apply Kd.R_drew));exact HO255.out,zb0⟩
  ·rw [if_neg c8] at H
   have c8b0:=beq_eq_false_iff_ne.mpr c8
   have c8b1:=bne_iff_ne.mpr c8
   simp only [zi,zj] at H
   obtain ⟨rfl,rfl,rfl⟩:=H
   go_enter Tryz.func45,Tryz.ntmps45
   go_wp2_with (first|((with_reducible refine gate_callee (f:=79) rfl ?_);refine goesL_ (some 25) rfl rfl Tryz.func79 zb7 rfl #[.slice A0 l0.length c0,.int .i64 4096] rfl zb2 ?_;(with_reducible refine (chunk_Decode.calls k _ _ l0 4096 t251 t252 t253 _ ?side1 ?side2 A5.out).mono ?_);(case side1=>exact zb9);(case side2=>exact HC0.out);rintro e w12 ⟨v254,rfl,ho0,hb⟩;(try clear A5);refine ⟨_,rfl,?_⟩;have HO255:=Aside0.mk (Kd.R_lower ho0 (below_size zb0));replace HB:=Aside0.mk (below_step zb0 hb);try clear hb ho0))
   go_ret3
   exact ⟨_,zb3,zb6,zb0⟩
def http_Request.j0:Nat → List Int → Int → Int → Bool → Int → Bool → ByteArray → ByteArray → Int → List (S36) → List Int → Option (ByteArray × ByteArray × Int × (List (S36)) × List Int × Int × Int)
 | 0,_,_,_,_,_,_,_,_,_,_,_=>none
 | k + 1,x0,x6,x7,x8,x9,x25,x271000,x271001,x271002,x271003,x271004=>if x25=true then (some ((⟨#[]⟩:ByteArray),(⟨#[]⟩:ByteArray),0,([]:List (S36)),([]:List Int),0,x9)) else (if 0 ≤ x6 then (if x6 ≤ (x0.length:Int) then ((http_body.f k (x0.drop (x6:Int).toNat) x7 x8).bind fun bt272=>(if bt272.2.1 < 0 then (some ((⟨#[]⟩:ByteArray),(⟨#[]⟩:ByteArray),0,([]:List (S36)),([]:List Int),0,bt272.2.2)) else (some (x271000,x271001,x271002,x271003,bt272.1,wrap64 (x6 + bt272.2.1),0)))) else (none)) else (none))
def http_Request.f (k:Nat) (l0:List Int):Option (ByteArray × ByteArray × Int × (List (S36)) × List Int × Int × Int):=(http_open.f k l0).bind fun bt257=>(if bt257.2.2.2.2.2.1=0 then (http_Request.j0 k l0 bt257.2.2.2.2.2.1 bt257.2.2.2.2.2.2.1 bt257.2.2.2.2.2.2.2.1 bt257.2.2.2.2.2.2.2.2 true bt257.1 bt257.2.1 bt257.2.2.1 bt257.2.2.2.1 bt257.2.2.2.2.1) else (http_Request.j0 k l0 bt257.2.2.2.2.2.1 bt257.2.2.2.2.2.2.1 bt257.2.2.2.2.2.2.2.1 bt257.2.2.2.2.2.2.2.2 (bt257.2.2.2.2.2.2.2.2 != 0) bt257.1 bt257.2.1 bt257.2.2.1 bt257.2.2.2.1 bt257.2.2.2.2.1))
theorem http_Request.calls (k:Nat) (A0:Option Addr) (c0:Nat) (l0:List Int) (r1:ByteArray) (r2:ByteArray) (r3:Int) (r4:List (S36)) (r5:List Int) (r6:Int) (r7:Int) (w:World) (hr0:Kd.C (Kd.int .u8) w A0 l0.length l0) (hc0:l0.length ≤ c0) (h:http_Request.f k l0=some (r1,r2,r3,r4,r5,r6,r7)) :
 Calls Tryz.prog 12 #[.slice A0 l0.length c0] w fun e w' => ∃ v3_ v4_:Value,e = .returned (.tuple #[.agg #[.string r1,.string r2,.int .i64 r3,v3_,v4_],.int .i64 r6,.int .i64 r7])∧Kd.R k36 36 w' w.heap.size (fun _=>True) v3_ r4∧Kd.R (Kd.int .u8) 5 w' w.heap.size (fun _=>True) v4_ r5∧Below w.heap.size w w' := by
 have hu26:=Tryz.underlying26
 have HR0:=Aside0.mk hr0
 have HC0:=Aside0.mk hc0
 clear hr0 hc0
 have HB:=zB w
 unfold http_Request.f at h
 have H:=h
 clear h
 replace H:=Option.bind_eq_some_iff.mp H
 obtain ⟨⟨t31,t34,t35,t37,t40,t33,t42,t43,t46⟩,A20,H⟩:=H
 try dsimp only at H
 have A2:=Aside0.mk A20
 clear A20
 have HC3:=Aside0.mk H
 clear H
 go_enter Tryz.func12,Tryz.ntmps12
 go_upto_region 2 with (first|((with_reducible refine gate_dst (N:=2) rfl ?_);refine box_event rfl (N:=2) rfl (cs:=#[.string (⟨#[]⟩:ByteArray),.string (⟨#[]⟩:ByteArray),.int .i64 0,.slice none 0 0,.slice none 0 0]) (t:=26) zS ?_;intro gb29 hg w4 hbox hb;have GW29:=zG hg zb0;have GE29:=GW29;have BK29:=Aside0.mk hbox;replace HB:=Aside0.mk (below_step zb0 hb);clear hb hbox hg)|((with_reducible refine gate_callee (f:=44) rfl ?_);refine goesL_ (some 14) rfl rfl Tryz.func44 zb7 rfl #[.slice A0 l0.length c0] rfl zb2 ?_;(with_reducible refine (http_open.calls k _ _ l0 t31 t34 t35 t37 t40 t33 t42 t43 t46 _ ?side1 ?side2 A2.out).mono ?_);(case side1=>exact zb19);(case side2=>exact HC0.out);rintro e w5 ⟨v57,v58,rfl,ho0,ho1,hb⟩;refine ⟨_,rfl,?_⟩;have HO49:=Aside0.mk (Kd.R_lower ho0 (below_size zb13));have HO50:=Aside0.mk (Kd.R_lower ho1 (below_size zb13));replace BK29:=Aside0.mk (blk_below (g:=gb29) (o:=.cells #[.string (⟨#[]⟩:ByteArray),.string (⟨#[]⟩:ByteArray),.int .i64 0,.slice none 0 0,.slice none 0 0] 26 (0,0)) zb25 hb);replace HB:=Aside0.mk (below_step zb13 hb);try clear hb ho0 ho1)|((with_reducible refine gate_dst (N:=5) rfl ?_);refine box_event rfl (N:=5) rfl (cs:=#[.string (⟨#[]⟩:ByteArray),.string (⟨#[]⟩:ByteArray),.int .i64 0,.slice none 0 0,.slice none 0 0]) (t:=26) zS ?_;intro gb30 hg w6 hbox hb;replace HO49:=Aside0.mk (Kd.R_below (by (with_reducible repeat (first|apply Kd.R_alloc|apply Kd.R_drewN|apply Kd.R_drew));exact HO49.out) hb);replace HO50:=Aside0.mk (Kd.R_below zb62 hb);have BK30:=Aside0.mk (hbox);have GW30:=zG hg zb13;have GE30:=GW30;replace HB:=Aside0.mk (below_step zb13 hb);have NB29_270:=Aside0.mk ((by rw [hg];exact Nat.ne_of_lt (blk_lt (g:=gb29) (o:=.cells #[.string (⟨#[]⟩:ByteArray),.string (⟨#[]⟩:ByteArray),.int .i64 0,.slice none 0 0,.slice none 0 0] 26 (0,0)) zb25):gb29 ≠ gb30));have NB30_256:=Aside0.mk ((by rw [hg];exact Nat.ne_of_gt (blk_lt (g:=gb29) (o:=.cells #[.string (⟨#[]⟩:ByteArray),.string (⟨#[]⟩:ByteArray),.int .i64 0,.slice none 0 0,.slice none 0 0] 26 (0,0)) zb25):gb30 ≠ gb29));replace BK29:=Aside0.mk (blk_below (g:=gb29) (o:=.cells #[.string (⟨#[]⟩:ByteArray),.string (⟨#[]⟩:ByteArray),.int .i64 0,.slice none 0 0,.slice none 0 0] 26 (0,0)) zb25 hb);clear hb hbox hg;have hnb7:=NB30_256.out;have hnc7:=NB29_270.out;obtain ⟨hcz8_0,hcz8_1,hcz8_2,hcz8_3,hcz8_4,hfz8_0,hfz8_1,hfz8_2,hfz8_3,hfz8_4⟩:=zq5 BK30.out;obtain ⟨Ao9,co9,eo9⟩:=Kd.R_slice HO49.out;subst eo9;obtain ⟨Ao10,co10,eo10⟩:=Kd.R_slice HO50.out;subst eo10))
 (try simp only [Act.put,zqA,zqB,zqC])
 go_cut [25] (fun v25 wc => ∃ (kq:Nat) (x25_2:Bool),v25 = .bool x25_2∧Aside0 (http_Request.j0 kq l0 t33 t42 t43 t46 x25_2 t31 t34 t35 t37 t40=some (r1,r2,r3,r4,r5,r6,r7))∧Aside0 (kq ≤ k)∧Aside0 (Kd.R k36 36 wc w.heap.size (fun _=>True) (.slice Ao9 t37.length co9) t37)∧Aside0 (Kd.R (Kd.int .u8) 5 wc w.heap.size (fun _=>True) (.slice Ao10 t40.length co10) t40)∧Aside0 (wc.heap[gb29]? = some (.cells #[.string (⟨#[]⟩:ByteArray),.string (⟨#[]⟩:ByteArray),.int .i64 0,(.slice none 0 0),(.slice none 0 0)] 26 (0,0)))∧Aside0 (wc.heap[gb30]? = some (.cells #[.string t31,.string t34,.int .i64 t35,(.slice Ao9 t37.length co9),(.slice Ao10 t40.length co10)] 26 (0,0)))∧Aside0 (Below w.heap.size w wc))
 case first =>
  have H:=HC3.out
  clear HC3
  by_cases c11:t33=0;rotate_left
  ·rw [if_neg c11] at H
   have c11b0:=beq_eq_false_iff_ne.mpr c11
   have c11b1:=bne_iff_ne.mpr c11
   (first|rw [c11b0]|(simp only [i64_w,i32_w];rw [c11b0])|rw [c11b1]|skip)
   have H' := Aside0.mk H
   clear H
   go_wp2
   go_meet
   case rel=>exact ⟨_,((t46 != 0)),zb4,H',⟨zb37⟩,⟨zb107⟩,⟨zb108⟩,⟨zb35⟩,⟨zb77⟩,⟨zb22⟩⟩
  rw [if_pos c11] at H
  have c11b0:=beq_iff_eq.mpr c11
  have c11b1:=bne_eq_false_iff_eq.mpr c11
  clear c11
  (first|rw [c11b0]|(simp only [i64_w,i32_w];rw [c11b0])|rw [c11b1]|skip)
  have H' := Aside0.mk H
  clear H
  go_wp2
  go_meet
  case rel=>exact ⟨_,(true),zb4,H',⟨zb37⟩,⟨zb107⟩,⟨zb108⟩,⟨zb35⟩,⟨zb77⟩,⟨zb22⟩⟩
 case rest =>
  clear HC3
  try clear c1
  try clear p2
  try clear c4
  try clear c7
  try clear c11
  try clear c11b0
  try clear c11b1
  try clear hcz8_0
  try clear hcz8_1
  try clear hcz8_2
  try clear hcz8_3
  try clear hcz8_4
  try clear hfz8_0
  try clear hfz8_1
  try clear hfz8_2
  try clear hfz8_3
  try clear hfz8_4
  obtain ⟨kq,x25_2,rfl,HA,HJ2,HO_39,HO_38,BK29,BK30,HB⟩:=hcut
  cases kq with
  | zero=>exact absurd HA.out (by simp [http_Request.j0])
  | succ kj2 =>
   have H:=HA.out
   clear HA
   simp only [http_Request.j0] at H
   by_cases c12:x25_2=true
   ·subst c12
    rw [if_pos rfl] at H
    simp only [zi,zj] at H
    obtain ⟨rfl,rfl,rfl,rfl,rfl,rfl,rfl⟩:=H
    have hnb13:=NB29_270.out
    have hnc13:=NB30_256.out
    obtain ⟨hcz14_0,hcz14_1,hcz14_2,hcz14_3,hcz14_4,hfz14_0,hfz14_1,hfz14_2,hfz14_3,hfz14_4⟩:=zq5 BK29.out
    go_wp2
    refine bodyPost_ret (results_ctt rfl _ _ gb29 26 #[.string (⟨#[]⟩:ByteArray),.string (⟨#[]⟩:ByteArray),.int .i64 0,.slice none 0 0,.slice none 0 0] (0,0) _ rfl zb75 Tryz.underlying26 rfl zb7) rfl ?_
    exact ⟨_,_,zb3,zb6,zb6,zb22⟩
   replace c12:=Bool.eq_false_iff.mpr c12
   subst c12
   rw [if_neg zf] at H
   by_cases c15:0 ≤ t33;rotate_left
   ·rw [if_neg c15] at H
    exact absurd H zb24
   rw [if_pos c15] at H
   have c15b0:=eq_true c15
   have c15b1:=decide_eq_true c15
   clear c15
   by_cases c16:t33 ≤ (l0.length:Int)
   ·rw [if_pos c16] at H
    have c16b0:=eq_true c16
    have c16b1:=decide_eq_true c16
    clear c16
    replace H:=Option.bind_eq_some_iff.mp H
    obtain ⟨⟨t41,t48,t53⟩,A55,H⟩:=H
    try dsimp only at H
    have A17:=Aside0.mk A55
    clear A55
    by_cases c18:t48 < 0
    ·rw [if_pos c18] at H
     have c18b0:=decide_eq_true c18
     clear c18
     simp only [zi,zj] at H
     obtain ⟨rfl,rfl,rfl,rfl,rfl,rfl,rfl⟩:=H
     obtain ⟨i51,hi51,_,hsz19,_⟩:=info_parts info5
     obtain ⟨A19,hcut19,hA19,hC19⟩:=print_drop_of (P:=Tryz.prog) (Value.int .u8) 0 22 5 .i64 Tryz.underlying22 hi51 hsz19 A0 c0 l0 t33 (of_decide_eq_true zb1) (of_decide_eq_true zb1) HC0.out
     have HR47:=Aside0.mk (Kd.C_of_reads (h1:=fun _=>rfl) (hA19 _ (Kd.reads_of_C HR0.out)))
     have HC47:=Aside0.mk hC19
     clear hA19 hC19 hi51 hsz19
     go_wp2_with (first|((with_reducible refine gate_callee (f:=45) rfl ?_);refine goesL_ (some 34) rfl rfl Tryz.func45 zb7 rfl #[.slice A19 (l0.drop (t33:Int).toNat).length (c0 - t33.toNat),.int .i64 t42,.bool t43] rfl zb94 ?_;(with_reducible refine (http_body.calls kj2 _ _ (l0.drop (t33:Int).toNat) t42 t43 t41 t48 t53 _ ?side1 ?side2 A17.out).mono ?_);(case side1=>exact zb114);(case side2=>exact HC47.out);rintro e w20 ⟨v56,rfl,ho0,hb⟩;(try clear A17);refine ⟨_,rfl,?_⟩;replace HO_39:=Aside0.mk (Kd.R_below (by (with_reducible repeat (first|apply Kd.R_alloc|apply Kd.R_drewN|apply Kd.R_drew));exact HO_39.out) hb);have HO54:=Aside0.mk (Kd.R_lower (Kd.R_new' ho0 (Kd.R_lt zb102)) (below_size zb22));replace HO_38:=Aside0.mk (Kd.R_elder' zb102 (Kd.R_base ho0) hb);replace BK29:=Aside0.mk (blk_below (g:=gb29) (o:=.cells #[.string (⟨#[]⟩:ByteArray),.string (⟨#[]⟩:ByteArray),.int .i64 0,.slice none 0 0,.slice none 0 0] 26 (0,0)) zb25 hb);replace BK30:=Aside0.mk (blk_below (g:=gb30) (o:=.cells #[.string t31,.string t34,.int .i64 t35,.slice Ao9 t37.length co9,.slice Ao10 t40.length co10] 26 (0,0)) (by (with_reducible repeat (first|refine blk_drewN ?_ _|refine blk_drew ?_|refine blk_alloc ?_ _));exact BK30.out) hb);replace HB:=Aside0.mk (below_step zb22 hb);try clear hb ho0;have hnb21:=NB29_270.out;have hnc21:=NB30_256.out;obtain ⟨hcz22_0,hcz22_1,hcz22_2,hcz22_3,hcz22_4,hfz22_0,hfz22_1,hfz22_2,hfz22_3,hfz22_4⟩:=zq5 BK29.out))
     refine bodyPost_ret (results_ctt rfl _ _ gb29 26 #[.string (⟨#[]⟩:ByteArray),.string (⟨#[]⟩:ByteArray),.int .i64 0,.slice none 0 0,.slice none 0 0] (0,0) _ rfl zb75 Tryz.underlying26 rfl zb7) rfl ?_
     exact ⟨_,_,zb3,zb6,zb6,zb22⟩
    rw [if_neg c18] at H
    have c18b0:=decide_eq_false c18
    clear c18
    simp only [zi,zj] at H
    obtain ⟨rfl,rfl,rfl,rfl,rfl,rfl,rfl⟩:=H
    obtain ⟨i52,hi52,_,hsz23,_⟩:=info_parts info5
    obtain ⟨A23,hcut23,hA23,hC23⟩:=print_drop_of (P:=Tryz.prog) (Value.int .u8) 0 22 5 .i64 Tryz.underlying22 hi52 hsz23 A0 c0 l0 t33 (of_decide_eq_true zb1) (of_decide_eq_true zb1) HC0.out
    have HR47:=Aside0.mk (Kd.C_of_reads (h1:=fun _=>rfl) (hA23 _ (Kd.reads_of_C HR0.out)))
    have HC47:=Aside0.mk hC23
    clear hA23 hC23 hi52 hsz23
    go_wp2_with (first|((with_reducible refine gate_callee (f:=45) rfl ?_);refine goesL_ (some 34) rfl rfl Tryz.func45 zb7 rfl #[.slice A23 (l0.drop (t33:Int).toNat).length (c0 - t33.toNat),.int .i64 t42,.bool t43] rfl zb94 ?_;(with_reducible refine (http_body.calls kj2 _ _ (l0.drop (t33:Int).toNat) t42 t43 t41 t48 t53 _ ?side1 ?side2 A17.out).mono ?_);(case side1=>exact zb114);(case side2=>exact HC47.out);rintro e w24 ⟨v56,rfl,ho0,hb⟩;(try clear A17);refine ⟨_,rfl,?_⟩;replace HO_39:=Aside0.mk (Kd.R_below (by (with_reducible repeat (first|apply Kd.R_alloc|apply Kd.R_drewN|apply Kd.R_drew));exact HO_39.out) hb);have HO54:=Aside0.mk (Kd.R_lower (Kd.R_new' ho0 (Kd.R_lt zb102)) (below_size zb22));replace HO_38:=Aside0.mk (Kd.R_elder' zb102 (Kd.R_base ho0) hb);replace BK29:=Aside0.mk (blk_below (g:=gb29) (o:=.cells #[.string (⟨#[]⟩:ByteArray),.string (⟨#[]⟩:ByteArray),.int .i64 0,.slice none 0 0,.slice none 0 0] 26 (0,0)) zb25 hb);replace BK30:=Aside0.mk (blk_below (g:=gb30) (o:=.cells #[.string t31,.string t34,.int .i64 t35,.slice Ao9 t37.length co9,.slice Ao10 t40.length co10] 26 (0,0)) (by (with_reducible repeat (first|refine blk_drewN ?_ _|refine blk_drew ?_|refine blk_alloc ?_ _));exact BK30.out) hb);replace HB:=Aside0.mk (below_step zb22 hb);try clear hb ho0;obtain ⟨Ao25,co25,eo25⟩:=Kd.R_slice HO54.out;subst eo25;have hnb26:=NB30_256.out;have hnc26:=NB29_270.out;obtain ⟨hcz27_0,hcz27_1,hcz27_2,hcz27_3,hcz27_4,hfz27_0,hfz27_1,hfz27_2,hfz27_3,hfz27_4⟩:=zq5 BK30.out;obtain ⟨hcz28_0,hcz28_1,hcz28_2,hcz28_3,hcz28_4,hfz28_0,hfz28_1,hfz28_2,hfz28_3,hfz28_4⟩:=zq5 BK29.out))
    refine bodyPost_ret (results_ctt rfl _ _ gb29 26 #[.string t31,.string t34,.int .i64 t35,.slice Ao9 t37.length co9,.slice Ao25 t41.length co25] (0,0) _ rfl (by (with_reducible repeat (first|refine blk_drewN ?_ _|refine blk_drew ?_|refine blk_alloc ?_ _));refine zp5 (x0:=.string (⟨#[]⟩:ByteArray)) (x1:=.string (⟨#[]⟩:ByteArray)) (x2:=.int .i64 0) (x3:=.slice none 0 0) (x4:=.slice none 0 0) ?_;(with_reducible repeat (first|refine blk_drewN ?_ _|refine blk_drew ?_|refine blk_alloc ?_ _));refine blk_far ?_ NB29_270.out _;(with_reducible repeat (first|refine blk_drewN ?_ _|refine blk_drew ?_|refine blk_alloc ?_ _));exact BK29.out) Tryz.underlying26 rfl zb7) rfl ?_
    exact ⟨_,_,zb3,by (with_reducible repeat (first|apply Kd.R_alloc|apply Kd.R_drewN|apply Kd.R_drew));exact Kd.R_mono (zf5 (g:=gb29) (Kd.R_far (p:=⟨gb30,4,none⟩) (Kd.R_types (Kd.R_types HO_39.out BK30.out (by decide)) BK29.out (by decide)) (fun _ hk=>hk.1.2) (.slice Ao25 t41.length co25)) (fun _ hk=>hk.2)) (fun _ hk=>trivial),by (with_reducible repeat (first|apply Kd.R_alloc|apply Kd.R_drewN|apply Kd.R_drew));exact Kd.R_mono (zf5 (g:=gb29) (Kd.R_far (p:=⟨gb30,4,none⟩) (Kd.R_types (Kd.R_types HO54.out BK30.out (by decide)) BK29.out (by decide)) (fun _ hk=>hk.1.2) (.slice Ao25 t41.length co25)) (fun _ hk=>hk.2)) (fun _ hk=>trivial),zb22⟩
   ·rw [if_neg c16] at H
    exact absurd H zb24
/-- The place of the first that a test takes,from a place on: -1: none. -/
def idxO {α:Type} (q:α → Option Bool):List α → Int → Option Int
 | [],_=>some (-1)
 | x :: r,i=>(q x).bind fun b=>if b=true then some i else idxO q r (i + 1)
/-- Does a test take one of them? -/
def anyO {α:Type} (q:α → Option Bool):List α → Option Bool
 | []=>some false
 | x :: r=>(q x).bind fun b=>if b=true then some true else anyO q r
theorem idxO_any {α:Type} (q:α → Option Bool) : ∀ (xs:List α) (i:Int) (b:Bool),0 ≤ i → anyO q xs=some b → ∃ j,idxO q xs i=some j∧decide (0 ≤ j)=b
 | [],i,b,_,h=>⟨-1,rfl,by simp only [anyO,Option.some.injEq] at h;rw [← h];rfl⟩
 | x :: r,i,b,hi,h=>by
  simp only [anyO] at h
  obtain ⟨c,hc,h⟩:=Option.bind_eq_some_iff.1 h
  simp only [idxO,hc,Option.bind_some]
  cases c
  ·simp only [Bool.false_eq_true,if_false] at h ⊢
   exact idxO_any q r (i + 1) b (by omega) h
  simp only [if_true,Option.some.injEq] at h ⊢
  exact ⟨i,rfl,by rw [← h];exact decide_eq_true hi⟩
theorem sl_base {w w1:World} {b g:Nat} (hg:b ≤ g) (h:Below g w w1):Below b w w1:=⟨h.os,h.tape,h.output,h.size,fun i hi=>h.block i (Nat.lt_of_lt_of_le hi hg)⟩
/-- What is asked of a test that is handed over: its answer,in every later world. -/
def TestOf (g:Nat) (lb:Array Value) (enc:ByteArray → Value) (q:ByteArray → Option Bool) (w:World):Prop :=
 ∀ (W:World) (x:ByteArray) (b:Bool),Below w.heap.size w W → q x=some b → Calls Tryz.prog g (#[enc x] ++ lb) W fun e w' => e = .returned (.bool b)∧Below W.heap.size W w'
theorem slices_IndexFunc_string_string.callsOf (q:ByteArray → Option Bool) (g:Nat) (lb:Array Value) (eg : ∀ args w,(callFunc g args).run Tryz.prog w = .ok (.enter g args) w) (A0:Option Addr) (c0:Nat) (l0:List ByteArray) (r:Int) (w:World) (hr0:Kd.C Kd.string w A0 l0.length l0) (hc0:l0.length ≤ c0)
 (hq:TestOf g lb Value.string q w) (h:idxO q l0 0=some r) :
 Calls Tryz.prog 135 #[.slice A0 l0.length c0,.func (.func g) #[] lb] w fun e w' => e = .returned (.int .i64 r)∧Below w.heap.size w w' := by
 have HR:=Aside0.mk hr0
 have HQ:=Aside0.mk hq
 have H0:=Aside0.mk (show idxO q (l0.drop (0:Int).toNat) 0=some r from h)
 have HM:=Aside0.mk (show l0.length ≤ 9223372036854775807 from hr0.2.1)
 clear hr0 hq h
 go_enter Tryz.func135,Tryz.ntmps135
 go_wp2
 go_loopg [5,8] l0.length (fun kq _ v8 wr => ∃ (x8:Int),v8 = .int .i64 x8∧Aside0 (0 ≤ x8∧x8 ≤ l0.length∧(l0.length:Int) - x8 ≤ kq)∧Aside0 (Below w.heap.size w wr)∧Aside0 (idxO q (l0.drop x8.toNat) x8=some r))
 case atStart=>exact ⟨0,rfl,⟨zb10⟩,⟨Below.refl _ w⟩,H0⟩
 case round =>
  obtain ⟨x8,rfl,HX,BW,HH⟩:=hrel
  clear H0
  by_cases c4:x8 < (l0.length:Int);rotate_left
  ·have c4b0:=decide_eq_false c4
   have hx:=HH.out
   rw [List.drop_of_length_le (by have:=HX.out;omega),idxO] at hx
   injection hx with hx
   clear c4
   go_wp2
   go_ret
   subst hx
   exact ⟨zb130,BW.out⟩
  have c4b0:=decide_eq_true c4
  have hx:=HH.out
  have hlt:x8.toNat < l0.length:=by have:=HX.out;omega
  rw [List.drop_eq_getElem_cons hlt,idxO] at hx
  obtain ⟨b,hb,hx⟩:=Option.bind_eq_some_iff.1 hx
  have hrd:rdOf ByteArray.empty l0 x8=l0[x8.toNat]:=by simp [rdOf,List.getD_eq_getElem?_getD,List.getElem?_eq_getElem hlt]
  have hcall:=HQ.out wr l0[x8.toNat] b BW.out hb
  rw [← hrd] at hcall
  obtain ⟨ad,he,hcell⟩:=Kd.at_string HR.out x8 HX.out.1 c4
  replace hcell:=(BW.out.cell (World.block_lt_of_cell? w _ hcell)).trans hcell
  obtain ⟨y,hy⟩ : ∃ y,rdOf ByteArray.empty l0 x8=y:=⟨_,rfl⟩
  rw [hy] at hcall hcell
  have HCALL:=Aside0.mk hcall
  have HN:=Aside0.mk hx
  have p8:(0 ≤ x8)=True:=eq_true HX.out.1
  have q8:(x8 < (l0.length:Int))=True:=eq_true c4
  clear hx hb hrd HH hy hcall c4
  subst he
  cases b with
  | true =>
   go_wp2_with (go_at_fn g;refine HCALL.out.mono ?_;rintro e w' ⟨rfl,hb'⟩)
   go_ret
   have hx:=HN.out
   simp only [if_true,Option.some.injEq] at hx
   subst hx
   exact ⟨zb130,BW.out.trans (sl_base (Below.size BW.out) hb')⟩
  | false =>
   go_wp2_with (go_at_fn g;refine HCALL.out.mono ?_;rintro e w' ⟨rfl,hb'⟩)
   go_roundg (gk - 1)
   case measure=>have:=HX.out;have:=of_eq_true q8;omega
   case rel =>
    have hx:=HN.out
    simp only [Bool.false_eq_true,if_false] at hx
    have hx8:=HX.out
    have hq8:=of_eq_true q8
    have hw:wrap64 (x8 + 1)=x8 + 1:=by have:=HM.out;unfold wrap64;omega
    refine ⟨wrap64 (x8 + 1),rfl,⟨by rw [hw];omega⟩,⟨BW.out.trans (sl_base (Below.size BW.out) hb')⟩,⟨?_⟩⟩
    rw [hw,show (x8 + 1).toNat=x8.toNat + 1 by omega]
    exact hx
theorem field_Has_1.callsOf (B:Nat) (part:ByteArray) (w:World) (hc:w.cell? ⟨B,0,none⟩=some (.string part)):TestOf 88 #[.pointer (some ⟨B,0,none⟩)] Value.string (fun p=>sign_Same.f p part) w:=fun W x b hb h=>by
 have hB:B < w.heap.size:=World.block_lt_of_cell? w _ hc
 have hcell:W.cell? ⟨B,0,none⟩=some (.string part):=(hb.cell (p:=⟨B,0,none⟩) hB).trans hc
 have HS:=Aside0.mk h
 clear hc h hb
 show Calls Tryz.prog 88 #[.string x,.pointer (some ⟨B,0,none⟩)] W _
 go_enter Tryz.func88,Tryz.ntmps88
 go_wp2_with (go_at_call 89;refine (sign_Same.calls x part b W HS.out).mono ?_;rintro e w' ⟨rfl,hb'⟩)
 go_ret
 exact ⟨rfl,hb'⟩
theorem slices_ContainsFunc_string_string.callsOf (q:ByteArray → Option Bool) (g:Nat) (lb:Array Value) (eg : ∀ args w,(callFunc g args).run Tryz.prog w = .ok (.enter g args) w) (A0:Option Addr) (c0:Nat) (l0:List ByteArray) (r:Bool) (w:World) (hr0:Kd.C Kd.string w A0 l0.length l0) (hc0:l0.length ≤ c0)
 (hq:TestOf g lb Value.string q w) (h:anyO q l0=some r) :
 Calls Tryz.prog 86 #[.slice A0 l0.length c0,.func (.func g) #[] lb] w fun e w' => e = .returned (.bool r)∧Below w.heap.size w w' := by
 obtain ⟨j,hj,hb⟩:=idxO_any q l0 0 r zb10 h
 have HC:=Aside0.mk (slices_IndexFunc_string_string.callsOf q g lb eg A0 c0 l0 j w hr0 hc0 hq hj)
 have HBB:=Aside0.mk hb
 clear hb hj h hq hr0 hc0 eg
 go_enter Tryz.func86,Tryz.ntmps86
 go_wp2_with (go_at_call 135;refine HC.out.mono ?_;rintro e w' ⟨rfl,hb'⟩)
 go_ret
 have e:=HBB.out
 subst e
 exact ⟨zb130,hb'⟩
def field_Has.f (k:Nat) (l0:List (S36)) (a1 a2:ByteArray):Option Bool:=(field_List.f k l0 a1).bind fun l=>anyO (fun p=>sign_Same.f p a2) l
theorem field_Has.calls (k:Nat) (A0:Option Addr) (c0:Nat) (l0:List (S36)) (a1:ByteArray) (a2:ByteArray) (r:Bool) (w:World) (hr0:Kd.C k36 w A0 l0.length l0) (hc0:l0.length ≤ c0) (h:field_Has.f k l0 a1 a2=some r) :
 Calls Tryz.prog 48 #[.slice A0 l0.length c0,.string a1,.string a2] w fun e w' => e = .returned (.bool r)∧Below w.heap.size w w' := by
 unfold field_Has.f at h
 obtain ⟨l,hl,h⟩:=Option.bind_eq_some_iff.1 h
 have HR:=Aside0.mk hr0
 have HC:=Aside0.mk hc0
 have HL:=Aside0.mk hl
 have HA:=Aside0.mk h
 have eg : ∀ args w,(callFunc 88 args).run Tryz.prog w = .ok (.enter 88 args) w:=enters_of Tryz.func88 zb7 rfl
 have EG:=Aside0.mk eg
 clear hr0 hc0 hl h eg
 have hcell:(w.alloc (.cells #[.string a2] 9)).cell? ⟨w.heap.size,0,none⟩=some (.string a2):=(blk_cell (blk_new w _) 0).trans rfl
 go_enter Tryz.func48,Tryz.ntmps48
 go_wp2_with (first
  | (go_at_call 87;refine (field_List.calls k A0 c0 l0 a1 l _ (Kd.C_alloc HR.out _) HC.out HL.out).mono ?_;rintro e w1 ⟨v,rfl,hR,hb⟩;obtain ⟨A1,c1,rfl,hc1,hC1⟩:=Kd.R_reads hR;have HC1:=Aside0.mk hC1;have HB1:=Aside0.mk hb;have hcell1:=pw_cell_below hb hcell;clear hR hC1 hb)
  | (go_at_call 86;refine (slices_ContainsFunc_string_string.callsOf (fun p=>sign_Same.f p a2) 88 #[.pointer (some ⟨w.heap.size,0,none⟩)] EG.out A1 c1 l r _ HC1.out hc1 (field_Has_1.callsOf w.heap.size a2 _ hcell1) HA.out).mono ?_;rintro e w2 ⟨rfl,hb2⟩))
 go_ret
 exact ⟨rfl,((Below.refl _ w).alloc (Nat.le_refl _) _).trans (sl_base zb24 (HB1.out.trans (sl_base HB1.out.size hb2)))⟩
def http_Waits.f (k:Nat) (l0:List Int):Option (Bool):=(http_open.f k l0).bind fun bt277=>(if bt277.2.2.2.2.2.1=0 then (some false) else (if bt277.2.2.2.2.2.2.2.2=0 then (if bt277.2.2.1=0 then (some false) else ((field_Has.f k bt277.2.2.2.1 (⟨#[69,120,112,101,99,116]⟩:ByteArray) (⟨#[49,48,48,45,99,111,110,116,105,110,117,101]⟩:ByteArray)).bind fun t291=>(if t291=true then (if 0 ≤ bt277.2.2.2.2.2.1 then (if bt277.2.2.2.2.2.1 ≤ (l0.length:Int) then ((http_body.f k (l0.drop (bt277.2.2.2.2.2.1:Int).toNat) bt277.2.2.2.2.2.2.1 bt277.2.2.2.2.2.2.2.1).bind fun bt293=>(if bt293.2.1 < 0 then (some (bt293.2.2 == 0)) else (some false))) else (none)) else (none)) else (some false)))) else (some false)))
theorem http_Waits.calls (k:Nat) (A0:Option Addr) (c0:Nat) (l0:List Int) (r:Bool) (w:World) (hr0:Kd.C (Kd.int .u8) w A0 l0.length l0) (hc0:l0.length ≤ c0) (h:http_Waits.f k l0=some r) :
 Calls Tryz.prog 17 #[.slice A0 l0.length c0] w fun e w' => e = .returned (.bool r)∧Below w.heap.size w w' := by
 have hu26:=Tryz.underlying26
 have HR0:=Aside0.mk hr0
 have HC0:=Aside0.mk hc0
 clear hr0 hc0
 have HB:=zB w
 unfold http_Waits.f at h
 have H:=h
 clear h
 replace H:=Option.bind_eq_some_iff.mp H
 obtain ⟨⟨t52,t56,t54,t55,t57,t53,t59,t60,t61⟩,A20,H⟩:=H
 try dsimp only at H
 have A2:=Aside0.mk A20
 clear A20
 by_cases c3:t53=0
 ·rw [if_pos c3] at H
  have c3b0:=beq_iff_eq.mpr c3
  have c3b1:=bne_eq_false_iff_eq.mpr c3
  clear c3
  obtain rfl:=Option.some.inj H
  go_enter Tryz.func17,Tryz.ntmps17
  go_wp2_with (first|((with_reducible refine gate_callee (f:=44) rfl ?_);refine goesL_ (some 12) rfl rfl Tryz.func44 zb7 rfl #[.slice A0 l0.length c0] rfl zb2 ?_;(with_reducible refine (http_open.calls k _ _ l0 t52 t56 t54 t55 t57 t53 t59 t60 t61 _ ?side1 ?side2 A2.out).mono ?_);(case side1=>exact zb9);(case side2=>exact HC0.out);rintro e w4 ⟨v66,v67,rfl,ho0,ho1,hb⟩;(try clear A2);refine ⟨_,rfl,?_⟩;have HO50:=Aside0.mk (Kd.R_lower ho0 (below_size zb0));have HO51:=Aside0.mk (Kd.R_lower ho1 (below_size zb0));replace HB:=Aside0.mk (below_step zb0 hb);try clear hb ho0 ho1)|((with_reducible refine gate_dst (N:=3) rfl ?_);refine box_event rfl (N:=3) rfl (cs:=#[.string (⟨#[]⟩:ByteArray),.string (⟨#[]⟩:ByteArray),.int .i64 0,.slice none 0 0,.slice none 0 0]) (t:=26) zS ?_;intro gb49 hg w5 hbox hb;replace HO50:=Aside0.mk (Kd.R_below zb62 hb);replace HO51:=Aside0.mk (Kd.R_below zb38 hb);have BK49:=Aside0.mk (hbox);have GW49:=zG hg zb0;have GE49:=GW49;replace HB:=Aside0.mk (below_step zb0 hb);clear hb hbox hg;obtain ⟨hcz6_0,hcz6_1,hcz6_2,hcz6_3,hcz6_4,hfz6_0,hfz6_1,hfz6_2,hfz6_3,hfz6_4⟩:=zq5 BK49.out;obtain ⟨Ao7,co7,eo7⟩:=Kd.R_slice HO50.out;subst eo7;obtain ⟨Ao8,co8,eo8⟩:=Kd.R_slice HO51.out;subst eo8))
  go_ret
  exact ⟨zb3,zb27⟩
 rw [if_neg c3] at H
 have c3b0:=beq_eq_false_iff_ne.mpr c3
 have c3b1:=bne_iff_ne.mpr c3
 by_cases c9:t61=0;rotate_left
 ·rw [if_neg c9] at H
  have c9b0:=beq_eq_false_iff_ne.mpr c9
  have c9b1:=bne_iff_ne.mpr c9
  obtain rfl:=Option.some.inj H
  go_enter Tryz.func17,Tryz.ntmps17
  go_wp2_with (first|((with_reducible refine gate_callee (f:=44) rfl ?_);refine goesL_ (some 12) rfl rfl Tryz.func44 zb7 rfl #[.slice A0 l0.length c0] rfl zb2 ?_;(with_reducible refine (http_open.calls k _ _ l0 t52 t56 t54 t55 t57 t53 t59 t60 t61 _ ?side1 ?side2 A2.out).mono ?_);(case side1=>exact zb9);(case side2=>exact HC0.out);rintro e w44 ⟨v66,v67,rfl,ho0,ho1,hb⟩;(try clear A2);refine ⟨_,rfl,?_⟩;have HO50:=Aside0.mk (Kd.R_lower ho0 (below_size zb0));have HO51:=Aside0.mk (Kd.R_lower ho1 (below_size zb0));replace HB:=Aside0.mk (below_step zb0 hb);try clear hb ho0 ho1)|((with_reducible refine gate_dst (N:=3) rfl ?_);refine box_event rfl (N:=3) rfl (cs:=#[.string (⟨#[]⟩:ByteArray),.string (⟨#[]⟩:ByteArray),.int .i64 0,.slice none 0 0,.slice none 0 0]) (t:=26) zS ?_;intro gb49 hg w45 hbox hb;replace HO50:=Aside0.mk (Kd.R_below zb62 hb);replace HO51:=Aside0.mk (Kd.R_below zb38 hb);have BK49:=Aside0.mk (hbox);have GW49:=zG hg zb0;have GE49:=GW49;replace HB:=Aside0.mk (below_step zb0 hb);clear hb hbox hg;obtain ⟨hcz46_0,hcz46_1,hcz46_2,hcz46_3,hcz46_4,hfz46_0,hfz46_1,hfz46_2,hfz46_3,hfz46_4⟩:=zq5 BK49.out;obtain ⟨Ao47,co47,eo47⟩:=Kd.R_slice HO50.out;subst eo47;obtain ⟨Ao48,co48,eo48⟩:=Kd.R_slice HO51.out;subst eo48))
  go_ret
  exact ⟨zb3,zb27⟩
 rw [if_pos c9] at H
 have c9b0:=beq_iff_eq.mpr c9
 have c9b1:=bne_eq_false_iff_eq.mpr c9
 clear c9
 by_cases c10:t54=0
 ·rw [if_pos c10] at H
  have c10b0:=beq_iff_eq.mpr c10
  have c10b1:=bne_eq_false_iff_eq.mpr c10
  clear c10
  obtain rfl:=Option.some.inj H
  go_enter Tryz.func17,Tryz.ntmps17
  go_wp2_with (first|((with_reducible refine gate_callee (f:=44) rfl ?_);refine goesL_ (some 12) rfl rfl Tryz.func44 zb7 rfl #[.slice A0 l0.length c0] rfl zb2 ?_;(with_reducible refine (http_open.calls k _ _ l0 t52 t56 t54 t55 t57 t53 t59 t60 t61 _ ?side1 ?side2 A2.out).mono ?_);(case side1=>exact zb9);(case side2=>exact HC0.out);rintro e w11 ⟨v66,v67,rfl,ho0,ho1,hb⟩;(try clear A2);refine ⟨_,rfl,?_⟩;have HO50:=Aside0.mk (Kd.R_lower ho0 (below_size zb0));have HO51:=Aside0.mk (Kd.R_lower ho1 (below_size zb0));replace HB:=Aside0.mk (below_step zb0 hb);try clear hb ho0 ho1)|((with_reducible refine gate_dst (N:=3) rfl ?_);refine box_event rfl (N:=3) rfl (cs:=#[.string (⟨#[]⟩:ByteArray),.string (⟨#[]⟩:ByteArray),.int .i64 0,.slice none 0 0,.slice none 0 0]) (t:=26) zS ?_;intro gb49 hg w12 hbox hb;replace HO50:=Aside0.mk (Kd.R_below zb62 hb);replace HO51:=Aside0.mk (Kd.R_below zb38 hb);have BK49:=Aside0.mk (hbox);have GW49:=zG hg zb0;have GE49:=GW49;replace HB:=Aside0.mk (below_step zb0 hb);clear hb hbox hg;obtain ⟨hcz13_0,hcz13_1,hcz13_2,hcz13_3,hcz13_4,hfz13_0,hfz13_1,hfz13_2,hfz13_3,hfz13_4⟩:=zq5 BK49.out;obtain ⟨Ao14,co14,eo14⟩:=Kd.R_slice HO50.out;subst eo14;obtain ⟨Ao15,co15,eo15⟩:=Kd.R_slice HO51.out;subst eo15))
  go_ret
  exact ⟨zb3,zb27⟩
 rw [if_neg c10] at H
 have c10b0:=beq_eq_false_iff_ne.mpr c10
 have c10b1:=bne_iff_ne.mpr c10
 replace H:=Option.bind_eq_some_iff.mp H
 obtain ⟨t63,A71,H⟩:=H
 try dsimp only at H
 have A16:=Aside0.mk A71
 clear A71
 by_cases c17:t63=true
 ·subst c17
  rw [if_pos rfl] at H
  by_cases c18:0 ≤ t53;rotate_left
  ·rw [if_neg c18] at H
   exact absurd H zb24
  rw [if_pos c18] at H
  have c18b0:=eq_true c18
  have c18b1:=decide_eq_true c18
  clear c18
  by_cases c19:t53 ≤ (l0.length:Int)
  ·rw [if_pos c19] at H
   have c19b0:=eq_true c19
   have c19b1:=decide_eq_true c19
   clear c19
   replace H:=Option.bind_eq_some_iff.mp H
   obtain ⟨⟨t58,t65,t70⟩,A72,H⟩:=H
   try dsimp only at H
   have A20:=Aside0.mk A72
   clear A72
   by_cases c21:t65 < 0
   ·rw [if_pos c21] at H
    have c21b0:=decide_eq_true c21
    clear c21
    obtain rfl:=Option.some.inj H
    go_enter Tryz.func17,Tryz.ntmps17
    go_wp2_with (first|((with_reducible refine gate_callee (f:=44) rfl ?_);refine goesL_ (some 12) rfl rfl Tryz.func44 zb7 rfl #[.slice A0 l0.length c0] rfl zb2 ?_;(with_reducible refine (http_open.calls k _ _ l0 t52 t56 t54 t55 t57 t53 t59 t60 t61 _ ?side1 ?side2 A2.out).mono ?_);(case side1=>exact zb9);(case side2=>exact HC0.out);rintro e w22 ⟨v66,v67,rfl,ho0,ho1,hb⟩;(try clear A2);refine ⟨_,rfl,?_⟩;have HO50:=Aside0.mk (Kd.R_lower ho0 (below_size zb0));have HO51:=Aside0.mk (Kd.R_lower ho1 (below_size zb0));replace HB:=Aside0.mk (below_step zb0 hb);try clear hb ho0 ho1)|((with_reducible refine gate_dst (N:=3) rfl ?_);refine box_event rfl (N:=3) rfl (cs:=#[.string (⟨#[]⟩:ByteArray),.string (⟨#[]⟩:ByteArray),.int .i64 0,.slice none 0 0,.slice none 0 0]) (t:=26) zS ?_;intro gb49 hg w23 hbox hb;replace HO50:=Aside0.mk (Kd.R_below zb62 hb);replace HO51:=Aside0.mk (Kd.R_below zb38 hb);have BK49:=Aside0.mk (hbox);have GW49:=zG hg zb0;have GE49:=GW49;replace HB:=Aside0.mk (below_step zb0 hb);clear hb hbox hg;obtain ⟨hcz24_0,hcz24_1,hcz24_2,hcz24_3,hcz24_4,hfz24_0,hfz24_1,hfz24_2,hfz24_3,hfz24_4⟩:=zq5 BK49.out;obtain ⟨Ao25,co25,eo25⟩:=Kd.R_slice HO50.out;subst eo25;obtain ⟨Ao26,co26,eo26⟩:=Kd.R_slice HO51.out;subst eo26)|(go_at_call 48;(with_reducible refine (field_Has.calls k _ _ t55 (⟨#[69,120,112,101,99,116]⟩:ByteArray) (⟨#[49,48,48,45,99,111,110,116,105,110,117,101]⟩:ByteArray) true _ ?side1 ?side2 A16.out).mono ?_);(case side1=>refine (Kd.R_reads' (e:=36) (base:=w.heap.size) (ok:=fun k_=>True) (n:=t55.length) (c:=co25) ?_).2.2;exact zb45);(case side2=>exact (Kd.R_reads' HO50.out).2.1);rintro e w27 ⟨rfl,hb⟩;(try clear A16);replace HO50:=Aside0.mk (Kd.R_below zb45 hb);replace HO51:=Aside0.mk (Kd.R_below zb84 hb);replace BK49:=Aside0.mk (blk_below (g:=gb49) (o:=.cells #[.string t52,.string t56,.int .i64 t54,.slice Ao25 t55.length co25,.slice Ao26 t57.length co26] 26 (0,0)) zb50 hb);replace HB:=Aside0.mk (below_step zb27 hb);(try clear hb);obtain ⟨i68,hi68,_,hsz28,_⟩:=info_parts info5;obtain ⟨A28,hcut28,hA28,hC28⟩:=print_drop_of (P:=Tryz.prog) (Value.int .u8) 0 22 5 .i64 Tryz.underlying22 hi68 hsz28 A0 c0 l0 t53 (of_decide_eq_true zb1) (of_decide_eq_true zb1) HC0.out;have HR62:=Aside0.mk (Kd.C_of_reads (h1:=fun _=>rfl) (hA28 _ (Kd.reads_of_C HR0.out)));have HC62:=Aside0.mk hC28;clear hA28 hC28 hi68 hsz28)|((with_reducible refine gate_callee (f:=45) rfl ?_);refine goesL_ (some 41) rfl rfl Tryz.func45 zb7 rfl #[.slice A28 (l0.drop (t53:Int).toNat).length (c0 - t53.toNat),.int .i64 t59,.bool t60] rfl zb95 ?_;(with_reducible refine (http_body.calls k _ _ (l0.drop (t53:Int).toNat) t59 t60 t58 t65 t70 _ ?side1 ?side2 A20.out).mono ?_);(case side1=>exact zb115);(case side2=>exact HC62.out);rintro e w29 ⟨v73,rfl,ho0,hb⟩;(try clear A20);refine ⟨_,rfl,?_⟩;replace HO50:=Aside0.mk (Kd.R_below zb62 hb);have HO74:=Aside0.mk (Kd.R_lower (Kd.R_new' ho0 (Kd.R_lt zb38)) (below_size zb27));replace HO51:=Aside0.mk (Kd.R_elder' zb38 (Kd.R_base ho0) hb);replace BK49:=Aside0.mk (blk_below (g:=gb49) (o:=.cells #[.string t52,.string t56,.int .i64 t54,.slice Ao25 t55.length co25,.slice Ao26 t57.length co26] 26 (0,0)) (by (with_reducible repeat (first|refine blk_drewN ?_ _|refine blk_drew ?_|refine blk_alloc ?_ _));exact BK49.out) hb);replace HB:=Aside0.mk (below_step zb27 hb);try clear hb ho0))
    go_ret
    exact ⟨zb3,zb27⟩
   rw [if_neg c21] at H
   have c21b0:=decide_eq_false c21
   clear c21
   obtain rfl:=Option.some.inj H
   go_enter Tryz.func17,Tryz.ntmps17
   go_wp2_with (first|((with_reducible refine gate_callee (f:=44) rfl ?_);refine goesL_ (some 12) rfl rfl Tryz.func44 zb7 rfl #[.slice A0 l0.length c0] rfl zb2 ?_;(with_reducible refine (http_open.calls k _ _ l0 t52 t56 t54 t55 t57 t53 t59 t60 t61 _ ?side1 ?side2 A2.out).mono ?_);(case side1=>exact zb9);(case side2=>exact HC0.out);rintro e w30 ⟨v66,v67,rfl,ho0,ho1,hb⟩;(try clear A2);refine ⟨_,rfl,?_⟩;have HO50:=Aside0.mk (Kd.R_lower ho0 (below_size zb0));have HO51:=Aside0.mk (Kd.R_lower ho1 (below_size zb0));replace HB:=Aside0.mk (below_step zb0 hb);try clear hb ho0 ho1)|((with_reducible refine gate_dst (N:=3) rfl ?_);refine box_event rfl (N:=3) rfl (cs:=#[.string (⟨#[]⟩:ByteArray),.string (⟨#[]⟩:ByteArray),.int .i64 0,.slice none 0 0,.slice none 0 0]) (t:=26) zS ?_;intro gb49 hg w31 hbox hb;replace HO50:=Aside0.mk (Kd.R_below zb62 hb);replace HO51:=Aside0.mk (Kd.R_below zb38 hb);have BK49:=Aside0.mk (hbox);have GW49:=zG hg zb0;have GE49:=GW49;replace HB:=Aside0.mk (below_step zb0 hb);clear hb hbox hg;obtain ⟨hcz32_0,hcz32_1,hcz32_2,hcz32_3,hcz32_4,hfz32_0,hfz32_1,hfz32_2,hfz32_3,hfz32_4⟩:=zq5 BK49.out;obtain ⟨Ao33,co33,eo33⟩:=Kd.R_slice HO50.out;subst eo33;obtain ⟨Ao34,co34,eo34⟩:=Kd.R_slice HO51.out;subst eo34)|(go_at_call 48;(with_reducible refine (field_Has.calls k _ _ t55 (⟨#[69,120,112,101,99,116]⟩:ByteArray) (⟨#[49,48,48,45,99,111,110,116,105,110,117,101]⟩:ByteArray) true _ ?side1 ?side2 A16.out).mono ?_);(case side1=>refine (Kd.R_reads' (e:=36) (base:=w.heap.size) (ok:=fun k_=>True) (n:=t55.length) (c:=co33) ?_).2.2;exact zb45);(case side2=>exact (Kd.R_reads' HO50.out).2.1);rintro e w35 ⟨rfl,hb⟩;(try clear A16);replace HO50:=Aside0.mk (Kd.R_below zb45 hb);replace HO51:=Aside0.mk (Kd.R_below zb84 hb);replace BK49:=Aside0.mk (blk_below (g:=gb49) (o:=.cells #[.string t52,.string t56,.int .i64 t54,.slice Ao33 t55.length co33,.slice Ao34 t57.length co34] 26 (0,0)) zb50 hb);replace HB:=Aside0.mk (below_step zb27 hb);(try clear hb);obtain ⟨i69,hi69,_,hsz36,_⟩:=info_parts info5;obtain ⟨A36,hcut36,hA36,hC36⟩:=print_drop_of (P:=Tryz.prog) (Value.int .u8) 0 22 5 .i64 Tryz.underlying22 hi69 hsz36 A0 c0 l0 t53 (of_decide_eq_true zb1) (of_decide_eq_true zb1) HC0.out;have HR62:=Aside0.mk (Kd.C_of_reads (h1:=fun _=>rfl) (hA36 _ (Kd.reads_of_C HR0.out)));have HC62:=Aside0.mk hC36;clear hA36 hC36 hi69 hsz36)|((with_reducible refine gate_callee (f:=45) rfl ?_);refine goesL_ (some 41) rfl rfl Tryz.func45 zb7 rfl #[.slice A36 (l0.drop (t53:Int).toNat).length (c0 - t53.toNat),.int .i64 t59,.bool t60] rfl zb95 ?_;(with_reducible refine (http_body.calls k _ _ (l0.drop (t53:Int).toNat) t59 t60 t58 t65 t70 _ ?side1 ?side2 A20.out).mono ?_);(case side1=>exact zb115);(case side2=>exact HC62.out);rintro e w37 ⟨v73,rfl,ho0,hb⟩;(try clear A20);refine ⟨_,rfl,?_⟩;replace HO50:=Aside0.mk (Kd.R_below zb62 hb);have HO74:=Aside0.mk (Kd.R_lower (Kd.R_new' ho0 (Kd.R_lt zb38)) (below_size zb27));replace HO51:=Aside0.mk (Kd.R_elder' zb38 (Kd.R_base ho0) hb);replace BK49:=Aside0.mk (blk_below (g:=gb49) (o:=.cells #[.string t52,.string t56,.int .i64 t54,.slice Ao33 t55.length co33,.slice Ao34 t57.length co34] 26 (0,0)) (by (with_reducible repeat (first|refine blk_drewN ?_ _|refine blk_drew ?_|refine blk_alloc ?_ _));exact BK49.out) hb);replace HB:=Aside0.mk (below_step zb27 hb);try clear hb ho0))
   go_ret
   exact ⟨zb3,zb27⟩
  ·rw [if_neg c19] at H
   exact absurd H zb24
 ·replace c17:=Bool.eq_false_iff.mpr c17
  subst c17
  rw [if_neg zf] at H
  obtain rfl:=Option.some.inj H
  go_enter Tryz.func17,Tryz.ntmps17
  go_wp2_with (first|((with_reducible refine gate_callee (f:=44) rfl ?_);refine goesL_ (some 12) rfl rfl Tryz.func44 zb7 rfl #[.slice A0 l0.length c0] rfl zb2 ?_;(with_reducible refine (http_open.calls k _ _ l0 t52 t56 t54 t55 t57 t53 t59 t60 t61 _ ?side1 ?side2 A2.out).mono ?_);(case side1=>exact zb9);(case side2=>exact HC0.out);rintro e w38 ⟨v66,v67,rfl,ho0,ho1,hb⟩;(try clear A2);refine ⟨_,rfl,?_⟩;have HO50:=Aside0.mk (Kd.R_lower ho0 (below_size zb0));have HO51:=Aside0.mk (Kd.R_lower ho1 (below_size zb0));replace HB:=Aside0.mk (below_step zb0 hb);try clear hb ho0 ho1)|((with_reducible refine gate_dst (N:=3) rfl ?_);refine box_event rfl (N:=3) rfl (cs:=#[.string (⟨#[]⟩:ByteArray),.string (⟨#[]⟩:ByteArray),.int .i64 0,.slice none 0 0,.slice none 0 0]) (t:=26) zS ?_;intro gb49 hg w39 hbox hb;replace HO50:=Aside0.mk (Kd.R_below zb62 hb);replace HO51:=Aside0.mk (Kd.R_below zb38 hb);have BK49:=Aside0.mk (hbox);have GW49:=zG hg zb0;have GE49:=GW49;replace HB:=Aside0.mk (below_step zb0 hb);clear hb hbox hg;obtain ⟨hcz40_0,hcz40_1,hcz40_2,hcz40_3,hcz40_4,hfz40_0,hfz40_1,hfz40_2,hfz40_3,hfz40_4⟩:=zq5 BK49.out;obtain ⟨Ao41,co41,eo41⟩:=Kd.R_slice HO50.out;subst eo41;obtain ⟨Ao42,co42,eo42⟩:=Kd.R_slice HO51.out;subst eo42)|(go_at_call 48;(with_reducible refine (field_Has.calls k _ _ t55 (⟨#[69,120,112,101,99,116]⟩:ByteArray) (⟨#[49,48,48,45,99,111,110,116,105,110,117,101]⟩:ByteArray) false _ ?side1 ?side2 A16.out).mono ?_);(case side1=>refine (Kd.R_reads' (e:=36) (base:=w.heap.size) (ok:=fun k_=>True) (n:=t55.length) (c:=co41) ?_).2.2;exact zb45);(case side2=>exact (Kd.R_reads' HO50.out).2.1);rintro e w43 ⟨rfl,hb⟩;(try clear A16);replace HO50:=Aside0.mk (Kd.R_below zb45 hb);replace HO51:=Aside0.mk (Kd.R_below zb84 hb);replace BK49:=Aside0.mk (blk_below (g:=gb49) (o:=.cells #[.string t52,.string t56,.int .i64 t54,.slice Ao41 t55.length co41,.slice Ao42 t57.length co42] 26 (0,0)) zb50 hb);replace HB:=Aside0.mk (below_step zb27 hb);(try clear hb)))
  go_ret
  exact ⟨zb3,zb27⟩
def field_Line.f (a0_0:ByteArray) (a0_1:ByteArray):Option (ByteArray):=if a0_0.size + 2 ≤ 9223372036854775807 then (if (a0_0 ++ (⟨#[58,32]⟩:ByteArray)).size + a0_1.size ≤ 9223372036854775807 then (if ((a0_0 ++ (⟨#[58,32]⟩:ByteArray)) ++ a0_1).size + 2 ≤ 9223372036854775807 then (some (((a0_0 ++ (⟨#[58,32]⟩:ByteArray)) ++ a0_1) ++ (⟨#[13,10]⟩:ByteArray))) else (none)) else (none)) else (none)
theorem field_Line.calls (a0_0:ByteArray) (a0_1:ByteArray) (r:ByteArray) (w:World) (h:field_Line.f a0_0 a0_1=some r) :
 Calls Tryz.prog 94 #[.agg #[.string a0_0,.string a0_1]] w fun e w' => e = .returned (.string r)∧Below w.heap.size w w' := by
 have hu36:=Tryz.underlying36
 have HB:=zB w
 unfold field_Line.f at h
 have H:=h
 clear h
 by_cases c2:a0_0.size + 2 ≤ 9223372036854775807;rotate_left
 ·rw [if_neg c2] at H
  exact absurd H zb24
 rw [if_pos c2] at H
 have c2b0:=eq_true c2
 have c2b1:=decide_eq_true c2
 try have c2b2:(9223372036854775807 < a0_0.size + 2)=False:=eq_false (Nat.not_lt.2 c2)
 by_cases c3:(a0_0 ++ (⟨#[58,32]⟩:ByteArray)).size + a0_1.size ≤ 9223372036854775807
 ·rw [if_pos c3] at H
  have c3b0:=eq_true c3
  have c3b1:=decide_eq_true c3
  try have c3b2:(9223372036854775807 < (a0_0 ++ (⟨#[58,32]⟩:ByteArray)).size + a0_1.size)=False:=eq_false (Nat.not_lt.2 c3)
  try (have c3b3:=c3b0;simp only [ByteArray.size_append] at c3b3;have c3b4:=c3b2;simp only [ByteArray.size_append] at c3b4)
  try have c3b5:(9223372036854775807 < a0_0.size + 2 + a0_1.size)=False:=eq_false (by have q_:=c3;simp only [ByteArray.size_append] at q_;have e0_:(⟨#[58,32]⟩:ByteArray).size=2:=rfl;omega)
  try have c3b6:(a0_0.size + 2 + a0_1.size ≤ 9223372036854775807)=True:=eq_true (by have q_:=c3;simp only [ByteArray.size_append] at q_;have e0_:(⟨#[58,32]⟩:ByteArray).size=2:=rfl;omega)
  by_cases c4:((a0_0 ++ (⟨#[58,32]⟩:ByteArray)) ++ a0_1).size + 2 ≤ 9223372036854775807;rotate_left
  ·rw [if_neg c4] at H
   exact absurd H zb24
  rw [if_pos c4] at H
  have c4b0:=eq_true c4
  have c4b1:=decide_eq_true c4
  try have c4b2:(9223372036854775807 < ((a0_0 ++ (⟨#[58,32]⟩:ByteArray)) ++ a0_1).size + 2)=False:=eq_false (Nat.not_lt.2 c4)
  try (have c4b3:=c4b0;simp only [ByteArray.size_append] at c4b3;have c4b4:=c4b2;simp only [ByteArray.size_append] at c4b4)
  try have c4b5:(9223372036854775807 < a0_0.size + 2 + a0_1.size + 2)=False:=eq_false (by have q_:=c4;simp only [ByteArray.size_append] at q_;have e0_:(⟨#[58,32]⟩:ByteArray).size=2:=rfl;omega)
  try have c4b6:(a0_0.size + 2 + a0_1.size + 2 ≤ 9223372036854775807)=True:=eq_true (by have q_:=c4;simp only [ByteArray.size_append] at q_;have e0_:(⟨#[58,32]⟩:ByteArray).size=2:=rfl;omega)
  obtain rfl:=Option.some.inj H
  go_enter Tryz.func94,Tryz.ntmps94
  go_wp2_with (first|((with_reducible refine gate_dst (N:=1) rfl ?_);refine box_event rfl (N:=1) rfl (cs:=#[.string a0_0,.string a0_1]) (t:=36) zS ?_;intro gb305 hg w5 hbox hb;have GW305:=zG hg zb0;have GE305:=GW305;have BK305:=Aside0.mk hbox;replace HB:=Aside0.mk (below_step zb0 hb);clear hb hbox hg;obtain ⟨hcz6_0,hcz6_1,hfz6_0,hfz6_1⟩:=zq2 BK305.out))
  go_ret
  exact ⟨zb3,by repeat (first|(with_reducible first|exact HB.out|apply below_alloc|apply pw_below_drewN|apply below_drew1|refine below_set ?_ GE305.out)|exact HB.out)⟩
 ·rw [if_neg c3] at H
  exact absurd H zb24
/-- A slice of bytes that this call made,whatever stands behind its row: its cells can be written. -/
def BufM (w:World) (base:Nat) (v:Value) (xs:List Int):Prop := ∃ g cap,v = .slice (some ⟨g,0,none⟩) xs.length cap∧base ≤ g∧xs.length ≤ cap∧(∀ j u,xs[j]? = some u → w.cell? ⟨g,j,none⟩=some (.int .u8 u))∧(∀ j,j < cap → (w.cell? ⟨g,j,none⟩).isSome=true∧w.frozen? ⟨g,j,none⟩=false)
theorem BufM.form {w:World} {base:Nat} {v:Value} {xs:List Int} (h:BufM w base v xs) : ∃ A c,v = .slice A xs.length c:=by obtain ⟨g,cap,rfl,_⟩:=h;exact ⟨_,_,rfl⟩
theorem BufM.lower {w:World} {base b:Nat} {v:Value} {xs:List Int} (h:BufM w base v xs) (hb:b ≤ base):BufM w b v xs:=by obtain ⟨g,cap,e,hg,r⟩:=h;exact ⟨g,cap,e,Nat.le_trans hb hg,r⟩
theorem BufM.lt {w:World} {g j:Nat} (h:(w.cell? ⟨g,j,none⟩).isSome=true):g < w.heap.size:=by
 obtain ⟨u,hu⟩:=Option.isSome_iff_exists.1 h
 exact World.block_lt_of_cell? w _ hu
theorem BufM.below {w w1:World} {base:Nat} {v:Value} {xs:List Int} (h:BufM w base v xs) (hb:Below w.heap.size w w1):BufM w1 base v xs:=by
 obtain ⟨g,cap,e,hg,hc,h1,h2⟩:=h
 have hs : ∀ j,j < cap → w1.heap[g]? = w.heap[g]?:=fun j hj=>hb.block g (BufM.lt (h2 j hj).1)
 refine ⟨g,cap,e,hg,hc,fun j u hj=>?_,fun j hj=>?_⟩
 ·have hl:j < xs.length:=(List.getElem?_eq_some_iff.1 hj).1
  rw [World.cell?_of_block (a:=⟨g,j,none⟩) (hs j (by omega))]
  exact h1 j u hj
 rw [World.cell?_of_block (a:=⟨g,j,none⟩) (hs j hj),World.frozen?_of_block (a:=⟨g,j,none⟩) (hs j hj)]
 exact h2 j hj
theorem BufM.reads {w:World} {base:Nat} {v:Value} {xs:List Int} (h:BufM w base v xs) (hl:xs.length ≤ 9223372036854775807) : ∃ A c,v = .slice A xs.length c∧xs.length ≤ c∧Kd.C (Kd.int .u8) w A xs.length xs:=by
 obtain ⟨g,cap,e,hg,hc,h1,h2⟩:=h
 refine ⟨_,cap,e,hc,Kd.C_of_reads (h1:=fun _=>rfl) (d:=0) ⟨rfl,hl,fun _=>⟨_,rfl,fun j hj=>?_⟩⟩⟩
 have hadd:(⟨g,0,none⟩:Addr).add j=⟨g,j,none⟩:=by unfold Addr.add;split <;> simp_all
 rw [hadd,List.getD_eq_getElem?_getD,List.getElem?_eq_getElem (by omega)]
 exact h1 j _ (List.getElem?_eq_getElem (by omega))
theorem BufM.reads' {w:World} {base n c:Nat} {A:Option Addr} {xs:List Int} (h:BufM w base (.slice A n c) xs) (hl:xs.length ≤ 9223372036854775807):n=xs.length∧xs.length ≤ c∧Kd.C (Kd.int .u8) w A xs.length xs:=by
 obtain ⟨A',c',e,hc,hC⟩:=h.reads hl
 injection e with e1 e2 e3
 subst e1 e2 e3
 exact ⟨rfl,hc,hC⟩
/-- A slice of bytes that a call made out of a text: it is read,and stays. -/
def Kd.B (w:World) (base:Nat) (ok:Nat → Prop) (v:Value) (xs:List Int):Prop:=(∀ k,v.ownBlock=some k → ok k)∧BufM w base v xs∧0 < xs.length∧xs.length ≤ 9223372036854775807
theorem hbase2 {w w1:World} {b g:Nat} (hg:b ≤ g) (h:Below g w w1):Below b w w1:=⟨h.os,h.tape,h.output,h.size,fun i hi=>h.block i (Nat.lt_of_lt_of_le hi hg)⟩
theorem below_cells {a:World} {B g:Nat} (hg:B ≤ g) : ∀ (vs:List Value) (o:Nat) (w:World),Below B a w → Below B a (w.setCells g o vs)
 | [],_,_,h=>h
 | v :: r,o,w,h=>below_cells hg r (o + 1) (w.setCell ⟨g,o,none⟩ v) (h.setCell hg v)
theorem ints_cells (w:World) (g:Nat) (xs:List Int) (h1 : ∀ j u,xs[j]? = some u → w.cell? ⟨g,j,none⟩=some (.int .u8 u)) : ∀ j u,(xs.map (Value.int .u8))[j]? = some u → w.cell? ((⟨g,0,none⟩:Addr).add j)=some u:=by
 intro j u hj
 have hadd:(⟨g,0,none⟩:Addr).add j=⟨g,j,none⟩:=by unfold Addr.add;split <;> simp_all
 rw [List.getElem?_map] at hj
 obtain ⟨x,hx,rfl⟩:=Option.map_eq_some_iff.1 hj
 rw [hadd]
 exact h1 j x hx
/-- 'append' onto it,of a string's bytes or of a slice's. -/
theorem run_bufM {P:Program} (w:World) (base:Nat) (t tx ty e:TypeId) (i:TypeInfo) (ht:P.underlying t=some (.slice e)) (hi:P.info? e=some i) (hz:i.zero=some (.int .u8 0)) (hs1:i.size=1) (hb1:i.bytes=1)
 (v x:Value) (xs ys:List Int) (h:BufM w base v xs) (hs:Src P 1 tx x ys.length (ys.map (Value.int .u8)) w) (hn:xs.length + ys.length ≤ 140737488355328) (hbase:base ≤ w.heap.size) :
 ∃ v' w',(Builtin.append_ #[t,tx] ty #[v,x]).run P w = .ok v' w' ∧ BufM w' base v' (xs ++ ys)∧Below base w w' := by
 obtain ⟨g,cap,rfl,hg,hc,h1,h2⟩:=h
 have hs' : Src P i.size tx x ys.length (ys.map (Value.int .u8)) w:=by rw [hs1];exact hs
 by_cases hroom:xs.length + ys.length ≤ cap;rotate_left
 ·have hold:=run_firstCells_some (P:=P) w.drew 1 xs.length ⟨g,0,none⟩ xs.length cap (xs.map (Value.int .u8)) (by simp) (by intro j u hj;have:=ints_cells w g xs h1 j u hj;simpa using this)
  have hr:=run_append_grow_src (P:=P) w t tx ty e i (.int .u8 0) ht hi hz (some ⟨g,0,none⟩) xs.length cap (xs.map (Value.int .u8)) (by rw [hs1];exact hold) x ys.length (ys.map (Value.int .u8)) hs' (by omega) (by omega) (by rw [hb1];exact growslice_fits (by omega) (by omega))
  have hge:=grownCap_ge w (xs.length + ys.length) cap e
  have hnb : ∀ ob,(w.drew.alloc ob).heap[w.heap.size]? = some ob:=fun ob=>blk_new w.drew ob
  refine ⟨_,_,hr,⟨w.heap.size,_,by rw [List.length_append],hbase,by rw [List.length_append];exact hge,fun j u hj=>?_,fun j hj=>?_⟩,(below_drew (Below.refl _ _)).alloc hbase _⟩
  ·rw [blk_cell (hnb _) j,Array.getElem?_append_left (by simp;have:=(List.getElem?_eq_some_iff.1 hj).1;simp at this;omega)]
   simp only [List.getElem?_toArray]
   rw [← List.map_append,List.getElem?_map,hj]
   rfl
  refine ⟨?_,blk_frozen (hnb _) j⟩
  have hz1:(Value.int IntKind.u8 0).cells.size=1:=rfl
  rw [blk_cell (hnb _) j,Array.getElem?_eq_getElem (by simp only [Array.size_append,List.size_toArray,size_zeroCells,hz1,List.length_append,List.length_map];omega)]
  rfl
 have hr:=run_append_room_src (P:=P) w t tx ty e i ht hi g 0 xs.length cap x ys.length (ys.map (Value.int .u8)) hs' hroom
  (fun j hj=>by rw [hs1];simp only [List.length_map] at hj;exact (h2 (0 + xs.length * 1 + j) (by omega)).1) (fun j hj=>by rw [hs1];simp only [List.length_map] at hj;exact (h2 (0 + xs.length * 1 + j) (by omega)).2)
 rw [hs1,show 0 + xs.length * 1=xs.length by omega] at hr
 refine ⟨_,_,hr,⟨g,cap,by rw [List.length_append],hg,by rw [List.length_append];exact hroom,fun j u hj=>?_,fun j hj=>?_⟩,below_cells hg _ _ _ (Below.refl _ _)⟩
 ·by_cases hl:j < xs.length
  ·rw [List.getElem?_append_left hl] at hj
   rw [World.cell?_setCells_out g _ _ w ⟨g,j,none⟩ (fun _ _=>.inl hl)]
   exact h1 j u hj
  ·rw [List.getElem?_append_right (by omega)] at hj
   obtain ⟨hl2,e2⟩:=List.getElem?_eq_some_iff.1 hj
   have:=World.cell?_setCells_in g (ys.map (Value.int .u8)) xs.length w (fun q hq=>by simp only [List.length_map] at hq;exact (h2 _ (by omega)).1) (j - xs.length) (by simpa using hl2)
   rw [show xs.length + (j - xs.length)=j by omega] at this
   rw [this,List.getElem_map,e2]
 ·exact ⟨World.isSome_setCells g _ _ w _ (h2 j hj).1,by rw [World.frozen?_setCells];exact (h2 j hj).2⟩
theorem wp_bufM {P:Program} {ops:Array Oper} {rest:List Oper} {o:Oper} {a:Act} {Q:Exit → Act → World → Prop} {w:World} (hgd:o.guard=none) (sl x:Operand) (t tx:TypeId) (ho:o.op = .call { callee:=.builtin .append,args:=#[sl,x],argTypes:=#[t,tx] })
 (base:Nat) (e:TypeId) (i:TypeInfo) (ht:P.underlying t=some (.slice e)) (hi:P.info? e=some i) (hz:i.zero=some (.int .u8 0)) (hs1:i.size=1) (hb1:i.bytes=1) (v xv:Value) (xs ys:List Int) (hsl:a.eval sl=v) (hx:a.eval x=xv)
 (h:BufM w base v xs) (hs:Src P 1 tx xv ys.length (ys.map (Value.int .u8)) w) (hn:xs.length + ys.length ≤ 140737488355328) (hbase:base ≤ w.heap.size)
 (K : ∀ v' w',BufM w' base v' (xs ++ ys) → Below base w w' → wpList P ops Q rest (a.put o.dst v') w'):wpList P ops Q (o :: rest) a w:=by
 refine wpList_plain hgd fun K' hK=>?_
 obtain ⟨v',w',hr,h2,h3⟩:=run_bufM (P:=P) w base t tx o.type e i ht hi hz hs1 hb1 v xv xs ys h hs hn hbase
 unfold Oper.wp execOp
 simp only [ho,resolve,invoke,builtin,Sem.run_bind,Sem.run_pure,Result.andThen_ok,List.map_toArray,List.map_cons,List.map_nil,hsl,hx,hr]
 exact hK _ _ (K v' w' h2 h3)
theorem bufM_len (s:ByteArray):(bytesOf s).length=s.size:=by
 unfold bytesOf
 rw [List.length_map,Array.length_toList]
 rfl
theorem src_bytes {P:Program} (w:World) {tx:TypeId} (hk:P.underlying tx=some .string) (s:ByteArray):Src P 1 tx (.string s) (bytesOf s).length ((bytesOf s).map (Value.int .u8)) w:=by
 have h:=Src.ofString (P:=P) w hk s
 have e:(bytesOf s).map (Value.int .u8)=byteCells s:=by unfold bytesOf byteCells;rw [List.map_map];rfl
 rw [e,bufM_len]
 exact h
theorem src_ints {P:Program} {w:World} {tx e' : TypeId} (hk:P.underlying tx=some (.slice e')) {A:Option Addr} {c:Nat} {l:List Int} (h:Kd.C (Kd.int .u8) w A l.length l):Src P 1 tx (.slice A l.length c) l.length (l.map (Value.int .u8)) w:=by
 cases l with
 | nil=>cases A with
  | none=>exact Src.ofNil w hk c
  | some ad=>exact Src.ofSlice w hk ad 0 c [] rfl (fun j u hj=>by simp at hj) (fun u hu=>by cases hu)
 | cons x r =>
  obtain ⟨ad,rfl,hc⟩:=(Kd.reads_of_C (d:=0) h).2.2 (by simp)
  refine Src.ofSlice w hk ad _ c _ (by simp) (fun j u hj=>?_) (fun u hu=>by obtain ⟨_,_,rfl⟩:=List.mem_map.1 hu;rfl)
  rw [List.getElem?_map] at hj
  obtain ⟨y,hy,rfl⟩:=Option.map_eq_some_iff.1 hj
  obtain ⟨hl,e2⟩:=List.getElem?_eq_some_iff.1 hy
  have:=hc j hl
  rw [List.getD_eq_getElem?_getD,List.getElem?_eq_getElem hl,e2] at this
  exact this
theorem bufM_conv (w:World) (e:TypeId) (s:ByteArray):BufM (Lib.bytesWorld w e s) w.heap.size (.slice (some ⟨w.heap.size,0,none⟩) s.size (grownCap w s.size 0 e)) (bytesOf s):=by
 have hge:=grownCap_ge w s.size 0 e
 have hsz:(Lib.bytesCells w e s).size=grownCap w s.size 0 e:=by
  have h1:s.data.size=s.size:=rfl
  simp only [Lib.bytesCells,Array.size_append,Array.size_map,Array.size_replicate,h1];omega
 refine ⟨w.heap.size,_,by rw [bufM_len],Nat.le_refl _,by rw [bufM_len];exact hge,fun j u hj=>?_,fun j hj=>⟨?_,?_⟩⟩
 ·have hl:j < s.size:=by have:=(List.getElem?_eq_some_iff.1 hj).1;rw [bufM_len] at this;exact this
  rw [Lib.bytesWorld_cell w e s j hl]
  unfold bytesOf at hj
  rw [List.getElem?_map] at hj
  obtain ⟨y,hy,rfl⟩:=Option.map_eq_some_iff.1 hj
  rw [List.getD_eq_getElem?_getD,hy]
  rfl
 ·simp only [World.cell?,Lib.bytesWorld_at_new]
  rw [Array.getElem?_eq_getElem (by rw [hsz];exact hj)]
  rfl
 simp only [World.frozen?,Lib.bytesWorld_at_new,Bool.and_eq_false_iff,decide_eq_false_iff_not]
 left
 rw [hsz]
 omega
def http_write.l:Nat → List (S36) → List Int → Int → List Int → Option (List Int)
 | 0,_,_,_,_=>none
 | k + 1,fs,b,i,out=>if i < (fs.length:Int) then (if 0 ≤ i then ((field_Line.f (rd_T36 fs i).f0 (rd_T36 fs i).f1).bind fun s=>if out.length + s.size ≤ 140737488355328 then http_write.l k fs b (wrap64 (i + 1)) (out ++ bytesOf s) else none) else none) else (if out.length + 2 + b.length ≤ 140737488355328 then some ((out ++ [13,10]) ++ b) else none)
def http_write.f (k:Nat) (a0:ByteArray) (l1:List (S36)) (l2:List Int):Option (List Int):=http_write.l k l1 l2 0 (bytesOf a0)
theorem http_write.callsB (k:Nat) (a0:ByteArray) (A1:Option Addr) (c1:Nat) (l1:List (S36)) (A2:Option Addr) (c2:Nat) (l2:List Int) (r:List Int) (w:World) (hr1:Kd.C k36 w A1 l1.length l1) (hc1:l1.length ≤ c1) (hr2:Kd.C (Kd.int .u8) w A2 l2.length l2) (hc2:l2.length ≤ c2) (h:http_write.f k a0 l1 l2=some r) :
 Calls Tryz.prog 54 #[.string a0,.slice A1 l1.length c1,.slice A2 l2.length c2] w fun e w' => ∃ v,e = .returned v∧BufM w' w.heap.size v r∧Below w.heap.size w w' := by
 have hu:=Tryz.underlying36
 have hconv : ∀ W:World,(convert 9 22 (.string a0)).run Tryz.prog W = .ok (.slice (some ⟨W.heap.size,0,none⟩) a0.size (grownCap W a0.size 0 5)) (Lib.bytesWorld W 5 a0):=fun W=>Lib.run_convert_string_bytes W _ _ _ a0 Tryz.underlying9 Tryz.underlying22 Tryz.underlying5
 obtain ⟨i0,hi0,hz0,hsz0,hby0⟩:=info_parts info5
 have HI:=Aside0.mk (And.intro hi0 (And.intro hz0 (And.intro hsz0 hby0)))
 have HR1:=Aside0.mk hr1
 have HR2:=Aside0.mk hr2
 have H' := Aside0.mk (show http_write.l k l1 l2 0 (bytesOf a0)=some r from h)
 clear hr1 hc1 hr2 hc2 h hi0 hz0 hsz0 hby0
 go_enter Tryz.func54,Tryz.ntmps54
 go_wp2
 go_loopg [7,14] k (fun kq v7 v14 w' => ∃ (i:Int) (out:List Int),v14 = .int .i64 i∧Aside0 (http_write.l kq l1 l2 i out=some r)∧Aside0 (BufM w' w.heap.size v7 out)∧Aside0 (Below w.heap.size w w'))
 case atStart=>exact ⟨0,bytesOf a0,rfl,H',⟨bufM_conv w _ a0⟩,⟨bytes_below (Below.refl _ _) (Nat.le_refl _) _ _⟩⟩
 case round =>
  clear H'
  obtain ⟨i,out,rfl,HA,BU,HB⟩:=hrel
  cases gk with
  | zero=>exact absurd HA.out (by simp [http_write.l])
  | succ k =>
   have h:=HA.out
   clear HA
   simp only [http_write.l] at h
   obtain ⟨Ab,cb,eb⟩:=BU.out.form
   subst eb
   by_cases b0:i < (l1.length:Int);rotate_left
   ·rw [if_neg b0] at h
    have d0:decide (i < (l1.length:Int))=false:=decide_eq_false b0
    replace b0:=eq_false b0
    by_cases b2:out.length + 2 + l2.length ≤ 140737488355328;rotate_left
    ·rw [if_neg b2] at h
     cases h
    rw [if_pos b2] at h
    simp only [Option.some.injEq] at h
    subst h
    have LM:=Aside0.mk b2
    clear b2
    go_wp2_with (first
     | ((with_reducible refine gate_builtin (b:=.append) (xs:=#[.tmp 23,.const (.string ⟨#[13,10]⟩)]) rfl ?_);at_builtin;refine wp_bufM rfl (.tmp 23) (.const (.string ⟨#[13,10]⟩)) 22 9 rfl w.heap.size 5 i0 Tryz.underlying22 HI.out.1 HI.out.2.1 HI.out.2.2.1 HI.out.2.2.2 _ (.string ⟨#[13,10]⟩) out [13,10] rfl rfl BU.out (src_bytes _ Tryz.underlying9 ⟨#[13,10]⟩) (by have z:=LM.out;simp only [List.length_cons,List.length_nil];omega) HB.out.size ?_;intro v3 w3 hB3 hb3;obtain ⟨y3,hy3⟩ : ∃ y,y=out ++ [13,10]:=⟨_,rfl⟩;rw [← hy3] at hB3;have HY:=Aside0.mk hy3;obtain ⟨A3,c3,e3⟩:=hB3.form;subst e3;clear hy3;have B3:=Aside0.mk hB3;have L3:=Aside0.mk (HB.out.trans hb3);clear hB3 hb3)
     | ((with_reducible refine gate_builtin (b:=.append) (xs:=#[.tmp 24,.tmp 25]) rfl ?_);at_builtin;refine wp_bufM rfl (.tmp 24) (.tmp 25) 22 22 rfl w.heap.size 5 i0 Tryz.underlying22 HI.out.1 HI.out.2.1 HI.out.2.2.1 HI.out.2.2.2 _ (.slice A2 l2.length c2) y3 l2 rfl rfl B3.out (src_ints Tryz.underlying22 (Kd.C_below HR2.out L3.out)) (by have z:=LM.out;rw [HY.out];simp only [List.length_append,List.length_cons,List.length_nil];omega) L3.out.size ?_;intro v4 w4 hB4 hb4;have B4:=Aside0.mk hB4;have L4:=Aside0.mk (L3.out.trans hb4);clear hB4 hb4))
    go_ret
    exact ⟨_,rfl,by rw [← HY.out];exact B4.out,L4.out⟩
   rw [if_pos b0] at h
   by_cases b1:0 ≤ i
   ·rw [if_pos b1] at h
    obtain ⟨s,hl,h'⟩:=Option.bind_eq_some_iff.1 h
    clear h
    by_cases b2:out.length + s.size ≤ 140737488355328
    ·rw [if_pos b2] at h'
     have H2:=Aside0.mk h'
     have HL:=Aside0.mk hl
     have LM:=Aside0.mk b2
     clear h' hl b2
     obtain ⟨ad,e1,hx0,hx1⟩:=at_T36 HR1.out i b1 b0
     cases e1
     replace hx0:=(HB.out.cell (World.block_lt_of_cell? w _ hx0)).trans hx0
     replace hx1:=(HB.out.cell (World.block_lt_of_cell? w _ hx1)).trans hx1
     have d0:decide (i < (l1.length:Int))=true:=decide_eq_true b0
     replace b0:=eq_true b0
     replace b1:=eq_true b1
     go_wp2_with (first
      | (go_at_call 94;refine (field_Line.calls _ _ s _ HL.out).mono ?_;rintro E w2 ⟨rfl,hb2⟩;have B2:=Aside0.mk ((BU.out.below (below_alloc (Below.refl _ _) _)).below hb2);have L2:=Aside0.mk ((below_alloc HB.out _).trans (hbase2 (below_alloc HB.out _).size hb2));clear hb2)
      | ((with_reducible refine gate_builtin (b:=.append) (xs:=#[.tmp 18,.tmp 20]) rfl ?_);at_builtin;refine wp_bufM rfl (.tmp 18) (.tmp 20) 22 9 rfl w.heap.size 5 i0 Tryz.underlying22 HI.out.1 HI.out.2.1 HI.out.2.2.1 HI.out.2.2.2 _ (.string s) out (bytesOf s) rfl rfl B2.out (src_bytes _ Tryz.underlying9 s) (by rw [bufM_len];exact LM.out) L2.out.size ?_;intro v3 w3 hB3 hb3;have B3:=Aside0.mk hB3;have L3:=Aside0.mk (L2.out.trans hb3);clear hB3 hb3))
     go_roundg k
     case rel=>exact ⟨wrap64 (i + 1),out ++ bytesOf s,zb130,H2,B3,L3⟩
     case measure=>exact Nat.lt_succ_self k
    ·rw [if_neg b2] at h'
     cases h'
   ·rw [if_neg b1] at h
    cases h
theorem tz64_16 (w:World) (ht:Tabs w):Calls Tryz.prog 207 #[.int .u64 16] w fun e w' => e = .returned (.int .i64 4)∧Drawn0 w w' := by
 have hc:w.cell? ⟨5,15,none⟩=some (.int .u8 4):=ht.2.cell globalDeBruijn64 15 (by decide)
 have hb:Go.bits .and .u64 16 18446744073709551600=16:=by decide +kernel
 have hw1:IntKind.u64.wrap (-16)=18446744073709551600:=by decide +kernel
 have hw2:IntKind.u64.wrap (16 * 285870213051353865)=4573923408821661840:=by decide +kernel
 have hw3:IntKind.u64.wrap 4573923408821661840=4573923408821661840:=by decide +kernel
 have hw4:(4573923408821661840:Int) / 288230376151711744=15:=by decide +kernel
 clear ht
 go_enter Tryz.func207,Tryz.ntmps207
 go_wp2
 go_ret
 exact ⟨rfl,by repeat (first|exact Drawn0.refl _|apply Drawn0.step)⟩
theorem tz_16 (w:World) (ht:Tabs w):Calls Tryz.prog 197 #[.int .u64 16] w fun e w' => e = .returned (.int .i64 4)∧Drawn0 w w' := by
 go_enter Tryz.func197,Tryz.ntmps197
 go_wp2_with (go_at_call 207;(with_reducible refine (tz64_16 _ ht).mono ?_);rintro e w' ⟨rfl,⟨nd,rfl⟩⟩)
 go_ret
 exact ⟨rfl,by repeat (first|exact Drawn0.refl _|apply Drawn0.step)⟩
def strconv_isPowerOfTwo.f (a0:Int):Option (Bool):=some ((Go.bits .and .i64 a0 (wrap64 (a0 - 1))) == 0)
theorem strconv_isPowerOfTwo.calls (a0:Int) (r:Bool) (w:World) (h:strconv_isPowerOfTwo.f a0=some r) :
 Calls Tryz.prog 196 #[.int .i64 a0] w fun e w' => e = .returned (.bool r)∧Drawn0 w w' := by
 unfold strconv_isPowerOfTwo.f at h
 have H:=h
 clear h
 obtain rfl:=Option.some.inj H
 go_enter Tryz.func196,Tryz.ntmps196
 go_wp2
 go_ret
 exact ⟨zb4,zb5⟩
/-- A digit of the base 16. -/
def hexd (d:Nat):Int:=if d < 10 then 48 + d else 87 + d
/-- The digits of the base 16. -/
def hexD (u:Nat):List Int:=if h:u < 16 then [hexd u] else hexD (u / 16) ++ [hexd (u % 16)]
termination_by u
decreasing_by omega
theorem hexD_small (u:Nat) (h:u < 16):hexD u=[hexd u]:=by rw [hexD,dif_pos h]
theorem hexD_big (u:Nat) (h:16 ≤ u):hexD u=hexD (u / 16) ++ [hexd (u % 16)]:=by rw [hexD,dif_neg (by omega)]
/-- The last cells of the array of 65. -/
def Row65 (w:World) (g:Nat) (suf:List Int):Prop := ∃ cs,w.heap[g]? = some (.cells cs 193 (0,0))∧cs.size=65∧cs.toList.drop (65 - suf.length)=nums .u8 suf
theorem Row65.cell {w:World} {g:Nat} {suf:List Int} (h:Row65 w g suf) (j:Nat) (hj:j < 65) : ∃ v,w.cell? ⟨g,j,none⟩=some v:=by
 obtain ⟨cs,hb,hs,_⟩:=h
 rw [cell_of_row _ _ _ _ _ _ hb]
 exact ⟨_,Array.getElem?_eq_getElem (by omega)⟩
theorem Row65.free {w:World} {g:Nat} {suf:List Int} (h:Row65 w g suf) (j:Nat):w.frozen? ⟨g,j,none⟩=false:=by
 obtain ⟨cs,hb,_,_⟩:=h
 simp [World.frozen?,hb]
theorem Row65.set {w:World} {g:Nat} {suf:List Int} (h:Row65 w g suf) (hl:suf.length < 65) (v:Int):Row65 (w.setCell ⟨g,64 - suf.length,none⟩ (.int .u8 v)) g (v :: suf):=by
 obtain ⟨cs,hb,hs,hd⟩:=h
 refine ⟨cs.setIfInBounds (64 - suf.length) (.int .u8 v),by simp [World.setCell,Array.getElem?_modify,hb],by simpa using hs,?_⟩
 have hlen:cs.toList.length=65:=by rw [Array.length_toList];exact hs
 rw [Array.toList_setIfInBounds,List.length_cons,show 65 - (suf.length + 1)=64 - suf.length by omega,List.drop_set,if_neg (by omega),Nat.sub_self,List.drop_eq_getElem_cons (by omega),List.set_cons_zero,show 64 - suf.length + 1=65 - suf.length by omega,hd]
 rfl
theorem Row65.reads {w:World} {g:Nat} {suf:List Int} (h:Row65 w g suf) (hl:suf.length ≤ 65):ReadsInt w .u8 (some ⟨g,65 - suf.length,none⟩) suf.length suf:=by
 obtain ⟨cs,hb,hs,hd⟩:=h
 refine ⟨rfl,by omega,fun _=>⟨_,rfl,fun j hj=>?_⟩⟩
 have ha:(⟨g,65 - suf.length,none⟩:Addr).add j=⟨g,65 - suf.length + j,none⟩:=by
  unfold Addr.add;split <;> simp_all
 rw [ha,cell_of_row _ _ _ _ _ _ hb]
 have h1:(cs.toList.drop (65 - suf.length))[j]? = (nums .u8 suf)[j]?:=by rw [hd]
 rw [List.getElem?_drop] at h1
 rw [← Array.getElem?_toList,h1]
 simp [nums,List.getD_eq_getElem?_getD,List.getElem?_eq_getElem hj]
theorem pow_step (u l:Nat) (hl:l ≤ 15) (h:u < 16 ^ (16 - l)) (hu:16 ≤ u):l ≤ 14∧u / 16 < 16 ^ (16 - (l + 1)):=by
 have h14:l ≤ 14:=by
  rcases Nat.lt_or_ge l 15 with h1|h1
  ·omega
  obtain rfl:l=15:=by omega
  simp at h
  omega
 refine ⟨h14,?_⟩
 have e:16 ^ (16 - l)=16 ^ (16 - (l + 1)) * 16:=by rw [← Nat.pow_succ];congr 1;omega
 rw [e] at h
 exact (Nat.div_lt_iff_lt_mul (by decide)).2 h
theorem hexd_at (d:Int) (h0:0 ≤ d) (h1:d < 16):bt (⟨#[48,49,50,51,52,53,54,55,56,57,97,98,99,100,101,102,103,104,105,106,107,108,109,110,111,112,113,114,115,116,117,118,119,120,121,122]⟩:ByteArray) d=hexd d.toNat:=by
 obtain ⟨n,rfl⟩:=Int.eq_ofNat_of_zero_le h0
 have h : ∀ m:Fin 16,bt (⟨#[48,49,50,51,52,53,54,55,56,57,97,98,99,100,101,102,103,104,105,106,107,108,109,110,111,112,113,114,115,116,117,118,119,120,121,122]⟩:ByteArray) (m.val:Int)=hexd m.val:=by decide +kernel
 exact h ⟨n,by omega⟩
theorem formatBits_16 (n:Nat) (hn:n < 18446744073709551616) (w:World) (ht:Tabs w) :
 Calls Tryz.prog 180 #[.slice none 0 0,.int .u64 n,.int .i64 16,.bool false,.bool false] w fun e w' => e = .returned (.tuple #[.slice none 0 0,.string (strOfNums (hexD n))])∧Below w.heap.size w w' := by
 have HT:=Aside0.mk ht
 clear ht
 have HB:=zB w
 have HN:=Aside0.mk hn
 clear hn
 go_enter Tryz.func180,Tryz.ntmps180
 go_wp2_with (first
  | (go_at_call 196;(with_reducible refine (strconv_isPowerOfTwo.calls 16 true _ (by decide +kernel)).mono ?_);rintro e w1 ⟨rfl,⟨nd,rfl⟩⟩)
  | (go_at_call 197;(with_reducible refine (tz_16 _ ?ht).mono ?_);(case ht=>exact HT.out.below (by repeat (first|exact HB.out|apply below_alloc|apply pw_below_drewN)));rintro e w2 ⟨rfl,⟨nd2,rfl⟩⟩))
 go_loopw [1,13] (fun v1 v13 wr => ∃ (u i:Int) (suf:List Int),v1 = .int .u64 u∧v13 = .int .i64 i∧Aside0 (0 ≤ u∧i=65 - suf.length∧suf.length ≤ 15∧u.toNat < 16 ^ (16 - suf.length))∧Aside0 (hexD n=hexD u.toNat ++ suf)∧Aside0 (Row65 wr w.heap.size suf)∧Aside0 (Below w.heap.size w wr)) (fun v1 _ _=>(intOf v1).toNat)
 case atStart =>
  refine ⟨n,65,[],rfl,rfl,⟨by omega,by simp,by simp,by have:=HN.out;simpa using this⟩,⟨by simp⟩,⟨⟨Tryz.zeroCells193,?_,by kernel_rfl,by kernel_rfl⟩⟩,⟨by repeat (first|exact HB.out|apply below_alloc|apply pw_below_drewN)⟩⟩
  show (w.heap.push _)[w.heap.size]? = _
  simp
 case round =>
  obtain ⟨u,i,suf,rfl,rfl,HU,HE,HR,HB2⟩:=hrel
  clear HB
  have hu0:0 ≤ u:=HU.out.1
  have hi0:1 ≤ i:=by have:=HU.out;omega
  have hi1:i ≤ 65:=by have:=HU.out;omega
  have hu1:u ≤ 18446744073709551615:=by
   have h1:=HU.out.2.2.2
   have h2:16 ^ (16 - suf.length) ≤ 16 ^ 16:=Nat.pow_le_pow_right (by decide) (by omega)
   have h3:(16:Nat) ^ 16=18446744073709551616:=by decide
   omega
  have hj:i - 1=((64 - suf.length:Nat):Int):=by have:=HU.out;omega
  obtain ⟨cv,hc⟩:=HR.out.cell (64 - suf.length) (by omega)
  have hf:=HR.out.free (64 - suf.length)
  have hjt:i.toNat - 1=64 - suf.length:=by omega
  rw [← hjt] at hc hf
  by_cases hb:16 ≤ u
  ·have hb1:decide (16 ≤ u)=true:=decide_eq_true hb
   have hb2:decide (u ≥ 16)=true:=decide_eq_true hb
   obtain ⟨D,hD⟩ : ∃ D,Go.bits .and .u64 u 15=D:=⟨_,rfl⟩
   have hDm:D=u % 16:=by rw [← hD];exact bits_mask .u64 64 (by decide) (by intro x h0 h1;simp [IntKind.wrap,IntKind.bits,IntKind.signed];omega) 4 (by decide) u hu0 (by omega)
   have hD0:0 ≤ D:=by omega
   have hD1:D < 16:=by omega
   have hx:=bt_at (⟨#[48,49,50,51,52,53,54,55,56,57,97,98,99,100,101,102,103,104,105,106,107,108,109,110,111,112,113,114,115,116,117,118,119,120,121,122]⟩:ByteArray) D
   have HD:=Aside0.mk hDm
   have HX:=hexd_at D hD0 hD1
   have HX' := Aside0.mk HX
   have HJ:=Aside0.mk (And.intro hj hjt)
   have HB' := Aside0.mk hb
   clear HX hDm hj hjt hb
   go_wp2
   refine ⟨⟨u / 16,i - 1,hexd D.toNat :: suf,rfl,rfl,?_,⟨?_⟩,⟨?_⟩,⟨HB2.out.setCell (Nat.le_refl _) _⟩⟩,?_⟩
   ·obtain ⟨h14,hp⟩:=pow_step u.toNat suf.length HU.out.2.2.1 HU.out.2.2.2 (by have:=HB'.out;omega)
    have hq:(u / 16).toNat=u.toNat / 16:=by omega
    exact ⟨by omega,by have:=HU.out;rw [List.length_cons];omega,by rw [List.length_cons];omega,by rw [hq,List.length_cons];exact hp⟩
   ·rw [HE.out,hexD_big u.toNat (by have:=HB'.out;omega),show (u / 16).toNat=u.toNat / 16 by omega,show D.toNat=u.toNat % 16 by have:=HD.out;omega,List.append_assoc]
    rfl
   ·rw [HJ.out.2,HX'.out]
    exact HR.out.set (by have:=HU.out;omega) _
   have:=HB'.out
   simp only [intOf]
   omega
  have hb1:decide (16 ≤ u)=false:=decide_eq_false hb
  have hb2:decide (u ≥ 16)=false:=decide_eq_false hb
  have hu2:u < 16:=by omega
  have hx:=bt_at (⟨#[48,49,50,51,52,53,54,55,56,57,97,98,99,100,101,102,103,104,105,106,107,108,109,110,111,112,113,114,115,116,117,118,119,120,121,122]⟩:ByteArray) u
  have HX' := Aside0.mk (hexd_at u hu0 hu2)
  have HJ:=Aside0.mk (And.intro hj hjt)
  have HB' := Aside0.mk hb
  have hal:Tryz.prog.arrayLen 193=65:=by simp [Program.arrayLen,Tryz.underlying193]
  have hsl : ∀ W,(Instr.sliceAt 193 (.pointer (some ⟨w.heap.size,0,none⟩)) (some (.int .i64 (i - 1))) none none).run Tryz.prog W = .ok (.slice (some ⟨w.heap.size,64 - suf.length,none⟩) (suf.length + 1) (suf.length + 1)) W:=by
   intro W
   have hl65:64 - suf.length + (suf.length + 1)=65:=by have:=HU.out;omega
   rw [hj,run_sliceAt_array_l W 193 ⟨w.heap.size,0,none⟩ (by simp [Program.arrayLen,Program.elem,Tryz.underlying193]) .i64 _ (by omega) (by rw [hal];omega),hal,Int.toNat_natCast]
   have he:Tryz.prog.elem 193=5:=by simp [Program.elem,Tryz.underlying193]
   rw [he,(show (sizeOf 5).run Tryz.prog W = .ok 1 W by kernel_rfl)]
   show Result.ok (slicedAt ⟨w.heap.size,0,none⟩ (64 - suf.length) 65 65 1) W=_
   unfold slicedAt
   rw [if_neg (by omega),Nat.mul_one,add_plain,show 65 - (64 - suf.length)=suf.length + 1 by omega]
  have hR2:=(HR.out.set (by have:=HU.out;omega) (bt (⟨#[48,49,50,51,52,53,54,55,56,57,97,98,99,100,101,102,103,104,105,106,107,108,109,110,111,112,113,114,115,116,117,118,119,120,121,122]⟩:ByteArray) u)).reads (by rw [List.length_cons];have:=HU.out;omega)
  rw [List.length_cons,show 65 - (suf.length + 1)=64 - suf.length by omega,← hjt] at hR2
  have hcv:=string_of_reads (P:=Tryz.prog) (src:=22) (dst:=9) (c:=suf.length + 1) Tryz.underlying22 Tryz.underlying5 Tryz.underlying9 hR2
  rw [hjt] at hcv
  rw [← hjt] at hsl hcv
  have HE2:=Aside0.mk (show strOfNums (bt (⟨#[48,49,50,51,52,53,54,55,56,57,97,98,99,100,101,102,103,104,105,106,107,108,109,110,111,112,113,114,115,116,117,118,119,120,121,122]⟩:ByteArray) u :: suf)=strOfNums (hexD n) by rw [HE.out,hexD_small u.toNat (by omega),HX'.out];rfl)
  have q3:(u < 36)=True:=eq_true (by omega)
  have q4:(36 ≤ u)=False:=eq_false (by omega)
  clear hj hjt hb hR2 hal hu2
  go_wp2
  go_ret2
  exact ⟨by first|rfl|(rw [HE2.out];rfl),HB2.out.setCell (Nat.le_refl _) _⟩
/-- At the base 10,and of a number from 0 on at the base 16. -/
def strconv_FormatInt_145.f (a0 a1:Int):Option ByteArray :=
 if a1=10 then (if -9223372036854775808 ≤ a0∧a0 ≤ 9223372036854775807 then some ⟨(Lib.itoa a0).toArray⟩ else none)
 else if a1=16 then (if 0 ≤ a0∧a0 ≤ 9223372036854775807 then some (strOfNums (hexD a0.toNat)) else none)
 else none
theorem below_grow {w:World} (k:Nat) (os:Array Obj):Below w.heap.size w (Go.Sort.grow (w.drewN k) os) :=
 ⟨rfl,rfl,rfl,by simp [Go.Sort.grow],fun b hb=>by simp only [Go.Sort.grow];rw [Array.getElem?_append_left (by simpa using hb)];rfl⟩
theorem formatInt_16 (a0:Int) (h0:0 ≤ a0) (h1:a0 ≤ 9223372036854775807) (w:World) (ht:Tabs w) :
 Calls Tryz.prog 145 #[.int .i64 a0,.int .i64 16] w fun e w' => e = .returned (.string (strOfNums (hexD a0.toNat)))∧Below w.heap.size w w' := by
 have HT:=Aside0.mk ht
 clear ht
 have hw:IntKind.u64.wrap a0=a0:=by simp [IntKind.wrap,IntKind.bits,IntKind.signed];omega
 have HF:=Aside0.mk (formatBits_16 a0.toNat (by omega))
 have hn:((a0.toNat:Nat):Int)=a0:=by omega
 rw [hn] at HF
 clear hn
 have hneg:decide (a0 < 0)=false:=decide_eq_false (by omega)
 go_enter Tryz.func145,Tryz.ntmps145
 go_wp2_with (go_at_call 180;(with_reducible refine (HF.out _ HT.out).mono ?_);rintro e w1 ⟨rfl,hb⟩)
 go_ret
 exact ⟨rfl,hb⟩
theorem strconv_FormatInt_145.calls (a0 a1:Int) (r:ByteArray) (w:World) (h:strconv_FormatInt_145.f a0 a1=some r) (ht:Tabs w) :
 Calls Tryz.prog 145 #[.int .i64 a0,.int .i64 a1] w fun e w' => e = .returned (.string r)∧Below w.heap.size w w' := by
 unfold strconv_FormatInt_145.f at h
 split at h
 ·rename_i h10
  subst h10
  split at h
  ·rename_i hr
   obtain rfl:=Option.some.inj h
   refine (Tryz.internal_strconv_FormatInt_10 a0 hr.1 hr.2 w ht.1).mono ?_
   rintro e w' ⟨rfl,k,os,rfl⟩
   exact ⟨rfl,below_grow k os⟩
  cases h
 split at h
 ·rename_i h16
  subst h16
  split at h
  ·rename_i hr
   obtain rfl:=Option.some.inj h
   exact formatInt_16 a0 hr.1 hr.2 w ht
  cases h
 cases h
def strconv_FormatInt_93.f (a0:Int) (a1:Int):Option (ByteArray):=(strconv_FormatInt_145.f a0 a1).bind fun t324=>(some t324)
theorem strconv_FormatInt_93.calls (a0:Int) (a1:Int) (r:ByteArray) (w:World) (h:strconv_FormatInt_93.f a0 a1=some r) (ht:Tabs w) :
 Calls Tryz.prog 93 #[.int .i64 a0,.int .i64 a1] w fun e w' => e = .returned (.string r)∧Below w.heap.size w w' := by
 have HTB:=Aside0.mk ht
 clear ht
 have HB:=zB w
 unfold strconv_FormatInt_93.f at h
 have H:=h
 clear h
 replace H:=Option.bind_eq_some_iff.mp H
 obtain ⟨t324,A30,H⟩:=H
 try dsimp only at H
 have A3:=Aside0.mk A30
 clear A30
 obtain rfl:=Option.some.inj H
 go_enter Tryz.func93,Tryz.ntmps93
 go_wp2_with (first|((with_reducible refine gate_callee (f:=145) rfl ?_);refine goesL_ (some 7) rfl rfl Tryz.func145 zb7 rfl #[.int .i64 a0,.int .i64 a1] rfl zb2 ?_;(with_reducible refine (strconv_FormatInt_145.calls a0 a1 t324 _ A3.out ?hT).mono ?_);(case hT=>exact HTB.out.below zb0);rintro e w4 ⟨rfl,hb⟩;(try clear A3);refine ⟨_,rfl,?_⟩;replace HB:=Aside0.mk (below_step zb0 hb);(try clear hb)))
 go_ret
 exact ⟨zb3,zb0⟩
def sign_Text.f (a0:Int):Option (ByteArray):=(strconv_FormatInt_93.f a0 10).bind fun t325=>(some t325)
theorem sign_Text.calls (a0:Int) (r:ByteArray) (w:World) (h:sign_Text.f a0=some r) (ht:Tabs w) :
 Calls Tryz.prog 95 #[.int .i64 a0] w fun e w' => e = .returned (.string r)∧Below w.heap.size w w' := by
 have HTB:=Aside0.mk ht
 clear ht
 have HB:=zB w
 unfold sign_Text.f at h
 have H:=h
 clear h
 replace H:=Option.bind_eq_some_iff.mp H
 obtain ⟨t325,A20,H⟩:=H
 try dsimp only at H
 have A2:=Aside0.mk A20
 clear A20
 obtain rfl:=Option.some.inj H
 go_enter Tryz.func95,Tryz.ntmps95
 go_wp2_with (first|((with_reducible refine gate_callee (f:=93) rfl ?_);refine goesL_ (some 4) rfl rfl Tryz.func93 zb7 rfl #[.int .i64 a0,.int .i64 10] rfl zb2 ?_;(with_reducible refine (strconv_FormatInt_93.calls a0 10 t325 _ A2.out ?hT).mono ?_);(case hT=>exact HTB.out.below zb0);rintro e w3 ⟨rfl,hb⟩;(try clear A2);refine ⟨_,rfl,?_⟩;replace HB:=Aside0.mk (below_step zb0 hb);(try clear hb)))
 go_ret
 exact ⟨zb3,zb0⟩
def line_RequestLine.f (a0_0:ByteArray) (a0_1:ByteArray) (a0_2:Int) (l0_3:List (S36)) (l0_4:List Int):Option (ByteArray):=if a0_0.size + 1 ≤ 9223372036854775807 then (if (a0_0 ++ (⟨#[32]⟩:ByteArray)).size + a0_1.size ≤ 9223372036854775807 then (if ((a0_0 ++ (⟨#[32]⟩:ByteArray)) ++ a0_1).size + 8 ≤ 9223372036854775807 then ((sign_Text.f a0_2).bind fun t327=>(if (((a0_0 ++ (⟨#[32]⟩:ByteArray)) ++ a0_1) ++ (⟨#[32,72,84,84,80,47,49,46]⟩:ByteArray)).size + t327.size ≤ 9223372036854775807 then (if ((((a0_0 ++ (⟨#[32]⟩:ByteArray)) ++ a0_1) ++ (⟨#[32,72,84,84,80,47,49,46]⟩:ByteArray)) ++ t327).size + 2 ≤ 9223372036854775807 then (some (((((a0_0 ++ (⟨#[32]⟩:ByteArray)) ++ a0_1) ++ (⟨#[32,72,84,84,80,47,49,46]⟩:ByteArray)) ++ t327) ++ (⟨#[13,10]⟩:ByteArray))) else (none)) else (none))) else (none)) else (none)) else (none)
def line_RequestLine.T1:Bool × List (List Nat × List Nat):=(true,[([],[]),([0],[0]),([1],[1]),([],[]),([3],[3]),([2,4],[2,4]),([5],[5]),([],[]),([7],[7]),([8],[8]),([6,9],[6,9]),([10],[10]),([11,9,0,1,2,3,4,5,6,7,8,9,10,11],[11])])
def line_RequestLine.B1:List Nat:=[0,1,3,0,8,31,63,0,128,384,1023,2047,4095]
theorem line_RequestLine.tab1:rtab .any (opsOf Tryz.f55 1)=line_RequestLine.T1:=by kernel_rfl
theorem line_RequestLine.bits1:waitsOk line_RequestLine.T1.2 line_RequestLine.B1=true:=by kernel_rfl
theorem line_RequestLine.calls (a0_0:ByteArray) (a0_1:ByteArray) (a0_2:Int) (A0_3:Option Addr) (c0_3:Nat) (l0_3:List (S36)) (A0_4:Option Addr) (c0_4:Nat) (l0_4:List Int) (r:ByteArray) (w:World) (hr0_3:Kd.C k36 w A0_3 l0_3.length l0_3) (hc0_3:l0_3.length ≤ c0_3) (hr0_4:Kd.C (Kd.int .u8) w A0_4 l0_4.length l0_4) (hc0_4:l0_4.length ≤ c0_4) (h:line_RequestLine.f a0_0 a0_1 a0_2 l0_3 l0_4=some r) (ht:Tabs w) :
 Calls Tryz.prog 55 #[.agg #[.string a0_0,.string a0_1,.int .i64 a0_2,.slice A0_3 l0_3.length c0_3,.slice A0_4 l0_4.length c0_4]] w fun e w' => e = .returned (.string r)∧Below w.heap.size w w' := by
 have HTB:=Aside0.mk ht
 clear ht
 have hu26:=Tryz.underlying26
 have HR0_3:=Aside0.mk hr0_3
 have HC0_3:=Aside0.mk hc0_3
 clear hr0_3 hc0_3
 have HR0_4:=Aside0.mk hr0_4
 have HC0_4:=Aside0.mk hc0_4
 clear hr0_4 hc0_4
 have HB:=zB w
 unfold line_RequestLine.f at h
 have H:=h
 clear h
 by_cases c2:a0_0.size + 1 ≤ 9223372036854775807;rotate_left
 ·rw [if_neg c2] at H
  exact absurd H zb24
 rw [if_pos c2] at H
 have c2b0:=eq_true c2
 have c2b1:=decide_eq_true c2
 try have c2b2:(9223372036854775807 < a0_0.size + 1)=False:=eq_false (Nat.not_lt.2 c2)
 by_cases c3:(a0_0 ++ (⟨#[32]⟩:ByteArray)).size + a0_1.size ≤ 9223372036854775807
 ·rw [if_pos c3] at H
  have c3b0:=eq_true c3
  have c3b1:=decide_eq_true c3
  try have c3b2:(9223372036854775807 < (a0_0 ++ (⟨#[32]⟩:ByteArray)).size + a0_1.size)=False:=eq_false (Nat.not_lt.2 c3)
  try (have c3b3:=c3b0;simp only [ByteArray.size_append] at c3b3;have c3b4:=c3b2;simp only [ByteArray.size_append] at c3b4)
  try have c3b5:(9223372036854775807 < a0_0.size + 1 + a0_1.size)=False:=eq_false (by have q_:=c3;simp only [ByteArray.size_append] at q_;have e0_:(⟨#[32]⟩:ByteArray).size=1:=rfl;omega)
  try have c3b6:(a0_0.size + 1 + a0_1.size ≤ 9223372036854775807)=True:=eq_true (by have q_:=c3;simp only [ByteArray.size_append] at q_;have e0_:(⟨#[32]⟩:ByteArray).size=1:=rfl;omega)
  by_cases c4:((a0_0 ++ (⟨#[32]⟩:ByteArray)) ++ a0_1).size + 8 ≤ 9223372036854775807;rotate_left
  ·rw [if_neg c4] at H
   exact absurd H zb24
  rw [if_pos c4] at H
  have c4b0:=eq_true c4
  have c4b1:=decide_eq_true c4
  try have c4b2:(9223372036854775807 < ((a0_0 ++ (⟨#[32]⟩:ByteArray)) ++ a0_1).size + 8)=False:=eq_false (Nat.not_lt.2 c4)
  try (have c4b3:=c4b0;simp only [ByteArray.size_append] at c4b3;have c4b4:=c4b2;simp only [ByteArray.size_append] at c4b4)
  try have c4b5:(9223372036854775807 < a0_0.size + 1 + a0_1.size + 8)=False:=eq_false (by have q_:=c4;simp only [ByteArray.size_append] at q_;have e0_:(⟨#[32]⟩:ByteArray).size=1:=rfl;omega)
  try have c4b6:(a0_0.size + 1 + a0_1.size + 8 ≤ 9223372036854775807)=True:=eq_true (by have q_:=c4;simp only [ByteArray.size_append] at q_;have e0_:(⟨#[32]⟩:ByteArray).size=1:=rfl;omega)
  replace H:=Option.bind_eq_some_iff.mp H
  obtain ⟨t327,A50,H⟩:=H
  try dsimp only at H
  have A5:=Aside0.mk A50
  clear A50
  by_cases c6:(((a0_0 ++ (⟨#[32]⟩:ByteArray)) ++ a0_1) ++ (⟨#[32,72,84,84,80,47,49,46]⟩:ByteArray)).size + t327.size ≤ 9223372036854775807
  ·rw [if_pos c6] at H
   have c6b0:=eq_true c6
   have c6b1:=decide_eq_true c6
   try have c6b2:(9223372036854775807 < (((a0_0 ++ (⟨#[32]⟩:ByteArray)) ++ a0_1) ++ (⟨#[32,72,84,84,80,47,49,46]⟩:ByteArray)).size + t327.size)=False:=eq_false (Nat.not_lt.2 c6)
   try (have c6b3:=c6b0;simp only [ByteArray.size_append] at c6b3;have c6b4:=c6b2;simp only [ByteArray.size_append] at c6b4)
   try have c6b5:(9223372036854775807 < a0_0.size + 1 + a0_1.size + 8 + t327.size)=False:=eq_false zb111
   try have c6b6:(a0_0.size + 1 + a0_1.size + 8 + t327.size ≤ 9223372036854775807)=True:=eq_true zb111
   by_cases c7:((((a0_0 ++ (⟨#[32]⟩:ByteArray)) ++ a0_1) ++ (⟨#[32,72,84,84,80,47,49,46]⟩:ByteArray)) ++ t327).size + 2 ≤ 9223372036854775807;rotate_left
   ·rw [if_neg c7] at H
    exact absurd H zb24
   rw [if_pos c7] at H
   have c7b0:=eq_true c7
   have c7b1:=decide_eq_true c7
   try have c7b2:(9223372036854775807 < ((((a0_0 ++ (⟨#[32]⟩:ByteArray)) ++ a0_1) ++ (⟨#[32,72,84,84,80,47,49,46]⟩:ByteArray)) ++ t327).size + 2)=False:=eq_false (Nat.not_lt.2 c7)
   try (have c7b3:=c7b0;simp only [ByteArray.size_append] at c7b3;have c7b4:=c7b2;simp only [ByteArray.size_append] at c7b4)
   try have c7b5:(9223372036854775807 < a0_0.size + 1 + a0_1.size + 8 + t327.size + 2)=False:=eq_false zb112
   try have c7b6:(a0_0.size + 1 + a0_1.size + 8 + t327.size + 2 ≤ 9223372036854775807)=True:=eq_true zb112
   obtain rfl:=Option.some.inj H
   go_enter Tryz.func55,Tryz.ntmps55
   try go_wp2_with (first|((with_reducible refine gate_dst (N:=1) rfl ?_);refine box_event rfl (N:=1) rfl (cs:=#[.string a0_0,.string a0_1,.int .i64 a0_2,.slice A0_3 l0_3.length c0_3,.slice A0_4 l0_4.length c0_4]) (t:=26) zS ?_;intro gb326 hg w8 hbox hb;have GW326:=zG hg zb0;have GE326:=GW326;have BK326:=Aside0.mk hbox;replace HB:=Aside0.mk (below_step zb0 hb);clear hb hbox hg))
   replace BK326:=Aside0.mk (blk_drew BK326.out)
   replace HB:=Aside0.mk (below_drew1 HB.out)
   refine start_ (n:=13) (S:=fun w' => w'.cell? ⟨gb326,0,none⟩=some (.string a0_0)∧w'.cell? ⟨gb326,1,none⟩=some (.string a0_1)∧w'.cell? ⟨gb326,2,none⟩=some (.int .i64 a0_2)∧w'.cell? ⟨gb326,3,none⟩=some (.slice A0_3 l0_3.length c0_3)∧w'.cell? ⟨gb326,4,none⟩=some (.slice A0_4 l0_4.length c0_4)) (ds:=[]) (zl 13 0) zb7 rfl rfl ⟨(blk_cell BK326.out 0).trans rfl,(blk_cell BK326.out 1).trans rfl,(blk_cell BK326.out 2).trans rfl,(blk_cell BK326.out 3).trans rfl,(blk_cell BK326.out 4).trans rfl⟩ (fun hHeld=>?_);refine with_tabW line_RequestLine.tab1 line_RequestLine.bits1 (fun HT_ HW_=>?_)
   generalize w8.drew=w9 at BK326 HB hHeld ⊢
   refine zpu 0 (N:=some 3) (zl 13 1) HT_.out rfl rfl ?_
   refine zpu 3 (N:=some 6) (zl 13 9) HT_.out rfl rfl ?_
   refine zpu 7 (N:=some 10) (zl 13 137) HT_.out rfl rfl ?_
   refine take_ (i:=1) (N:=some 4) (v:=?_) (a' := ?_) (zl 13 139) rfl rfl (take_ofW HT_.out HW_.out zb7) (fun _ _ _ h=>h) (Or.inl ⟨zb49,?_⟩) hHeld ?_ ?_
   rotate_left
   ·rintro w' ⟨s0,s1,s2,s3,s4⟩;go_simp;with_reducible rfl
   rotate_left
   ·simp only [Act.put,zqA,zqB,zqC,i64_w,i32_w];rfl
   refine zpu 2 (N:=some 5) (zl 13 143) HT_.out rfl rfl ?_
   refine take_ (i:=4) (N:=some 7) (v:=?_) (a' := ?_) (zl 13 159) rfl rfl (take_ofW HT_.out HW_.out zb7) (fun _ _ _ h=>h) (Or.inl ⟨zb49,?_⟩) hHeld ?_ ?_
   rotate_left
   ·rintro w' ⟨s0,s1,s2,s3,s4⟩;go_simp;with_reducible rfl
   rotate_left
   ·simp only [Act.put,zqA,zqB,zqC,i64_w,i32_w];rfl
   refine zpu 5 (N:=some 8) (zl 13 191) HT_.out rfl rfl ?_
   refine zpu 6 (N:=some 9) (zl 13 255) HT_.out rfl rfl ?_
   refine take_ (i:=8) (N:=some 11) (v:=?_) (a' := ?_) (zl 13 511) rfl rfl (take_ofW HT_.out HW_.out zb7) (fun _ _ _ h=>h) (Or.inl ⟨zb49,?_⟩) hHeld ?_ ?_
   rotate_left
   ·rintro w' ⟨s0,s1,s2,s3,s4⟩;go_simp;with_reducible rfl
   rotate_left
   ·simp only [Act.put,zqA,zqB,zqC,i64_w,i32_w];rfl
   refine one_ (i:=9) (N:=some 12) (zl 13 1023) rfl rfl (one_of HT_.out zb7) zb78 (fun K hK=>?_)
   refine goes_ Tryz.func95 zb7 rfl #[.int .i64 a0_2] zb49 rfl rfl zb2 ?_
   with_reducible refine (sign_Text.calls a0_2 t327 _ A5.out ?hT).mono ?_;(case hT=>exact HTB.out.below zb97)
   rintro e w10 ⟨rfl,hb⟩
   refine ⟨_,rfl,?_⟩
   replace BK326:=Aside0.mk (blk_below (g:=gb326) (o:=.cells #[.string a0_0,.string a0_1,.int .i64 a0_2,.slice A0_3 l0_3.length c0_3,.slice A0_4 l0_4.length c0_4] 26 (0,0)) (by (with_reducible repeat (first|refine blk_drewN ?_ _|refine blk_drew ?_|refine blk_alloc ?_ _));exact BK326.out) hb)
   replace HB:=Aside0.mk (below_step zb97 hb)
   (try clear hb)
   (try clear hb2)
   (try clear hk)
   (try clear hi)
   refine hK.out _ _ ⟨(blk_cell BK326.out 0).trans rfl,(blk_cell BK326.out 1).trans rfl,(blk_cell BK326.out 2).trans rfl,(blk_cell BK326.out 3).trans rfl,(blk_cell BK326.out 4).trans rfl⟩ (fun hHeld=>?_)
   clear hK K
   refine norm_ (a' := ?_) ?_ ?_
   rotate_left
   ·show Act.put _ (some 12) _=_
    simp only [Act.put,zqA,zqB,zqC,i64_w,i32_w]
    rfl
   refine zpu 10 (N:=some 13) (zl 13 2047) HT_.out rfl rfl ?_
   refine zpu 11 (N:=some 14) (zl 13 4095) HT_.out rfl rfl ?_
   refine zpu 12 (N:=some 2) (zl 13 8191) HT_.out rfl rfl ?_
   refine done_ (done_of HT_.out zb7) ?_
   try go_wp2
   go_ret
   exact ⟨zb3,zb97⟩
  ·rw [if_neg c6] at H
   exact absurd H zb24
 ·rw [if_neg c3] at H
  exact absurd H zb24
def http_WriteRequest.f (k:Nat) (a0:ByteArray) (a1:ByteArray) (a2:Int) (l3:List (S36)) (l4:List Int):Option (List Int):=(line_RequestLine.f a0 a1 a2 l3 l4).bind fun s=>http_write.f k s l3 l4
theorem http_WriteRequest.callsB (k:Nat) (a0:ByteArray) (a1:ByteArray) (a2:Int) (A3:Option Addr) (c3:Nat) (l3:List (S36)) (A4:Option Addr) (c4:Nat) (l4:List Int) (r:List Int) (w:World) (hr3:Kd.C k36 w A3 l3.length l3) (hc3:l3.length ≤ c3) (hr4:Kd.C (Kd.int .u8) w A4 l4.length l4) (hc4:l4.length ≤ c4) (h:http_WriteRequest.f k a0 a1 a2 l3 l4=some r) (ht:Tabs w) :
 Calls Tryz.prog 24 #[.agg #[.string a0,.string a1,.int .i64 a2,.slice A3 l3.length c3,.slice A4 l4.length c4]] w fun e w' => ∃ v,e = .returned v∧BufM w' w.heap.size v r∧Below w.heap.size w w' := by
 have hu:=Tryz.underlying26
 unfold http_WriteRequest.f at h
 obtain ⟨s,hs,h'⟩:=Option.bind_eq_some_iff.1 h
 have HS:=Aside0.mk hs
 have HW:=Aside0.mk h'
 have R3:=Aside0.mk hr3
 have R4:=Aside0.mk hr4
 have C3:=Aside0.mk hc3
 have C4:=Aside0.mk hc4
 have HT:=Aside0.mk ht
 clear h hs h' hr3 hr4 hc3 hc4 ht
 go_enter Tryz.func24,Tryz.ntmps24
 go_wp2_with (first
  | ((with_reducible refine gate_dst (N:=1) rfl ?_);refine box_event ?hg (N:=1) ?hd (cs:=#[.string a0,.string a1,.int .i64 a2,.slice A3 l3.length c3,.slice A4 l4.length c4]) (t:=26) ?hr ?_;(case hd=>rfl);(case hg=>rfl);(case hr=>first|(go_simp;done)|(go_simp;rfl));intro X hX w5 hBX hb5;have BX:=Aside0.mk hBX;have L5:=Aside0.mk hb5;have EX:=Aside0.mk hX;have q0:w5.cell? ⟨X,0,none⟩=some (.string a0):=(blk_cell BX.out 0).trans rfl;have q1:w5.cell? ⟨X,1,none⟩=some (.string a1):=(blk_cell BX.out 1).trans rfl;have q2:w5.cell? ⟨X,2,none⟩=some (.int .i64 a2):=(blk_cell BX.out 2).trans rfl;have q3:w5.cell? ⟨X,3,none⟩=some (.slice A3 l3.length c3):=(blk_cell BX.out 3).trans rfl;have q4:w5.cell? ⟨X,4,none⟩=some (.slice A4 l4.length c4):=(blk_cell BX.out 4).trans rfl;clear hBX hb5 hX))
 go_region_held3 (fun w' => w'.cell? ⟨X,0,none⟩=some (.string a0)∧w'.cell? ⟨X,1,none⟩=some (.string a1)∧w'.cell? ⟨X,2,none⟩=some (.int .i64 a2)∧w'.cell? ⟨X,3,none⟩=some (.slice A3 l3.length c3)∧w'.cell? ⟨X,4,none⟩=some (.slice A4 l4.length c4)) (go_keep)
  (first
   | (go_at_call 55;refine (line_RequestLine.calls a0 a1 a2 A3 c3 l3 A4 c4 l4 s _ (Kd.C_drew (Kd.C_below R3.out L5.out)) C3.out (Kd.C_drew (Kd.C_below R4.out L5.out)) C4.out HS.out (Tabs.below HT.out (below_drew1 L5.out))).mono ?_;rintro E w6 ⟨rfl,hb6⟩;have BX6:=Aside0.mk (blk_below (blk_drew BX.out) hb6);have L6:=Aside0.mk ((below_drew1 L5.out).trans (hbase2 (below_drew1 L5.out).size hb6));have q0:w6.cell? ⟨X,0,none⟩=some (.string a0):=(blk_cell BX6.out 0).trans rfl;have q1:w6.cell? ⟨X,1,none⟩=some (.string a1):=(blk_cell BX6.out 1).trans rfl;have q2:w6.cell? ⟨X,2,none⟩=some (.int .i64 a2):=(blk_cell BX6.out 2).trans rfl;have q3:w6.cell? ⟨X,3,none⟩=some (.slice A3 l3.length c3):=(blk_cell BX6.out 3).trans rfl;have q4:w6.cell? ⟨X,4,none⟩=some (.slice A4 l4.length c4):=(blk_cell BX6.out 4).trans rfl;clear hb6)
   | (go_at_call 54;refine (http_write.callsB k s A3 c3 l3 A4 c4 l4 r _ (Kd.C_below R3.out L6.out) C3.out (Kd.C_below R4.out L6.out) C4.out HW.out).mono ?_;rintro E w7 ⟨v7,rfl,hB7,hb7⟩;obtain ⟨A7,c7,e7⟩:=hB7.form;subst e7;have B7:=Aside0.mk hB7;have L7:=Aside0.mk hb7;have BX7:=Aside0.mk (blk_below BX6.out hb7);have q0:w7.cell? ⟨X,0,none⟩=some (.string a0):=(blk_cell BX7.out 0).trans rfl;have q1:w7.cell? ⟨X,1,none⟩=some (.string a1):=(blk_cell BX7.out 1).trans rfl;have q2:w7.cell? ⟨X,2,none⟩=some (.int .i64 a2):=(blk_cell BX7.out 2).trans rfl;have q3:w7.cell? ⟨X,3,none⟩=some (.slice A3 l3.length c3):=(blk_cell BX7.out 3).trans rfl;have q4:w7.cell? ⟨X,4,none⟩=some (.slice A4 l4.length c4):=(blk_cell BX7.out 4).trans rfl;clear hB7 hb7))
 go_wp2
 go_ret
 exact ⟨_,rfl,BufM.lower B7.out L6.out.size,L6.out.trans (hbase2 L6.out.size L7.out)⟩
end Go.Proofs.YtagffbblalldiaaGreatDoor.P
