/- Each function below answers as its Lean twin says; plain lemmas; a row where its theorem stands. No further condition. (Laid by this repo's pack.py out of its texts and of the print's words.) -/
import Derived.Test.YtfjeinnemimjoaaGreatDoorZ82d83582
import Derived.Test.YtfjeinnemimjoaaGreatDoorZ4e30dcf2
import Derived.Lib.SlBytesConst
import Derived.Lib.Itoa
namespace Go.Proofs.YtfjeinnemimjoaaGreatDoor.P
open Go.RowKit Go.Proofs.YtfjeinnemimjoaaGreatDoorW.PrintWords Go.Proofs.YtfjeinnemimjoaaGreatDoorW.PrintLast Go.Proofs.YtfjeinnemimjoaaGreatDoorW.PrintMore
attribute [local go_sem] max2_int min2_int max_two min_two max_three min_three max_four min_four
set_option linter.unusedVariables false
set_option linter.unusedSimpArgs false
mutual
def scrub_Request.l0:Nat → ByteArray → ByteArray → List ByteArray → List (S55) → Int → Int → ByteArray → ByteArray → Int → List (S55) → List Int → List (S201) → List (S203) → List (S55) → List ByteArray → Int → Int → Int → Int → Option (ByteArray × ByteArray × Int × (List (S55)) × List Int)
 | 0,_,_,_,_,_,_,_,_,_,_,_,_,_,_,_,_,_,_,_=>none
 | k + 1,x2,x3,x9,x17,x18,x19,x311000,x311001,x311002,x311003,x311004,x312000,x312001,x312002,x312003,x312004,x312005,x312006,x312007=>if x19 < x18 then (if 0 ≤ x19 then (if x19 < (x17.length:Int) then (if x9.length < 8796093022208 then (scrub_Request.l0 k x2 x3 (x9 ++ [(rd_T55 x17 x19).f0]) x17 x18 (wrap64 (x19 + 1)) x311000 x311001 x311002 x311003 x311004 x312000 x312001 x312002 x312003 x312004 x312005 x312006 x312007) else (none)) else (none)) else (none)) else ((some (([(⟨(⟨#[72,111,115,116]⟩:ByteArray),x2⟩:S55)]:List (S55)):List (S55))).bind fun y321=>((scrub_onward.f k x311003).bind fun t324=>((field_Without.f k t324 x9).bind fun t327=>(if y321.length + t327.length < 4398046511104 then ((some (y321 ++ t327:List (S55))).bind fun y330=>(if y330.length + x312002.length < 4398046511104 then ((some (y330 ++ x312002:List (S55))).bind fun y333=>(if (x311004.length:Int) > 0 then (scrub_Request.j1 k x3 y333 (decide ((x311004.length:Int) > 0)) x311000 x311001 x311002 x311003 x311004) else (if x311000.toList=([80,79,83,84]:List UInt8) then (scrub_Request.j1 k x3 y333 (x311000.toList == ([80,79,83,84]:List UInt8)) x311000 x311001 x311002 x311003 x311004) else (if x311000.toList=([80,85,84]:List UInt8) then (scrub_Request.j1 k x3 y333 (x311000.toList == ([80,85,84]:List UInt8)) x311000 x311001 x311002 x311003 x311004) else (scrub_Request.j1 k x3 y333 (x311000.toList == ([80,65,84,67,72]:List UInt8)) x311000 x311001 x311002 x311003 x311004))))) else (none))) else (none)))))
def scrub_Request.j1:Nat → ByteArray → List (S55) → Bool → ByteArray → ByteArray → Int → List (S55) → List Int → Option (ByteArray × ByteArray × Int × (List (S55)) × List Int)
 | 0,_,_,_,_,_,_,_,_=>none
 | k + 1,x3,x12,x42,x311000,x311001,x311002,x311003,x311004=>if x42=true then ((scrub_length.f (x311004.length:Int)).bind fun bt336=>(if x12.length < 4398046511104 then ((bytes_Clone.f x311004).bind fun t341=>(some (x311000,x3,1,(x12 ++ [(⟨bt336.1,bt336.2⟩:S55)]),t341))) else (none))) else ((bytes_Clone.f x311004).bind fun t344=>(some (x311000,x3,1,x12,t344)))
end
def scrub_Request.f (k:Nat) (a0_0:ByteArray) (a0_1:ByteArray) (a0_2:Int) (l0_3:List (S55)) (l0_4:List Int) (l1_0:List (S201)) (l1_1:List (S203)) (l1_2:List (S55)) (l1_3:List ByteArray) (a1_4:Int) (a1_5:Int) (a1_6:Int) (a1_7:Int) (a2:ByteArray) (a3:ByteArray):Option (ByteArray × ByteArray × Int × (List (S55)) × List Int):=(slices_Clone_string_string.f l1_3).bind fun t313=>(scrub_Request.l0 k a2 a3 t313 l1_2 (l1_2.length:Int) 0 a0_0 a0_1 a0_2 l0_3 l0_4 l1_0 l1_1 l1_2 l1_3 a1_4 a1_5 a1_6 a1_7)
def scrub_Request.T14:Bool × List (List Nat × List Nat):=(true,[([],[]),([0],[0]),([],[]),([],[]),([],[]),([4],[4]),([5],[5]),([1,2,3,6],[1,2,3,6]),([7,6,0,1,2,3,4,5,6,7],[7])])
def scrub_Request.B14:List Nat:=[0,1,0,0,0,16,48,127,255]
theorem scrub_Request.tab14:rtab .any (opsOf Tryz.f40 14)=scrub_Request.T14:=by kernel_rfl
theorem scrub_Request.bits14:waitsOk scrub_Request.T14.2 scrub_Request.B14=true:=by kernel_rfl
set_option maxHeartbeats 8000000 in
set_option maxRecDepth 100000 in
theorem scrub_Request.calls (k:Nat) (a0_0:ByteArray) (a0_1:ByteArray) (a0_2:Int) (A0_3:Option Addr) (c0_3:Nat) (l0_3:List (S55)) (A0_4:Option Addr) (c0_4:Nat) (l0_4:List Int) (A1_0:Option Addr) (c1_0:Nat) (l1_0:List (S201)) (A1_1:Option Addr) (c1_1:Nat) (l1_1:List (S203)) (A1_2:Option Addr) (c1_2:Nat) (l1_2:List (S55)) (A1_3:Option Addr) (c1_3:Nat) (l1_3:List ByteArray) (a1_4:Int) (a1_5:Int) (a1_6:Int) (a1_7:Int) (a2:ByteArray) (a3:ByteArray) (r1:ByteArray) (r2:ByteArray) (r3:Int) (r4:List (S55)) (r5:List Int) (w:World) (hr0_3:Kd.C k55 w A0_3 l0_3.length l0_3) (hc0_3:l0_3.length ≤ c0_3) (hr0_4:Kd.C (Kd.int .u8) w A0_4 l0_4.length l0_4) (hc0_4:l0_4.length ≤ c0_4) (hr1_0:Kd.C k201 w A1_0 l1_0.length l1_0) (hc1_0:l1_0.length ≤ c1_0) (hr1_1:Kd.C k203 w A1_1 l1_1.length l1_1) (hc1_1:l1_1.length ≤ c1_1) (hr1_2:Kd.C k55 w A1_2 l1_2.length l1_2) (hc1_2:l1_2.length ≤ c1_2) (hr1_3:Kd.C Kd.string w A1_3 l1_3.length l1_3) (hc1_3:l1_3.length ≤ c1_3) (h:scrub_Request.f k a0_0 a0_1 a0_2 l0_3 l0_4 l1_0 l1_1 l1_2 l1_3 a1_4 a1_5 a1_6 a1_7 a2 a3=some (r1,r2,r3,r4,r5)) (ht:Tabs w) :
  Calls Tryz.prog 40 #[.agg #[.string a0_0,.string a0_1,.int .i64 a0_2,.slice A0_3 l0_3.length c0_3,.slice A0_4 l0_4.length c0_4],.agg #[.slice A1_0 l1_0.length c1_0,.slice A1_1 l1_1.length c1_1,.slice A1_2 l1_2.length c1_2,.slice A1_3 l1_3.length c1_3,.int .i64 a1_4,.int .i64 a1_5,.int .i64 a1_6,.int .i64 a1_7],.string a2,.string a3] w fun e w' => ∃ v3_ v4_:Value,e = .returned (.agg #[.string r1,.string r2,.int .i64 r3,v3_,v4_])∧Kd.R k55 55 w' w.heap.size (fun _=>True) v3_ r4∧Kd.R (Kd.int .u8) 5 w' w.heap.size (fun _=>True) v4_ r5∧Below w.heap.size w w' := by
 have HTB:=Aside0.mk ht
 clear ht
 have hu33:=Tryz.underlying33
 have hu59:=Tryz.underlying59
 have hu55:=Tryz.underlying55
 have HR0_3:=Aside0.mk hr0_3
 have HC0_3:=Aside0.mk hc0_3
 clear hr0_3 hc0_3
 have HR0_4:=Aside0.mk hr0_4
 have HC0_4:=Aside0.mk hc0_4
 clear hr0_4 hc0_4
 have HR1_0:=Aside0.mk hr1_0
 have HC1_0:=Aside0.mk hc1_0
 clear hr1_0 hc1_0
 have HR1_1:=Aside0.mk hr1_1
 have HC1_1:=Aside0.mk hc1_1
 clear hr1_1 hc1_1
 have HR1_2:=Aside0.mk hr1_2
 have HC1_2:=Aside0.mk hc1_2
 clear hr1_2 hc1_2
 have HR1_3:=Aside0.mk hr1_3
 have HC1_3:=Aside0.mk hc1_3
 clear hr1_3 hc1_3
 have HB:=Aside0.mk (Below.refl w.heap.size w)
 have H:((slices_Clone_string_string.f l1_3).bind fun t313=>(scrub_Request.l0 k a2 a3 t313 l1_2 (l1_2.length:Int) 0 a0_0 a0_1 a0_2 l0_3 l0_4 l1_0 l1_1 l1_2 l1_3 a1_4 a1_5 a1_6 a1_7))=some (r1,r2,r3,r4,r5):=h
 clear h
 replace H:=Option.bind_eq_some_iff.mp H
 obtain ⟨t313,A50,H⟩:=H
 replace H:(scrub_Request.l0 k a2 a3 t313 l1_2 (l1_2.length:Int) 0 a0_0 a0_1 a0_2 l0_3 l0_4 l1_0 l1_1 l1_2 l1_3 a1_4 a1_5 a1_6 a1_7)=some (r1,r2,r3,r4,r5):=H
 have A5:=Aside0.mk A50
 clear A50
 have H' := Aside0.mk H
 clear H
 go_enter Tryz.func40,Tryz.ntmps40
 go_wp2_with (first|((with_reducible refine gate_dst (N:=4) rfl ?_);refine box_event ?hg (N:=4) ?hd (cs:=#[.string a0_0,.string a0_1,.int .i64 a0_2,.slice A0_3 l0_3.length c0_3,.slice A0_4 l0_4.length c0_4]) (t:=33) ?hr ?_;(case hd=>rfl);(case hg=>rfl);(case hr=>first|(go_simp;done)|(go_simp;rfl));intro gb84 hg w6 hbox hb;have n0_:=Aside0.mk (below_step (by repeat (first|(with_reducible first|exact HB.out|apply below_alloc|apply pw_below_drewN|apply below_drew1)|exact HB.out)) hb);have n1_:=Aside0.mk (hbox);have n2_:=Aside0.mk ((by rw [hg];exact (below_size (by repeat (first|(with_reducible first|exact HB.out|apply below_alloc|apply pw_below_drewN|apply below_drew1)|exact HB.out))):w.heap.size ≤ gb84));have n3_:=Aside0.mk ((by rw [hg];exact (below_size (by repeat (first|(with_reducible first|exact HB.out|apply below_alloc|apply pw_below_drewN|apply below_drew1)|exact HB.out))):w.heap.size ≤ gb84));clear HB;have HB:=n0_;have BK84:=n1_;have GW84:=n2_;have GE84:=n3_;clear n0_ n1_ n2_ n3_;clear hb hbox hg)|((with_reducible refine gate_dst (N:=5) rfl ?_);refine box_event ?hg (N:=5) ?hd (cs:=#[.slice A1_0 l1_0.length c1_0,.slice A1_1 l1_1.length c1_1,.slice A1_2 l1_2.length c1_2,.slice A1_3 l1_3.length c1_3,.int .i64 a1_4,.int .i64 a1_5,.int .i64 a1_6,.int .i64 a1_7]) (t:=59) ?hr ?_;(case hd=>rfl);(case hg=>rfl);(case hr=>first|(go_simp;done)|(go_simp;rfl));intro gb86 hg w7 hbox hb;have n0_:=Aside0.mk (blk_below (g:=gb84) (o:=.cells #[.string a0_0,.string a0_1,.int .i64 a0_2,.slice A0_3 l0_3.length c0_3,.slice A0_4 l0_4.length c0_4] 33 (0,0)) (by (with_reducible repeat (first|refine blk_drewN ?_ _|refine blk_drew ?_|refine blk_alloc ?_ _));exact BK84.out) hb);have n1_:=Aside0.mk (below_step (by repeat (first|(with_reducible first|exact HB.out|apply below_alloc|apply pw_below_drewN|apply below_drew1|refine below_set ?_ GE84.out)|exact HB.out)) hb);have n2_:=Aside0.mk (hbox);have n3_:=Aside0.mk ((by rw [hg];exact (below_size (by repeat (first|(with_reducible first|exact HB.out|apply below_alloc|apply pw_below_drewN|apply below_drew1|refine below_set ?_ GE84.out)|exact HB.out))):w.heap.size ≤ gb86));have n4_:=Aside0.mk ((by rw [hg];exact (below_size (by repeat (first|(with_reducible first|exact HB.out|apply below_alloc|apply pw_below_drewN|apply below_drew1|refine below_set ?_ GE84.out)|exact HB.out))):w.heap.size ≤ gb86));have n5_:=Aside0.mk ((by rw [hg];exact Nat.ne_of_lt (blk_lt (g:=gb84) (o:=.cells #[.string a0_0,.string a0_1,.int .i64 a0_2,.slice A0_3 l0_3.length c0_3,.slice A0_4 l0_4.length c0_4] 33 (0,0)) (by (with_reducible repeat (first|refine blk_drewN ?_ _|refine blk_drew ?_|refine blk_alloc ?_ _));exact BK84.out)):gb84 ≠ gb86));have n6_:=Aside0.mk ((by rw [hg];exact Nat.ne_of_gt (blk_lt (g:=gb84) (o:=.cells #[.string a0_0,.string a0_1,.int .i64 a0_2,.slice A0_3 l0_3.length c0_3,.slice A0_4 l0_4.length c0_4] 33 (0,0)) (by (with_reducible repeat (first|refine blk_drewN ?_ _|refine blk_drew ?_|refine blk_alloc ?_ _));exact BK84.out)):gb86 ≠ gb84));clear BK84;clear HB;have BK84:=n0_;have HB:=n1_;have BK86:=n2_;have GW86:=n3_;have GE86:=n4_;have NB84_311:=n5_;have NB86_310:=n6_;clear n0_ n1_ n2_ n3_ n4_ n5_ n6_;clear hb hbox hg)|((with_reducible refine gate_dst (N:=8) rfl ?_);refine box_event ?hg (N:=8) ?hd (cs:=#[.string (⟨#[]⟩:ByteArray),.string (⟨#[]⟩:ByteArray),.int .i64 0,.slice none 0 0,.slice none 0 0]) (t:=33) ?hr ?_;(case hd=>rfl);(case hg=>rfl);(case hr=>first|(go_simp;done)|(go_simp;rfl));intro gb85 hg w8 hbox hb;have n0_:=Aside0.mk (blk_below (g:=gb84) (o:=.cells #[.string a0_0,.string a0_1,.int .i64 a0_2,.slice A0_3 l0_3.length c0_3,.slice A0_4 l0_4.length c0_4] 33 (0,0)) (by (with_reducible repeat (first|refine blk_drewN ?_ _|refine blk_drew ?_|refine blk_alloc ?_ _));exact BK84.out) hb);have n1_:=Aside0.mk (blk_below (g:=gb86) (o:=.cells #[.slice A1_0 l1_0.length c1_0,.slice A1_1 l1_1.length c1_1,.slice A1_2 l1_2.length c1_2,.slice A1_3 l1_3.length c1_3,.int .i64 a1_4,.int .i64 a1_5,.int .i64 a1_6,.int .i64 a1_7] 59 (0,0)) (by (with_reducible repeat (first|refine blk_drewN ?_ _|refine blk_drew ?_|refine blk_alloc ?_ _));exact BK86.out) hb);have n2_:=Aside0.mk (below_step (by repeat (first|(with_reducible first|exact HB.out|apply below_alloc|apply pw_below_drewN|apply below_drew1|refine below_set ?_ GE84.out|refine below_set ?_ GE86.out)|exact HB.out)) hb);have n3_:=Aside0.mk (hbox);have n4_:=Aside0.mk ((by rw [hg];exact (below_size (by repeat (first|(with_reducible first|exact HB.out|apply below_alloc|apply pw_below_drewN|apply below_drew1|refine below_set ?_ GE84.out|refine below_set ?_ GE86.out)|exact HB.out))):w.heap.size ≤ gb85));have n5_:=Aside0.mk ((by rw [hg];exact (below_size (by repeat (first|(with_reducible first|exact HB.out|apply below_alloc|apply pw_below_drewN|apply below_drew1|refine below_set ?_ GE84.out|refine below_set ?_ GE86.out)|exact HB.out))):w.heap.size ≤ gb85));have n6_:=Aside0.mk ((by rw [hg];exact Nat.ne_of_lt (blk_lt (g:=gb84) (o:=.cells #[.string a0_0,.string a0_1,.int .i64 a0_2,.slice A0_3 l0_3.length c0_3,.slice A0_4 l0_4.length c0_4] 33 (0,0)) (by (with_reducible repeat (first|refine blk_drewN ?_ _|refine blk_drew ?_|refine blk_alloc ?_ _));exact BK84.out)):gb84 ≠ gb85));have n7_:=Aside0.mk ((by rw [hg];exact Nat.ne_of_gt (blk_lt (g:=gb84) (o:=.cells #[.string a0_0,.string a0_1,.int .i64 a0_2,.slice A0_3 l0_3.length c0_3,.slice A0_4 l0_4.length c0_4] 33 (0,0)) (by (with_reducible repeat (first|refine blk_drewN ?_ _|refine blk_drew ?_|refine blk_alloc ?_ _));exact BK84.out)):gb85 ≠ gb84));have n8_:=Aside0.mk ((by rw [hg];exact Nat.ne_of_lt (blk_lt (g:=gb86) (o:=.cells #[.slice A1_0 l1_0.length c1_0,.slice A1_1 l1_1.length c1_1,.slice A1_2 l1_2.length c1_2,.slice A1_3 l1_3.length c1_3,.int .i64 a1_4,.int .i64 a1_5,.int .i64 a1_6,.int .i64 a1_7] 59 (0,0)) (by (with_reducible repeat (first|refine blk_drewN ?_ _|refine blk_drew ?_|refine blk_alloc ?_ _));exact BK86.out)):gb86 ≠ gb85));have n9_:=Aside0.mk ((by rw [hg];exact Nat.ne_of_gt (blk_lt (g:=gb86) (o:=.cells #[.slice A1_0 l1_0.length c1_0,.slice A1_1 l1_1.length c1_1,.slice A1_2 l1_2.length c1_2,.slice A1_3 l1_3.length c1_3,.int .i64 a1_4,.int .i64 a1_5,.int .i64 a1_6,.int .i64 a1_7] 59 (0,0)) (by (with_reducible repeat (first|refine blk_drewN ?_ _|refine blk_drew ?_|refine blk_alloc ?_ _));exact BK86.out)):gb85 ≠ gb86));clear BK84;clear BK86;clear HB;have BK84:=n0_;have BK86:=n1_;have HB:=n2_;have BK85:=n3_;have GW85:=n4_;have GE85:=n5_;have NB84_312:=n6_;have NB85_310:=n7_;have NB86_312:=n8_;have NB85_311:=n9_;clear n0_ n1_ n2_ n3_ n4_ n5_ n6_ n7_ n8_ n9_;clear hb hbox hg;have hnb9:=NB86_310.out;have hnc9:=NB84_311.out;have hnb10:=NB86_312.out;have hnc10:=NB85_311.out;have hcz11_0:w8.cell? ⟨gb86,0,none⟩=some (.slice A1_0 l1_0.length c1_0):=(blk_cell BK86.out 0).trans rfl;have hcz11_1:w8.cell? ⟨gb86,1,none⟩=some (.slice A1_1 l1_1.length c1_1):=(blk_cell BK86.out 1).trans rfl;have hcz11_2:w8.cell? ⟨gb86,2,none⟩=some (.slice A1_2 l1_2.length c1_2):=(blk_cell BK86.out 2).trans rfl;have hcz11_3:w8.cell? ⟨gb86,3,none⟩=some (.slice A1_3 l1_3.length c1_3):=(blk_cell BK86.out 3).trans rfl;have hcz11_4:w8.cell? ⟨gb86,4,none⟩=some (.int .i64 a1_4):=(blk_cell BK86.out 4).trans rfl;have hcz11_5:w8.cell? ⟨gb86,5,none⟩=some (.int .i64 a1_5):=(blk_cell BK86.out 5).trans rfl;have hcz11_6:w8.cell? ⟨gb86,6,none⟩=some (.int .i64 a1_6):=(blk_cell BK86.out 6).trans rfl;have hcz11_7:w8.cell? ⟨gb86,7,none⟩=some (.int .i64 a1_7):=(blk_cell BK86.out 7).trans rfl;have hfz11_0:=blk_frozen BK86.out 0;have hfz11_1:=blk_frozen BK86.out 1;have hfz11_2:=blk_frozen BK86.out 2;have hfz11_3:=blk_frozen BK86.out 3;have hfz11_4:=blk_frozen BK86.out 4;have hfz11_5:=blk_frozen BK86.out 5;have hfz11_6:=blk_frozen BK86.out 6;have hfz11_7:=blk_frozen BK86.out 7)|((with_reducible refine gate_callee (f:=80) rfl ?_);refine goesL_ (some 15) rfl rfl Tryz.func80 (by kernel_rfl) rfl #[.slice A1_3 l1_3.length c1_3] rfl (by (try simp only [List.map_toArray,List.map_cons,List.map_nil]);first|done|rfl|(simp only [List.length_drop,List.length_take];rfl)) ?_;(with_reducible refine (slices_Clone_string_string.calls _ _ l1_3 t313 _ ?side1 ?side2 A5.out).mono ?_);(case side1=>repeat (first|exact (Kd.C_below HR1_3.out HB.out)|(with_reducible refine Kd.C_alloc ?_ _)|(with_reducible refine Kd.C_drewN ?_ _)|(with_reducible refine Kd.C_drew ?_)));(case side2=>exact HC1_3.out);rintro e w12 ⟨v314,rfl,ho0,hb⟩;(try clear A5);refine ⟨_,rfl,?_⟩;have n0_:=Aside0.mk (Kd.R_lower ho0 (below_size (by repeat (first|(with_reducible first|exact HB.out|apply below_alloc|apply pw_below_drewN|apply below_drew1|refine below_set ?_ GE84.out|refine below_set ?_ GE86.out|refine below_set ?_ GE85.out)|exact HB.out))));have n1_:=Aside0.mk (blk_below (g:=gb84) (o:=.cells #[.string a0_0,.string a0_1,.int .i64 a0_2,.slice A0_3 l0_3.length c0_3,.slice A0_4 l0_4.length c0_4] 33 (0,0)) (by (with_reducible repeat (first|refine blk_drewN ?_ _|refine blk_drew ?_|refine blk_alloc ?_ _));exact BK84.out) hb);have n2_:=Aside0.mk (blk_below (g:=gb86) (o:=.cells #[.slice A1_0 l1_0.length c1_0,.slice A1_1 l1_1.length c1_1,.slice A1_2 l1_2.length c1_2,.slice A1_3 l1_3.length c1_3,.int .i64 a1_4,.int .i64 a1_5,.int .i64 a1_6,.int .i64 a1_7] 59 (0,0)) (by (with_reducible repeat (first|refine blk_drewN ?_ _|refine blk_drew ?_|refine blk_alloc ?_ _));exact BK86.out) hb);have n3_:=Aside0.mk (blk_below (g:=gb85) (o:=.cells #[.string (⟨#[]⟩:ByteArray),.string (⟨#[]⟩:ByteArray),.int .i64 0,.slice none 0 0,.slice none 0 0] 33 (0,0)) (by (with_reducible repeat (first|refine blk_drewN ?_ _|refine blk_drew ?_|refine blk_alloc ?_ _));exact BK85.out) hb);have n4_:=Aside0.mk (below_step (by repeat (first|(with_reducible first|exact HB.out|apply below_alloc|apply pw_below_drewN|apply below_drew1|refine below_set ?_ GE84.out|refine below_set ?_ GE86.out|refine below_set ?_ GE85.out)|exact HB.out)) hb);clear BK84;clear BK86;clear BK85;clear HB;have HO315:=n0_;have BK84:=n1_;have BK86:=n2_;have BK85:=n3_;have HB:=n4_;clear n0_ n1_ n2_ n3_ n4_;(try clear hb);(try clear hb2);(try clear hk);(try clear hi);(try clear ho0);have hcz13_0:w12.cell? ⟨gb86,0,none⟩=some (.slice A1_0 l1_0.length c1_0):=(blk_cell BK86.out 0).trans rfl;have hcz13_1:w12.cell? ⟨gb86,1,none⟩=some (.slice A1_1 l1_1.length c1_1):=(blk_cell BK86.out 1).trans rfl;have hcz13_2:w12.cell? ⟨gb86,2,none⟩=some (.slice A1_2 l1_2.length c1_2):=(blk_cell BK86.out 2).trans rfl;have hcz13_3:w12.cell? ⟨gb86,3,none⟩=some (.slice A1_3 l1_3.length c1_3):=(blk_cell BK86.out 3).trans rfl;have hcz13_4:w12.cell? ⟨gb86,4,none⟩=some (.int .i64 a1_4):=(blk_cell BK86.out 4).trans rfl;have hcz13_5:w12.cell? ⟨gb86,5,none⟩=some (.int .i64 a1_5):=(blk_cell BK86.out 5).trans rfl;have hcz13_6:w12.cell? ⟨gb86,6,none⟩=some (.int .i64 a1_6):=(blk_cell BK86.out 6).trans rfl;have hcz13_7:w12.cell? ⟨gb86,7,none⟩=some (.int .i64 a1_7):=(blk_cell BK86.out 7).trans rfl;have hfz13_0:=blk_frozen BK86.out 0;have hfz13_1:=blk_frozen BK86.out 1;have hfz13_2:=blk_frozen BK86.out 2;have hfz13_3:=blk_frozen BK86.out 3;have hfz13_4:=blk_frozen BK86.out 4;have hfz13_5:=blk_frozen BK86.out 5;have hfz13_6:=blk_frozen BK86.out 6;have hfz13_7:=blk_frozen BK86.out 7))
 go_loopg [9,19] k (fun kq v9 v19 w' => ∃ (x9_1:List ByteArray) (x19_1:Int),v19 = .int .i64 x19_1∧Aside0 (scrub_Request.l0 kq a2 a3 x9_1 l1_2 (l1_2.length:Int) x19_1 a0_0 a0_1 a0_2 l0_3 l0_4 l1_0 l1_1 l1_2 l1_3 a1_4 a1_5 a1_6 a1_7=some (r1,r2,r3,r4,r5))∧Aside0 (kq ≤ k)∧Aside0 (Kd.R Kd.string 9 w' w.heap.size (fun _=>True) v9 x9_1)∧Aside0 (w'.heap[gb84]? = some (.cells #[.string a0_0,.string a0_1,.int .i64 a0_2,(.slice A0_3 l0_3.length c0_3),(.slice A0_4 l0_4.length c0_4)] 33 (0,0)))∧Aside0 (w'.heap[gb86]? = some (.cells #[(.slice A1_0 l1_0.length c1_0),(.slice A1_1 l1_1.length c1_1),(.slice A1_2 l1_2.length c1_2),(.slice A1_3 l1_3.length c1_3),.int .i64 a1_4,.int .i64 a1_5,.int .i64 a1_6,.int .i64 a1_7] 59 (0,0)))∧Aside0 (w'.heap[gb85]? = some (.cells #[.string (⟨#[]⟩:ByteArray),.string (⟨#[]⟩:ByteArray),.int .i64 0,(.slice none 0 0),(.slice none 0 0)] 33 (0,0)))∧Aside0 (Below w.heap.size w w'))
 case atStart=>exact ⟨(t313),(0),(by first|rfl|(simp;done)|(simp [*];done)),H',⟨Nat.le_refl _⟩,⟨by (with_reducible repeat (first|apply Kd.R_alloc|apply Kd.R_drewN|apply Kd.R_drew));exact HO315.out⟩,⟨by (with_reducible repeat (first|refine blk_drewN ?_ _|refine blk_drew ?_|refine blk_alloc ?_ _));exact BK84.out⟩,⟨by (with_reducible repeat (first|refine blk_drewN ?_ _|refine blk_drew ?_|refine blk_alloc ?_ _));exact BK86.out⟩,⟨by (with_reducible repeat (first|refine blk_drewN ?_ _|refine blk_drew ?_|refine blk_alloc ?_ _));exact BK85.out⟩,⟨by repeat (first|(with_reducible first|exact HB.out|apply below_alloc|apply pw_below_drewN|apply below_drew1|refine below_set ?_ GE84.out|refine below_set ?_ GE86.out|refine below_set ?_ GE85.out)|exact HB.out)⟩⟩
 case round =>
  clear H'
  try clear c1
  try clear p2
  try clear c4
  try clear c8
  try clear c9
  try clear c10
  try clear hcz11_0
  try clear hcz11_1
  try clear hcz11_2
  try clear hcz11_3
  try clear hcz11_4
  try clear hcz11_5
  try clear hcz11_6
  try clear hcz11_7
  try clear hcz13_0
  try clear hcz13_1
  try clear hcz13_2
  try clear hcz13_3
  try clear hcz13_4
  try clear hcz13_5
  try clear hcz13_6
  try clear hcz13_7
  try clear hfz11_0
  try clear hfz11_1
  try clear hfz11_2
  try clear hfz11_3
  try clear hfz11_4
  try clear hfz11_5
  try clear hfz11_6
  try clear hfz11_7
  try clear hfz13_0
  try clear hfz13_1
  try clear hfz13_2
  try clear hfz13_3
  try clear hfz13_4
  try clear hfz13_5
  try clear hfz13_6
  try clear hfz13_7
  obtain ⟨x9_1,x19_1,rfl,HA,HK1,HO_9,BK84,BK86,BK85,HB⟩:=hrel
  cases gk with
  | zero=>exact absurd HA.out (by simp [scrub_Request.l0])
  | succ k1 =>
   have H:=HA.out
   clear HA
   simp only [scrub_Request.l0] at H
   by_cases c14:x19_1 < (l1_2.length:Int)
   ·rw [if_pos c14] at H
    have c14b0:decide (x19_1 < (l1_2.length:Int))=true:=decide_eq_true c14
    clear c14
    by_cases c15:0 ≤ x19_1
    ·rw [if_pos c15] at H
     have c15b0:decide (0 ≤ x19_1)=true:=decide_eq_true c15
     clear c15
     by_cases c16:x19_1 < (l1_2.length:Int)
     ·rw [if_pos c16] at H
      have c16b0:decide (x19_1 < (l1_2.length:Int))=true:=decide_eq_true c16
      clear c16
      by_cases c17:x9_1.length < 8796093022208
      ·rw [if_pos c17] at H
       have LMc17:=Aside0.mk c17
       clear c17
       obtain ⟨y97,hy97⟩ : ∃ y_:List ByteArray,y_=(x9_1 ++ [(rd_T55 l1_2 x19_1).f0]):=⟨_,rfl⟩
       replace H:(scrub_Request.l0 k1 a2 a3 y97 l1_2 (l1_2.length:Int) (wrap64 (x19_1 + 1)) a0_0 a0_1 a0_2 l0_3 l0_4 l1_0 l1_1 l1_2 l1_3 a1_4 a1_5 a1_6 a1_7)=some (r1,r2,r3,r4,r5):=by first|(rw [hy97];with_reducible exact H)|(have H2_:=(Option.bind_some _ _).symm.trans H;rw [hy97];with_reducible exact H2_)|(have H2_:=(Option.bind_some _ _).symm.trans H;with_reducible exact H2_)|with_reducible exact H|(rw [hy97];exact H)|exact H
       have Ny97:=Aside0.mk hy97
       clear hy97
       have H' := Aside0.mk H
       clear H
       have p89:0 ≤ (x19_1:Int):=of_decide_eq_true (by first|(with_reducible assumption)|assumption)
       have q89:x19_1 < (l1_2.length:Int):=of_decide_eq_true (by first|(with_reducible assumption)|assumption)
       obtain ⟨ad89,e89,hx89_0,hx89_1⟩:=at_T55 HR1_2.out x19_1 p89 q89
       cases e89
       replace hx89_0:=(HB.out.cell (World.block_lt_of_cell? w _ hx89_0)).trans hx89_0
       replace hx89_1:=(HB.out.cell (World.block_lt_of_cell? w _ hx89_1)).trans hx89_1
       replace p89:=eq_true p89
       replace q89:=eq_true q89
       go_wp2_with (first|((with_reducible refine gate_dst (N:=11) rfl ?_);refine box_event ?hg (N:=11) ?hd (cs:=#[.string (⟨#[]⟩:ByteArray),.string (⟨#[]⟩:ByteArray)]) (t:=55) ?hr ?_;(case hd=>rfl);(case hg=>rfl);(case hr=>first|(go_simp;done)|(go_simp;rfl));intro gb87 hg w18 hbox hb;have n0_:=Aside0.mk (Kd.R_below (by (with_reducible repeat (first|apply Kd.R_alloc|apply Kd.R_drewN|apply Kd.R_drew));exact HO_9.out) hb);have n1_:=Aside0.mk (blk_below (g:=gb84) (o:=.cells #[.string a0_0,.string a0_1,.int .i64 a0_2,.slice A0_3 l0_3.length c0_3,.slice A0_4 l0_4.length c0_4] 33 (0,0)) (by (with_reducible repeat (first|refine blk_drewN ?_ _|refine blk_drew ?_|refine blk_alloc ?_ _));exact BK84.out) hb);have n2_:=Aside0.mk (blk_below (g:=gb86) (o:=.cells #[.slice A1_0 l1_0.length c1_0,.slice A1_1 l1_1.length c1_1,.slice (some ad89) l1_2.length c1_2,.slice A1_3 l1_3.length c1_3,.int .i64 a1_4,.int .i64 a1_5,.int .i64 a1_6,.int .i64 a1_7] 59 (0,0)) (by (with_reducible repeat (first|refine blk_drewN ?_ _|refine blk_drew ?_|refine blk_alloc ?_ _));exact BK86.out) hb);have n3_:=Aside0.mk (blk_below (g:=gb85) (o:=.cells #[.string (⟨#[]⟩:ByteArray),.string (⟨#[]⟩:ByteArray),.int .i64 0,.slice none 0 0,.slice none 0 0] 33 (0,0)) (by (with_reducible repeat (first|refine blk_drewN ?_ _|refine blk_drew ?_|refine blk_alloc ?_ _));exact BK85.out) hb);have n4_:=Aside0.mk (below_step (by repeat (first|(with_reducible first|exact HB.out|apply below_alloc|apply pw_below_drewN|apply below_drew1|refine below_set ?_ GE84.out|refine below_set ?_ GE86.out|refine below_set ?_ GE85.out)|exact HB.out)) hb);have n5_:=Aside0.mk (hbox);have n6_:=Aside0.mk ((by rw [hg];exact (below_size (by repeat (first|(with_reducible first|exact HB.out|apply below_alloc|apply pw_below_drewN|apply below_drew1|refine below_set ?_ GE84.out|refine below_set ?_ GE86.out|refine below_set ?_ GE85.out)|exact HB.out))):w.heap.size ≤ gb87));have n7_:=Aside0.mk ((by rw [hg];exact (below_size (by repeat (first|(with_reducible first|exact HB.out|apply below_alloc|apply pw_below_drewN|apply below_drew1|refine below_set ?_ GE84.out|refine below_set ?_ GE86.out|refine below_set ?_ GE85.out)|exact HB.out))):w.heap.size ≤ gb87));have n8_:=Aside0.mk ((by rw [hg];exact Nat.ne_of_lt (blk_lt (g:=gb84) (o:=.cells #[.string a0_0,.string a0_1,.int .i64 a0_2,.slice A0_3 l0_3.length c0_3,.slice A0_4 l0_4.length c0_4] 33 (0,0)) (by (with_reducible repeat (first|refine blk_drewN ?_ _|refine blk_drew ?_|refine blk_alloc ?_ _));exact BK84.out)):gb84 ≠ gb87));have n9_:=Aside0.mk ((by rw [hg];exact Nat.ne_of_gt (blk_lt (g:=gb84) (o:=.cells #[.string a0_0,.string a0_1,.int .i64 a0_2,.slice A0_3 l0_3.length c0_3,.slice A0_4 l0_4.length c0_4] 33 (0,0)) (by (with_reducible repeat (first|refine blk_drewN ?_ _|refine blk_drew ?_|refine blk_alloc ?_ _));exact BK84.out)):gb87 ≠ gb84));have n10_:=Aside0.mk ((by rw [hg];exact Nat.ne_of_lt (blk_lt (g:=gb86) (o:=.cells #[.slice A1_0 l1_0.length c1_0,.slice A1_1 l1_1.length c1_1,.slice (some ad89) l1_2.length c1_2,.slice A1_3 l1_3.length c1_3,.int .i64 a1_4,.int .i64 a1_5,.int .i64 a1_6,.int .i64 a1_7] 59 (0,0)) (by (with_reducible repeat (first|refine blk_drewN ?_ _|refine blk_drew ?_|refine blk_alloc ?_ _));exact BK86.out)):gb86 ≠ gb87));have n11_:=Aside0.mk ((by rw [hg];exact Nat.ne_of_gt (blk_lt (g:=gb86) (o:=.cells #[.slice A1_0 l1_0.length c1_0,.slice A1_1 l1_1.length c1_1,.slice (some ad89) l1_2.length c1_2,.slice A1_3 l1_3.length c1_3,.int .i64 a1_4,.int .i64 a1_5,.int .i64 a1_6,.int .i64 a1_7] 59 (0,0)) (by (with_reducible repeat (first|refine blk_drewN ?_ _|refine blk_drew ?_|refine blk_alloc ?_ _));exact BK86.out)):gb87 ≠ gb86));have n12_:=Aside0.mk ((by rw [hg];exact Nat.ne_of_lt (blk_lt (g:=gb85) (o:=.cells #[.string (⟨#[]⟩:ByteArray),.string (⟨#[]⟩:ByteArray),.int .i64 0,.slice none 0 0,.slice none 0 0] 33 (0,0)) (by (with_reducible repeat (first|refine blk_drewN ?_ _|refine blk_drew ?_|refine blk_alloc ?_ _));exact BK85.out)):gb85 ≠ gb87));have n13_:=Aside0.mk ((by rw [hg];exact Nat.ne_of_gt (blk_lt (g:=gb85) (o:=.cells #[.string (⟨#[]⟩:ByteArray),.string (⟨#[]⟩:ByteArray),.int .i64 0,.slice none 0 0,.slice none 0 0] 33 (0,0)) (by (with_reducible repeat (first|refine blk_drewN ?_ _|refine blk_drew ?_|refine blk_alloc ?_ _));exact BK85.out)):gb87 ≠ gb85));clear HO_9;clear BK84;clear BK86;clear BK85;clear HB;have HO_9:=n0_;have BK84:=n1_;have BK86:=n2_;have BK85:=n3_;have HB:=n4_;have BK87:=n5_;have GW87:=n6_;have GE87:=n7_;have NB84_317:=n8_;have NB87_310:=n9_;have NB86_317:=n10_;have NB87_311:=n11_;have NB85_317:=n12_;have NB87_312:=n13_;clear n0_ n1_ n2_ n3_ n4_ n5_ n6_ n7_ n8_ n9_ n10_ n11_ n12_ n13_;clear hb hbox hg;have hnb19:=NB87_310.out;have hnc19:=NB84_317.out;have hnb20:=NB87_311.out;have hnc20:=NB86_317.out;have hnb21:=NB87_312.out;have hnc21:=NB85_317.out;have hcz22_0:w18.cell? ⟨gb87,0,none⟩=some (.string (⟨#[]⟩:ByteArray)):=(blk_cell BK87.out 0).trans rfl;have hcz22_1:w18.cell? ⟨gb87,1,none⟩=some (.string (⟨#[]⟩:ByteArray)):=(blk_cell BK87.out 1).trans rfl;have hfz22_0:=blk_frozen BK87.out 0;have hfz22_1:=blk_frozen BK87.out 1)|((with_reducible refine gate_builtin (b:=.append) (xs:=#[.tmp 23,.tmp 26]) rfl ?_);at_builtin;refine Kd.R_append Kd.string (w0:=w) w.heap.size rfl (.tmp 23) (.tmp 26) 44 9 (.string ⟨#[]⟩) 16 rfl Tryz.underlying44 info9 rfl (by decide) (by omega) u9 x9_1 ((rd_T55 l1_2 x19_1).f0) [.string ((rd_T55 l1_2 x19_1).f0)] (fun _=>True) (fun _=>False) rfl (by first|(go_simp;done)|(go_simp;rfl)) ?aP (fun _ hk=>hk.elim) ?aF ?aO ?aB ?aS ?aL ?_;(case aP=>exact rfl);(case aB=>exact (by repeat (first|(with_reducible first|exact HB.out|apply below_alloc|apply pw_below_drewN|apply below_drew1|refine below_set ?_ GE84.out|refine below_set ?_ GE86.out|refine below_set ?_ GE85.out|refine below_set ?_ GE87.out)|exact HB.out)));(case aF=>exact (fun _ _=>trivial));(case aO=>exact (by (with_reducible repeat (first|apply Kd.R_alloc|apply Kd.R_drewN|apply Kd.R_drew));exact Kd.R_mono (Kd.R_far (p:=⟨gb87,1,none⟩) (Kd.R_far (p:=⟨gb87,0,none⟩) (Kd.R_types HO_9.out BK87.out (by decide)) (fun _ hk=>hk.2) (.string ((rd_T55 l1_2 x19_1).f0))) (fun _ hk=>hk.2) (.string ((rd_T55 l1_2 x19_1).f1))) (fun _ hk=>trivial)));(case aS=>exact (below_size (by repeat (first|(with_reducible first|exact HB.out|apply below_alloc|apply pw_below_drewN|apply below_drew1|refine below_set ?_ GE84.out|refine below_set ?_ GE86.out|refine below_set ?_ GE85.out|refine below_set ?_ GE87.out)|exact HB.out))));(case aL=>have:=LMc17.out;omega);intro v319 w23 ho hb hg hat;rw [← Ny97.out] at ho;have n0_:=Aside0.mk (blk_grown (g:=gb84) (o:=.cells #[.string a0_0,.string a0_1,.int .i64 a0_2,.slice A0_3 l0_3.length c0_3,.slice A0_4 l0_4.length c0_4] 33 (0,0)) (by (with_reducible repeat (first|refine blk_drewN ?_ _|refine blk_drew ?_|refine blk_alloc ?_ _));refine blk_far ?_ NB84_317.out _;(with_reducible repeat (first|refine blk_drewN ?_ _|refine blk_drew ?_|refine blk_alloc ?_ _));refine blk_far ?_ NB84_317.out _;(with_reducible repeat (first|refine blk_drewN ?_ _|refine blk_drew ?_|refine blk_alloc ?_ _));exact BK84.out) hg (Kd.R_ne HO_9.out BK84.out (by decide)));have n1_:=Aside0.mk (blk_grown (g:=gb86) (o:=.cells #[.slice A1_0 l1_0.length c1_0,.slice A1_1 l1_1.length c1_1,.slice (some ad89) l1_2.length c1_2,.slice A1_3 l1_3.length c1_3,.int .i64 a1_4,.int .i64 a1_5,.int .i64 a1_6,.int .i64 a1_7] 59 (0,0)) (by (with_reducible repeat (first|refine blk_drewN ?_ _|refine blk_drew ?_|refine blk_alloc ?_ _));refine blk_far ?_ NB86_317.out _;(with_reducible repeat (first|refine blk_drewN ?_ _|refine blk_drew ?_|refine blk_alloc ?_ _));refine blk_far ?_ NB86_317.out _;(with_reducible repeat (first|refine blk_drewN ?_ _|refine blk_drew ?_|refine blk_alloc ?_ _));exact BK86.out) hg (Kd.R_ne HO_9.out BK86.out (by decide)));have n2_:=Aside0.mk (blk_grown (g:=gb85) (o:=.cells #[.string (⟨#[]⟩:ByteArray),.string (⟨#[]⟩:ByteArray),.int .i64 0,.slice none 0 0,.slice none 0 0] 33 (0,0)) (by (with_reducible repeat (first|refine blk_drewN ?_ _|refine blk_drew ?_|refine blk_alloc ?_ _));refine blk_far ?_ NB85_317.out _;(with_reducible repeat (first|refine blk_drewN ?_ _|refine blk_drew ?_|refine blk_alloc ?_ _));refine blk_far ?_ NB85_317.out _;(with_reducible repeat (first|refine blk_drewN ?_ _|refine blk_drew ?_|refine blk_alloc ?_ _));exact BK85.out) hg (Kd.R_ne HO_9.out BK85.out (by decide)));have n3_:=Aside0.mk (blk_grown (g:=gb87) (o:=.cells #[.string ((rd_T55 l1_2 x19_1).f0),.string ((rd_T55 l1_2 x19_1).f1)] 55 (0,0)) (by (with_reducible repeat (first|refine blk_drewN ?_ _|refine blk_drew ?_|refine blk_alloc ?_ _));refine blk_put (cs:=#[.string ((rd_T55 l1_2 x19_1).f0),.string (⟨#[]⟩:ByteArray)]) ?_ 1 _ rfl;(with_reducible repeat (first|refine blk_drewN ?_ _|refine blk_drew ?_|refine blk_alloc ?_ _));refine blk_put (cs:=#[.string (⟨#[]⟩:ByteArray),.string (⟨#[]⟩:ByteArray)]) ?_ 0 _ rfl;(with_reducible repeat (first|refine blk_drewN ?_ _|refine blk_drew ?_|refine blk_alloc ?_ _));exact BK87.out) hg (Kd.R_ne HO_9.out BK87.out (by decide)));have n4_:=Aside0.mk (hb);have n5_:=Aside0.mk (ho);clear BK84;clear BK86;clear BK85;clear BK87;clear HB;clear HO_9;have BK84:=n0_;have BK86:=n1_;have BK85:=n2_;have BK87:=n3_;have HB:=n4_;have HO320:=n5_;clear n0_ n1_ n2_ n3_ n4_ n5_;clear ho hb hg hat))
       go_roundg k1
       case measure=>have:=HK1.out;omega
       case rel=>exact ⟨(y97),(wrap64 (x19_1 + 1)),(by first|rfl|(simp;done)|(simp [*];done)),H',⟨by have:=HK1.out;omega⟩,⟨by (with_reducible repeat (first|apply Kd.R_alloc|apply Kd.R_drewN|apply Kd.R_drew));exact HO320.out⟩,⟨by (with_reducible repeat (first|refine blk_drewN ?_ _|refine blk_drew ?_|refine blk_alloc ?_ _));exact BK84.out⟩,⟨by (with_reducible repeat (first|refine blk_drewN ?_ _|refine blk_drew ?_|refine blk_alloc ?_ _));exact BK86.out⟩,⟨by (with_reducible repeat (first|refine blk_drewN ?_ _|refine blk_drew ?_|refine blk_alloc ?_ _));exact BK85.out⟩,⟨by repeat (first|(with_reducible first|exact HB.out|apply below_alloc|apply pw_below_drewN|apply below_drew1|refine below_set ?_ GE84.out|refine below_set ?_ GE86.out|refine below_set ?_ GE85.out|refine below_set ?_ GE87.out)|exact HB.out)⟩⟩
      ·rw [if_neg c17] at H
       exact absurd H (by simp)
     ·rw [if_neg c16] at H
      exact absurd H (by simp)
    ·rw [if_neg c15] at H
     exact absurd H (by simp)
   ·rw [if_neg c14] at H
    have c14b0:decide (x19_1 < (l1_2.length:Int))=false:=decide_eq_false c14
    clear c14
    obtain ⟨y91,hy91⟩ : ∃ y_:List (S55),y_=(([(⟨(⟨#[72,111,115,116]⟩:ByteArray),a2⟩:S55)]:List (S55))):=⟨_,rfl⟩
    replace H:((scrub_onward.f k1 l0_3).bind fun t98=>((field_Without.f k1 t98 x9_1).bind fun t92=>(if y91.length + t92.length < 4398046511104 then ((some (y91 ++ t92:List (S55))).bind fun y90=>(if y90.length + l1_2.length < 4398046511104 then ((some (y90 ++ l1_2:List (S55))).bind fun y88=>(if (l0_4.length:Int) > 0 then (scrub_Request.j1 k1 a3 y88 (decide ((l0_4.length:Int) > 0)) a0_0 a0_1 a0_2 l0_3 l0_4) else (if a0_0.toList=([80,79,83,84]:List UInt8) then (scrub_Request.j1 k1 a3 y88 (a0_0.toList == ([80,79,83,84]:List UInt8)) a0_0 a0_1 a0_2 l0_3 l0_4) else (if a0_0.toList=([80,85,84]:List UInt8) then (scrub_Request.j1 k1 a3 y88 (a0_0.toList == ([80,85,84]:List UInt8)) a0_0 a0_1 a0_2 l0_3 l0_4) else (scrub_Request.j1 k1 a3 y88 (a0_0.toList == ([80,65,84,67,72]:List UInt8)) a0_0 a0_1 a0_2 l0_3 l0_4))))) else (none))) else (none))))=some (r1,r2,r3,r4,r5):=by first|(rw [hy91];with_reducible exact H)|(have H2_:=(Option.bind_some _ _).symm.trans H;rw [hy91];with_reducible exact H2_)|(have H2_:=(Option.bind_some _ _).symm.trans H;with_reducible exact H2_)|with_reducible exact H|(rw [hy91];exact H)|exact H
    have Ny91:=Aside0.mk hy91
    clear hy91
    replace H:=Option.bind_eq_some_iff.mp H
    obtain ⟨t98,A240,H⟩:=H
    replace H:((field_Without.f k1 t98 x9_1).bind fun t92=>(if y91.length + t92.length < 4398046511104 then ((some (y91 ++ t92:List (S55))).bind fun y90=>(if y90.length + l1_2.length < 4398046511104 then ((some (y90 ++ l1_2:List (S55))).bind fun y88=>(if (l0_4.length:Int) > 0 then (scrub_Request.j1 k1 a3 y88 (decide ((l0_4.length:Int) > 0)) a0_0 a0_1 a0_2 l0_3 l0_4) else (if a0_0.toList=([80,79,83,84]:List UInt8) then (scrub_Request.j1 k1 a3 y88 (a0_0.toList == ([80,79,83,84]:List UInt8)) a0_0 a0_1 a0_2 l0_3 l0_4) else (if a0_0.toList=([80,85,84]:List UInt8) then (scrub_Request.j1 k1 a3 y88 (a0_0.toList == ([80,85,84]:List UInt8)) a0_0 a0_1 a0_2 l0_3 l0_4) else (scrub_Request.j1 k1 a3 y88 (a0_0.toList == ([80,65,84,67,72]:List UInt8)) a0_0 a0_1 a0_2 l0_3 l0_4))))) else (none))) else (none)))=some (r1,r2,r3,r4,r5):=H
    have A24:=Aside0.mk A240
    clear A240
    replace H:=Option.bind_eq_some_iff.mp H
    obtain ⟨t92,A250,H⟩:=H
    replace H:(if y91.length + t92.length < 4398046511104 then ((some (y91 ++ t92:List (S55))).bind fun y90=>(if y90.length + l1_2.length < 4398046511104 then ((some (y90 ++ l1_2:List (S55))).bind fun y88=>(if (l0_4.length:Int) > 0 then (scrub_Request.j1 k1 a3 y88 (decide ((l0_4.length:Int) > 0)) a0_0 a0_1 a0_2 l0_3 l0_4) else (if a0_0.toList=([80,79,83,84]:List UInt8) then (scrub_Request.j1 k1 a3 y88 (a0_0.toList == ([80,79,83,84]:List UInt8)) a0_0 a0_1 a0_2 l0_3 l0_4) else (if a0_0.toList=([80,85,84]:List UInt8) then (scrub_Request.j1 k1 a3 y88 (a0_0.toList == ([80,85,84]:List UInt8)) a0_0 a0_1 a0_2 l0_3 l0_4) else (scrub_Request.j1 k1 a3 y88 (a0_0.toList == ([80,65,84,67,72]:List UInt8)) a0_0 a0_1 a0_2 l0_3 l0_4))))) else (none))) else (none))=some (r1,r2,r3,r4,r5):=H
    have A25:=Aside0.mk A250
    clear A250
    by_cases c26:y91.length + t92.length < 4398046511104
    ·rw [if_pos c26] at H
     have LMc26:=Aside0.mk c26
     clear c26
     obtain ⟨y90,hy90⟩ : ∃ y_:List (S55),y_=(y91 ++ t92):=⟨_,rfl⟩
     replace H:(if y90.length + l1_2.length < 4398046511104 then ((some (y90 ++ l1_2:List (S55))).bind fun y88=>(if (l0_4.length:Int) > 0 then (scrub_Request.j1 k1 a3 y88 (decide ((l0_4.length:Int) > 0)) a0_0 a0_1 a0_2 l0_3 l0_4) else (if a0_0.toList=([80,79,83,84]:List UInt8) then (scrub_Request.j1 k1 a3 y88 (a0_0.toList == ([80,79,83,84]:List UInt8)) a0_0 a0_1 a0_2 l0_3 l0_4) else (if a0_0.toList=([80,85,84]:List UInt8) then (scrub_Request.j1 k1 a3 y88 (a0_0.toList == ([80,85,84]:List UInt8)) a0_0 a0_1 a0_2 l0_3 l0_4) else (scrub_Request.j1 k1 a3 y88 (a0_0.toList == ([80,65,84,67,72]:List UInt8)) a0_0 a0_1 a0_2 l0_3 l0_4))))) else (none))=some (r1,r2,r3,r4,r5):=by first|(rw [hy90];with_reducible exact H)|(have H2_:=(Option.bind_some _ _).symm.trans H;rw [hy90];with_reducible exact H2_)|(have H2_:=(Option.bind_some _ _).symm.trans H;with_reducible exact H2_)|with_reducible exact H|(rw [hy90];exact H)|exact H
     have Ny90:=Aside0.mk hy90
     clear hy90
     by_cases c27:y90.length + l1_2.length < 4398046511104
     ·rw [if_pos c27] at H
      have LMc27:=Aside0.mk c27
      clear c27
      obtain ⟨y88,hy88⟩ : ∃ y_:List (S55),y_=(y90 ++ l1_2):=⟨_,rfl⟩
      replace H:(if (l0_4.length:Int) > 0 then (scrub_Request.j1 k1 a3 y88 (decide ((l0_4.length:Int) > 0)) a0_0 a0_1 a0_2 l0_3 l0_4) else (if a0_0.toList=([80,79,83,84]:List UInt8) then (scrub_Request.j1 k1 a3 y88 (a0_0.toList == ([80,79,83,84]:List UInt8)) a0_0 a0_1 a0_2 l0_3 l0_4) else (if a0_0.toList=([80,85,84]:List UInt8) then (scrub_Request.j1 k1 a3 y88 (a0_0.toList == ([80,85,84]:List UInt8)) a0_0 a0_1 a0_2 l0_3 l0_4) else (scrub_Request.j1 k1 a3 y88 (a0_0.toList == ([80,65,84,67,72]:List UInt8)) a0_0 a0_1 a0_2 l0_3 l0_4))))=some (r1,r2,r3,r4,r5):=by first|(rw [hy88];with_reducible exact H)|(have H2_:=(Option.bind_some _ _).symm.trans H;rw [hy88];with_reducible exact H2_)|(have H2_:=(Option.bind_some _ _).symm.trans H;with_reducible exact H2_)|with_reducible exact H|(rw [hy88];exact H)|exact H
      have Ny88:=Aside0.mk hy88
      clear hy88
      have HC28:=Aside0.mk H
      clear H
      go_upto_if 42 with (first|((with_reducible refine gate_dst (N:=31) rfl ?_);refine Kd.R_lit k55 _ 55 ?hg (N:=31) ?hd (xs:=([(⟨(⟨#[72,111,115,116]⟩:ByteArray),a2⟩:S55)]:List (S55))) (inner:=[.string (⟨#[72,111,115,116]⟩:ByteArray),.string a2]) (ok:=fun _=>True) (okp:=fun _=>True) ?hr ?hp (fun _ hk=>hk) trivial (Below.refl _ _) (Nat.le_refl _) (by simp) ?_;(case hd=>rfl);(case hg=>rfl);(case hr=>first|(go_simp;done)|(go_simp;rfl));(case hp=>exact (Reps.c2 (show Kd.M k55 _ _ _ (⟨(⟨#[72,111,115,116]⟩:ByteArray),a2⟩:S55) [.string (⟨#[72,111,115,116]⟩:ByteArray),.string a2] from (k55_mkM _ _ _ (⟨(⟨#[72,111,115,116]⟩:ByteArray),a2⟩:S55) )) (Reps.none _ _)));intro v322 w29 ho30 hb hg_ hnew_;clear hg_ hnew_;(first|rw [← Ny91.out] at ho30|(simp only [Int.reduceToNat] at ho30;rw [← Ny91.out] at ho30));have n0_:=Aside0.mk (Kd.R_below (by (with_reducible repeat (first|apply Kd.R_alloc|apply Kd.R_drewN|apply Kd.R_drew));exact HO_9.out) hb);have n1_:=Aside0.mk (Kd.R_lower ho30 (below_size (by repeat (first|(with_reducible first|exact HB.out|apply below_alloc|apply pw_below_drewN|apply below_drew1|refine below_set ?_ GE84.out|refine below_set ?_ GE86.out|refine below_set ?_ GE85.out)|exact HB.out))));have n2_:=Aside0.mk (blk_below (g:=gb84) (o:=.cells #[.string a0_0,.string a0_1,.int .i64 a0_2,.slice A0_3 l0_3.length c0_3,.slice A0_4 l0_4.length c0_4] 33 (0,0)) (by (with_reducible repeat (first|refine blk_drewN ?_ _|refine blk_drew ?_|refine blk_alloc ?_ _));exact BK84.out) hb);have n3_:=Aside0.mk (blk_below (g:=gb86) (o:=.cells #[.slice A1_0 l1_0.length c1_0,.slice A1_1 l1_1.length c1_1,.slice A1_2 l1_2.length c1_2,.slice A1_3 l1_3.length c1_3,.int .i64 a1_4,.int .i64 a1_5,.int .i64 a1_6,.int .i64 a1_7] 59 (0,0)) (by (with_reducible repeat (first|refine blk_drewN ?_ _|refine blk_drew ?_|refine blk_alloc ?_ _));exact BK86.out) hb);have n4_:=Aside0.mk (blk_below (g:=gb85) (o:=.cells #[.string (⟨#[]⟩:ByteArray),.string (⟨#[]⟩:ByteArray),.int .i64 0,.slice none 0 0,.slice none 0 0] 33 (0,0)) (by (with_reducible repeat (first|refine blk_drewN ?_ _|refine blk_drew ?_|refine blk_alloc ?_ _));exact BK85.out) hb);have n5_:=Aside0.mk (below_step (by repeat (first|(with_reducible first|exact HB.out|apply below_alloc|apply pw_below_drewN|apply below_drew1|refine below_set ?_ GE84.out|refine below_set ?_ GE86.out|refine below_set ?_ GE85.out)|exact HB.out)) hb);clear HO_9;clear BK84;clear BK86;clear BK85;clear HB;have HO_9:=n0_;have HO94:=n1_;have BK84:=n2_;have BK86:=n3_;have BK85:=n4_;have HB:=n5_;clear n0_ n1_ n2_ n3_ n4_ n5_;clear hb ho30;have hnb31:=NB84_311.out;have hnc31:=NB86_310.out;have hnb32:=NB84_312.out;have hnc32:=NB85_310.out;have hcz33_0:w29.cell? ⟨gb84,0,none⟩=some (.string a0_0):=(blk_cell BK84.out 0).trans rfl;have hcz33_1:w29.cell? ⟨gb84,1,none⟩=some (.string a0_1):=(blk_cell BK84.out 1).trans rfl;have hcz33_2:w29.cell? ⟨gb84,2,none⟩=some (.int .i64 a0_2):=(blk_cell BK84.out 2).trans rfl;have hcz33_3:w29.cell? ⟨gb84,3,none⟩=some (.slice A0_3 l0_3.length c0_3):=(blk_cell BK84.out 3).trans rfl;have hcz33_4:w29.cell? ⟨gb84,4,none⟩=some (.slice A0_4 l0_4.length c0_4):=(blk_cell BK84.out 4).trans rfl;have hfz33_0:=blk_frozen BK84.out 0;have hfz33_1:=blk_frozen BK84.out 1;have hfz33_2:=blk_frozen BK84.out 2;have hfz33_3:=blk_frozen BK84.out 3;have hfz33_4:=blk_frozen BK84.out 4)|((with_reducible refine gate_callee (f:=43) rfl ?_);refine goesL_ (some 34) rfl rfl Tryz.func43 (by kernel_rfl) rfl #[.slice A0_3 l0_3.length c0_3] rfl (by (try simp only [List.map_toArray,List.map_cons,List.map_nil]);first|done|rfl|(simp only [List.length_drop,List.length_take];rfl)) ?_;(with_reducible refine (scrub_onward.calls k1 _ _ l0_3 t98 _ ?side1 ?side2 A24.out).mono ?_);(case side1=>repeat (first|exact (Kd.C_below HR0_3.out HB.out)|(with_reducible refine Kd.C_alloc ?_ _)|(with_reducible refine Kd.C_drewN ?_ _)|(with_reducible refine Kd.C_drew ?_)));(case side2=>exact HC0_3.out);rintro e w34 ⟨v325,rfl,ho0,hb⟩;refine ⟨_,rfl,?_⟩;have n0_:=Aside0.mk (Kd.R_below (by (with_reducible repeat (first|apply Kd.R_alloc|apply Kd.R_drewN|apply Kd.R_drew));exact HO_9.out) hb);have n1_:=Aside0.mk (Kd.R_elder' (by (with_reducible repeat (first|apply Kd.R_alloc|apply Kd.R_drewN|apply Kd.R_drew));exact HO94.out) (Kd.R_base ho0) hb);have n2_:=Aside0.mk (Kd.R_lower (Kd.R_new' ho0 (Kd.R_lt (by (with_reducible repeat (first|apply Kd.R_alloc|apply Kd.R_drewN|apply Kd.R_drew));exact HO94.out))) (below_size (by repeat (first|(with_reducible first|exact HB.out|apply below_alloc|apply pw_below_drewN|apply below_drew1|refine below_set ?_ GE84.out|refine below_set ?_ GE86.out|refine below_set ?_ GE85.out)|exact HB.out))));have n3_:=Aside0.mk (blk_below (g:=gb84) (o:=.cells #[.string a0_0,.string a0_1,.int .i64 a0_2,.slice A0_3 l0_3.length c0_3,.slice A0_4 l0_4.length c0_4] 33 (0,0)) (by (with_reducible repeat (first|refine blk_drewN ?_ _|refine blk_drew ?_|refine blk_alloc ?_ _));exact BK84.out) hb);have n4_:=Aside0.mk (blk_below (g:=gb86) (o:=.cells #[.slice A1_0 l1_0.length c1_0,.slice A1_1 l1_1.length c1_1,.slice A1_2 l1_2.length c1_2,.slice A1_3 l1_3.length c1_3,.int .i64 a1_4,.int .i64 a1_5,.int .i64 a1_6,.int .i64 a1_7] 59 (0,0)) (by (with_reducible repeat (first|refine blk_drewN ?_ _|refine blk_drew ?_|refine blk_alloc ?_ _));exact BK86.out) hb);have n5_:=Aside0.mk (blk_below (g:=gb85) (o:=.cells #[.string (⟨#[]⟩:ByteArray),.string (⟨#[]⟩:ByteArray),.int .i64 0,.slice none 0 0,.slice none 0 0] 33 (0,0)) (by (with_reducible repeat (first|refine blk_drewN ?_ _|refine blk_drew ?_|refine blk_alloc ?_ _));exact BK85.out) hb);have n6_:=Aside0.mk (below_step (by repeat (first|(with_reducible first|exact HB.out|apply below_alloc|apply pw_below_drewN|apply below_drew1|refine below_set ?_ GE84.out|refine below_set ?_ GE86.out|refine below_set ?_ GE85.out)|exact HB.out)) hb);clear HO_9;clear HO94;clear BK84;clear BK86;clear BK85;clear HB;have HO_9:=n0_;have HO94:=n1_;have HO93:=n2_;have BK84:=n3_;have BK86:=n4_;have BK85:=n5_;have HB:=n6_;clear n0_ n1_ n2_ n3_ n4_ n5_ n6_;(try clear hb);(try clear hb2);(try clear hk);(try clear hi);(try clear ho0);obtain ⟨Ao35,co35,eo35⟩:=Kd.R_slice HO93.out;subst eo35;obtain ⟨Ao36,co36,eo36⟩:=Kd.R_slice HO_9.out;subst eo36)|((with_reducible refine gate_callee (f:=81) rfl ?_);refine goesL_ (some 36) rfl rfl Tryz.func81 (by kernel_rfl) rfl #[.slice Ao35 t98.length co35,.slice Ao36 x9_1.length co36] rfl (by (try simp only [List.map_toArray,List.map_cons,List.map_nil]);first|done|rfl|(simp only [List.length_drop,List.length_take];rfl)) ?_;(with_reducible refine (field_Without.calls k1 _ _ t98 _ _ x9_1 t92 _ ?side1 ?side2 ?side3 ?side4 A25.out).mono ?_);(case side1=>repeat (first|exact (Kd.R_reads' HO93.out).2.2|(with_reducible refine Kd.C_alloc ?_ _)|(with_reducible refine Kd.C_drewN ?_ _)|(with_reducible refine Kd.C_drew ?_)));(case side2=>exact (Kd.R_reads' HO93.out).2.1);(case side3=>repeat (first|exact (Kd.R_reads' HO_9.out).2.2|(with_reducible refine Kd.C_alloc ?_ _)|(with_reducible refine Kd.C_drewN ?_ _)|(with_reducible refine Kd.C_drew ?_)));(case side4=>exact (Kd.R_reads' HO_9.out).2.1);rintro e w37 ⟨v328,rfl,ho0,hb⟩;refine ⟨_,rfl,?_⟩;have n0_:=Aside0.mk (Kd.R_below (by (with_reducible repeat (first|apply Kd.R_alloc|apply Kd.R_drewN|apply Kd.R_drew));exact HO_9.out) hb);have n1_:=Aside0.mk (Kd.R_elder' (by (with_reducible repeat (first|apply Kd.R_alloc|apply Kd.R_drewN|apply Kd.R_drew));exact HO94.out) (Kd.R_base ho0) hb);have n2_:=Aside0.mk (Kd.R_elder' (by (with_reducible repeat (first|apply Kd.R_alloc|apply Kd.R_drewN|apply Kd.R_drew));exact HO93.out) (Kd.R_base ho0) hb);have n3_:=Aside0.mk (Kd.R_lower (Kd.R_new' (Kd.R_new' ho0 (Kd.R_lt (by (with_reducible repeat (first|apply Kd.R_alloc|apply Kd.R_drewN|apply Kd.R_drew));exact HO94.out))) (Kd.R_lt (by (with_reducible repeat (first|apply Kd.R_alloc|apply Kd.R_drewN|apply Kd.R_drew));exact HO93.out))) (below_size (by repeat (first|(with_reducible first|exact HB.out|apply below_alloc|apply pw_below_drewN|apply below_drew1|refine below_set ?_ GE84.out|refine below_set ?_ GE86.out|refine below_set ?_ GE85.out)|exact HB.out))));have n4_:=Aside0.mk (blk_below (g:=gb84) (o:=.cells #[.string a0_0,.string a0_1,.int .i64 a0_2,.slice A0_3 l0_3.length c0_3,.slice A0_4 l0_4.length c0_4] 33 (0,0)) (by (with_reducible repeat (first|refine blk_drewN ?_ _|refine blk_drew ?_|refine blk_alloc ?_ _));exact BK84.out) hb);have n5_:=Aside0.mk (blk_below (g:=gb86) (o:=.cells #[.slice A1_0 l1_0.length c1_0,.slice A1_1 l1_1.length c1_1,.slice A1_2 l1_2.length c1_2,.slice A1_3 l1_3.length c1_3,.int .i64 a1_4,.int .i64 a1_5,.int .i64 a1_6,.int .i64 a1_7] 59 (0,0)) (by (with_reducible repeat (first|refine blk_drewN ?_ _|refine blk_drew ?_|refine blk_alloc ?_ _));exact BK86.out) hb);have n6_:=Aside0.mk (blk_below (g:=gb85) (o:=.cells #[.string (⟨#[]⟩:ByteArray),.string (⟨#[]⟩:ByteArray),.int .i64 0,.slice none 0 0,.slice none 0 0] 33 (0,0)) (by (with_reducible repeat (first|refine blk_drewN ?_ _|refine blk_drew ?_|refine blk_alloc ?_ _));exact BK85.out) hb);have n7_:=Aside0.mk (below_step (by repeat (first|(with_reducible first|exact HB.out|apply below_alloc|apply pw_below_drewN|apply below_drew1|refine below_set ?_ GE84.out|refine below_set ?_ GE86.out|refine below_set ?_ GE85.out)|exact HB.out)) hb);clear HO_9;clear HO94;clear HO93;clear BK84;clear BK86;clear BK85;clear HB;have HO_9:=n0_;have HO94:=n1_;have HO93:=n2_;have HO99:=n3_;have BK84:=n4_;have BK86:=n5_;have BK85:=n6_;have HB:=n7_;clear n0_ n1_ n2_ n3_ n4_ n5_ n6_ n7_;(try clear hb);(try clear hb2);(try clear hk);(try clear hi);(try clear ho0);obtain ⟨Ao39,co39,eo39⟩:=Kd.R_slice HO99.out;subst eo39)|((with_reducible refine gate_builtin (b:=.append) (xs:=#[.tmp 31,.tmp 36]) rfl ?_);at_builtin;refine Kd.R_append_rows k55 (w0:=w) w.heap.size rfl (.tmp 31) (.tmp 36) 22 55 (.agg #[(.string ⟨#[]⟩),(.string ⟨#[]⟩)]) 32 rfl Tryz.underlying22 info55 rfl (by decide) (by omega) v322 y91 t92 _ _ _ (fun k_=>some k_ ≠ (.slice Ao35 t98.length co35:Value).ownBlock∧some k_ ≠ (.slice Ao39 t92.length co39:Value).ownBlock) (fun _=>False) rfl rfl ?aO ?aR (fun _ _ h=>h) (fun _ h=>h.elim) ?aF ?aB ?aS ?aL ?_;(case aR=>repeat (first|exact (Kd.R_reads' HO99.out).2.2|(with_reducible refine Kd.C_alloc ?_ _)|(with_reducible refine Kd.C_drewN ?_ _)|(with_reducible refine Kd.C_drew ?_)));(case aB=>exact (by repeat (first|(with_reducible first|exact HB.out|apply below_alloc|apply pw_below_drewN|apply below_drew1|refine below_set ?_ GE84.out|refine below_set ?_ GE86.out|refine below_set ?_ GE85.out)|exact HB.out)));(case aF=>exact (fun k_ hk=>⟨Kd.fresh' (Kd.R_lt (by (with_reducible repeat (first|apply Kd.R_alloc|apply Kd.R_drewN|apply Kd.R_drew));exact HO93.out)) k_ hk,Kd.fresh' (Kd.R_lt (by (with_reducible repeat (first|apply Kd.R_alloc|apply Kd.R_drewN|apply Kd.R_drew));exact HO99.out)) k_ hk⟩));(case aO=>exact (by (with_reducible repeat (first|apply Kd.R_alloc|apply Kd.R_drewN|apply Kd.R_drew));exact Kd.R_mono HO94.out (fun _ hk=>⟨hk.1.2,hk.2⟩)));(case aS=>exact (below_size (by repeat (first|(with_reducible first|exact HB.out|apply below_alloc|apply pw_below_drewN|apply below_drew1|refine below_set ?_ GE84.out|refine below_set ?_ GE86.out|refine below_set ?_ GE85.out)|exact HB.out))));(case aL=>have:=LMc26.out;omega);intro v331 w38 ho hb hg hat;rw [← Ny90.out] at ho;have n0_:=Aside0.mk (Kd.R_over' (by (with_reducible repeat (first|apply Kd.R_alloc|apply Kd.R_drewN|apply Kd.R_drew));exact HO_9.out) (Kd.R_typed (by (with_reducible repeat (first|apply Kd.R_alloc|apply Kd.R_drewN|apply Kd.R_drew));exact HO94.out)) (by decide) hg);have n1_:=Aside0.mk (blk_grown (g:=gb84) (o:=.cells #[.string a0_0,.string a0_1,.int .i64 a0_2,.slice A0_3 l0_3.length c0_3,.slice A0_4 l0_4.length c0_4] 33 (0,0)) (by (with_reducible repeat (first|refine blk_drewN ?_ _|refine blk_drew ?_|refine blk_alloc ?_ _));exact BK84.out) hg (Kd.R_ne HO94.out BK84.out (by decide)));have n2_:=Aside0.mk (blk_grown (g:=gb86) (o:=.cells #[.slice A1_0 l1_0.length c1_0,.slice A1_1 l1_1.length c1_1,.slice A1_2 l1_2.length c1_2,.slice A1_3 l1_3.length c1_3,.int .i64 a1_4,.int .i64 a1_5,.int .i64 a1_6,.int .i64 a1_7] 59 (0,0)) (by (with_reducible repeat (first|refine blk_drewN ?_ _|refine blk_drew ?_|refine blk_alloc ?_ _));exact BK86.out) hg (Kd.R_ne HO94.out BK86.out (by decide)));have n3_:=Aside0.mk (blk_grown (g:=gb85) (o:=.cells #[.string (⟨#[]⟩:ByteArray),.string (⟨#[]⟩:ByteArray),.int .i64 0,.slice none 0 0,.slice none 0 0] 33 (0,0)) (by (with_reducible repeat (first|refine blk_drewN ?_ _|refine blk_drew ?_|refine blk_alloc ?_ _));exact BK85.out) hg (Kd.R_ne HO94.out BK85.out (by decide)));have n4_:=Aside0.mk (Kd.R_after (ok:=(fun k_=>some k_ ≠ (.slice Ao39 t92.length co39:Value).ownBlock)) (by (with_reducible repeat (first|apply Kd.R_alloc|apply Kd.R_drewN|apply Kd.R_drew));exact Kd.R_mono HO93.out (fun _ hk=>⟨hk.2,hk.1.2⟩)) hg hat);have n5_:=Aside0.mk (Kd.R_after (ok:=(fun k_=>some k_ ≠ (.slice Ao35 t98.length co35:Value).ownBlock)) (by (with_reducible repeat (first|apply Kd.R_alloc|apply Kd.R_drewN|apply Kd.R_drew));exact Kd.R_mono HO99.out (fun _ hk=>⟨hk.2,hk.1.2⟩)) hg hat);have n6_:=Aside0.mk (hb);have n7_:=Aside0.mk (ho);clear HO_9;clear BK84;clear BK86;clear BK85;clear HO93;clear HO99;clear HB;clear HO94;have HO_9:=n0_;have BK84:=n1_;have BK86:=n2_;have BK85:=n3_;have HO93:=n4_;have HO99:=n5_;have HB:=n6_;have HO332:=n7_;clear n0_ n1_ n2_ n3_ n4_ n5_ n6_ n7_;clear ho hb hg hat;have hnb40:=NB86_312.out;have hnc40:=NB85_311.out;have hcz41_0:w38.cell? ⟨gb86,0,none⟩=some (.slice A1_0 l1_0.length c1_0):=(blk_cell BK86.out 0).trans rfl;have hcz41_1:w38.cell? ⟨gb86,1,none⟩=some (.slice A1_1 l1_1.length c1_1):=(blk_cell BK86.out 1).trans rfl;have hcz41_2:w38.cell? ⟨gb86,2,none⟩=some (.slice A1_2 l1_2.length c1_2):=(blk_cell BK86.out 2).trans rfl;have hcz41_3:w38.cell? ⟨gb86,3,none⟩=some (.slice A1_3 l1_3.length c1_3):=(blk_cell BK86.out 3).trans rfl;have hcz41_4:w38.cell? ⟨gb86,4,none⟩=some (.int .i64 a1_4):=(blk_cell BK86.out 4).trans rfl;have hcz41_5:w38.cell? ⟨gb86,5,none⟩=some (.int .i64 a1_5):=(blk_cell BK86.out 5).trans rfl;have hcz41_6:w38.cell? ⟨gb86,6,none⟩=some (.int .i64 a1_6):=(blk_cell BK86.out 6).trans rfl;have hcz41_7:w38.cell? ⟨gb86,7,none⟩=some (.int .i64 a1_7):=(blk_cell BK86.out 7).trans rfl;have hfz41_0:=blk_frozen BK86.out 0;have hfz41_1:=blk_frozen BK86.out 1;have hfz41_2:=blk_frozen BK86.out 2;have hfz41_3:=blk_frozen BK86.out 3;have hfz41_4:=blk_frozen BK86.out 4;have hfz41_5:=blk_frozen BK86.out 5;have hfz41_6:=blk_frozen BK86.out 6;have hfz41_7:=blk_frozen BK86.out 7)|((with_reducible refine gate_builtin (b:=.append) (xs:=#[.tmp 38,.tmp 40]) rfl ?_);at_builtin;refine Kd.R_append_rows k55 (w0:=w) w.heap.size rfl (.tmp 38) (.tmp 40) 22 55 (.agg #[(.string ⟨#[]⟩),(.string ⟨#[]⟩)]) 32 rfl Tryz.underlying22 info55 rfl (by decide) (by omega) v331 y90 l1_2 _ _ _ (fun k_=>some k_ ≠ (.slice Ao35 t98.length co35:Value).ownBlock∧some k_ ≠ (.slice Ao39 t92.length co39:Value).ownBlock) (fun _=>False) rfl rfl ?aO ?aR (fun _ _ h=>h) (fun _ h=>h.elim) ?aF ?aB ?aS ?aL ?_;(case aR=>repeat (first|exact (Kd.C_below HR1_2.out HB.out)|(with_reducible refine Kd.C_alloc ?_ _)|(with_reducible refine Kd.C_drewN ?_ _)|(with_reducible refine Kd.C_drew ?_)));(case aB=>exact (by repeat (first|(with_reducible first|exact HB.out|apply below_alloc|apply pw_below_drewN|apply below_drew1|refine below_set ?_ GE84.out|refine below_set ?_ GE86.out|refine below_set ?_ GE85.out)|exact HB.out)));(case aF=>exact (fun k_ hk=>⟨Kd.fresh' (Kd.R_lt (by (with_reducible repeat (first|apply Kd.R_alloc|apply Kd.R_drewN|apply Kd.R_drew));exact HO93.out)) k_ hk,Kd.fresh' (Kd.R_lt (by (with_reducible repeat (first|apply Kd.R_alloc|apply Kd.R_drewN|apply Kd.R_drew));exact HO99.out)) k_ hk⟩));(case aO=>exact (by (with_reducible repeat (first|apply Kd.R_alloc|apply Kd.R_drewN|apply Kd.R_drew));exact HO332.out));(case aS=>exact (below_size (by repeat (first|(with_reducible first|exact HB.out|apply below_alloc|apply pw_below_drewN|apply below_drew1|refine below_set ?_ GE84.out|refine below_set ?_ GE86.out|refine below_set ?_ GE85.out)|exact HB.out))));(case aL=>have:=LMc27.out;omega);intro v334 w42 ho hb hg hat;rw [← Ny88.out] at ho;have n0_:=Aside0.mk (Kd.R_over' (by (with_reducible repeat (first|apply Kd.R_alloc|apply Kd.R_drewN|apply Kd.R_drew));exact HO_9.out) (Kd.R_typed (by (with_reducible repeat (first|apply Kd.R_alloc|apply Kd.R_drewN|apply Kd.R_drew));exact HO332.out)) (by decide) hg);have n1_:=Aside0.mk (blk_grown (g:=gb84) (o:=.cells #[.string a0_0,.string a0_1,.int .i64 a0_2,.slice A0_3 l0_3.length c0_3,.slice A0_4 l0_4.length c0_4] 33 (0,0)) (by (with_reducible repeat (first|refine blk_drewN ?_ _|refine blk_drew ?_|refine blk_alloc ?_ _));exact BK84.out) hg (Kd.R_ne HO332.out BK84.out (by decide)));have n2_:=Aside0.mk (blk_grown (g:=gb86) (o:=.cells #[.slice A1_0 l1_0.length c1_0,.slice A1_1 l1_1.length c1_1,.slice A1_2 l1_2.length c1_2,.slice A1_3 l1_3.length c1_3,.int .i64 a1_4,.int .i64 a1_5,.int .i64 a1_6,.int .i64 a1_7] 59 (0,0)) (by (with_reducible repeat (first|refine blk_drewN ?_ _|refine blk_drew ?_|refine blk_alloc ?_ _));exact BK86.out) hg (Kd.R_ne HO332.out BK86.out (by decide)));have n3_:=Aside0.mk (blk_grown (g:=gb85) (o:=.cells #[.string (⟨#[]⟩:ByteArray),.string (⟨#[]⟩:ByteArray),.int .i64 0,.slice none 0 0,.slice none 0 0] 33 (0,0)) (by (with_reducible repeat (first|refine blk_drewN ?_ _|refine blk_drew ?_|refine blk_alloc ?_ _));exact BK85.out) hg (Kd.R_ne HO332.out BK85.out (by decide)));have n4_:=Aside0.mk (Kd.R_after (ok:=(fun k_=>some k_ ≠ (.slice Ao39 t92.length co39:Value).ownBlock)) (by (with_reducible repeat (first|apply Kd.R_alloc|apply Kd.R_drewN|apply Kd.R_drew));exact HO93.out) hg hat);have n5_:=Aside0.mk (Kd.R_after (ok:=(fun k_=>some k_ ≠ (.slice Ao35 t98.length co35:Value).ownBlock)) (by (with_reducible repeat (first|apply Kd.R_alloc|apply Kd.R_drewN|apply Kd.R_drew));exact HO99.out) hg hat);have n6_:=Aside0.mk (hb);have n7_:=Aside0.mk (ho);clear HO_9;clear BK84;clear BK86;clear BK85;clear HO93;clear HO99;clear HB;clear HO332;have HO_9:=n0_;have BK84:=n1_;have BK86:=n2_;have BK85:=n3_;have HO93:=n4_;have HO99:=n5_;have HB:=n6_;have HO335:=n7_;clear n0_ n1_ n2_ n3_ n4_ n5_ n6_ n7_;clear ho hb hg hat;have hcz43_0:w42.cell? ⟨gb84,0,none⟩=some (.string a0_0):=(blk_cell BK84.out 0).trans rfl;have hcz43_1:w42.cell? ⟨gb84,1,none⟩=some (.string a0_1):=(blk_cell BK84.out 1).trans rfl;have hcz43_2:w42.cell? ⟨gb84,2,none⟩=some (.int .i64 a0_2):=(blk_cell BK84.out 2).trans rfl;have hcz43_3:w42.cell? ⟨gb84,3,none⟩=some (.slice A0_3 l0_3.length c0_3):=(blk_cell BK84.out 3).trans rfl;have hcz43_4:w42.cell? ⟨gb84,4,none⟩=some (.slice A0_4 l0_4.length c0_4):=(blk_cell BK84.out 4).trans rfl;have hfz43_0:=blk_frozen BK84.out 0;have hfz43_1:=blk_frozen BK84.out 1;have hfz43_2:=blk_frozen BK84.out 2;have hfz43_3:=blk_frozen BK84.out 3;have hfz43_4:=blk_frozen BK84.out 4))
      (try simp only [Act.put,zqA,zqB,zqC])
      go_cut [42] (fun v42 wc => ∃ (kq:Nat) (x42_27:Bool),v42 = .bool x42_27∧Aside0 (scrub_Request.j1 kq a3 y88 x42_27 a0_0 a0_1 a0_2 l0_3 l0_4=some (r1,r2,r3,r4,r5))∧Aside0 (kq ≤ k1)∧Aside0 (Kd.R k55 55 wc w.heap.size (fun _=>True) v334 y88)∧Aside0 (wc.heap[gb84]? = some (.cells #[.string a0_0,.string a0_1,.int .i64 a0_2,(.slice A0_3 l0_3.length c0_3),(.slice A0_4 l0_4.length c0_4)] 33 (0,0)))∧Aside0 (wc.heap[gb86]? = some (.cells #[(.slice A1_0 l1_0.length c1_0),(.slice A1_1 l1_1.length c1_1),(.slice A1_2 l1_2.length c1_2),(.slice A1_3 l1_3.length c1_3),.int .i64 a1_4,.int .i64 a1_5,.int .i64 a1_6,.int .i64 a1_7] 59 (0,0)))∧Aside0 (wc.heap[gb85]? = some (.cells #[.string (⟨#[]⟩:ByteArray),.string (⟨#[]⟩:ByteArray),.int .i64 0,(.slice none 0 0),(.slice none 0 0)] 33 (0,0)))∧Aside0 (Below w.heap.size w wc))
      case first =>
       have H:=HC28.out
       clear HC28
       by_cases c44:(l0_4.length:Int) > 0
       ·rw [if_pos c44] at H
        have c44b0:decide (0 < (l0_4.length:Int))=true:=decide_eq_true c44
        have c44b1:decide (0 < l0_4.length)=true:=decide_eq_true (by omega)
        clear c44
        (first|rw [c44b0]|(simp only [i64_w,i32_w];rw [c44b0])|rw [c44b1]|skip)
        have H' := Aside0.mk H
        clear H
        go_wp2
        go_meet
        case rel=>exact ⟨_,(decide ((l0_4.length:Int) > 0)),(by first|rfl|(simp;done)|(simp [*];done)),H',⟨by have:=HK1.out;first|omega|exact Nat.le_refl _⟩,⟨by (with_reducible repeat (first|apply Kd.R_alloc|apply Kd.R_drewN|apply Kd.R_drew));exact Kd.R_mono HO335.out (fun _ hk=>trivial)⟩,⟨by (with_reducible repeat (first|refine blk_drewN ?_ _|refine blk_drew ?_|refine blk_alloc ?_ _));exact BK84.out⟩,⟨by (with_reducible repeat (first|refine blk_drewN ?_ _|refine blk_drew ?_|refine blk_alloc ?_ _));exact BK86.out⟩,⟨by (with_reducible repeat (first|refine blk_drewN ?_ _|refine blk_drew ?_|refine blk_alloc ?_ _));exact BK85.out⟩,⟨by repeat (first|(with_reducible first|exact HB.out|apply below_alloc|apply pw_below_drewN|apply below_drew1|refine below_set ?_ GE84.out|refine below_set ?_ GE86.out|refine below_set ?_ GE85.out)|exact HB.out)⟩⟩
       ·rw [if_neg c44] at H
        have c44b0:decide (0 < (l0_4.length:Int))=false:=decide_eq_false c44
        have c44b1:decide (0 < l0_4.length)=false:=decide_eq_false (by omega)
        clear c44
        (first|rw [c44b0]|(simp only [i64_w,i32_w];rw [c44b0])|rw [c44b1]|skip)
        by_cases c45:a0_0.toList=([80,79,83,84]:List UInt8)
        ·rw [if_pos c45] at H
         have c45b0:(a0_0.toList == ([80,79,83,84]:List UInt8))=true:=beq_iff_eq.mpr c45
         have c45b1:(a0_0.toList != ([80,79,83,84]:List UInt8))=false:=bne_eq_false_iff_eq.mpr c45
         clear c45
         have H' := Aside0.mk H
         clear H
         have hnb46:=NB84_311.out
         have hnc46:=NB86_310.out
         have hnb47:=NB84_312.out
         have hnc47:=NB85_310.out
         have hcz48_0:w42.cell? ⟨gb84,0,none⟩=some (.string a0_0):=(blk_cell BK84.out 0).trans rfl
         have hcz48_1:w42.cell? ⟨gb84,1,none⟩=some (.string a0_1):=(blk_cell BK84.out 1).trans rfl
         have hcz48_2:w42.cell? ⟨gb84,2,none⟩=some (.int .i64 a0_2):=(blk_cell BK84.out 2).trans rfl
         have hcz48_3:w42.cell? ⟨gb84,3,none⟩=some (.slice A0_3 l0_3.length c0_3):=(blk_cell BK84.out 3).trans rfl
         have hcz48_4:w42.cell? ⟨gb84,4,none⟩=some (.slice A0_4 l0_4.length c0_4):=(blk_cell BK84.out 4).trans rfl
         have hfz48_0:=blk_frozen BK84.out 0
         have hfz48_1:=blk_frozen BK84.out 1
         have hfz48_2:=blk_frozen BK84.out 2
         have hfz48_3:=blk_frozen BK84.out 3
         have hfz48_4:=blk_frozen BK84.out 4
         go_wp2
         go_meet
         case rel=>exact ⟨_,((a0_0.toList == ([80,79,83,84]:List UInt8))),(by first|rfl|(simp;done)|(simp [*];done)),H',⟨by have:=HK1.out;first|omega|exact Nat.le_refl _⟩,⟨by (with_reducible repeat (first|apply Kd.R_alloc|apply Kd.R_drewN|apply Kd.R_drew));exact Kd.R_mono HO335.out (fun _ hk=>trivial)⟩,⟨by (with_reducible repeat (first|refine blk_drewN ?_ _|refine blk_drew ?_|refine blk_alloc ?_ _));exact BK84.out⟩,⟨by (with_reducible repeat (first|refine blk_drewN ?_ _|refine blk_drew ?_|refine blk_alloc ?_ _));exact BK86.out⟩,⟨by (with_reducible repeat (first|refine blk_drewN ?_ _|refine blk_drew ?_|refine blk_alloc ?_ _));exact BK85.out⟩,⟨by repeat (first|(with_reducible first|exact HB.out|apply below_alloc|apply pw_below_drewN|apply below_drew1|refine below_set ?_ GE84.out|refine below_set ?_ GE86.out|refine below_set ?_ GE85.out)|exact HB.out)⟩⟩
        ·rw [if_neg c45] at H
         have c45b0:(a0_0.toList == ([80,79,83,84]:List UInt8))=false:=beq_eq_false_iff_ne.mpr c45
         have c45b1:(a0_0.toList != ([80,79,83,84]:List UInt8))=true:=bne_iff_ne.mpr c45
         by_cases c49:a0_0.toList=([80,85,84]:List UInt8)
         ·rw [if_pos c49] at H
          have c49b0:(a0_0.toList == ([80,85,84]:List UInt8))=true:=beq_iff_eq.mpr c49
          have c49b1:(a0_0.toList != ([80,85,84]:List UInt8))=false:=bne_eq_false_iff_eq.mpr c49
          clear c49
          have H' := Aside0.mk H
          clear H
          have hnb50:=NB84_311.out
          have hnc50:=NB86_310.out
          have hnb51:=NB84_312.out
          have hnc51:=NB85_310.out
          have hcz52_0:w42.cell? ⟨gb84,0,none⟩=some (.string a0_0):=(blk_cell BK84.out 0).trans rfl
          have hcz52_1:w42.cell? ⟨gb84,1,none⟩=some (.string a0_1):=(blk_cell BK84.out 1).trans rfl
          have hcz52_2:w42.cell? ⟨gb84,2,none⟩=some (.int .i64 a0_2):=(blk_cell BK84.out 2).trans rfl
          have hcz52_3:w42.cell? ⟨gb84,3,none⟩=some (.slice A0_3 l0_3.length c0_3):=(blk_cell BK84.out 3).trans rfl
          have hcz52_4:w42.cell? ⟨gb84,4,none⟩=some (.slice A0_4 l0_4.length c0_4):=(blk_cell BK84.out 4).trans rfl
          have hfz52_0:=blk_frozen BK84.out 0
          have hfz52_1:=blk_frozen BK84.out 1
          have hfz52_2:=blk_frozen BK84.out 2
          have hfz52_3:=blk_frozen BK84.out 3
          have hfz52_4:=blk_frozen BK84.out 4
          go_wp2
          go_meet
          case rel=>exact ⟨_,((a0_0.toList == ([80,85,84]:List UInt8))),(by first|rfl|(simp;done)|(simp [*];done)),H',⟨by have:=HK1.out;first|omega|exact Nat.le_refl _⟩,⟨by (with_reducible repeat (first|apply Kd.R_alloc|apply Kd.R_drewN|apply Kd.R_drew));exact Kd.R_mono HO335.out (fun _ hk=>trivial)⟩,⟨by (with_reducible repeat (first|refine blk_drewN ?_ _|refine blk_drew ?_|refine blk_alloc ?_ _));exact BK84.out⟩,⟨by (with_reducible repeat (first|refine blk_drewN ?_ _|refine blk_drew ?_|refine blk_alloc ?_ _));exact BK86.out⟩,⟨by (with_reducible repeat (first|refine blk_drewN ?_ _|refine blk_drew ?_|refine blk_alloc ?_ _));exact BK85.out⟩,⟨by repeat (first|(with_reducible first|exact HB.out|apply below_alloc|apply pw_below_drewN|apply below_drew1|refine below_set ?_ GE84.out|refine below_set ?_ GE86.out|refine below_set ?_ GE85.out)|exact HB.out)⟩⟩
         ·rw [if_neg c49] at H
          have c49b0:(a0_0.toList == ([80,85,84]:List UInt8))=false:=beq_eq_false_iff_ne.mpr c49
          have c49b1:(a0_0.toList != ([80,85,84]:List UInt8))=true:=bne_iff_ne.mpr c49
          have H' := Aside0.mk H
          clear H
          have hnb53:=NB84_311.out
          have hnc53:=NB86_310.out
          have hnb54:=NB84_312.out
          have hnc54:=NB85_310.out
          have hcz55_0:w42.cell? ⟨gb84,0,none⟩=some (.string a0_0):=(blk_cell BK84.out 0).trans rfl
          have hcz55_1:w42.cell? ⟨gb84,1,none⟩=some (.string a0_1):=(blk_cell BK84.out 1).trans rfl
          have hcz55_2:w42.cell? ⟨gb84,2,none⟩=some (.int .i64 a0_2):=(blk_cell BK84.out 2).trans rfl
          have hcz55_3:w42.cell? ⟨gb84,3,none⟩=some (.slice A0_3 l0_3.length c0_3):=(blk_cell BK84.out 3).trans rfl
          have hcz55_4:w42.cell? ⟨gb84,4,none⟩=some (.slice A0_4 l0_4.length c0_4):=(blk_cell BK84.out 4).trans rfl
          have hfz55_0:=blk_frozen BK84.out 0
          have hfz55_1:=blk_frozen BK84.out 1
          have hfz55_2:=blk_frozen BK84.out 2
          have hfz55_3:=blk_frozen BK84.out 3
          have hfz55_4:=blk_frozen BK84.out 4
          go_wp2
          go_meet
          case rel=>exact ⟨_,((a0_0.toList == ([80,65,84,67,72]:List UInt8))),(by first|rfl|(simp;done)|(simp [*];done)),H',⟨by have:=HK1.out;first|omega|exact Nat.le_refl _⟩,⟨by (with_reducible repeat (first|apply Kd.R_alloc|apply Kd.R_drewN|apply Kd.R_drew));exact Kd.R_mono HO335.out (fun _ hk=>trivial)⟩,⟨by (with_reducible repeat (first|refine blk_drewN ?_ _|refine blk_drew ?_|refine blk_alloc ?_ _));exact BK84.out⟩,⟨by (with_reducible repeat (first|refine blk_drewN ?_ _|refine blk_drew ?_|refine blk_alloc ?_ _));exact BK86.out⟩,⟨by (with_reducible repeat (first|refine blk_drewN ?_ _|refine blk_drew ?_|refine blk_alloc ?_ _));exact BK85.out⟩,⟨by repeat (first|(with_reducible first|exact HB.out|apply below_alloc|apply pw_below_drewN|apply below_drew1|refine below_set ?_ GE84.out|refine below_set ?_ GE86.out|refine below_set ?_ GE85.out)|exact HB.out)⟩⟩
      case rest =>
       clear HC28
       try clear c1
       try clear c2
       try clear p2
       try clear c3
       try clear p3
       try clear q3
       try clear hx3
       try clear c4
       try clear c5
       try clear p6
       try clear c8
       try clear c9
       try clear c10
       try clear c14
       try clear c14b0
       try clear c15
       try clear c15b0
       try clear c16
       try clear c16b0
       try clear c17
       try clear c19
       try clear c20
       try clear c21
       try clear c26
       try clear c27
       try clear c31
       try clear p31
       try clear q31
       try clear hx31
       try clear c32
       try clear c40
       try clear c43
       try clear c44
       try clear c44b0
       try clear c44b1
       try clear c45
       try clear c45b0
       try clear c45b1
       try clear c46
       try clear c47
       try clear c49
       try clear c49b0
       try clear c49b1
       try clear c50
       try clear c51
       try clear c53
       try clear c54
       try clear hcz11_0
       try clear hcz11_1
       try clear hcz11_2
       try clear hcz11_3
       try clear hcz11_4
       try clear hcz11_5
       try clear hcz11_6
       try clear hcz11_7
       try clear hcz13_0
       try clear hcz13_1
       try clear hcz13_2
       try clear hcz13_3
       try clear hcz13_4
       try clear hcz13_5
       try clear hcz13_6
       try clear hcz13_7
       try clear hcz22_0
       try clear hcz22_1
       try clear hcz33_0
       try clear hcz33_1
       try clear hcz33_2
       try clear hcz33_3
       try clear hcz33_4
       try clear hcz41_0
       try clear hcz41_1
       try clear hcz41_2
       try clear hcz41_3
       try clear hcz41_4
       try clear hcz41_5
       try clear hcz41_6
       try clear hcz41_7
       try clear hcz43_0
       try clear hcz43_1
       try clear hcz43_2
       try clear hcz43_3
       try clear hcz43_4
       try clear hcz48_0
       try clear hcz48_1
       try clear hcz48_2
       try clear hcz48_3
       try clear hcz48_4
       try clear hcz52_0
       try clear hcz52_1
       try clear hcz52_2
       try clear hcz52_3
       try clear hcz52_4
       try clear hcz55_0
       try clear hcz55_1
       try clear hcz55_2
       try clear hcz55_3
       try clear hcz55_4
       try clear hfz11_0
       try clear hfz11_1
       try clear hfz11_2
       try clear hfz11_3
       try clear hfz11_4
       try clear hfz11_5
       try clear hfz11_6
       try clear hfz11_7
       try clear hfz13_0
       try clear hfz13_1
       try clear hfz13_2
       try clear hfz13_3
       try clear hfz13_4
       try clear hfz13_5
       try clear hfz13_6
       try clear hfz13_7
       try clear hfz22_0
       try clear hfz22_1
       try clear hfz33_0
       try clear hfz33_1
       try clear hfz33_2
       try clear hfz33_3
       try clear hfz33_4
       try clear hfz41_0
       try clear hfz41_1
       try clear hfz41_2
       try clear hfz41_3
       try clear hfz41_4
       try clear hfz41_5
       try clear hfz41_6
       try clear hfz41_7
       try clear hfz43_0
       try clear hfz43_1
       try clear hfz43_2
       try clear hfz43_3
       try clear hfz43_4
       try clear hfz48_0
       try clear hfz48_1
       try clear hfz48_2
       try clear hfz48_3
       try clear hfz48_4
       try clear hfz52_0
       try clear hfz52_1
       try clear hfz52_2
       try clear hfz52_3
       try clear hfz52_4
       try clear hfz55_0
       try clear hfz55_1
       try clear hfz55_2
       try clear hfz55_3
       try clear hfz55_4
       try clear hx89_0
       try clear hx89_1
       try clear p2
       try clear p89
       try clear q89
       obtain ⟨kq,x42_27,rfl,HA,HJ27,HO_12,BK84,BK86,BK85,HB⟩:=hcut
       cases kq with
       | zero=>exact absurd HA.out (by simp [scrub_Request.j1])
       | succ kj27 =>
        have H:=HA.out
        clear HA
        simp only [scrub_Request.j1] at H
        by_cases c56:x42_27=true
        ·subst c56
         have H1:((scrub_length.f (l0_4.length:Int)).bind fun bt336=>(if y88.length < 4398046511104 then ((bytes_Clone.f l0_4).bind fun t96=>(some (a0_0,a3,1,(y88 ++ [(⟨bt336.1,bt336.2⟩:S55)]),t96))) else (none)))=some (r1,r2,r3,r4,r5):=by rw [if_pos rfl] at H;exact H
         clear H
         have H:=H1
         clear H1
         replace H:=Option.bind_eq_some_iff.mp H
         obtain ⟨⟨t336,t337⟩,A570,H⟩:=H
         replace H:(if y88.length < 4398046511104 then ((bytes_Clone.f l0_4).bind fun t96=>(some (a0_0,a3,1,(y88 ++ [(⟨t336,t337⟩:S55)]),t96))) else (none))=some (r1,r2,r3,r4,r5):=H
         have A57:=Aside0.mk A570
         clear A570
         by_cases c58:y88.length < 4398046511104
         ·rw [if_pos c58] at H
          have LMc58:=Aside0.mk c58
          clear c58
          obtain ⟨y95,hy95⟩ : ∃ y_:List (S55),y_=(y88 ++ [(⟨t336,t337⟩:S55)]):=⟨_,rfl⟩
          replace H:((bytes_Clone.f l0_4).bind fun t96=>(some (a0_0,a3,1,y95,t96)))=some (r1,r2,r3,r4,r5):=by first|(rw [hy95];with_reducible exact H)|(have H2_:=(Option.bind_some _ _).symm.trans H;rw [hy95];with_reducible exact H2_)|(have H2_:=(Option.bind_some _ _).symm.trans H;with_reducible exact H2_)|with_reducible exact H|(rw [hy95];exact H)|exact H
          have Ny95:=Aside0.mk hy95
          clear hy95
          replace H:=Option.bind_eq_some_iff.mp H
          obtain ⟨t96,A590,H⟩:=H
          replace H:(some (a0_0,a3,1,y95,t96))=some (r1,r2,r3,r4,r5):=H
          have A59:=Aside0.mk A590
          clear A590
          simp only [Option.some.injEq,Prod.mk.injEq] at H
          obtain ⟨rfl,rfl,rfl,rfl,rfl⟩:=H
          have hnb60:=NB84_311.out
          have hnc60:=NB86_310.out
          have hnb61:=NB84_312.out
          have hnc61:=NB85_310.out
          have hcz62_0:wc.cell? ⟨gb84,0,none⟩=some (.string a0_0):=(blk_cell BK84.out 0).trans rfl
          have hcz62_1:wc.cell? ⟨gb84,1,none⟩=some (.string a0_1):=(blk_cell BK84.out 1).trans rfl
          have hcz62_2:wc.cell? ⟨gb84,2,none⟩=some (.int .i64 a0_2):=(blk_cell BK84.out 2).trans rfl
          have hcz62_3:wc.cell? ⟨gb84,3,none⟩=some (.slice A0_3 l0_3.length c0_3):=(blk_cell BK84.out 3).trans rfl
          have hcz62_4:wc.cell? ⟨gb84,4,none⟩=some (.slice A0_4 l0_4.length c0_4):=(blk_cell BK84.out 4).trans rfl
          have hfz62_0:=blk_frozen BK84.out 0
          have hfz62_1:=blk_frozen BK84.out 1
          have hfz62_2:=blk_frozen BK84.out 2
          have hfz62_3:=blk_frozen BK84.out 3
          have hfz62_4:=blk_frozen BK84.out 4
          try go_wp2_with (first|((with_reducible refine gate_callee (f:=46) rfl ?_);refine goesL_ (some 60) rfl rfl Tryz.func46 (by kernel_rfl) rfl #[.int .i64 (l0_4.length:Int)] rfl (by (try simp only [List.map_toArray,List.map_cons,List.map_nil]);first|done|rfl|(simp only [List.length_drop,List.length_take];rfl)) ?_;(with_reducible refine (scrub_length.calls (l0_4.length:Int) t336 t337 _ A57.out ?hT).mono ?_);(case hT=>exact HTB.out.below (by repeat (first|(with_reducible first|exact HB.out|apply below_alloc|apply pw_below_drewN|apply below_drew1|refine below_set ?_ GE84.out|refine below_set ?_ GE86.out|refine below_set ?_ GE85.out|refine below_set ?_ GE87.out)|exact HB.out)));rintro e w63 ⟨rfl,hb⟩;(try clear A57);refine ⟨_,rfl,?_⟩;have n0_:=Aside0.mk (Kd.R_below (by (with_reducible repeat (first|apply Kd.R_alloc|apply Kd.R_drewN|apply Kd.R_drew));exact HO_12.out) hb);have n1_:=Aside0.mk (blk_below (g:=gb84) (o:=.cells #[.string a0_0,.string a0_1,.int .i64 a0_2,.slice A0_3 l0_3.length c0_3,.slice A0_4 l0_4.length c0_4] 33 (0,0)) (by (with_reducible repeat (first|refine blk_drewN ?_ _|refine blk_drew ?_|refine blk_alloc ?_ _));exact BK84.out) hb);have n2_:=Aside0.mk (blk_below (g:=gb86) (o:=.cells #[.slice A1_0 l1_0.length c1_0,.slice A1_1 l1_1.length c1_1,.slice A1_2 l1_2.length c1_2,.slice A1_3 l1_3.length c1_3,.int .i64 a1_4,.int .i64 a1_5,.int .i64 a1_6,.int .i64 a1_7] 59 (0,0)) (by (with_reducible repeat (first|refine blk_drewN ?_ _|refine blk_drew ?_|refine blk_alloc ?_ _));exact BK86.out) hb);have n3_:=Aside0.mk (blk_below (g:=gb85) (o:=.cells #[.string (⟨#[]⟩:ByteArray),.string (⟨#[]⟩:ByteArray),.int .i64 0,.slice none 0 0,.slice none 0 0] 33 (0,0)) (by (with_reducible repeat (first|refine blk_drewN ?_ _|refine blk_drew ?_|refine blk_alloc ?_ _));exact BK85.out) hb);have n4_:=Aside0.mk (below_step (by repeat (first|(with_reducible first|exact HB.out|apply below_alloc|apply pw_below_drewN|apply below_drew1|refine below_set ?_ GE84.out|refine below_set ?_ GE86.out|refine below_set ?_ GE85.out)|exact HB.out)) hb);clear HO_12;clear BK84;clear BK86;clear BK85;clear HB;have HO_12:=n0_;have BK84:=n1_;have BK86:=n2_;have BK85:=n3_;have HB:=n4_;clear n0_ n1_ n2_ n3_ n4_;(try clear hb);(try clear hb2);(try clear hk);(try clear hi))|((with_reducible refine gate_builtin (b:=.append) (xs:=#[.tmp 56,.tmp 61]) rfl ?_);at_builtin;refine Kd.R_append k55 (w0:=w) w.heap.size rfl (.tmp 56) (.tmp 61) 22 55 (.agg #[(.string ⟨#[]⟩),(.string ⟨#[]⟩)]) 32 rfl Tryz.underlying22 info55 rfl (by decide) (by omega) v334 y88 (⟨t336,t337⟩:S55) [.string t336,.string t337] (fun _=>True) (fun _=>False) rfl rfl ?aP (fun _ hk=>hk.elim) ?aF ?aO ?aB ?aS ?aL ?_;(case aP=>exact k55_mkM _ _ _ (⟨t336,t337⟩:S55));(case aB=>exact (by repeat (first|(with_reducible first|exact HB.out|apply below_alloc|apply pw_below_drewN|apply below_drew1|refine below_set ?_ GE84.out|refine below_set ?_ GE86.out|refine below_set ?_ GE85.out)|exact HB.out)));(case aF=>exact (fun _ _=>trivial));(case aO=>exact (by (with_reducible repeat (first|apply Kd.R_alloc|apply Kd.R_drewN|apply Kd.R_drew));exact HO_12.out));(case aS=>exact (below_size (by repeat (first|(with_reducible first|exact HB.out|apply below_alloc|apply pw_below_drewN|apply below_drew1|refine below_set ?_ GE84.out|refine below_set ?_ GE86.out|refine below_set ?_ GE85.out)|exact HB.out))));(case aL=>have:=LMc58.out;omega);intro v339 w64 ho hb hg hat;rw [← Ny95.out] at ho;have n0_:=Aside0.mk (blk_grown (g:=gb84) (o:=.cells #[.string a0_0,.string a0_1,.int .i64 a0_2,.slice A0_3 l0_3.length c0_3,.slice A0_4 l0_4.length c0_4] 33 (0,0)) (by (with_reducible repeat (first|refine blk_drewN ?_ _|refine blk_drew ?_|refine blk_alloc ?_ _));exact BK84.out) hg (Kd.R_ne HO_12.out BK84.out (by decide)));have n1_:=Aside0.mk (blk_grown (g:=gb86) (o:=.cells #[.slice A1_0 l1_0.length c1_0,.slice A1_1 l1_1.length c1_1,.slice A1_2 l1_2.length c1_2,.slice A1_3 l1_3.length c1_3,.int .i64 a1_4,.int .i64 a1_5,.int .i64 a1_6,.int .i64 a1_7] 59 (0,0)) (by (with_reducible repeat (first|refine blk_drewN ?_ _|refine blk_drew ?_|refine blk_alloc ?_ _));exact BK86.out) hg (Kd.R_ne HO_12.out BK86.out (by decide)));have n2_:=Aside0.mk (blk_grown (g:=gb85) (o:=.cells #[.string (⟨#[]⟩:ByteArray),.string (⟨#[]⟩:ByteArray),.int .i64 0,.slice none 0 0,.slice none 0 0] 33 (0,0)) (by (with_reducible repeat (first|refine blk_drewN ?_ _|refine blk_drew ?_|refine blk_alloc ?_ _));exact BK85.out) hg (Kd.R_ne HO_12.out BK85.out (by decide)));have n3_:=Aside0.mk (hb);have n4_:=Aside0.mk (ho);clear BK84;clear BK86;clear BK85;clear HB;clear HO_12;have BK84:=n0_;have BK86:=n1_;have BK85:=n2_;have HB:=n3_;have HO340:=n4_;clear n0_ n1_ n2_ n3_ n4_;clear ho hb hg hat))
          replace HO340:=Aside0.mk (Kd.R_drew HO340.out)
          replace BK84:=Aside0.mk (blk_drew BK84.out)
          replace BK86:=Aside0.mk (blk_drew BK86.out)
          replace BK85:=Aside0.mk (blk_drew BK85.out)
          replace HB:=Aside0.mk (below_drew1 HB.out)
          refine start_ (n:=9) (S:=fun w' => w'.cell? ⟨gb84,0,none⟩=some (.string a0_0)∧w'.cell? ⟨gb84,1,none⟩=some (.string a0_1)∧w'.cell? ⟨gb84,2,none⟩=some (.int .i64 a0_2)∧w'.cell? ⟨gb84,3,none⟩=some (.slice A0_3 l0_3.length c0_3)∧w'.cell? ⟨gb84,4,none⟩=some (.slice A0_4 l0_4.length c0_4)) (ds:=[]) #[false,false,false,false,false,false,false,false,false] (by kernel_rfl) rfl rfl ⟨(blk_cell BK84.out 0).trans rfl,(blk_cell BK84.out 1).trans rfl,(blk_cell BK84.out 2).trans rfl,(blk_cell BK84.out 3).trans rfl,(blk_cell BK84.out 4).trans rfl⟩ (fun hHeld=>?_);refine with_tabW scrub_Request.tab14 scrub_Request.bits14 (fun HT_ HW_=>?_)
          generalize w64.drew=w65 at HO340 BK84 BK86 BK85 HB hHeld ⊢
          refine pure_ (i:=0) (N:=some 63) (v:=?_) (a' := ?_) #[true,false,false,false,false,false,false,false,false] rfl rfl (any_of HT_.out (by kernel_rfl)) (fun _ _ _ h=>h) (Or.inl ⟨by rfl,?_⟩) ?_ ?_
          rotate_left
          ·intro w';go_simp;with_reducible rfl
          rotate_left
          ·simp only [Act.put,zqA,zqB,zqC,i64_w,i32_w];rfl
          refine pure_ (i:=2) (N:=some 65) (v:=?_) (a' := ?_) #[true,false,true,false,false,false,false,false,false] rfl rfl (any_of HT_.out (by kernel_rfl)) (fun _ _ _ h=>h) (Or.inl ⟨by rfl,?_⟩) ?_ ?_
          rotate_left
          ·intro w';go_simp;with_reducible rfl
          rotate_left
          ·simp only [Act.put,zqA,zqB,zqC,i64_w,i32_w];rfl
          refine pure_ (i:=3) (N:=some 66) (v:=?_) (a' := ?_) #[true,false,true,true,false,false,false,false,false] rfl rfl (any_of HT_.out (by kernel_rfl)) (fun _ _ _ h=>h) (Or.inl ⟨by rfl,?_⟩) ?_ ?_
          rotate_left
          ·intro w';go_simp;with_reducible rfl
          rotate_left
          ·simp only [Act.put,zqA,zqB,zqC,i64_w,i32_w];rfl
          refine pure_ (i:=4) (N:=some 67) (v:=?_) (a' := ?_) #[true,false,true,true,true,false,false,false,false] rfl rfl (any_of HT_.out (by kernel_rfl)) (fun _ _ _ h=>h) (Or.inl ⟨by rfl,?_⟩) ?_ ?_
          rotate_left
          ·intro w';go_simp;with_reducible rfl
          rotate_left
          ·simp only [Act.put,zqA,zqB,zqC,i64_w,i32_w];rfl
          refine take_ (i:=1) (N:=some 64) (v:=?_) (a' := ?_) #[true,true,true,true,true,false,false,false,false] rfl rfl (take_ofW HT_.out HW_.out (by kernel_rfl)) (fun _ _ _ h=>h) (Or.inl ⟨by rfl,?_⟩) hHeld ?_ ?_
          rotate_left
          ·rintro w' ⟨s0,s1,s2,s3,s4⟩;go_simp;with_reducible rfl
          rotate_left
          ·simp only [Act.put,zqA,zqB,zqC,i64_w,i32_w];rfl
          refine take_ (i:=5) (N:=some 68) (v:=?_) (a' := ?_) #[true,true,true,true,true,true,false,false,false] rfl rfl (take_ofW HT_.out HW_.out (by kernel_rfl)) (fun _ _ _ h=>h) (Or.inl ⟨by rfl,?_⟩) hHeld ?_ ?_
          rotate_left
          ·rintro w' ⟨s0,s1,s2,s3,s4⟩;go_simp;with_reducible rfl
          rotate_left
          ·simp only [Act.put,zqA,zqB,zqC,i64_w,i32_w];rfl
          refine one_ (i:=6) (N:=some 69) #[true,true,true,true,true,true,true,false,false] rfl rfl (one_of HT_.out (by kernel_rfl)) (by decide) (fun K hK=>?_)
          refine goes_ Tryz.func45 (by kernel_rfl) rfl #[.slice A0_4 l0_4.length c0_4] (by rfl) rfl rfl (by (try simp only [List.map_toArray,List.map_cons,List.map_nil]);first|done|rfl|(simp only [List.length_drop,List.length_take];rfl)) ?_
          with_reducible refine (bytes_Clone.calls _ _ l0_4 t96 _ ?side1 ?side2 A59.out).mono ?_
          (case side1=>repeat (first|exact (Kd.C_below HR0_4.out HB.out)|(with_reducible refine Kd.C_alloc ?_ _)|(with_reducible refine Kd.C_drewN ?_ _)|(with_reducible refine Kd.C_drew ?_)))
          (case side2=>exact HC0_4.out)
          rintro e w66 ⟨v342,rfl,ho0,hb⟩
          refine ⟨_,rfl,?_⟩
          have n0_:=Aside0.mk (Kd.R_below (by (with_reducible repeat (first|apply Kd.R_alloc|apply Kd.R_drewN|apply Kd.R_drew));exact HO340.out) hb)
          have n1_:=Aside0.mk (Kd.R_lower ho0 (below_size (by repeat (first|(with_reducible first|exact HB.out|apply below_alloc|apply pw_below_drewN|apply below_drew1|refine below_set ?_ GE84.out|refine below_set ?_ GE86.out|refine below_set ?_ GE85.out)|exact HB.out))))
          have n2_:=Aside0.mk (blk_below (g:=gb84) (o:=.cells #[.string a0_0,.string a0_1,.int .i64 a0_2,.slice A0_3 l0_3.length c0_3,.slice A0_4 l0_4.length c0_4] 33 (0,0)) (by (with_reducible repeat (first|refine blk_drewN ?_ _|refine blk_drew ?_|refine blk_alloc ?_ _));exact BK84.out) hb)
          have n3_:=Aside0.mk (blk_below (g:=gb86) (o:=.cells #[.slice A1_0 l1_0.length c1_0,.slice A1_1 l1_1.length c1_1,.slice A1_2 l1_2.length c1_2,.slice A1_3 l1_3.length c1_3,.int .i64 a1_4,.int .i64 a1_5,.int .i64 a1_6,.int .i64 a1_7] 59 (0,0)) (by (with_reducible repeat (first|refine blk_drewN ?_ _|refine blk_drew ?_|refine blk_alloc ?_ _));exact BK86.out) hb)
          have n4_:=Aside0.mk (blk_below (g:=gb85) (o:=.cells #[.string (⟨#[]⟩:ByteArray),.string (⟨#[]⟩:ByteArray),.int .i64 0,.slice none 0 0,.slice none 0 0] 33 (0,0)) (by (with_reducible repeat (first|refine blk_drewN ?_ _|refine blk_drew ?_|refine blk_alloc ?_ _));exact BK85.out) hb)
          have n5_:=Aside0.mk (below_step (by repeat (first|(with_reducible first|exact HB.out|apply below_alloc|apply pw_below_drewN|apply below_drew1|refine below_set ?_ GE84.out|refine below_set ?_ GE86.out|refine below_set ?_ GE85.out)|exact HB.out)) hb)
          clear HO340 BK84 BK86 BK85 HB
          have HO340:=n0_
          have HO343:=n1_
          have BK84:=n2_
          have BK86:=n3_
          have BK85:=n4_
          have HB:=n5_
          clear n0_ n1_ n2_ n3_ n4_ n5_
          (try clear hb)
          (try clear hb2)
          (try clear hk)
          (try clear hi)
          (try clear ho0)
          obtain ⟨Ao67,co67,eo67⟩:=Kd.R_slice HO343.out
          (first|subst eo67|(injection eo67 with f1_ f2_ f3_;have f4_:=f1_.symm;have f5_:=f3_.symm;clear f1_ f2_ f3_;subst f4_;subst f5_))
          obtain ⟨Ao68,co68,eo68⟩:=Kd.R_slice HO340.out
          (first|subst eo68|(injection eo68 with f1_ f2_ f3_;have f4_:=f1_.symm;have f5_:=f3_.symm;clear f1_ f2_ f3_;subst f4_;subst f5_))
          refine hK.out _ _ ⟨(blk_cell BK84.out 0).trans rfl,(blk_cell BK84.out 1).trans rfl,(blk_cell BK84.out 2).trans rfl,(blk_cell BK84.out 3).trans rfl,(blk_cell BK84.out 4).trans rfl⟩ (fun hHeld=>?_)
          clear hK K
          refine norm_ (a' := ?_) ?_ ?_
          rotate_left
          ·show Act.put _ (some 69) _=_
           simp only [Act.put,zqA,zqB,zqC,i64_w,i32_w]
           rfl
          refine pure_ (i:=7) (N:=some 70) (v:=?_) (a' := ?_) #[true,true,true,true,true,true,true,true,false] rfl rfl (any_of HT_.out (by kernel_rfl)) (fun _ _ _ h=>h) (Or.inl ⟨by rfl,?_⟩) ?_ ?_
          rotate_left
          ·intro w';go_simp;with_reducible rfl
          rotate_left
          ·simp only [Act.put,zqA,zqB,zqC,i64_w,i32_w];rfl
          refine one_ (i:=8) (N:=none) #[true,true,true,true,true,true,true,true,true] rfl rfl (one_of HT_.out (by kernel_rfl)) (by decide) (fun K hK=>?_)
          have hs69:w66.cell? ⟨gb85,0,none⟩=some (.string (⟨#[]⟩:ByteArray)):=(blk_cell BK85.out 0).trans rfl
          have hfs69:=blk_frozen BK85.out 0
          have hns69_0:=NB84_312.out
          have hns69_1:=NB86_312.out
          have hms69_0:=NB85_310.out
          have hms69_1:=NB85_311.out
          have hs70:w66.cell? ⟨gb85,1,none⟩=some (.string (⟨#[]⟩:ByteArray)):=(blk_cell BK85.out 1).trans rfl
          have hfs70:=blk_frozen BK85.out 1
          have hns70_0:=NB84_312.out
          have hns70_1:=NB86_312.out
          have hms70_0:=NB85_310.out
          have hms70_1:=NB85_311.out
          have hs71:w66.cell? ⟨gb85,2,none⟩=some (.int .i64 0):=(blk_cell BK85.out 2).trans rfl
          have hfs71:=blk_frozen BK85.out 2
          have hns71_0:=NB84_312.out
          have hns71_1:=NB86_312.out
          have hms71_0:=NB85_310.out
          have hms71_1:=NB85_311.out
          have hs72:w66.cell? ⟨gb85,3,none⟩=some (.slice none 0 0):=(blk_cell BK85.out 3).trans rfl
          have hfs72:=blk_frozen BK85.out 3
          have hns72_0:=NB84_312.out
          have hns72_1:=NB86_312.out
          have hms72_0:=NB85_310.out
          have hms72_1:=NB85_311.out
          have hs73:w66.cell? ⟨gb85,4,none⟩=some (.slice none 0 0):=(blk_cell BK85.out 4).trans rfl
          have hfs73:=blk_frozen BK85.out 4
          have hns73_0:=NB84_312.out
          have hns73_1:=NB86_312.out
          have hms73_0:=NB85_310.out
          have hms73_1:=NB85_311.out
          refine skip_ (w1:=?_) (by rfl) rfl ?_ ?_
          rotate_left
          ·go_simp
           rfl
          refine hK.out _ _ ⟨((cell_far (p:=⟨gb85,_,none⟩) NB84_312.out _).trans (((cell_far (p:=⟨gb85,_,none⟩) NB84_312.out _).trans (((cell_far (p:=⟨gb85,_,none⟩) NB84_312.out _).trans (((cell_far (p:=⟨gb85,_,none⟩) NB84_312.out _).trans (((cell_far (p:=⟨gb85,_,none⟩) NB84_312.out _).trans (hHeld.1)))))))))),((cell_far (p:=⟨gb85,_,none⟩) NB84_312.out _).trans (((cell_far (p:=⟨gb85,_,none⟩) NB84_312.out _).trans (((cell_far (p:=⟨gb85,_,none⟩) NB84_312.out _).trans (((cell_far (p:=⟨gb85,_,none⟩) NB84_312.out _).trans (((cell_far (p:=⟨gb85,_,none⟩) NB84_312.out _).trans (hHeld.2.1)))))))))),((cell_far (p:=⟨gb85,_,none⟩) NB84_312.out _).trans (((cell_far (p:=⟨gb85,_,none⟩) NB84_312.out _).trans (((cell_far (p:=⟨gb85,_,none⟩) NB84_312.out _).trans (((cell_far (p:=⟨gb85,_,none⟩) NB84_312.out _).trans (((cell_far (p:=⟨gb85,_,none⟩) NB84_312.out _).trans (hHeld.2.2.1)))))))))),((cell_far (p:=⟨gb85,_,none⟩) NB84_312.out _).trans (((cell_far (p:=⟨gb85,_,none⟩) NB84_312.out _).trans (((cell_far (p:=⟨gb85,_,none⟩) NB84_312.out _).trans (((cell_far (p:=⟨gb85,_,none⟩) NB84_312.out _).trans (((cell_far (p:=⟨gb85,_,none⟩) NB84_312.out _).trans (hHeld.2.2.2.1)))))))))),((cell_far (p:=⟨gb85,_,none⟩) NB84_312.out _).trans (((cell_far (p:=⟨gb85,_,none⟩) NB84_312.out _).trans (((cell_far (p:=⟨gb85,_,none⟩) NB84_312.out _).trans (((cell_far (p:=⟨gb85,_,none⟩) NB84_312.out _).trans (((cell_far (p:=⟨gb85,_,none⟩) NB84_312.out _).trans (hHeld.2.2.2.2))))))))))⟩ (fun hHeld=>?_)
          clear hK K
          refine done_ (done_of HT_.out (by kernel_rfl)) ?_
          try go_wp2
          refine bodyPost_ret (results_cell_row rfl _ _ gb85 33 #[.string a0_0,.string a3,.int .i64 1,.slice Ao68 y95.length co68,.slice Ao67 t96.length co67] (0,0) _ rfl (by (with_reducible repeat (first|refine blk_drewN ?_ _|refine blk_drew ?_|refine blk_alloc ?_ _));refine blk_put (cs:=#[.string a0_0,.string a3,.int .i64 1,.slice Ao68 y95.length co68,.slice none 0 0]) ?_ 4 _ rfl;(with_reducible repeat (first|refine blk_drewN ?_ _|refine blk_drew ?_|refine blk_alloc ?_ _));refine blk_put (cs:=#[.string a0_0,.string a3,.int .i64 1,.slice none 0 0,.slice none 0 0]) ?_ 3 _ rfl;(with_reducible repeat (first|refine blk_drewN ?_ _|refine blk_drew ?_|refine blk_alloc ?_ _));refine blk_put (cs:=#[.string a0_0,.string a3,.int .i64 0,.slice none 0 0,.slice none 0 0]) ?_ 2 _ rfl;(with_reducible repeat (first|refine blk_drewN ?_ _|refine blk_drew ?_|refine blk_alloc ?_ _));refine blk_put (cs:=#[.string a0_0,.string (⟨#[]⟩:ByteArray),.int .i64 0,.slice none 0 0,.slice none 0 0]) ?_ 1 _ rfl;(with_reducible repeat (first|refine blk_drewN ?_ _|refine blk_drew ?_|refine blk_alloc ?_ _));refine blk_put (cs:=#[.string (⟨#[]⟩:ByteArray),.string (⟨#[]⟩:ByteArray),.int .i64 0,.slice none 0 0,.slice none 0 0]) ?_ 0 _ rfl;(with_reducible repeat (first|refine blk_drewN ?_ _|refine blk_drew ?_|refine blk_alloc ?_ _));exact BK85.out) Tryz.underlying33 rfl (by kernel_rfl)) rfl ?_
          exact ⟨_,_,by first|rfl|(simp [errW_none,errW_some] <;> rfl)|(simp [*,errW_none,errW_some] <;> rfl),by (with_reducible repeat (first|apply Kd.R_alloc|apply Kd.R_drewN|apply Kd.R_drew));exact Kd.R_mono (Kd.R_far (p:=⟨gb85,4,none⟩) (Kd.R_far (p:=⟨gb85,3,none⟩) (Kd.R_far (p:=⟨gb85,2,none⟩) (Kd.R_far (p:=⟨gb85,1,none⟩) (Kd.R_far (p:=⟨gb85,0,none⟩) (Kd.R_types HO340.out BK85.out (by decide)) (fun _ hk=>hk.2) (.string a0_0)) (fun _ hk=>hk.2) (.string a3)) (fun _ hk=>hk.2) (.int .i64 1)) (fun _ hk=>hk.2) (.slice Ao68 y95.length co68)) (fun _ hk=>hk.2) (.slice Ao67 t96.length co67)) (fun _ hk=>trivial),by (with_reducible repeat (first|apply Kd.R_alloc|apply Kd.R_drewN|apply Kd.R_drew));exact Kd.R_mono (Kd.R_far (p:=⟨gb85,4,none⟩) (Kd.R_far (p:=⟨gb85,3,none⟩) (Kd.R_far (p:=⟨gb85,2,none⟩) (Kd.R_far (p:=⟨gb85,1,none⟩) (Kd.R_far (p:=⟨gb85,0,none⟩) (Kd.R_types HO343.out BK85.out (by decide)) (fun _ hk=>hk.2) (.string a0_0)) (fun _ hk=>hk.2) (.string a3)) (fun _ hk=>hk.2) (.int .i64 1)) (fun _ hk=>hk.2) (.slice Ao68 y95.length co68)) (fun _ hk=>hk.2) (.slice Ao67 t96.length co67)) (fun _ hk=>trivial),by repeat (first|(with_reducible first|exact HB.out|apply below_alloc|apply pw_below_drewN|apply below_drew1|refine below_set ?_ GE84.out|refine below_set ?_ GE86.out|refine below_set ?_ GE85.out)|exact HB.out)⟩
         ·rw [if_neg c58] at H
          exact absurd H (by simp)
        ·replace c56:=Bool.eq_false_iff.mpr c56
         subst c56
         have H1:((bytes_Clone.f l0_4).bind fun t344=>(some (a0_0,a3,1,y88,t344)))=some (r1,r2,r3,r4,r5):=by rw [if_neg (show ¬ (false=true) by decide)] at H;exact H
         clear H
         have H:=H1
         clear H1
         replace H:=Option.bind_eq_some_iff.mp H
         obtain ⟨t344,A740,H⟩:=H
         replace H:(some (a0_0,a3,1,y88,t344))=some (r1,r2,r3,r4,r5):=H
         have A74:=Aside0.mk A740
         clear A740
         simp only [Option.some.injEq,Prod.mk.injEq] at H
         obtain ⟨rfl,rfl,rfl,rfl,rfl⟩:=H
         try go_wp2
         replace HO_12:=Aside0.mk (Kd.R_drew HO_12.out)
         replace BK84:=Aside0.mk (blk_drew BK84.out)
         replace BK86:=Aside0.mk (blk_drew BK86.out)
         replace BK85:=Aside0.mk (blk_drew BK85.out)
         replace HB:=Aside0.mk (below_drew1 HB.out)
         refine start_ (n:=9) (S:=fun w' => w'.cell? ⟨gb84,0,none⟩=some (.string a0_0)∧w'.cell? ⟨gb84,1,none⟩=some (.string a0_1)∧w'.cell? ⟨gb84,2,none⟩=some (.int .i64 a0_2)∧w'.cell? ⟨gb84,3,none⟩=some (.slice A0_3 l0_3.length c0_3)∧w'.cell? ⟨gb84,4,none⟩=some (.slice A0_4 l0_4.length c0_4)) (ds:=[]) #[false,false,false,false,false,false,false,false,false] (by kernel_rfl) rfl rfl ⟨(blk_cell BK84.out 0).trans rfl,(blk_cell BK84.out 1).trans rfl,(blk_cell BK84.out 2).trans rfl,(blk_cell BK84.out 3).trans rfl,(blk_cell BK84.out 4).trans rfl⟩ (fun hHeld=>?_);refine with_tabW scrub_Request.tab14 scrub_Request.bits14 (fun HT_ HW_=>?_)
         generalize wc.drew=w75 at HO_12 BK84 BK86 BK85 HB hHeld ⊢
         refine pure_ (i:=0) (N:=some 63) (v:=?_) (a' := ?_) #[true,false,false,false,false,false,false,false,false] rfl rfl (any_of HT_.out (by kernel_rfl)) (fun _ _ _ h=>h) (Or.inl ⟨by rfl,?_⟩) ?_ ?_
         rotate_left
         ·intro w';go_simp;with_reducible rfl
         rotate_left
         ·simp only [Act.put,zqA,zqB,zqC,i64_w,i32_w];rfl
         refine pure_ (i:=2) (N:=some 65) (v:=?_) (a' := ?_) #[true,false,true,false,false,false,false,false,false] rfl rfl (any_of HT_.out (by kernel_rfl)) (fun _ _ _ h=>h) (Or.inl ⟨by rfl,?_⟩) ?_ ?_
         rotate_left
         ·intro w';go_simp;with_reducible rfl
         rotate_left
         ·simp only [Act.put,zqA,zqB,zqC,i64_w,i32_w];rfl
         refine pure_ (i:=3) (N:=some 66) (v:=?_) (a' := ?_) #[true,false,true,true,false,false,false,false,false] rfl rfl (any_of HT_.out (by kernel_rfl)) (fun _ _ _ h=>h) (Or.inl ⟨by rfl,?_⟩) ?_ ?_
         rotate_left
         ·intro w';go_simp;with_reducible rfl
         rotate_left
         ·simp only [Act.put,zqA,zqB,zqC,i64_w,i32_w];rfl
         refine pure_ (i:=4) (N:=some 67) (v:=?_) (a' := ?_) #[true,false,true,true,true,false,false,false,false] rfl rfl (any_of HT_.out (by kernel_rfl)) (fun _ _ _ h=>h) (Or.inl ⟨by rfl,?_⟩) ?_ ?_
         rotate_left
         ·intro w';go_simp;with_reducible rfl
         rotate_left
         ·simp only [Act.put,zqA,zqB,zqC,i64_w,i32_w];rfl
         refine take_ (i:=1) (N:=some 64) (v:=?_) (a' := ?_) #[true,true,true,true,true,false,false,false,false] rfl rfl (take_ofW HT_.out HW_.out (by kernel_rfl)) (fun _ _ _ h=>h) (Or.inl ⟨by rfl,?_⟩) hHeld ?_ ?_
         rotate_left
         ·rintro w' ⟨s0,s1,s2,s3,s4⟩;go_simp;with_reducible rfl
         rotate_left
         ·simp only [Act.put,zqA,zqB,zqC,i64_w,i32_w];rfl
         refine take_ (i:=5) (N:=some 68) (v:=?_) (a' := ?_) #[true,true,true,true,true,true,false,false,false] rfl rfl (take_ofW HT_.out HW_.out (by kernel_rfl)) (fun _ _ _ h=>h) (Or.inl ⟨by rfl,?_⟩) hHeld ?_ ?_
         rotate_left
         ·rintro w' ⟨s0,s1,s2,s3,s4⟩;go_simp;with_reducible rfl
         rotate_left
         ·simp only [Act.put,zqA,zqB,zqC,i64_w,i32_w];rfl
         refine one_ (i:=6) (N:=some 69) #[true,true,true,true,true,true,true,false,false] rfl rfl (one_of HT_.out (by kernel_rfl)) (by decide) (fun K hK=>?_)
         refine goes_ Tryz.func45 (by kernel_rfl) rfl #[.slice A0_4 l0_4.length c0_4] (by rfl) rfl rfl (by (try simp only [List.map_toArray,List.map_cons,List.map_nil]);first|done|rfl|(simp only [List.length_drop,List.length_take];rfl)) ?_
         with_reducible refine (bytes_Clone.calls _ _ l0_4 t344 _ ?side1 ?side2 A74.out).mono ?_
         (case side1=>repeat (first|exact (Kd.C_below HR0_4.out HB.out)|(with_reducible refine Kd.C_alloc ?_ _)|(with_reducible refine Kd.C_drewN ?_ _)|(with_reducible refine Kd.C_drew ?_)))
         (case side2=>exact HC0_4.out)
         rintro e w76 ⟨v345,rfl,ho0,hb⟩
         refine ⟨_,rfl,?_⟩
         have n0_:=Aside0.mk (Kd.R_below (by (with_reducible repeat (first|apply Kd.R_alloc|apply Kd.R_drewN|apply Kd.R_drew));exact HO_12.out) hb)
         have n1_:=Aside0.mk (Kd.R_lower ho0 (below_size (by repeat (first|(with_reducible first|exact HB.out|apply below_alloc|apply pw_below_drewN|apply below_drew1|refine below_set ?_ GE84.out|refine below_set ?_ GE86.out|refine below_set ?_ GE85.out)|exact HB.out))))
         have n2_:=Aside0.mk (blk_below (g:=gb84) (o:=.cells #[.string a0_0,.string a0_1,.int .i64 a0_2,.slice A0_3 l0_3.length c0_3,.slice A0_4 l0_4.length c0_4] 33 (0,0)) (by (with_reducible repeat (first|refine blk_drewN ?_ _|refine blk_drew ?_|refine blk_alloc ?_ _));exact BK84.out) hb)
         have n3_:=Aside0.mk (blk_below (g:=gb86) (o:=.cells #[.slice A1_0 l1_0.length c1_0,.slice A1_1 l1_1.length c1_1,.slice A1_2 l1_2.length c1_2,.slice A1_3 l1_3.length c1_3,.int .i64 a1_4,.int .i64 a1_5,.int .i64 a1_6,.int .i64 a1_7] 59 (0,0)) (by (with_reducible repeat (first|refine blk_drewN ?_ _|refine blk_drew ?_|refine blk_alloc ?_ _));exact BK86.out) hb)
         have n4_:=Aside0.mk (blk_below (g:=gb85) (o:=.cells #[.string (⟨#[]⟩:ByteArray),.string (⟨#[]⟩:ByteArray),.int .i64 0,.slice none 0 0,.slice none 0 0] 33 (0,0)) (by (with_reducible repeat (first|refine blk_drewN ?_ _|refine blk_drew ?_|refine blk_alloc ?_ _));exact BK85.out) hb)
         have n5_:=Aside0.mk (below_step (by repeat (first|(with_reducible first|exact HB.out|apply below_alloc|apply pw_below_drewN|apply below_drew1|refine below_set ?_ GE84.out|refine below_set ?_ GE86.out|refine below_set ?_ GE85.out)|exact HB.out)) hb)
         clear HO_12 BK84 BK86 BK85 HB
         have HO_12:=n0_
         have HO346:=n1_
         have BK84:=n2_
         have BK86:=n3_
         have BK85:=n4_
         have HB:=n5_
         clear n0_ n1_ n2_ n3_ n4_ n5_
         (try clear hb)
         (try clear hb2)
         (try clear hk)
         (try clear hi)
         (try clear ho0)
         obtain ⟨Ao77,co77,eo77⟩:=Kd.R_slice HO346.out
         (first|subst eo77|(injection eo77 with f1_ f2_ f3_;have f4_:=f1_.symm;have f5_:=f3_.symm;clear f1_ f2_ f3_;subst f4_;subst f5_))
         obtain ⟨Ao78,co78,eo78⟩:=Kd.R_slice HO_12.out
         (first|subst eo78|(injection eo78 with f1_ f2_ f3_;have f4_:=f1_.symm;have f5_:=f3_.symm;clear f1_ f2_ f3_;subst f4_;subst f5_))
         refine hK.out _ _ ⟨(blk_cell BK84.out 0).trans rfl,(blk_cell BK84.out 1).trans rfl,(blk_cell BK84.out 2).trans rfl,(blk_cell BK84.out 3).trans rfl,(blk_cell BK84.out 4).trans rfl⟩ (fun hHeld=>?_)
         clear hK K
         refine norm_ (a' := ?_) ?_ ?_
         rotate_left
         ·show Act.put _ (some 69) _=_
          simp only [Act.put,zqA,zqB,zqC,i64_w,i32_w]
          rfl
         refine pure_ (i:=7) (N:=some 70) (v:=?_) (a' := ?_) #[true,true,true,true,true,true,true,true,false] rfl rfl (any_of HT_.out (by kernel_rfl)) (fun _ _ _ h=>h) (Or.inl ⟨by rfl,?_⟩) ?_ ?_
         rotate_left
         ·intro w';go_simp;with_reducible rfl
         rotate_left
         ·simp only [Act.put,zqA,zqB,zqC,i64_w,i32_w];rfl
         refine one_ (i:=8) (N:=none) #[true,true,true,true,true,true,true,true,true] rfl rfl (one_of HT_.out (by kernel_rfl)) (by decide) (fun K hK=>?_)
         have hs79:w76.cell? ⟨gb85,0,none⟩=some (.string (⟨#[]⟩:ByteArray)):=(blk_cell BK85.out 0).trans rfl
         have hfs79:=blk_frozen BK85.out 0
         have hns79_0:=NB84_312.out
         have hns79_1:=NB86_312.out
         have hms79_0:=NB85_310.out
         have hms79_1:=NB85_311.out
         have hs80:w76.cell? ⟨gb85,1,none⟩=some (.string (⟨#[]⟩:ByteArray)):=(blk_cell BK85.out 1).trans rfl
         have hfs80:=blk_frozen BK85.out 1
         have hns80_0:=NB84_312.out
         have hns80_1:=NB86_312.out
         have hms80_0:=NB85_310.out
         have hms80_1:=NB85_311.out
         have hs81:w76.cell? ⟨gb85,2,none⟩=some (.int .i64 0):=(blk_cell BK85.out 2).trans rfl
         have hfs81:=blk_frozen BK85.out 2
         have hns81_0:=NB84_312.out
         have hns81_1:=NB86_312.out
         have hms81_0:=NB85_310.out
         have hms81_1:=NB85_311.out
         have hs82:w76.cell? ⟨gb85,3,none⟩=some (.slice none 0 0):=(blk_cell BK85.out 3).trans rfl
         have hfs82:=blk_frozen BK85.out 3
         have hns82_0:=NB84_312.out
         have hns82_1:=NB86_312.out
         have hms82_0:=NB85_310.out
         have hms82_1:=NB85_311.out
         have hs83:w76.cell? ⟨gb85,4,none⟩=some (.slice none 0 0):=(blk_cell BK85.out 4).trans rfl
         have hfs83:=blk_frozen BK85.out 4
         have hns83_0:=NB84_312.out
         have hns83_1:=NB86_312.out
         have hms83_0:=NB85_310.out
         have hms83_1:=NB85_311.out
         refine skip_ (w1:=?_) (by rfl) rfl ?_ ?_
         rotate_left
         ·go_simp
          rfl
         refine hK.out _ _ ⟨((cell_far (p:=⟨gb85,_,none⟩) NB84_312.out _).trans (((cell_far (p:=⟨gb85,_,none⟩) NB84_312.out _).trans (((cell_far (p:=⟨gb85,_,none⟩) NB84_312.out _).trans (((cell_far (p:=⟨gb85,_,none⟩) NB84_312.out _).trans (((cell_far (p:=⟨gb85,_,none⟩) NB84_312.out _).trans (hHeld.1)))))))))),((cell_far (p:=⟨gb85,_,none⟩) NB84_312.out _).trans (((cell_far (p:=⟨gb85,_,none⟩) NB84_312.out _).trans (((cell_far (p:=⟨gb85,_,none⟩) NB84_312.out _).trans (((cell_far (p:=⟨gb85,_,none⟩) NB84_312.out _).trans (((cell_far (p:=⟨gb85,_,none⟩) NB84_312.out _).trans (hHeld.2.1)))))))))),((cell_far (p:=⟨gb85,_,none⟩) NB84_312.out _).trans (((cell_far (p:=⟨gb85,_,none⟩) NB84_312.out _).trans (((cell_far (p:=⟨gb85,_,none⟩) NB84_312.out _).trans (((cell_far (p:=⟨gb85,_,none⟩) NB84_312.out _).trans (((cell_far (p:=⟨gb85,_,none⟩) NB84_312.out _).trans (hHeld.2.2.1)))))))))),((cell_far (p:=⟨gb85,_,none⟩) NB84_312.out _).trans (((cell_far (p:=⟨gb85,_,none⟩) NB84_312.out _).trans (((cell_far (p:=⟨gb85,_,none⟩) NB84_312.out _).trans (((cell_far (p:=⟨gb85,_,none⟩) NB84_312.out _).trans (((cell_far (p:=⟨gb85,_,none⟩) NB84_312.out _).trans (hHeld.2.2.2.1)))))))))),((cell_far (p:=⟨gb85,_,none⟩) NB84_312.out _).trans (((cell_far (p:=⟨gb85,_,none⟩) NB84_312.out _).trans (((cell_far (p:=⟨gb85,_,none⟩) NB84_312.out _).trans (((cell_far (p:=⟨gb85,_,none⟩) NB84_312.out _).trans (((cell_far (p:=⟨gb85,_,none⟩) NB84_312.out _).trans (hHeld.2.2.2.2))))))))))⟩ (fun hHeld=>?_)
         clear hK K
         refine done_ (done_of HT_.out (by kernel_rfl)) ?_
         try go_wp2
         refine bodyPost_ret (results_cell_row rfl _ _ gb85 33 #[.string a0_0,.string a3,.int .i64 1,.slice Ao78 y88.length co78,.slice Ao77 t344.length co77] (0,0) _ rfl (by (with_reducible repeat (first|refine blk_drewN ?_ _|refine blk_drew ?_|refine blk_alloc ?_ _));refine blk_put (cs:=#[.string a0_0,.string a3,.int .i64 1,.slice Ao78 y88.length co78,.slice none 0 0]) ?_ 4 _ rfl;(with_reducible repeat (first|refine blk_drewN ?_ _|refine blk_drew ?_|refine blk_alloc ?_ _));refine blk_put (cs:=#[.string a0_0,.string a3,.int .i64 1,.slice none 0 0,.slice none 0 0]) ?_ 3 _ rfl;(with_reducible repeat (first|refine blk_drewN ?_ _|refine blk_drew ?_|refine blk_alloc ?_ _));refine blk_put (cs:=#[.string a0_0,.string a3,.int .i64 0,.slice none 0 0,.slice none 0 0]) ?_ 2 _ rfl;(with_reducible repeat (first|refine blk_drewN ?_ _|refine blk_drew ?_|refine blk_alloc ?_ _));refine blk_put (cs:=#[.string a0_0,.string (⟨#[]⟩:ByteArray),.int .i64 0,.slice none 0 0,.slice none 0 0]) ?_ 1 _ rfl;(with_reducible repeat (first|refine blk_drewN ?_ _|refine blk_drew ?_|refine blk_alloc ?_ _));refine blk_put (cs:=#[.string (⟨#[]⟩:ByteArray),.string (⟨#[]⟩:ByteArray),.int .i64 0,.slice none 0 0,.slice none 0 0]) ?_ 0 _ rfl;(with_reducible repeat (first|refine blk_drewN ?_ _|refine blk_drew ?_|refine blk_alloc ?_ _));exact BK85.out) Tryz.underlying33 rfl (by kernel_rfl)) rfl ?_
         exact ⟨_,_,by first|rfl|(simp [errW_none,errW_some] <;> rfl)|(simp [*,errW_none,errW_some] <;> rfl),by (with_reducible repeat (first|apply Kd.R_alloc|apply Kd.R_drewN|apply Kd.R_drew));exact Kd.R_mono (Kd.R_far (p:=⟨gb85,4,none⟩) (Kd.R_far (p:=⟨gb85,3,none⟩) (Kd.R_far (p:=⟨gb85,2,none⟩) (Kd.R_far (p:=⟨gb85,1,none⟩) (Kd.R_far (p:=⟨gb85,0,none⟩) (Kd.R_types HO_12.out BK85.out (by decide)) (fun _ hk=>hk.2) (.string a0_0)) (fun _ hk=>hk.2) (.string a3)) (fun _ hk=>hk.2) (.int .i64 1)) (fun _ hk=>hk.2) (.slice Ao78 y88.length co78)) (fun _ hk=>hk.2) (.slice Ao77 t344.length co77)) (fun _ hk=>trivial),by (with_reducible repeat (first|apply Kd.R_alloc|apply Kd.R_drewN|apply Kd.R_drew));exact Kd.R_mono (Kd.R_far (p:=⟨gb85,4,none⟩) (Kd.R_far (p:=⟨gb85,3,none⟩) (Kd.R_far (p:=⟨gb85,2,none⟩) (Kd.R_far (p:=⟨gb85,1,none⟩) (Kd.R_far (p:=⟨gb85,0,none⟩) (Kd.R_types HO346.out BK85.out (by decide)) (fun _ hk=>hk.2) (.string a0_0)) (fun _ hk=>hk.2) (.string a3)) (fun _ hk=>hk.2) (.int .i64 1)) (fun _ hk=>hk.2) (.slice Ao78 y88.length co78)) (fun _ hk=>hk.2) (.slice Ao77 t344.length co77)) (fun _ hk=>trivial),by repeat (first|(with_reducible first|exact HB.out|apply below_alloc|apply pw_below_drewN|apply below_drew1|refine below_set ?_ GE84.out|refine below_set ?_ GE86.out|refine below_set ?_ GE85.out)|exact HB.out)⟩
     ·rw [if_neg c27] at H
      exact absurd H (by simp)
    ·rw [if_neg c26] at H
     exact absurd H (by simp)
def tollbarref04_Same.l0:Nat → List (S55) → List (S55) → Int → Option (Bool)
 | 0,_,_,_=>none
 | k + 1,x0,x1,x5=>if x5 < (x0.length:Int) then (if 0 ≤ x5 then (if x5 < (x1.length:Int) then (if ((rd_T55 x0 x5).f0).toList=((rd_T55 x1 x5).f0).toList then (if ((rd_T55 x0 x5).f1).toList=((rd_T55 x1 x5).f1).toList then (tollbarref04_Same.l0 k x0 x1 (wrap64 (x5 + 1))) else (some false)) else (some false)) else (none)) else (none)) else (some true)
def tollbarref04_Same.f (k:Nat) (l0:List (S55)) (l1:List (S55)):Option (Bool):=if (l0.length:Int)=(l1.length:Int) then (tollbarref04_Same.l0 k l0 l1 0) else (some false)
set_option maxHeartbeats 8000000 in
set_option maxRecDepth 100000 in
theorem tollbarref04_Same.calls (k:Nat) (A0:Option Addr) (c0:Nat) (l0:List (S55)) (A1:Option Addr) (c1:Nat) (l1:List (S55)) (r:Bool) (w:World) (hr0:Kd.C k55 w A0 l0.length l0) (hc0:l0.length ≤ c0) (hr1:Kd.C k55 w A1 l1.length l1) (hc1:l1.length ≤ c1) (h:tollbarref04_Same.f k l0 l1=some r) :
  Calls Tryz.prog 41 #[.slice A0 l0.length c0,.slice A1 l1.length c1] w fun e w' => e = .returned (.bool r)∧Drawn0 w w' := by
 have HR0:=Aside0.mk hr0
 have HC0:=Aside0.mk hc0
 clear hr0 hc0
 have HR1:=Aside0.mk hr1
 have HC1:=Aside0.mk hc1
 clear hr1 hc1
 have H:(if (l0.length:Int)=(l1.length:Int) then (tollbarref04_Same.l0 k l0 l1 0) else (some false))=some r:=h
 clear h
 by_cases c3:(l0.length:Int)=(l1.length:Int)
 ·rw [if_pos c3] at H
  have c3b0:((l0.length:Int) == (l1.length:Int))=true:=beq_iff_eq.mpr c3
  have c3b1:((l0.length:Int) != (l1.length:Int))=false:=bne_eq_false_iff_eq.mpr c3
  have c3b2:(l0.length == l1.length)=true:=by first|simpa using c3|(simp at c3 ⊢;omega)
  clear c3
  have H' := Aside0.mk H
  clear H
  go_enter Tryz.func41,Tryz.ntmps41
  go_wp2
  repeat (go_quiet (fail);try go_wp2)
  go_loopg [5] k (fun kq v5 w' => ∃ (x5_1:Int),v5 = .int .i64 x5_1∧Aside0 (tollbarref04_Same.l0 kq l0 l1 x5_1=some r)∧Aside0 (kq ≤ k)∧Drawn0 w w')
  case atStart=>exact ⟨(0),(by first|rfl|(simp;done)|(simp [*];done)),H',⟨Nat.le_refl _⟩,by repeat (first|exact Drawn0.refl _|apply Drawn0.step)⟩
  case round =>
   clear H'
   try clear c1
   try clear p2
   try clear c3
   try clear c3b0
   try clear c3b1
   try clear c3b2
   obtain ⟨x5_1,rfl,HA,HK1,⟨m1,rfl⟩⟩:=hrel
   cases gk with
   | zero=>exact absurd HA.out (by simp [tollbarref04_Same.l0])
   | succ k1 =>
    have H:=HA.out
    clear HA
    simp only [tollbarref04_Same.l0] at H
    by_cases c4:x5_1 < (l0.length:Int)
    ·rw [if_pos c4] at H
     have c4b0:decide (x5_1 < (l0.length:Int))=true:=decide_eq_true c4
     clear c4
     by_cases c5:0 ≤ x5_1
     ·rw [if_pos c5] at H
      have c5b0:decide (0 ≤ x5_1)=true:=decide_eq_true c5
      clear c5
      by_cases c6:x5_1 < (l1.length:Int)
      ·rw [if_pos c6] at H
       have c6b0:decide (x5_1 < (l1.length:Int))=true:=decide_eq_true c6
       clear c6
       by_cases c7:((rd_T55 l0 x5_1).f0).toList=((rd_T55 l1 x5_1).f0).toList
       ·rw [if_pos c7] at H
        have c7b0:(((rd_T55 l0 x5_1).f0).toList == ((rd_T55 l1 x5_1).f0).toList)=true:=beq_iff_eq.mpr c7
        have c7b1:(((rd_T55 l0 x5_1).f0).toList != ((rd_T55 l1 x5_1).f0).toList)=false:=bne_eq_false_iff_eq.mpr c7
        clear c7
        by_cases c8:((rd_T55 l0 x5_1).f1).toList=((rd_T55 l1 x5_1).f1).toList
        ·rw [if_pos c8] at H
         have c8b0:(((rd_T55 l0 x5_1).f1).toList == ((rd_T55 l1 x5_1).f1).toList)=true:=beq_iff_eq.mpr c8
         have c8b1:(((rd_T55 l0 x5_1).f1).toList != ((rd_T55 l1 x5_1).f1).toList)=false:=bne_eq_false_iff_eq.mpr c8
         clear c8
         have H' := Aside0.mk H
         clear H
         have p347:0 ≤ (x5_1:Int):=of_decide_eq_true (by first|(with_reducible assumption)|assumption)
         have q347:x5_1 < (l0.length:Int):=of_decide_eq_true (by first|(with_reducible assumption)|assumption)
         obtain ⟨ad347,e347,hx347_0,hx347_1⟩:=at_T55 HR0.out x5_1 p347 q347
         cases e347
         replace p347:=eq_true p347
         replace q347:=eq_true q347
         have p348:0 ≤ (x5_1:Int):=of_decide_eq_true (by first|(with_reducible assumption)|assumption)
         have q348:x5_1 < (l1.length:Int):=of_decide_eq_true (by first|(with_reducible assumption)|assumption)
         obtain ⟨ad348,e348,hx348_0,hx348_1⟩:=at_T55 HR1.out x5_1 p348 q348
         cases e348
         replace p348:=eq_true p348
         replace q348:=eq_true q348
         have p349:0 ≤ (x5_1:Int):=of_decide_eq_true (by first|(with_reducible assumption)|assumption)
         have q349:x5_1 < (l0.length:Int):=of_decide_eq_true (by first|(with_reducible assumption)|assumption)
         obtain ⟨ad349,e349,hx349_0,hx349_1⟩:=at_T55 HR0.out x5_1 p349 q349
         obtain rfl:ad347=ad349:=(by injection e349)
         replace p349:=eq_true p349
         replace q349:=eq_true q349
         have p350:0 ≤ (x5_1:Int):=of_decide_eq_true (by first|(with_reducible assumption)|assumption)
         have q350:x5_1 < (l1.length:Int):=of_decide_eq_true (by first|(with_reducible assumption)|assumption)
         obtain ⟨ad350,e350,hx350_0,hx350_1⟩:=at_T55 HR1.out x5_1 p350 q350
         obtain rfl:ad348=ad350:=(by injection e350)
         replace p350:=eq_true p350
         replace q350:=eq_true q350
         go_wp2
         repeat (go_quiet (fail);try go_wp2)
         go_roundg k1
         case measure=>have:=HK1.out;omega
         case rel=>exact ⟨(wrap64 (x5_1 + 1)),(by first|rfl|(simp;done)|(simp [*];done)),H',⟨by have:=HK1.out;omega⟩,by repeat (first|exact Drawn0.refl _|apply Drawn0.step)⟩
        ·rw [if_neg c8] at H
         have c8b0:(((rd_T55 l0 x5_1).f1).toList == ((rd_T55 l1 x5_1).f1).toList)=false:=beq_eq_false_iff_ne.mpr c8
         have c8b1:(((rd_T55 l0 x5_1).f1).toList != ((rd_T55 l1 x5_1).f1).toList)=true:=bne_iff_ne.mpr c8
         obtain rfl:=Option.some.inj H
         have p347:0 ≤ (x5_1:Int):=of_decide_eq_true (by first|(with_reducible assumption)|assumption)
         have q347:x5_1 < (l0.length:Int):=of_decide_eq_true (by first|(with_reducible assumption)|assumption)
         obtain ⟨ad347,e347,hx347_0,hx347_1⟩:=at_T55 HR0.out x5_1 p347 q347
         cases e347
         replace p347:=eq_true p347
         replace q347:=eq_true q347
         have p348:0 ≤ (x5_1:Int):=of_decide_eq_true (by first|(with_reducible assumption)|assumption)
         have q348:x5_1 < (l1.length:Int):=of_decide_eq_true (by first|(with_reducible assumption)|assumption)
         obtain ⟨ad348,e348,hx348_0,hx348_1⟩:=at_T55 HR1.out x5_1 p348 q348
         cases e348
         replace p348:=eq_true p348
         replace q348:=eq_true q348
         have p349:0 ≤ (x5_1:Int):=of_decide_eq_true (by first|(with_reducible assumption)|assumption)
         have q349:x5_1 < (l0.length:Int):=of_decide_eq_true (by first|(with_reducible assumption)|assumption)
         obtain ⟨ad349,e349,hx349_0,hx349_1⟩:=at_T55 HR0.out x5_1 p349 q349
         obtain rfl:ad347=ad349:=(by injection e349)
         replace p349:=eq_true p349
         replace q349:=eq_true q349
         have p350:0 ≤ (x5_1:Int):=of_decide_eq_true (by first|(with_reducible assumption)|assumption)
         have q350:x5_1 < (l1.length:Int):=of_decide_eq_true (by first|(with_reducible assumption)|assumption)
         obtain ⟨ad350,e350,hx350_0,hx350_1⟩:=at_T55 HR1.out x5_1 p350 q350
         obtain rfl:ad348=ad350:=(by injection e350)
         replace p350:=eq_true p350
         replace q350:=eq_true q350
         go_wp2
         repeat (go_quiet (fail);try go_wp2)
         go_ret
         exact ⟨by first|rfl|(simp;done)|(simp [*];done),by repeat (first|exact Drawn0.refl _|apply Drawn0.step)⟩
       ·rw [if_neg c7] at H
        have c7b0:(((rd_T55 l0 x5_1).f0).toList == ((rd_T55 l1 x5_1).f0).toList)=false:=beq_eq_false_iff_ne.mpr c7
        have c7b1:(((rd_T55 l0 x5_1).f0).toList != ((rd_T55 l1 x5_1).f0).toList)=true:=bne_iff_ne.mpr c7
        obtain rfl:=Option.some.inj H
        have p347:0 ≤ (x5_1:Int):=of_decide_eq_true (by first|(with_reducible assumption)|assumption)
        have q347:x5_1 < (l0.length:Int):=of_decide_eq_true (by first|(with_reducible assumption)|assumption)
        obtain ⟨ad347,e347,hx347_0,hx347_1⟩:=at_T55 HR0.out x5_1 p347 q347
        cases e347
        replace p347:=eq_true p347
        replace q347:=eq_true q347
        have p348:0 ≤ (x5_1:Int):=of_decide_eq_true (by first|(with_reducible assumption)|assumption)
        have q348:x5_1 < (l1.length:Int):=of_decide_eq_true (by first|(with_reducible assumption)|assumption)
        obtain ⟨ad348,e348,hx348_0,hx348_1⟩:=at_T55 HR1.out x5_1 p348 q348
        cases e348
        replace p348:=eq_true p348
        replace q348:=eq_true q348
        go_wp2
        repeat (go_quiet (fail);try go_wp2)
        go_ret
        exact ⟨by first|rfl|(simp;done)|(simp [*];done),by repeat (first|exact Drawn0.refl _|apply Drawn0.step)⟩
      ·rw [if_neg c6] at H
       exact absurd H (by simp)
     ·rw [if_neg c5] at H
      exact absurd H (by simp)
    ·rw [if_neg c4] at H
     have c4b0:decide (x5_1 < (l0.length:Int))=false:=decide_eq_false c4
     clear c4
     obtain rfl:=Option.some.inj H
     go_wp2
     repeat (go_quiet (fail);try go_wp2)
     go_ret
     exact ⟨by first|rfl|(simp;done)|(simp [*];done),by repeat (first|exact Drawn0.refl _|apply Drawn0.step)⟩
 ·rw [if_neg c3] at H
  have c3b0:((l0.length:Int) == (l1.length:Int))=false:=beq_eq_false_iff_ne.mpr c3
  have c3b1:((l0.length:Int) != (l1.length:Int))=true:=bne_iff_ne.mpr c3
  have c3b2:(l0.length == l1.length)=false:=by first|simpa using c3|(simp at c3 ⊢;omega)
  obtain rfl:=Option.some.inj H
  go_enter Tryz.func41,Tryz.ntmps41
  go_wp2
  repeat (go_quiet (fail);try go_wp2)
  go_ret
  exact ⟨by first|rfl|(simp;done)|(simp [*];done),by repeat (first|exact Drawn0.refl _|apply Drawn0.step)⟩
def al12_fs:List (S55):=[⟨⟨#[72,111,115,116]⟩,⟨#[104]⟩⟩,⟨⟨#[88]⟩,⟨#[49]⟩⟩,⟨⟨#[67,111,110,110,101,99,116,105,111,110]⟩,⟨#[120,44,32,99,108,111,115,101]⟩⟩,⟨⟨#[89]⟩,⟨#[50]⟩⟩]
def al12_out:List (S55):=[⟨⟨#[72,111,115,116]⟩,⟨#[104]⟩⟩,⟨⟨#[89]⟩,⟨#[50]⟩⟩,⟨⟨#[90]⟩,⟨#[51]⟩⟩]
def al12_len (n:Int):S55:=⟨⟨#[67,111,110,116,101,110,116,45,76,101,110,103,116,104]⟩,⟨(Lib.itoa n).toArray⟩⟩
theorem al12_1:scrub_Request.f 60 ⟨#[71,69,84]⟩ ⟨#[47]⟩ 1 al12_fs [] [] [] [⟨⟨#[90]⟩,⟨#[51]⟩⟩] [] 0 0 0 0 ⟨#[104]⟩ ⟨#[47,110]⟩=some (⟨#[71,69,84]⟩,⟨#[47,110]⟩,1,al12_out,[]):=by kernel_rfl
theorem al12_2:scrub_Own.f 404 true=some (404,⟨#[78,111,116,32,70,111,117,110,100]⟩,1,[al12_len 0,⟨⟨#[67,111,110,110,101,99,116,105,111,110]⟩,⟨#[99,108,111,115,101]⟩⟩],[]):=by kernel_rfl
theorem al12_3:scrub_Response.f 60 200 ⟨#[79,75]⟩ 0 al12_fs [97,98] ⟨#[71,69,84]⟩ false=some (200,⟨#[79,75]⟩,1,[⟨⟨#[89]⟩,⟨#[50]⟩⟩,al12_len 2],[97,98]):=by kernel_rfl
theorem al12_4:tollbarref04_Same.f 60 al12_out al12_out=some true:=by kernel_rfl
theorem al12_5:scrub_Hop.f 60 al12_fs ⟨#[120]⟩=some true:=by kernel_rfl
theorem al12_6:scrub_Hop.f 60 al12_fs ⟨#[121]⟩=some false:=by kernel_rfl
theorem al12_7:(⟨(Lib.itoa 2).toArray⟩:ByteArray)=⟨#[50]⟩:=by
 simp [Lib.itoa,Lib.decDigits_one]
def tollbarlaw12_alive.f:Option Bool:=some true
/-- The cells of fields in a row. -/
def fcells (xs:List (S55)):List Value:=xs.flatMap fun x=>[.string x.f0,.string x.f1]
theorem fcells_get : ∀ (xs:List (S55)) (j i:Nat) (x:S55) (u:Value),xs[j]? = some x → ([Value.string x.f0,.string x.f1])[i]? = some u → (fcells xs)[j * 2 + i]? = some u
 | [],j,i,x,u,h,_=>by simp at h
 | y :: r,0,i,x,u,h,hu=>by
  simp only [List.getElem?_cons_zero,Option.some.injEq] at h
  subst h
  have hi:i < 2:=by have:=(List.getElem?_eq_some_iff.1 hu).1;simpa using this
  show ([Value.string y.f0,.string y.f1] ++ fcells r)[0 * 2 + i]? = some u
  rw [Nat.zero_mul,Nat.zero_add,List.getElem?_append_left (by simpa using hi)]
  exact hu
 | y :: r,j + 1,i,x,u,h,hu=>by
  have hi:i < 2:=by have:=(List.getElem?_eq_some_iff.1 hu).1;simpa using this
  show ([Value.string y.f0,.string y.f1] ++ fcells r)[(j + 1) * 2 + i]? = some u
  rw [List.getElem?_append_right (by simp;omega)]
  have:=fcells_get r j i x u (by simpa using h) hu
  rw [show (j + 1) * 2 + i - ([Value.string y.f0,.string y.f1]:List Value).length=j * 2 + i by simp;omega]
  exact this
/-- A row of fields that a literal laid. -/
theorem C_fields (W:World) (g e:Nat) (xs:List (S55)) (fr:Nat × Nat) (hb:W.heap[g]? = some (.cells (fcells xs).toArray e fr)) (hm:xs.length ≤ 9223372036854775807):Kd.C k55 W (some ⟨g,0,none⟩) xs.length xs:=by
 refine ⟨rfl,hm,fun _=>⟨_,rfl,fun j x hj=>⟨[.string x.f0,.string x.f1],rfl,k55_mk W x,fun i u hu=>?_⟩⟩⟩
 rw [add_plain,cell_of_row _ _ _ _ _ _ hb]
 rw [List.getElem?_toArray]
 exact fcells_get xs j i x u hj hu
def al12_w (w:World):World:=(((w.alloc (.cells (fcells al12_fs).toArray 55)).alloc (.cells #[.string ⟨#[71,69,84]⟩,.string ⟨#[47]⟩,.int .i64 1,.slice (some ⟨w.heap.size,0,none⟩) 4 4,.slice none 0 0] 33)).alloc (.cells (fcells [⟨⟨#[90]⟩,⟨#[51]⟩⟩]).toArray 55)).alloc (.cells #[.slice none 0 0,.slice none 0 0,.slice (some ⟨w.heap.size + 1 + 1,0,none⟩) 1 1,.slice none 0 0,.int .i64 0,.int .i64 0,.int .i64 0,.int .i64 0] 59)
theorem al12_b0 (w:World):(al12_w w).heap[w.heap.size]? = some (.cells (fcells al12_fs).toArray 55):=blk_alloc (blk_alloc (blk_alloc (blk_new w _) _) _) _
theorem al12_b1 (w:World):(al12_w w).heap[w.heap.size + 1]? = some (.cells #[.string ⟨#[71,69,84]⟩,.string ⟨#[47]⟩,.int .i64 1,.slice (some ⟨w.heap.size,0,none⟩) 4 4,.slice none 0 0] 33):=by
 have h:=blk_new (w.alloc (.cells (fcells al12_fs).toArray 55)) (.cells #[.string ⟨#[71,69,84]⟩,.string ⟨#[47]⟩,.int .i64 1,.slice (some ⟨w.heap.size,0,none⟩) 4 4,.slice none 0 0] 33)
 have hz:(w.alloc (.cells (fcells al12_fs).toArray 55)).heap.size=w.heap.size + 1:=by simp
 rw [hz] at h
 exact blk_alloc (blk_alloc h _) _
theorem al12_b2 (w:World):(al12_w w).heap[w.heap.size + 1 + 1]? = some (.cells (fcells [⟨⟨#[90]⟩,⟨#[51]⟩⟩]).toArray 55):=by
 have h:=blk_new ((w.alloc (.cells (fcells al12_fs).toArray 55)).alloc (.cells #[.string ⟨#[71,69,84]⟩,.string ⟨#[47]⟩,.int .i64 1,.slice (some ⟨w.heap.size,0,none⟩) 4 4,.slice none 0 0] 33)) (.cells (fcells [⟨⟨#[90]⟩,⟨#[51]⟩⟩]).toArray 55)
 have hz:((w.alloc (.cells (fcells al12_fs).toArray 55)).alloc (.cells #[.string ⟨#[71,69,84]⟩,.string ⟨#[47]⟩,.int .i64 1,.slice (some ⟨w.heap.size,0,none⟩) 4 4,.slice none 0 0] 33)).heap.size=w.heap.size + 1 + 1:=by simp
 rw [hz] at h
 exact blk_alloc h _
theorem al12_below (w:World):Below w.heap.size w (al12_w w):=below_alloc (below_alloc (below_alloc (below_alloc (Below.refl _ _) _) _) _) _
set_option maxHeartbeats 8000000 in
set_option maxRecDepth 100000 in
theorem tollbarlaw12_alive.calls (r:Bool) (w:World) (h:tollbarlaw12_alive.f=some r) (ht:Tabs w) :
  Calls Tryz.prog 12 #[] w fun e w' => e = .returned (.bool r)∧Below w.heap.size w w' := by
 obtain rfl:=Option.some.inj h
 clear h
 have HTB:=Aside0.mk ht
 clear ht
 have hu1:=Tryz.underlying33
 have hu2:=Tryz.underlying59
 have hu3:=Tryz.underlying25
 have hu4:=Tryz.underlying55
 have kc:=fun (w:World) (C:Array Value) (n c:Nat)=>Lib.run_convert_bytes_const (P:=Tryz.prog) w 23 5 C n c Tryz.underlying23 Tryz.underlying5
 go_enter Tryz.func12,Tryz.ntmps12
 go_wp2_with fail
 go_at_call 40
 refine (scrub_Request.calls 60 ⟨#[71,69,84]⟩ ⟨#[47]⟩ 1 _ _ al12_fs _ _ [] _ _ [] _ _ [] _ _ [⟨⟨#[90]⟩,⟨#[51]⟩⟩] _ _ [] 0 0 0 0 ⟨#[104]⟩ ⟨#[47,110]⟩ _ _ _ _ _ (al12_w w) (C_fields _ _ _ _ _ (al12_b0 w) (by decide)) (Nat.le_refl _) (Kd.C_nil _ _) (Nat.le_refl _) (Kd.C_nil _ _) (Nat.le_refl _) (Kd.C_nil _ _) (Nat.le_refl _) (C_fields _ _ _ _ _ (al12_b2 w) (by decide)) (Nat.le_refl _) (Kd.C_nil _ _) (Nat.le_refl _) al12_1 (HTB.out.below (al12_below w))).mono ?_
 rintro e w1 ⟨v1,v2,rfl,hr1,hr2,hb⟩
 obtain ⟨A1,c1,rfl,hl1,hC1⟩:=Kd.R_reads hr1
 obtain ⟨A2,c2,rfl⟩:=Kd.R_slice hr2
 have B1:=Aside0.mk (below_step (al12_below w) hb)
 have R1:=Aside0.mk hC1
 have F0:=Aside0.mk (blk_below (al12_b0 w) hb)
 have F1:=Aside0.mk (blk_below (al12_b1 w) hb)
 clear hr1 hr2 hC1 hb
 go_wp2_with fail
 go_at_call 17
 refine (scrub_Own.calls 404 true _ _ _ _ _ _ al12_2 (HTB.out.below (below_alloc B1.out _))).mono ?_
 rintro e w2 ⟨v3,v4,rfl,hr3,hr4,hb⟩
 obtain ⟨A3,c3,rfl⟩:=Kd.R_slice hr3
 obtain ⟨A4,c4,rfl⟩:=Kd.R_slice hr4
 have B2:=Aside0.mk (below_step (below_alloc B1.out _) hb)
 have R2:=Aside0.mk (Kd.C_below (Kd.C_alloc R1.out _) hb)
 have G0:=Aside0.mk (blk_below (blk_alloc F0.out _) hb)
 have G1:=Aside0.mk (blk_below (blk_alloc F1.out _) hb)
 have G3:=Aside0.mk (blk_below (blk_new w1 _) hb)
 clear hr3 hr4 hb B1 R1 F0 F1
 have k1:(w2.alloc (.cells #[.int .i64 404,.string ⟨#[78,111,116,32,70,111,117,110,100]⟩,.int .i64 1,.slice A3 2 c3,.slice A4 0 c4] 25)).cell? ⟨w.heap.size + 1,3,none⟩=some (.slice (some ⟨w.heap.size,0,none⟩) 4 4):=(blk_cell (blk_alloc G1.out _) 3).trans rfl
 have hz:(w2.alloc (.cells #[.int .i64 404,.string ⟨#[78,111,116,32,70,111,117,110,100]⟩,.int .i64 1,.slice A3 2 c3,.slice A4 0 c4] 25)).heap.size=w2.heap.size + 1:=by simp
 have kc:=Lib.run_convert_bytes_const (P:=Tryz.prog) (w2.alloc (.cells #[.int .i64 404,.string ⟨#[78,111,116,32,70,111,117,110,100]⟩,.int .i64 1,.slice A3 2 c3,.slice A4 0 c4] 25)) 23 5 #[.int .u8 97,.int .u8 98] 2 2 Tryz.underlying23 Tryz.underlying5
 rw [hz] at kc
 have hcb:=C_const (w2.alloc (.cells #[.int .i64 404,.string ⟨#[78,111,116,32,70,111,117,110,100]⟩,.int .i64 1,.slice A3 2 c3,.slice A4 0 c4] 25)) 5 [97,98] (2,3) (by decide)
 rw [hz] at hcb
 have HCB:=Aside0.mk hcb
 clear hcb hz
 go_wp2_with fail
 go_at_call 15
 refine (scrub_Response.calls 60 200 ⟨#[79,75]⟩ 0 _ _ al12_fs _ _ [97,98] ⟨#[71,69,84]⟩ false _ _ _ _ _ _ (C_fields _ _ _ _ _ (blk_alloc (blk_alloc G0.out _) _) (by decide)) (Nat.le_refl _) HCB.out (Nat.le_refl _) al12_3 (HTB.out.below (below_alloc (below_alloc B2.out _) _))).mono ?_
 rintro e w3 ⟨v5,v6,rfl,hr5,hr6,hb⟩
 obtain ⟨A5,c5,rfl,hl5,hC5⟩:=Kd.R_reads hr5
 obtain ⟨A6,c6,rfl⟩:=Kd.R_slice hr6
 have B3:=Aside0.mk (below_step (below_alloc (below_alloc B2.out _) _) hb)
 have R3:=Aside0.mk (Kd.C_below (Kd.C_alloc (Kd.C_alloc R2.out _) _) hb)
 have H0:=Aside0.mk (blk_below (blk_alloc (blk_alloc G0.out _) _) hb)
 have H1:=Aside0.mk (blk_below (blk_alloc (blk_alloc G1.out _) _) hb)
 have H3:=Aside0.mk (blk_below (blk_alloc (blk_alloc G3.out _) _) hb)
 have H4:=Aside0.mk (blk_below (blk_alloc (blk_new w2 (.cells #[.int .i64 404,.string ⟨#[78,111,116,32,70,111,117,110,100]⟩,.int .i64 1,.slice A3 2 c3,.slice A4 0 c4] 25)) _) hb)
 have R5:=Aside0.mk hC5
 have R6:=Aside0.mk hr6
 clear B2 R2 G0 G1 G3 hr5 hC5 hb kc k1
 have s1:(w3.alloc (.cells #[.int .i64 200,.string ⟨#[79,75]⟩,.int .i64 1,.slice A5 2 c5,.slice A6 2 c6] 25)).cell? ⟨w1.heap.size,1,none⟩=some (.string ⟨#[47,110]⟩):=(blk_cell (blk_alloc H3.out _) 1).trans rfl
 have s2:(w3.alloc (.cells #[.int .i64 200,.string ⟨#[79,75]⟩,.int .i64 1,.slice A5 2 c5,.slice A6 2 c6] 25)).cell? ⟨w1.heap.size,2,none⟩=some (.int .i64 1):=(blk_cell (blk_alloc H3.out _) 2).trans rfl
 have s3:(w3.alloc (.cells #[.int .i64 200,.string ⟨#[79,75]⟩,.int .i64 1,.slice A5 2 c5,.slice A6 2 c6] 25)).cell? ⟨w1.heap.size,3,none⟩=some (.slice A1 3 c1):=(blk_cell (blk_alloc H3.out _) 3).trans rfl
 have hz:(w3.alloc (.cells #[.int .i64 200,.string ⟨#[79,75]⟩,.int .i64 1,.slice A5 2 c5,.slice A6 2 c6] 25)).heap.size=w3.heap.size + 1:=by simp
 have hlit:=C_fields ((w3.alloc (.cells #[.int .i64 200,.string ⟨#[79,75]⟩,.int .i64 1,.slice A5 2 c5,.slice A6 2 c6] 25)).alloc (.cells (fcells al12_out).toArray 55)) (w3.alloc (.cells #[.int .i64 200,.string ⟨#[79,75]⟩,.int .i64 1,.slice A5 2 c5,.slice A6 2 c6] 25)).heap.size 55 al12_out (0,0) (blk_new _ _) (by decide)
 rw [hz] at hlit
 have HLIT:=Aside0.mk hlit
 clear hlit hz
 go_wp2_with fail
 go_at_call 41
 refine (tollbarref04_Same.calls 60 _ _ al12_out _ _ al12_out true ((w3.alloc (.cells #[.int .i64 200,.string ⟨#[79,75]⟩,.int .i64 1,.slice A5 2 c5,.slice A6 2 c6] 25)).alloc (.cells (fcells al12_out).toArray 55)) (Kd.C_alloc (Kd.C_alloc R3.out _) _) hl1 HLIT.out (Nat.le_refl _) al12_4).mono ?_
 rintro e w4 ⟨rfl,hd⟩
 have hb:Below ((w3.alloc (.cells #[.int .i64 200,.string ⟨#[79,75]⟩,.int .i64 1,.slice A5 2 c5,.slice A6 2 c6] 25)).alloc (.cells (fcells al12_out).toArray 55)).heap.size ((w3.alloc (.cells #[.int .i64 200,.string ⟨#[79,75]⟩,.int .i64 1,.slice A5 2 c5,.slice A6 2 c6] 25)).alloc (.cells (fcells al12_out).toArray 55)) w4:=by
  obtain ⟨n,rfl⟩:=hd.out
  exact pw_below_drewN (Below.refl _ _) _
 have B4:=Aside0.mk (below_step (below_alloc (below_alloc B3.out _) _) hb)
 have J0:=Aside0.mk (blk_below (blk_alloc (blk_alloc H0.out _) _) hb)
 have J1:=Aside0.mk (blk_below (blk_alloc (blk_alloc H1.out _) _) hb)
 have J4:=Aside0.mk (blk_below (blk_alloc (blk_alloc H4.out _) _) hb)
 have J5:=Aside0.mk (blk_below (blk_alloc (blk_new w3 (.cells #[.int .i64 200,.string ⟨#[79,75]⟩,.int .i64 1,.slice A5 2 c5,.slice A6 2 c6] 25)) _) hb)
 have R7:=Aside0.mk (Kd.C_below (Kd.C_alloc (Kd.C_alloc R5.out _) _) hb)
 have R8:=Aside0.mk (Kd.R_below (Kd.R_alloc (Kd.R_alloc R6.out _) _) hb)
 clear hd hb B3 H0 H1 H4 R5 R6 R3 H3 HLIT s1 s2 s3
 have o0:w4.cell? ⟨w2.heap.size,0,none⟩=some (.int .i64 404):=(blk_cell J4.out 0).trans rfl
 have o3:w4.cell? ⟨w2.heap.size,3,none⟩=some (.slice A3 2 c3):=(blk_cell J4.out 3).trans rfl
 have p3:w4.cell? ⟨w3.heap.size,3,none⟩=some (.slice A5 2 c5):=(blk_cell J5.out 3).trans rfl
 have p4:w4.cell? ⟨w3.heap.size,4,none⟩=some (.slice A6 2 c6):=(blk_cell J5.out 4).trans rfl
 have r3:w4.cell? ⟨w.heap.size + 1,3,none⟩=some (.slice (some ⟨w.heap.size,0,none⟩) 4 4):=(blk_cell J1.out 3).trans rfl
 have hcv:(convert 23 9 (.slice A6 2 c6)).run Tryz.prog w4 = .ok (.string ⟨#[97,98]⟩) w4:=own_string (P:=Tryz.prog) Tryz.underlying23 Tryz.underlying5 Tryz.underlying9 (Kd.own_of_R R8.out)
 obtain ⟨ad5,e5,x50,x51⟩:=at_T55 R7.out 1 (by decide) (by decide)
 have y51:w4.cell? ⟨(ad5.add 2).block,(ad5.add 2).off + 1,none⟩=some (.string ⟨#[50]⟩):=by
  have h:=x51
  rw [show (rd_T55 [⟨⟨#[89]⟩,⟨#[50]⟩⟩,al12_len 2] 1).f1=⟨#[50]⟩ from al12_7] at h
  exact h
 have z51:w4.cell? ⟨ad5.block,ad5.off + 2 + 1,none⟩=some (.string ⟨#[50]⟩):=by
  have h1:(ad5.add 2).block=ad5.block:=by simp [Addr.add]
  have h2:(ad5.add 2).off=ad5.off + 2:=by simp [Addr.add]
  rw [h1,h2] at y51
  exact y51
 subst e5
 clear x50 x51 y51
 go_wp2_with fail
 go_at_call 42
 refine (scrub_Hop.calls 60 _ _ al12_fs ⟨#[120]⟩ true w4 (C_fields _ _ _ _ _ J0.out (by decide)) (Nat.le_refl _) al12_5).mono ?_
 rintro e w5 ⟨rfl,hb⟩
 have r35:=pw_cell_below hb r3
 have K0:=Aside0.mk (blk_below J0.out hb)
 have B5:=Aside0.mk (below_step B4.out hb)
 clear hb
 go_wp2_with fail
 go_at_call 42
 refine (scrub_Hop.calls 60 _ _ al12_fs ⟨#[121]⟩ false w5 (C_fields _ _ _ _ _ K0.out (by decide)) (Nat.le_refl _) al12_6).mono ?_
 rintro e w6 ⟨rfl,hb⟩
 have B6:=Aside0.mk (below_step B5.out hb)
 clear hb
 go_wp2
 go_ret
 exact ⟨by first|rfl|(simp;done),B6.out⟩
def tollbarlaw12_few.f (l0:List (S55)) (l1:List ByteArray):Option (Bool):=if (l0.length:Int) ≤ 60 then (some (decide ((l1.length:Int) ≤ 60))) else (some false)
set_option maxHeartbeats 8000000 in
set_option maxRecDepth 100000 in
theorem tollbarlaw12_few.calls (A0:Option Addr) (c0:Nat) (l0:List (S55)) (A1:Option Addr) (c1:Nat) (l1:List ByteArray) (r:Bool) (w:World) (hr0:Kd.C k55 w A0 l0.length l0) (hc0:l0.length ≤ c0) (hr1:Kd.C Kd.string w A1 l1.length l1) (hc1:l1.length ≤ c1) (h:tollbarlaw12_few.f l0 l1=some r) :
  Calls Tryz.prog 13 #[.slice A0 l0.length c0,.slice A1 l1.length c1] w fun e w' => e = .returned (.bool r)∧Drawn0 w w' := by
 have HR0:=Aside0.mk hr0
 have HC0:=Aside0.mk hc0
 clear hr0 hc0
 have HR1:=Aside0.mk hr1
 have HC1:=Aside0.mk hc1
 clear hr1 hc1
 have H:(if (l0.length:Int) ≤ 60 then (some (decide ((l1.length:Int) ≤ 60))) else (some false))=some r:=h
 clear h
 by_cases c3:(l0.length:Int) ≤ 60
 ·rw [if_pos c3] at H
  have c3b0:decide ((l0.length:Int) ≤ 60)=true:=decide_eq_true c3
  have c3b1:decide (l0.length ≤ 60)=true:=decide_eq_true (by omega)
  clear c3
  obtain rfl:=Option.some.inj H
  go_enter Tryz.func13,Tryz.ntmps13
  go_wp2
  go_ret
  exact ⟨by first|rfl|(simp;done)|(simp [*];done),by repeat (first|exact Drawn0.refl _|apply Drawn0.step)⟩
 ·rw [if_neg c3] at H
  have c3b0:decide ((l0.length:Int) ≤ 60)=false:=decide_eq_false c3
  have c3b1:decide (l0.length ≤ 60)=false:=decide_eq_false (by omega)
  clear c3
  obtain rfl:=Option.some.inj H
  go_enter Tryz.func13,Tryz.ntmps13
  go_wp2
  go_ret
  exact ⟨by first|rfl|(simp;done)|(simp [*];done),by repeat (first|exact Drawn0.refl _|apply Drawn0.step)⟩
def tollbarref01_SameBytes.l0:Nat → List Int → List Int → Int → Option (Bool)
 | 0,_,_,_=>none
 | k + 1,x0,x1,x5=>if x5 < (x0.length:Int) then (if 0 ≤ x5 then (if x5 < (x1.length:Int) then (if (rd x0 x5)=(rd x1 x5) then (tollbarref01_SameBytes.l0 k x0 x1 (wrap64 (x5 + 1))) else (some false)) else (none)) else (none)) else (some true)
def tollbarref01_SameBytes.f (k:Nat) (l0:List Int) (l1:List Int):Option (Bool):=if (l0.length:Int)=(l1.length:Int) then (tollbarref01_SameBytes.l0 k l0 l1 0) else (some false)
set_option maxHeartbeats 8000000 in
set_option maxRecDepth 100000 in
theorem tollbarref01_SameBytes.calls (k:Nat) (A0:Option Addr) (c0:Nat) (l0:List Int) (A1:Option Addr) (c1:Nat) (l1:List Int) (r:Bool) (w:World) (hr0:Kd.C (Kd.int .u8) w A0 l0.length l0) (hc0:l0.length ≤ c0) (hr1:Kd.C (Kd.int .u8) w A1 l1.length l1) (hc1:l1.length ≤ c1) (h:tollbarref01_SameBytes.f k l0 l1=some r) :
  Calls Tryz.prog 35 #[.slice A0 l0.length c0,.slice A1 l1.length c1] w fun e w' => e = .returned (.bool r)∧Drawn0 w w' := by
 have HR0:=Aside0.mk hr0
 have HC0:=Aside0.mk hc0
 clear hr0 hc0
 have HR1:=Aside0.mk hr1
 have HC1:=Aside0.mk hc1
 clear hr1 hc1
 have H:(if (l0.length:Int)=(l1.length:Int) then (tollbarref01_SameBytes.l0 k l0 l1 0) else (some false))=some r:=h
 clear h
 by_cases c3:(l0.length:Int)=(l1.length:Int)
 ·rw [if_pos c3] at H
  have c3b0:((l0.length:Int) == (l1.length:Int))=true:=beq_iff_eq.mpr c3
  have c3b1:((l0.length:Int) != (l1.length:Int))=false:=bne_eq_false_iff_eq.mpr c3
  have c3b2:(l0.length == l1.length)=true:=by first|simpa using c3|(simp at c3 ⊢;omega)
  clear c3
  have H' := Aside0.mk H
  clear H
  go_enter Tryz.func35,Tryz.ntmps35
  go_wp2
  repeat (go_quiet (fail);try go_wp2)
  go_loopg [5] k (fun kq v5 w' => ∃ (x5_1:Int),v5 = .int .i64 x5_1∧Aside0 (tollbarref01_SameBytes.l0 kq l0 l1 x5_1=some r)∧Aside0 (kq ≤ k)∧Drawn0 w w')
  case atStart=>exact ⟨(0),(by first|rfl|(simp;done)|(simp [*];done)),H',⟨Nat.le_refl _⟩,by repeat (first|exact Drawn0.refl _|apply Drawn0.step)⟩
  case round =>
   clear H'
   try clear c1
   try clear p2
   try clear c3
   try clear c3b0
   try clear c3b1
   try clear c3b2
   obtain ⟨x5_1,rfl,HA,HK1,⟨m1,rfl⟩⟩:=hrel
   cases gk with
   | zero=>exact absurd HA.out (by simp [tollbarref01_SameBytes.l0])
   | succ k1 =>
    have H:=HA.out
    clear HA
    simp only [tollbarref01_SameBytes.l0] at H
    by_cases c4:x5_1 < (l0.length:Int)
    ·rw [if_pos c4] at H
     have c4b0:decide (x5_1 < (l0.length:Int))=true:=decide_eq_true c4
     clear c4
     by_cases c5:0 ≤ x5_1
     ·rw [if_pos c5] at H
      have c5b0:decide (0 ≤ x5_1)=true:=decide_eq_true c5
      clear c5
      by_cases c6:x5_1 < (l1.length:Int)
      ·rw [if_pos c6] at H
       have c6b0:decide (x5_1 < (l1.length:Int))=true:=decide_eq_true c6
       clear c6
       by_cases c7:(rd l0 x5_1)=(rd l1 x5_1)
       ·rw [if_pos c7] at H
        have c7b0:((rd l0 x5_1) == (rd l1 x5_1))=true:=beq_iff_eq.mpr c7
        have c7b1:((rd l0 x5_1) != (rd l1 x5_1))=false:=bne_eq_false_iff_eq.mpr c7
        clear c7
        have H' := Aside0.mk H
        clear H
        have p351:0 ≤ (x5_1:Int):=of_decide_eq_true (by first|(with_reducible assumption)|assumption)
        have q351:x5_1 < (l0.length:Int):=of_decide_eq_true (by first|(with_reducible assumption)|assumption)
        obtain ⟨ad351,e351,hx351_0⟩:=Kd.at_int HR0.out x5_1 p351 q351
        cases e351
        replace p351:=eq_true p351
        replace q351:=eq_true q351
        have p352:0 ≤ (x5_1:Int):=of_decide_eq_true (by first|(with_reducible assumption)|assumption)
        have q352:x5_1 < (l1.length:Int):=of_decide_eq_true (by first|(with_reducible assumption)|assumption)
        obtain ⟨ad352,e352,hx352_0⟩:=Kd.at_int HR1.out x5_1 p352 q352
        cases e352
        replace p352:=eq_true p352
        replace q352:=eq_true q352
        go_wp2
        repeat (go_quiet (fail);try go_wp2)
        go_roundg k1
        case measure=>have:=HK1.out;omega
        case rel=>exact ⟨(wrap64 (x5_1 + 1)),(by first|rfl|(simp;done)|(simp [*];done)),H',⟨by have:=HK1.out;omega⟩,by repeat (first|exact Drawn0.refl _|apply Drawn0.step)⟩
       ·rw [if_neg c7] at H
        have c7b0:((rd l0 x5_1) == (rd l1 x5_1))=false:=beq_eq_false_iff_ne.mpr c7
        have c7b1:((rd l0 x5_1) != (rd l1 x5_1))=true:=bne_iff_ne.mpr c7
        obtain rfl:=Option.some.inj H
        have p351:0 ≤ (x5_1:Int):=of_decide_eq_true (by first|(with_reducible assumption)|assumption)
        have q351:x5_1 < (l0.length:Int):=of_decide_eq_true (by first|(with_reducible assumption)|assumption)
        obtain ⟨ad351,e351,hx351_0⟩:=Kd.at_int HR0.out x5_1 p351 q351
        cases e351
        replace p351:=eq_true p351
        replace q351:=eq_true q351
        have p352:0 ≤ (x5_1:Int):=of_decide_eq_true (by first|(with_reducible assumption)|assumption)
        have q352:x5_1 < (l1.length:Int):=of_decide_eq_true (by first|(with_reducible assumption)|assumption)
        obtain ⟨ad352,e352,hx352_0⟩:=Kd.at_int HR1.out x5_1 p352 q352
        cases e352
        replace p352:=eq_true p352
        replace q352:=eq_true q352
        go_wp2
        repeat (go_quiet (fail);try go_wp2)
        go_ret
        exact ⟨by first|rfl|(simp;done)|(simp [*];done),by repeat (first|exact Drawn0.refl _|apply Drawn0.step)⟩
      ·rw [if_neg c6] at H
       exact absurd H (by simp)
     ·rw [if_neg c5] at H
      exact absurd H (by simp)
    ·rw [if_neg c4] at H
     have c4b0:decide (x5_1 < (l0.length:Int))=false:=decide_eq_false c4
     clear c4
     obtain rfl:=Option.some.inj H
     go_wp2
     repeat (go_quiet (fail);try go_wp2)
     go_ret
     exact ⟨by first|rfl|(simp;done)|(simp [*];done),by repeat (first|exact Drawn0.refl _|apply Drawn0.step)⟩
 ·rw [if_neg c3] at H
  have c3b0:((l0.length:Int) == (l1.length:Int))=false:=beq_eq_false_iff_ne.mpr c3
  have c3b1:((l0.length:Int) != (l1.length:Int))=true:=bne_iff_ne.mpr c3
  have c3b2:(l0.length == l1.length)=false:=by first|simpa using c3|(simp at c3 ⊢;omega)
  obtain rfl:=Option.some.inj H
  go_enter Tryz.func35,Tryz.ntmps35
  go_wp2
  repeat (go_quiet (fail);try go_wp2)
  go_ret
  exact ⟨by first|rfl|(simp;done)|(simp [*];done),by repeat (first|exact Drawn0.refl _|apply Drawn0.step)⟩
def tollbarref08_SameResp.f (k:Nat) (a0_0:Int) (a0_1:ByteArray) (a0_2:Int) (l0_3:List (S55)) (l0_4:List Int) (a1_0:Int) (a1_1:ByteArray) (a1_2:Int) (l1_3:List (S55)) (l1_4:List Int):Option (Bool):=if a0_0=a1_0 then (if a0_1.toList=a1_1.toList then (if a0_2=a1_2 then ((tollbarref04_Same.f k l0_3 l1_3).bind fun t355=>(if t355=true then ((tollbarref01_SameBytes.f k l0_4 l1_4).bind fun t356=>(some t356)) else (some false))) else (some false)) else (some false)) else (some false)
set_option maxHeartbeats 8000000 in
set_option maxRecDepth 100000 in
theorem tollbarref08_SameResp.calls (k:Nat) (a0_0:Int) (a0_1:ByteArray) (a0_2:Int) (A0_3:Option Addr) (c0_3:Nat) (l0_3:List (S55)) (A0_4:Option Addr) (c0_4:Nat) (l0_4:List Int) (a1_0:Int) (a1_1:ByteArray) (a1_2:Int) (A1_3:Option Addr) (c1_3:Nat) (l1_3:List (S55)) (A1_4:Option Addr) (c1_4:Nat) (l1_4:List Int) (r:Bool) (w:World) (hr0_3:Kd.C k55 w A0_3 l0_3.length l0_3) (hc0_3:l0_3.length ≤ c0_3) (hr0_4:Kd.C (Kd.int .u8) w A0_4 l0_4.length l0_4) (hc0_4:l0_4.length ≤ c0_4) (hr1_3:Kd.C k55 w A1_3 l1_3.length l1_3) (hc1_3:l1_3.length ≤ c1_3) (hr1_4:Kd.C (Kd.int .u8) w A1_4 l1_4.length l1_4) (hc1_4:l1_4.length ≤ c1_4) (h:tollbarref08_SameResp.f k a0_0 a0_1 a0_2 l0_3 l0_4 a1_0 a1_1 a1_2 l1_3 l1_4=some r) :
  Calls Tryz.prog 14 #[.agg #[.int .i64 a0_0,.string a0_1,.int .i64 a0_2,.slice A0_3 l0_3.length c0_3,.slice A0_4 l0_4.length c0_4],.agg #[.int .i64 a1_0,.string a1_1,.int .i64 a1_2,.slice A1_3 l1_3.length c1_3,.slice A1_4 l1_4.length c1_4]] w fun e w' => e = .returned (.bool r)∧Below w.heap.size w w' := by
 have hu25:=Tryz.underlying25
 have HR0_3:=Aside0.mk hr0_3
 have HC0_3:=Aside0.mk hc0_3
 clear hr0_3 hc0_3
 have HR0_4:=Aside0.mk hr0_4
 have HC0_4:=Aside0.mk hc0_4
 clear hr0_4 hc0_4
 have HR1_3:=Aside0.mk hr1_3
 have HC1_3:=Aside0.mk hc1_3
 clear hr1_3 hc1_3
 have HR1_4:=Aside0.mk hr1_4
 have HC1_4:=Aside0.mk hc1_4
 clear hr1_4 hc1_4
 have HB:=Aside0.mk (Below.refl w.heap.size w)
 have H:(if a0_0=a1_0 then (if a0_1.toList=a1_1.toList then (if a0_2=a1_2 then ((tollbarref04_Same.f k l0_3 l1_3).bind fun t37=>(if t37=true then ((tollbarref01_SameBytes.f k l0_4 l1_4).bind fun t36=>(some t36)) else (some false))) else (some false)) else (some false)) else (some false))=some r:=h
 clear h
 by_cases c3:a0_0=a1_0
 ·rw [if_pos c3] at H
  have c3b0:(a0_0 == a1_0)=true:=beq_iff_eq.mpr c3
  have c3b1:(a0_0 != a1_0)=false:=bne_eq_false_iff_eq.mpr c3
  clear c3
  by_cases c4:a0_1.toList=a1_1.toList
  ·rw [if_pos c4] at H
   have c4b0:(a0_1.toList == a1_1.toList)=true:=beq_iff_eq.mpr c4
   have c4b1:(a0_1.toList != a1_1.toList)=false:=bne_eq_false_iff_eq.mpr c4
   clear c4
   by_cases c5:a0_2=a1_2
   ·rw [if_pos c5] at H
    have c5b0:(a0_2 == a1_2)=true:=beq_iff_eq.mpr c5
    have c5b1:(a0_2 != a1_2)=false:=bne_eq_false_iff_eq.mpr c5
    clear c5
    replace H:=Option.bind_eq_some_iff.mp H
    obtain ⟨t37,A60,H⟩:=H
    replace H:(if t37=true then ((tollbarref01_SameBytes.f k l0_4 l1_4).bind fun t36=>(some t36)) else (some false))=some r:=H
    have A6:=Aside0.mk A60
    clear A60
    by_cases c7:t37=true
    ·subst c7
     have H1:((tollbarref01_SameBytes.f k l0_4 l1_4).bind fun t36=>(some t36))=some r:=by rw [if_pos rfl] at H;exact H
     clear H
     have H:=H1
     clear H1
     replace H:=Option.bind_eq_some_iff.mp H
     obtain ⟨t36,A80,H⟩:=H
     replace H:(some t36)=some r:=H
     have A8:=Aside0.mk A80
     clear A80
     obtain rfl:=Option.some.inj H
     go_enter Tryz.func14,Tryz.ntmps14
     go_wp2_with (first|((with_reducible refine gate_dst (N:=2) rfl ?_);refine box_event ?hg (N:=2) ?hd (cs:=#[.int .i64 a0_0,.string a0_1,.int .i64 a0_2,.slice A0_3 l0_3.length c0_3,.slice A0_4 l0_4.length c0_4]) (t:=25) ?hr ?_;(case hd=>rfl);(case hg=>rfl);(case hr=>first|(go_simp;done)|(go_simp;rfl));intro gb34 hg w9 hbox hb;have n0_:=Aside0.mk (below_step (by repeat (first|(with_reducible first|exact HB.out|apply below_alloc|apply pw_below_drewN|apply below_drew1)|exact HB.out)) hb);have n1_:=Aside0.mk (hbox);have n2_:=Aside0.mk ((by rw [hg];exact (below_size (by repeat (first|(with_reducible first|exact HB.out|apply below_alloc|apply pw_below_drewN|apply below_drew1)|exact HB.out))):w.heap.size ≤ gb34));have n3_:=Aside0.mk ((by rw [hg];exact (below_size (by repeat (first|(with_reducible first|exact HB.out|apply below_alloc|apply pw_below_drewN|apply below_drew1)|exact HB.out))):w.heap.size ≤ gb34));clear HB;have HB:=n0_;have BK34:=n1_;have GW34:=n2_;have GE34:=n3_;clear n0_ n1_ n2_ n3_;clear hb hbox hg)|((with_reducible refine gate_dst (N:=3) rfl ?_);refine box_event ?hg (N:=3) ?hd (cs:=#[.int .i64 a1_0,.string a1_1,.int .i64 a1_2,.slice A1_3 l1_3.length c1_3,.slice A1_4 l1_4.length c1_4]) (t:=25) ?hr ?_;(case hd=>rfl);(case hg=>rfl);(case hr=>first|(go_simp;done)|(go_simp;rfl));intro gb35 hg w10 hbox hb;have n0_:=Aside0.mk (blk_below (g:=gb34) (o:=.cells #[.int .i64 a0_0,.string a0_1,.int .i64 a0_2,.slice A0_3 l0_3.length c0_3,.slice A0_4 l0_4.length c0_4] 25 (0,0)) (by (with_reducible repeat (first|refine blk_drewN ?_ _|refine blk_drew ?_|refine blk_alloc ?_ _));exact BK34.out) hb);have n1_:=Aside0.mk (below_step (by repeat (first|(with_reducible first|exact HB.out|apply below_alloc|apply pw_below_drewN|apply below_drew1|refine below_set ?_ GE34.out)|exact HB.out)) hb);have n2_:=Aside0.mk (hbox);have n3_:=Aside0.mk ((by rw [hg];exact (below_size (by repeat (first|(with_reducible first|exact HB.out|apply below_alloc|apply pw_below_drewN|apply below_drew1|refine below_set ?_ GE34.out)|exact HB.out))):w.heap.size ≤ gb35));have n4_:=Aside0.mk ((by rw [hg];exact (below_size (by repeat (first|(with_reducible first|exact HB.out|apply below_alloc|apply pw_below_drewN|apply below_drew1|refine below_set ?_ GE34.out)|exact HB.out))):w.heap.size ≤ gb35));have n5_:=Aside0.mk ((by rw [hg];exact Nat.ne_of_lt (blk_lt (g:=gb34) (o:=.cells #[.int .i64 a0_0,.string a0_1,.int .i64 a0_2,.slice A0_3 l0_3.length c0_3,.slice A0_4 l0_4.length c0_4] 25 (0,0)) (by (with_reducible repeat (first|refine blk_drewN ?_ _|refine blk_drew ?_|refine blk_alloc ?_ _));exact BK34.out)):gb34 ≠ gb35));have n6_:=Aside0.mk ((by rw [hg];exact Nat.ne_of_gt (blk_lt (g:=gb34) (o:=.cells #[.int .i64 a0_0,.string a0_1,.int .i64 a0_2,.slice A0_3 l0_3.length c0_3,.slice A0_4 l0_4.length c0_4] 25 (0,0)) (by (with_reducible repeat (first|refine blk_drewN ?_ _|refine blk_drew ?_|refine blk_alloc ?_ _));exact BK34.out)):gb35 ≠ gb34));clear BK34;clear HB;have BK34:=n0_;have HB:=n1_;have BK35:=n2_;have GW35:=n3_;have GE35:=n4_;have NB34_354:=n5_;have NB35_353:=n6_;clear n0_ n1_ n2_ n3_ n4_ n5_ n6_;clear hb hbox hg;have hnb11:=NB34_354.out;have hnc11:=NB35_353.out;have hcz12_0:w10.cell? ⟨gb34,0,none⟩=some (.int .i64 a0_0):=(blk_cell BK34.out 0).trans rfl;have hcz12_1:w10.cell? ⟨gb34,1,none⟩=some (.string a0_1):=(blk_cell BK34.out 1).trans rfl;have hcz12_2:w10.cell? ⟨gb34,2,none⟩=some (.int .i64 a0_2):=(blk_cell BK34.out 2).trans rfl;have hcz12_3:w10.cell? ⟨gb34,3,none⟩=some (.slice A0_3 l0_3.length c0_3):=(blk_cell BK34.out 3).trans rfl;have hcz12_4:w10.cell? ⟨gb34,4,none⟩=some (.slice A0_4 l0_4.length c0_4):=(blk_cell BK34.out 4).trans rfl;have hfz12_0:=blk_frozen BK34.out 0;have hfz12_1:=blk_frozen BK34.out 1;have hfz12_2:=blk_frozen BK34.out 2;have hfz12_3:=blk_frozen BK34.out 3;have hfz12_4:=blk_frozen BK34.out 4;have hcz13_0:w10.cell? ⟨gb35,0,none⟩=some (.int .i64 a1_0):=(blk_cell BK35.out 0).trans rfl;have hcz13_1:w10.cell? ⟨gb35,1,none⟩=some (.string a1_1):=(blk_cell BK35.out 1).trans rfl;have hcz13_2:w10.cell? ⟨gb35,2,none⟩=some (.int .i64 a1_2):=(blk_cell BK35.out 2).trans rfl;have hcz13_3:w10.cell? ⟨gb35,3,none⟩=some (.slice A1_3 l1_3.length c1_3):=(blk_cell BK35.out 3).trans rfl;have hcz13_4:w10.cell? ⟨gb35,4,none⟩=some (.slice A1_4 l1_4.length c1_4):=(blk_cell BK35.out 4).trans rfl;have hfz13_0:=blk_frozen BK35.out 0;have hfz13_1:=blk_frozen BK35.out 1;have hfz13_2:=blk_frozen BK35.out 2;have hfz13_3:=blk_frozen BK35.out 3;have hfz13_4:=blk_frozen BK35.out 4)|(go_at_call 41;(with_reducible refine (tollbarref04_Same.calls k _ _ l0_3 _ _ l1_3 true _ ?side1 ?side2 ?side3 ?side4 A6.out).mono ?_);(case side1=>repeat (first|exact (Kd.C_below HR0_3.out HB.out)|(with_reducible refine Kd.C_alloc ?_ _)|(with_reducible refine Kd.C_drewN ?_ _)|(with_reducible refine Kd.C_drew ?_)));(case side2=>exact HC0_3.out);(case side3=>repeat (first|exact (Kd.C_below HR1_3.out HB.out)|(with_reducible refine Kd.C_alloc ?_ _)|(with_reducible refine Kd.C_drewN ?_ _)|(with_reducible refine Kd.C_drew ?_)));(case side4=>exact HC1_3.out);rintro e w' ⟨rfl,⟨nd,rfl⟩⟩;(try clear A6))|(go_at_call 35;(with_reducible refine (tollbarref01_SameBytes.calls k _ _ l0_4 _ _ l1_4 t36 _ ?side1 ?side2 ?side3 ?side4 A8.out).mono ?_);(case side1=>repeat (first|exact (Kd.C_below HR0_4.out (by repeat (first|(with_reducible first|exact HB.out|apply below_alloc|apply pw_below_drewN|apply below_drew1|refine below_set ?_ GE34.out|refine below_set ?_ GE35.out)|exact HB.out)))|(with_reducible refine Kd.C_alloc ?_ _)|(with_reducible refine Kd.C_drewN ?_ _)|(with_reducible refine Kd.C_drew ?_)));(case side2=>exact HC0_4.out);(case side3=>repeat (first|exact (Kd.C_below HR1_4.out (by repeat (first|(with_reducible first|exact HB.out|apply below_alloc|apply pw_below_drewN|apply below_drew1|refine below_set ?_ GE34.out|refine below_set ?_ GE35.out)|exact HB.out)))|(with_reducible refine Kd.C_alloc ?_ _)|(with_reducible refine Kd.C_drewN ?_ _)|(with_reducible refine Kd.C_drew ?_)));(case side4=>exact HC1_4.out);rintro e w' ⟨rfl,⟨nd,rfl⟩⟩;(try clear A8)))
     go_ret
     exact ⟨by first|rfl|(simp [errW_none,errW_some] <;> rfl)|(simp [*,errW_none,errW_some] <;> rfl),by repeat (first|(with_reducible first|exact HB.out|apply below_alloc|apply pw_below_drewN|apply below_drew1|refine below_set ?_ GE34.out|refine below_set ?_ GE35.out)|exact HB.out)⟩
    ·replace c7:=Bool.eq_false_iff.mpr c7
     subst c7
     have H1:(some false)=some r:=by rw [if_neg (show ¬ (false=true) by decide)] at H;exact H
     clear H
     have H:=H1
     clear H1
     obtain rfl:=Option.some.inj H
     go_enter Tryz.func14,Tryz.ntmps14
     go_wp2_with (first|((with_reducible refine gate_dst (N:=2) rfl ?_);refine box_event ?hg (N:=2) ?hd (cs:=#[.int .i64 a0_0,.string a0_1,.int .i64 a0_2,.slice A0_3 l0_3.length c0_3,.slice A0_4 l0_4.length c0_4]) (t:=25) ?hr ?_;(case hd=>rfl);(case hg=>rfl);(case hr=>first|(go_simp;done)|(go_simp;rfl));intro gb34 hg w14 hbox hb;have n0_:=Aside0.mk (below_step (by repeat (first|(with_reducible first|exact HB.out|apply below_alloc|apply pw_below_drewN|apply below_drew1)|exact HB.out)) hb);have n1_:=Aside0.mk (hbox);have n2_:=Aside0.mk ((by rw [hg];exact (below_size (by repeat (first|(with_reducible first|exact HB.out|apply below_alloc|apply pw_below_drewN|apply below_drew1)|exact HB.out))):w.heap.size ≤ gb34));have n3_:=Aside0.mk ((by rw [hg];exact (below_size (by repeat (first|(with_reducible first|exact HB.out|apply below_alloc|apply pw_below_drewN|apply below_drew1)|exact HB.out))):w.heap.size ≤ gb34));clear HB;have HB:=n0_;have BK34:=n1_;have GW34:=n2_;have GE34:=n3_;clear n0_ n1_ n2_ n3_;clear hb hbox hg)|((with_reducible refine gate_dst (N:=3) rfl ?_);refine box_event ?hg (N:=3) ?hd (cs:=#[.int .i64 a1_0,.string a1_1,.int .i64 a1_2,.slice A1_3 l1_3.length c1_3,.slice A1_4 l1_4.length c1_4]) (t:=25) ?hr ?_;(case hd=>rfl);(case hg=>rfl);(case hr=>first|(go_simp;done)|(go_simp;rfl));intro gb35 hg w15 hbox hb;have n0_:=Aside0.mk (blk_below (g:=gb34) (o:=.cells #[.int .i64 a0_0,.string a0_1,.int .i64 a0_2,.slice A0_3 l0_3.length c0_3,.slice A0_4 l0_4.length c0_4] 25 (0,0)) (by (with_reducible repeat (first|refine blk_drewN ?_ _|refine blk_drew ?_|refine blk_alloc ?_ _));exact BK34.out) hb);have n1_:=Aside0.mk (below_step (by repeat (first|(with_reducible first|exact HB.out|apply below_alloc|apply pw_below_drewN|apply below_drew1|refine below_set ?_ GE34.out)|exact HB.out)) hb);have n2_:=Aside0.mk (hbox);have n3_:=Aside0.mk ((by rw [hg];exact (below_size (by repeat (first|(with_reducible first|exact HB.out|apply below_alloc|apply pw_below_drewN|apply below_drew1|refine below_set ?_ GE34.out)|exact HB.out))):w.heap.size ≤ gb35));have n4_:=Aside0.mk ((by rw [hg];exact (below_size (by repeat (first|(with_reducible first|exact HB.out|apply below_alloc|apply pw_below_drewN|apply below_drew1|refine below_set ?_ GE34.out)|exact HB.out))):w.heap.size ≤ gb35));have n5_:=Aside0.mk ((by rw [hg];exact Nat.ne_of_lt (blk_lt (g:=gb34) (o:=.cells #[.int .i64 a0_0,.string a0_1,.int .i64 a0_2,.slice A0_3 l0_3.length c0_3,.slice A0_4 l0_4.length c0_4] 25 (0,0)) (by (with_reducible repeat (first|refine blk_drewN ?_ _|refine blk_drew ?_|refine blk_alloc ?_ _));exact BK34.out)):gb34 ≠ gb35));have n6_:=Aside0.mk ((by rw [hg];exact Nat.ne_of_gt (blk_lt (g:=gb34) (o:=.cells #[.int .i64 a0_0,.string a0_1,.int .i64 a0_2,.slice A0_3 l0_3.length c0_3,.slice A0_4 l0_4.length c0_4] 25 (0,0)) (by (with_reducible repeat (first|refine blk_drewN ?_ _|refine blk_drew ?_|refine blk_alloc ?_ _));exact BK34.out)):gb35 ≠ gb34));clear BK34;clear HB;have BK34:=n0_;have HB:=n1_;have BK35:=n2_;have GW35:=n3_;have GE35:=n4_;have NB34_354:=n5_;have NB35_353:=n6_;clear n0_ n1_ n2_ n3_ n4_ n5_ n6_;clear hb hbox hg;have hnb16:=NB34_354.out;have hnc16:=NB35_353.out;have hcz17_0:w15.cell? ⟨gb34,0,none⟩=some (.int .i64 a0_0):=(blk_cell BK34.out 0).trans rfl;have hcz17_1:w15.cell? ⟨gb34,1,none⟩=some (.string a0_1):=(blk_cell BK34.out 1).trans rfl;have hcz17_2:w15.cell? ⟨gb34,2,none⟩=some (.int .i64 a0_2):=(blk_cell BK34.out 2).trans rfl;have hcz17_3:w15.cell? ⟨gb34,3,none⟩=some (.slice A0_3 l0_3.length c0_3):=(blk_cell BK34.out 3).trans rfl;have hcz17_4:w15.cell? ⟨gb34,4,none⟩=some (.slice A0_4 l0_4.length c0_4):=(blk_cell BK34.out 4).trans rfl;have hfz17_0:=blk_frozen BK34.out 0;have hfz17_1:=blk_frozen BK34.out 1;have hfz17_2:=blk_frozen BK34.out 2;have hfz17_3:=blk_frozen BK34.out 3;have hfz17_4:=blk_frozen BK34.out 4;have hcz18_0:w15.cell? ⟨gb35,0,none⟩=some (.int .i64 a1_0):=(blk_cell BK35.out 0).trans rfl;have hcz18_1:w15.cell? ⟨gb35,1,none⟩=some (.string a1_1):=(blk_cell BK35.out 1).trans rfl;have hcz18_2:w15.cell? ⟨gb35,2,none⟩=some (.int .i64 a1_2):=(blk_cell BK35.out 2).trans rfl;have hcz18_3:w15.cell? ⟨gb35,3,none⟩=some (.slice A1_3 l1_3.length c1_3):=(blk_cell BK35.out 3).trans rfl;have hcz18_4:w15.cell? ⟨gb35,4,none⟩=some (.slice A1_4 l1_4.length c1_4):=(blk_cell BK35.out 4).trans rfl;have hfz18_0:=blk_frozen BK35.out 0;have hfz18_1:=blk_frozen BK35.out 1;have hfz18_2:=blk_frozen BK35.out 2;have hfz18_3:=blk_frozen BK35.out 3;have hfz18_4:=blk_frozen BK35.out 4)|(go_at_call 41;(with_reducible refine (tollbarref04_Same.calls k _ _ l0_3 _ _ l1_3 false _ ?side1 ?side2 ?side3 ?side4 A6.out).mono ?_);(case side1=>repeat (first|exact (Kd.C_below HR0_3.out HB.out)|(with_reducible refine Kd.C_alloc ?_ _)|(with_reducible refine Kd.C_drewN ?_ _)|(with_reducible refine Kd.C_drew ?_)));(case side2=>exact HC0_3.out);(case side3=>repeat (first|exact (Kd.C_below HR1_3.out HB.out)|(with_reducible refine Kd.C_alloc ?_ _)|(with_reducible refine Kd.C_drewN ?_ _)|(with_reducible refine Kd.C_drew ?_)));(case side4=>exact HC1_3.out);rintro e w' ⟨rfl,⟨nd,rfl⟩⟩;(try clear A6)))
     go_ret
     exact ⟨by first|rfl|(simp [errW_none,errW_some] <;> rfl)|(simp [*,errW_none,errW_some] <;> rfl),by repeat (first|(with_reducible first|exact HB.out|apply below_alloc|apply pw_below_drewN|apply below_drew1|refine below_set ?_ GE34.out|refine below_set ?_ GE35.out)|exact HB.out)⟩
   ·rw [if_neg c5] at H
    have c5b0:(a0_2 == a1_2)=false:=beq_eq_false_iff_ne.mpr c5
    have c5b1:(a0_2 != a1_2)=true:=bne_iff_ne.mpr c5
    obtain rfl:=Option.some.inj H
    go_enter Tryz.func14,Tryz.ntmps14
    go_wp2_with (first|((with_reducible refine gate_dst (N:=2) rfl ?_);refine box_event ?hg (N:=2) ?hd (cs:=#[.int .i64 a0_0,.string a0_1,.int .i64 a0_2,.slice A0_3 l0_3.length c0_3,.slice A0_4 l0_4.length c0_4]) (t:=25) ?hr ?_;(case hd=>rfl);(case hg=>rfl);(case hr=>first|(go_simp;done)|(go_simp;rfl));intro gb34 hg w19 hbox hb;have n0_:=Aside0.mk (below_step (by repeat (first|(with_reducible first|exact HB.out|apply below_alloc|apply pw_below_drewN|apply below_drew1)|exact HB.out)) hb);have n1_:=Aside0.mk (hbox);have n2_:=Aside0.mk ((by rw [hg];exact (below_size (by repeat (first|(with_reducible first|exact HB.out|apply below_alloc|apply pw_below_drewN|apply below_drew1)|exact HB.out))):w.heap.size ≤ gb34));have n3_:=Aside0.mk ((by rw [hg];exact (below_size (by repeat (first|(with_reducible first|exact HB.out|apply below_alloc|apply pw_below_drewN|apply below_drew1)|exact HB.out))):w.heap.size ≤ gb34));clear HB;have HB:=n0_;have BK34:=n1_;have GW34:=n2_;have GE34:=n3_;clear n0_ n1_ n2_ n3_;clear hb hbox hg)|((with_reducible refine gate_dst (N:=3) rfl ?_);refine box_event ?hg (N:=3) ?hd (cs:=#[.int .i64 a1_0,.string a1_1,.int .i64 a1_2,.slice A1_3 l1_3.length c1_3,.slice A1_4 l1_4.length c1_4]) (t:=25) ?hr ?_;(case hd=>rfl);(case hg=>rfl);(case hr=>first|(go_simp;done)|(go_simp;rfl));intro gb35 hg w20 hbox hb;have n0_:=Aside0.mk (blk_below (g:=gb34) (o:=.cells #[.int .i64 a0_0,.string a0_1,.int .i64 a0_2,.slice A0_3 l0_3.length c0_3,.slice A0_4 l0_4.length c0_4] 25 (0,0)) (by (with_reducible repeat (first|refine blk_drewN ?_ _|refine blk_drew ?_|refine blk_alloc ?_ _));exact BK34.out) hb);have n1_:=Aside0.mk (below_step (by repeat (first|(with_reducible first|exact HB.out|apply below_alloc|apply pw_below_drewN|apply below_drew1|refine below_set ?_ GE34.out)|exact HB.out)) hb);have n2_:=Aside0.mk (hbox);have n3_:=Aside0.mk ((by rw [hg];exact (below_size (by repeat (first|(with_reducible first|exact HB.out|apply below_alloc|apply pw_below_drewN|apply below_drew1|refine below_set ?_ GE34.out)|exact HB.out))):w.heap.size ≤ gb35));have n4_:=Aside0.mk ((by rw [hg];exact (below_size (by repeat (first|(with_reducible first|exact HB.out|apply below_alloc|apply pw_below_drewN|apply below_drew1|refine below_set ?_ GE34.out)|exact HB.out))):w.heap.size ≤ gb35));have n5_:=Aside0.mk ((by rw [hg];exact Nat.ne_of_lt (blk_lt (g:=gb34) (o:=.cells #[.int .i64 a0_0,.string a0_1,.int .i64 a0_2,.slice A0_3 l0_3.length c0_3,.slice A0_4 l0_4.length c0_4] 25 (0,0)) (by (with_reducible repeat (first|refine blk_drewN ?_ _|refine blk_drew ?_|refine blk_alloc ?_ _));exact BK34.out)):gb34 ≠ gb35));have n6_:=Aside0.mk ((by rw [hg];exact Nat.ne_of_gt (blk_lt (g:=gb34) (o:=.cells #[.int .i64 a0_0,.string a0_1,.int .i64 a0_2,.slice A0_3 l0_3.length c0_3,.slice A0_4 l0_4.length c0_4] 25 (0,0)) (by (with_reducible repeat (first|refine blk_drewN ?_ _|refine blk_drew ?_|refine blk_alloc ?_ _));exact BK34.out)):gb35 ≠ gb34));clear BK34;clear HB;have BK34:=n0_;have HB:=n1_;have BK35:=n2_;have GW35:=n3_;have GE35:=n4_;have NB34_354:=n5_;have NB35_353:=n6_;clear n0_ n1_ n2_ n3_ n4_ n5_ n6_;clear hb hbox hg;have hnb21:=NB34_354.out;have hnc21:=NB35_353.out;have hcz22_0:w20.cell? ⟨gb34,0,none⟩=some (.int .i64 a0_0):=(blk_cell BK34.out 0).trans rfl;have hcz22_1:w20.cell? ⟨gb34,1,none⟩=some (.string a0_1):=(blk_cell BK34.out 1).trans rfl;have hcz22_2:w20.cell? ⟨gb34,2,none⟩=some (.int .i64 a0_2):=(blk_cell BK34.out 2).trans rfl;have hcz22_3:w20.cell? ⟨gb34,3,none⟩=some (.slice A0_3 l0_3.length c0_3):=(blk_cell BK34.out 3).trans rfl;have hcz22_4:w20.cell? ⟨gb34,4,none⟩=some (.slice A0_4 l0_4.length c0_4):=(blk_cell BK34.out 4).trans rfl;have hfz22_0:=blk_frozen BK34.out 0;have hfz22_1:=blk_frozen BK34.out 1;have hfz22_2:=blk_frozen BK34.out 2;have hfz22_3:=blk_frozen BK34.out 3;have hfz22_4:=blk_frozen BK34.out 4;have hcz23_0:w20.cell? ⟨gb35,0,none⟩=some (.int .i64 a1_0):=(blk_cell BK35.out 0).trans rfl;have hcz23_1:w20.cell? ⟨gb35,1,none⟩=some (.string a1_1):=(blk_cell BK35.out 1).trans rfl;have hcz23_2:w20.cell? ⟨gb35,2,none⟩=some (.int .i64 a1_2):=(blk_cell BK35.out 2).trans rfl;have hcz23_3:w20.cell? ⟨gb35,3,none⟩=some (.slice A1_3 l1_3.length c1_3):=(blk_cell BK35.out 3).trans rfl;have hcz23_4:w20.cell? ⟨gb35,4,none⟩=some (.slice A1_4 l1_4.length c1_4):=(blk_cell BK35.out 4).trans rfl;have hfz23_0:=blk_frozen BK35.out 0;have hfz23_1:=blk_frozen BK35.out 1;have hfz23_2:=blk_frozen BK35.out 2;have hfz23_3:=blk_frozen BK35.out 3;have hfz23_4:=blk_frozen BK35.out 4))
    go_ret
    exact ⟨by first|rfl|(simp [errW_none,errW_some] <;> rfl)|(simp [*,errW_none,errW_some] <;> rfl),by repeat (first|(with_reducible first|exact HB.out|apply below_alloc|apply pw_below_drewN|apply below_drew1|refine below_set ?_ GE34.out|refine below_set ?_ GE35.out)|exact HB.out)⟩
  ·rw [if_neg c4] at H
   have c4b0:(a0_1.toList == a1_1.toList)=false:=beq_eq_false_iff_ne.mpr c4
   have c4b1:(a0_1.toList != a1_1.toList)=true:=bne_iff_ne.mpr c4
   obtain rfl:=Option.some.inj H
   go_enter Tryz.func14,Tryz.ntmps14
   go_wp2_with (first|((with_reducible refine gate_dst (N:=2) rfl ?_);refine box_event ?hg (N:=2) ?hd (cs:=#[.int .i64 a0_0,.string a0_1,.int .i64 a0_2,.slice A0_3 l0_3.length c0_3,.slice A0_4 l0_4.length c0_4]) (t:=25) ?hr ?_;(case hd=>rfl);(case hg=>rfl);(case hr=>first|(go_simp;done)|(go_simp;rfl));intro gb34 hg w24 hbox hb;have n0_:=Aside0.mk (below_step (by repeat (first|(with_reducible first|exact HB.out|apply below_alloc|apply pw_below_drewN|apply below_drew1)|exact HB.out)) hb);have n1_:=Aside0.mk (hbox);have n2_:=Aside0.mk ((by rw [hg];exact (below_size (by repeat (first|(with_reducible first|exact HB.out|apply below_alloc|apply pw_below_drewN|apply below_drew1)|exact HB.out))):w.heap.size ≤ gb34));have n3_:=Aside0.mk ((by rw [hg];exact (below_size (by repeat (first|(with_reducible first|exact HB.out|apply below_alloc|apply pw_below_drewN|apply below_drew1)|exact HB.out))):w.heap.size ≤ gb34));clear HB;have HB:=n0_;have BK34:=n1_;have GW34:=n2_;have GE34:=n3_;clear n0_ n1_ n2_ n3_;clear hb hbox hg)|((with_reducible refine gate_dst (N:=3) rfl ?_);refine box_event ?hg (N:=3) ?hd (cs:=#[.int .i64 a1_0,.string a1_1,.int .i64 a1_2,.slice A1_3 l1_3.length c1_3,.slice A1_4 l1_4.length c1_4]) (t:=25) ?hr ?_;(case hd=>rfl);(case hg=>rfl);(case hr=>first|(go_simp;done)|(go_simp;rfl));intro gb35 hg w25 hbox hb;have n0_:=Aside0.mk (blk_below (g:=gb34) (o:=.cells #[.int .i64 a0_0,.string a0_1,.int .i64 a0_2,.slice A0_3 l0_3.length c0_3,.slice A0_4 l0_4.length c0_4] 25 (0,0)) (by (with_reducible repeat (first|refine blk_drewN ?_ _|refine blk_drew ?_|refine blk_alloc ?_ _));exact BK34.out) hb);have n1_:=Aside0.mk (below_step (by repeat (first|(with_reducible first|exact HB.out|apply below_alloc|apply pw_below_drewN|apply below_drew1|refine below_set ?_ GE34.out)|exact HB.out)) hb);have n2_:=Aside0.mk (hbox);have n3_:=Aside0.mk ((by rw [hg];exact (below_size (by repeat (first|(with_reducible first|exact HB.out|apply below_alloc|apply pw_below_drewN|apply below_drew1|refine below_set ?_ GE34.out)|exact HB.out))):w.heap.size ≤ gb35));have n4_:=Aside0.mk ((by rw [hg];exact (below_size (by repeat (first|(with_reducible first|exact HB.out|apply below_alloc|apply pw_below_drewN|apply below_drew1|refine below_set ?_ GE34.out)|exact HB.out))):w.heap.size ≤ gb35));have n5_:=Aside0.mk ((by rw [hg];exact Nat.ne_of_lt (blk_lt (g:=gb34) (o:=.cells #[.int .i64 a0_0,.string a0_1,.int .i64 a0_2,.slice A0_3 l0_3.length c0_3,.slice A0_4 l0_4.length c0_4] 25 (0,0)) (by (with_reducible repeat (first|refine blk_drewN ?_ _|refine blk_drew ?_|refine blk_alloc ?_ _));exact BK34.out)):gb34 ≠ gb35));have n6_:=Aside0.mk ((by rw [hg];exact Nat.ne_of_gt (blk_lt (g:=gb34) (o:=.cells #[.int .i64 a0_0,.string a0_1,.int .i64 a0_2,.slice A0_3 l0_3.length c0_3,.slice A0_4 l0_4.length c0_4] 25 (0,0)) (by (with_reducible repeat (first|refine blk_drewN ?_ _|refine blk_drew ?_|refine blk_alloc ?_ _));exact BK34.out)):gb35 ≠ gb34));clear BK34;clear HB;have BK34:=n0_;have HB:=n1_;have BK35:=n2_;have GW35:=n3_;have GE35:=n4_;have NB34_354:=n5_;have NB35_353:=n6_;clear n0_ n1_ n2_ n3_ n4_ n5_ n6_;clear hb hbox hg;have hnb26:=NB34_354.out;have hnc26:=NB35_353.out;have hcz27_0:w25.cell? ⟨gb34,0,none⟩=some (.int .i64 a0_0):=(blk_cell BK34.out 0).trans rfl;have hcz27_1:w25.cell? ⟨gb34,1,none⟩=some (.string a0_1):=(blk_cell BK34.out 1).trans rfl;have hcz27_2:w25.cell? ⟨gb34,2,none⟩=some (.int .i64 a0_2):=(blk_cell BK34.out 2).trans rfl;have hcz27_3:w25.cell? ⟨gb34,3,none⟩=some (.slice A0_3 l0_3.length c0_3):=(blk_cell BK34.out 3).trans rfl;have hcz27_4:w25.cell? ⟨gb34,4,none⟩=some (.slice A0_4 l0_4.length c0_4):=(blk_cell BK34.out 4).trans rfl;have hfz27_0:=blk_frozen BK34.out 0;have hfz27_1:=blk_frozen BK34.out 1;have hfz27_2:=blk_frozen BK34.out 2;have hfz27_3:=blk_frozen BK34.out 3;have hfz27_4:=blk_frozen BK34.out 4;have hcz28_0:w25.cell? ⟨gb35,0,none⟩=some (.int .i64 a1_0):=(blk_cell BK35.out 0).trans rfl;have hcz28_1:w25.cell? ⟨gb35,1,none⟩=some (.string a1_1):=(blk_cell BK35.out 1).trans rfl;have hcz28_2:w25.cell? ⟨gb35,2,none⟩=some (.int .i64 a1_2):=(blk_cell BK35.out 2).trans rfl;have hcz28_3:w25.cell? ⟨gb35,3,none⟩=some (.slice A1_3 l1_3.length c1_3):=(blk_cell BK35.out 3).trans rfl;have hcz28_4:w25.cell? ⟨gb35,4,none⟩=some (.slice A1_4 l1_4.length c1_4):=(blk_cell BK35.out 4).trans rfl;have hfz28_0:=blk_frozen BK35.out 0;have hfz28_1:=blk_frozen BK35.out 1;have hfz28_2:=blk_frozen BK35.out 2;have hfz28_3:=blk_frozen BK35.out 3;have hfz28_4:=blk_frozen BK35.out 4))
   go_ret
   exact ⟨by first|rfl|(simp [errW_none,errW_some] <;> rfl)|(simp [*,errW_none,errW_some] <;> rfl),by repeat (first|(with_reducible first|exact HB.out|apply below_alloc|apply pw_below_drewN|apply below_drew1|refine below_set ?_ GE34.out|refine below_set ?_ GE35.out)|exact HB.out)⟩
 ·rw [if_neg c3] at H
  have c3b0:(a0_0 == a1_0)=false:=beq_eq_false_iff_ne.mpr c3
  have c3b1:(a0_0 != a1_0)=true:=bne_iff_ne.mpr c3
  obtain rfl:=Option.some.inj H
  go_enter Tryz.func14,Tryz.ntmps14
  go_wp2_with (first|((with_reducible refine gate_dst (N:=2) rfl ?_);refine box_event ?hg (N:=2) ?hd (cs:=#[.int .i64 a0_0,.string a0_1,.int .i64 a0_2,.slice A0_3 l0_3.length c0_3,.slice A0_4 l0_4.length c0_4]) (t:=25) ?hr ?_;(case hd=>rfl);(case hg=>rfl);(case hr=>first|(go_simp;done)|(go_simp;rfl));intro gb34 hg w29 hbox hb;have n0_:=Aside0.mk (below_step (by repeat (first|(with_reducible first|exact HB.out|apply below_alloc|apply pw_below_drewN|apply below_drew1)|exact HB.out)) hb);have n1_:=Aside0.mk (hbox);have n2_:=Aside0.mk ((by rw [hg];exact (below_size (by repeat (first|(with_reducible first|exact HB.out|apply below_alloc|apply pw_below_drewN|apply below_drew1)|exact HB.out))):w.heap.size ≤ gb34));have n3_:=Aside0.mk ((by rw [hg];exact (below_size (by repeat (first|(with_reducible first|exact HB.out|apply below_alloc|apply pw_below_drewN|apply below_drew1)|exact HB.out))):w.heap.size ≤ gb34));clear HB;have HB:=n0_;have BK34:=n1_;have GW34:=n2_;have GE34:=n3_;clear n0_ n1_ n2_ n3_;clear hb hbox hg)|((with_reducible refine gate_dst (N:=3) rfl ?_);refine box_event ?hg (N:=3) ?hd (cs:=#[.int .i64 a1_0,.string a1_1,.int .i64 a1_2,.slice A1_3 l1_3.length c1_3,.slice A1_4 l1_4.length c1_4]) (t:=25) ?hr ?_;(case hd=>rfl);(case hg=>rfl);(case hr=>first|(go_simp;done)|(go_simp;rfl));intro gb35 hg w30 hbox hb;have n0_:=Aside0.mk (blk_below (g:=gb34) (o:=.cells #[.int .i64 a0_0,.string a0_1,.int .i64 a0_2,.slice A0_3 l0_3.length c0_3,.slice A0_4 l0_4.length c0_4] 25 (0,0)) (by (with_reducible repeat (first|refine blk_drewN ?_ _|refine blk_drew ?_|refine blk_alloc ?_ _));exact BK34.out) hb);have n1_:=Aside0.mk (below_step (by repeat (first|(with_reducible first|exact HB.out|apply below_alloc|apply pw_below_drewN|apply below_drew1|refine below_set ?_ GE34.out)|exact HB.out)) hb);have n2_:=Aside0.mk (hbox);have n3_:=Aside0.mk ((by rw [hg];exact (below_size (by repeat (first|(with_reducible first|exact HB.out|apply below_alloc|apply pw_below_drewN|apply below_drew1|refine below_set ?_ GE34.out)|exact HB.out))):w.heap.size ≤ gb35));have n4_:=Aside0.mk ((by rw [hg];exact (below_size (by repeat (first|(with_reducible first|exact HB.out|apply below_alloc|apply pw_below_drewN|apply below_drew1|refine below_set ?_ GE34.out)|exact HB.out))):w.heap.size ≤ gb35));have n5_:=Aside0.mk ((by rw [hg];exact Nat.ne_of_lt (blk_lt (g:=gb34) (o:=.cells #[.int .i64 a0_0,.string a0_1,.int .i64 a0_2,.slice A0_3 l0_3.length c0_3,.slice A0_4 l0_4.length c0_4] 25 (0,0)) (by (with_reducible repeat (first|refine blk_drewN ?_ _|refine blk_drew ?_|refine blk_alloc ?_ _));exact BK34.out)):gb34 ≠ gb35));have n6_:=Aside0.mk ((by rw [hg];exact Nat.ne_of_gt (blk_lt (g:=gb34) (o:=.cells #[.int .i64 a0_0,.string a0_1,.int .i64 a0_2,.slice A0_3 l0_3.length c0_3,.slice A0_4 l0_4.length c0_4] 25 (0,0)) (by (with_reducible repeat (first|refine blk_drewN ?_ _|refine blk_drew ?_|refine blk_alloc ?_ _));exact BK34.out)):gb35 ≠ gb34));clear BK34;clear HB;have BK34:=n0_;have HB:=n1_;have BK35:=n2_;have GW35:=n3_;have GE35:=n4_;have NB34_354:=n5_;have NB35_353:=n6_;clear n0_ n1_ n2_ n3_ n4_ n5_ n6_;clear hb hbox hg;have hnb31:=NB34_354.out;have hnc31:=NB35_353.out;have hcz32_0:w30.cell? ⟨gb34,0,none⟩=some (.int .i64 a0_0):=(blk_cell BK34.out 0).trans rfl;have hcz32_1:w30.cell? ⟨gb34,1,none⟩=some (.string a0_1):=(blk_cell BK34.out 1).trans rfl;have hcz32_2:w30.cell? ⟨gb34,2,none⟩=some (.int .i64 a0_2):=(blk_cell BK34.out 2).trans rfl;have hcz32_3:w30.cell? ⟨gb34,3,none⟩=some (.slice A0_3 l0_3.length c0_3):=(blk_cell BK34.out 3).trans rfl;have hcz32_4:w30.cell? ⟨gb34,4,none⟩=some (.slice A0_4 l0_4.length c0_4):=(blk_cell BK34.out 4).trans rfl;have hfz32_0:=blk_frozen BK34.out 0;have hfz32_1:=blk_frozen BK34.out 1;have hfz32_2:=blk_frozen BK34.out 2;have hfz32_3:=blk_frozen BK34.out 3;have hfz32_4:=blk_frozen BK34.out 4;have hcz33_0:w30.cell? ⟨gb35,0,none⟩=some (.int .i64 a1_0):=(blk_cell BK35.out 0).trans rfl;have hcz33_1:w30.cell? ⟨gb35,1,none⟩=some (.string a1_1):=(blk_cell BK35.out 1).trans rfl;have hcz33_2:w30.cell? ⟨gb35,2,none⟩=some (.int .i64 a1_2):=(blk_cell BK35.out 2).trans rfl;have hcz33_3:w30.cell? ⟨gb35,3,none⟩=some (.slice A1_3 l1_3.length c1_3):=(blk_cell BK35.out 3).trans rfl;have hcz33_4:w30.cell? ⟨gb35,4,none⟩=some (.slice A1_4 l1_4.length c1_4):=(blk_cell BK35.out 4).trans rfl;have hfz33_0:=blk_frozen BK35.out 0;have hfz33_1:=blk_frozen BK35.out 1;have hfz33_2:=blk_frozen BK35.out 2;have hfz33_3:=blk_frozen BK35.out 3;have hfz33_4:=blk_frozen BK35.out 4))
  go_ret
  exact ⟨by first|rfl|(simp [errW_none,errW_some] <;> rfl)|(simp [*,errW_none,errW_some] <;> rfl),by repeat (first|(with_reducible first|exact HB.out|apply below_alloc|apply pw_below_drewN|apply below_drew1|refine below_set ?_ GE34.out|refine below_set ?_ GE35.out)|exact HB.out)⟩
def tollbarref05_Reason.l0:Nat → Int → List Int → List ByteArray → Int → Option (ByteArray)
 | 0,_,_,_,_=>none
 | k + 1,x0,x3,x4,x5=>if x5 < (x3.length:Int) then (if 0 ≤ x5 then (if (rd x3 x5)=x0 then (if x5 < (x4.length:Int) then (some (rdOf ByteArray.empty x4 x5)) else (none)) else (tollbarref05_Reason.l0 k x0 x3 x4 (wrap64 (x5 + 1)))) else (none)) else (some (⟨#[83,116,97,116,117,115]⟩:ByteArray))
def tollbarref05_Reason.f (k:Nat) (a0:Int):Option (ByteArray):=tollbarref05_Reason.l0 k a0 (([200,204,400,404,413,414,421,429,431,501,502,503,504,505]:List Int)) (([(⟨#[79,75]⟩:ByteArray),(⟨#[78,111,32,67,111,110,116,101,110,116]⟩:ByteArray),(⟨#[66,97,100,32,82,101,113,117,101,115,116]⟩:ByteArray),(⟨#[78,111,116,32,70,111,117,110,100]⟩:ByteArray),(⟨#[67,111,110,116,101,110,116,32,84,111,111,32,76,97,114,103,101]⟩:ByteArray),(⟨#[85,82,73,32,84,111,111,32,76,111,110,103]⟩:ByteArray),(⟨#[77,105,115,100,105,114,101,99,116,101,100,32,82,101,113,117,101,115,116]⟩:ByteArray),(⟨#[84,111,111,32,77,97,110,121,32,82,101,113,117,101,115,116,115]⟩:ByteArray),(⟨#[82,101,113,117,101,115,116,32,72,101,97,100,101,114,32,70,105,101,108,100,115,32,84,111,111,32,76,97,114,103,101]⟩:ByteArray),(⟨#[78,111,116,32,73,109,112,108,101,109,101,110,116,101,100]⟩:ByteArray),(⟨#[66,97,100,32,71,97,116,101,119,97,121]⟩:ByteArray),(⟨#[83,101,114,118,105,99,101,32,85,110,97,118,97,105,108,97,98,108,101]⟩:ByteArray),(⟨#[71,97,116,101,119,97,121,32,84,105,109,101,111,117,116]⟩:ByteArray),(⟨#[72,84,84,80,32,86,101,114,115,105,111,110,32,78,111,116,32,83,117,112,112,111,114,116,101,100]⟩:ByteArray)]:List ByteArray)) 0
theorem tollbarref05_Reason.mono_l : ∀ k,(∀ y0 y1 y2 y3,LeO (tollbarref05_Reason.l0 k y0 y1 y2 y3) (tollbarref05_Reason.l0 (k + 1) y0 y1 y2 y3))
 | 0=>fun _ _ _ _ r h=>by simp [tollbarref05_Reason.l0] at h
 | k + 1=>by
  have ih0:=tollbarref05_Reason.mono_l k
  ·intro y0 y1 y2 y3
   unfold tollbarref05_Reason.l0
   repeat' first
   | (with_reducible exact ih0 _ _ _ _)
   | (with_reducible exact LeO.refl _)
   | (with_reducible exact LeO.none _)
   | (with_reducible refine LeO.ite ?_ ?_)
   | (with_reducible refine LeO.bind ?_ (fun _=>?_))
   | exact ih0 _ _ _ _
   | exact LeO.none _
   | refine LeO.ite ?_ ?_
   | refine LeO.bind ?_ (fun _=>?_)
theorem tollbarref05_Reason.mono : ∀ a0 k,LeO (tollbarref05_Reason.f k a0) (tollbarref05_Reason.f (k + 1) a0):=by
 intro a0 k
 have ih0:=tollbarref05_Reason.mono_l k
 unfold tollbarref05_Reason.f
 repeat' first
   | (with_reducible exact ih0 _ _ _ _)
   | (with_reducible exact LeO.refl _)
   | (with_reducible exact LeO.none _)
   | (with_reducible refine LeO.ite ?_ ?_)
   | (with_reducible refine LeO.bind ?_ (fun _=>?_))
   | exact ih0 _ _ _ _
   | exact LeO.none _
   | refine LeO.ite ?_ ?_
   | refine LeO.bind ?_ (fun _=>?_)
set_option maxHeartbeats 8000000 in
set_option maxRecDepth 100000 in
theorem tollbarref05_Reason.calls (k:Nat) (a0:Int) (r:ByteArray) (w:World) (h:tollbarref05_Reason.f k a0=some r) :
  Calls Tryz.prog 53 #[.int .i64 a0] w fun e w' => e = .returned (.string r)∧Below w.heap.size w w' := by
 have HB:=Aside0.mk (Below.refl w.heap.size w)
 have H:(tollbarref05_Reason.l0 k a0 (([200,204,400,404,413,414,421,429,431,501,502,503,504,505]:List Int)) (([(⟨#[79,75]⟩:ByteArray),(⟨#[78,111,32,67,111,110,116,101,110,116]⟩:ByteArray),(⟨#[66,97,100,32,82,101,113,117,101,115,116]⟩:ByteArray),(⟨#[78,111,116,32,70,111,117,110,100]⟩:ByteArray),(⟨#[67,111,110,116,101,110,116,32,84,111,111,32,76,97,114,103,101]⟩:ByteArray),(⟨#[85,82,73,32,84,111,111,32,76,111,110,103]⟩:ByteArray),(⟨#[77,105,115,100,105,114,101,99,116,101,100,32,82,101,113,117,101,115,116]⟩:ByteArray),(⟨#[84,111,111,32,77,97,110,121,32,82,101,113,117,101,115,116,115]⟩:ByteArray),(⟨#[82,101,113,117,101,115,116,32,72,101,97,100,101,114,32,70,105,101,108,100,115,32,84,111,111,32,76,97,114,103,101]⟩:ByteArray),(⟨#[78,111,116,32,73,109,112,108,101,109,101,110,116,101,100]⟩:ByteArray),(⟨#[66,97,100,32,71,97,116,101,119,97,121]⟩:ByteArray),(⟨#[83,101,114,118,105,99,101,32,85,110,97,118,97,105,108,97,98,108,101]⟩:ByteArray),(⟨#[71,97,116,101,119,97,121,32,84,105,109,101,111,117,116]⟩:ByteArray),(⟨#[72,84,84,80,32,86,101,114,115,105,111,110,32,78,111,116,32,83,117,112,112,111,114,116,101,100]⟩:ByteArray)]:List ByteArray)) 0)=some r:=h
 clear h
 obtain ⟨y494,hy494⟩ : ∃ y_:List Int,y_=(([200,204,400,404,413,414,421,429,431,501,502,503,504,505]:List Int)):=⟨_,rfl⟩
 replace H:(tollbarref05_Reason.l0 k a0 y494 (([(⟨#[79,75]⟩:ByteArray),(⟨#[78,111,32,67,111,110,116,101,110,116]⟩:ByteArray),(⟨#[66,97,100,32,82,101,113,117,101,115,116]⟩:ByteArray),(⟨#[78,111,116,32,70,111,117,110,100]⟩:ByteArray),(⟨#[67,111,110,116,101,110,116,32,84,111,111,32,76,97,114,103,101]⟩:ByteArray),(⟨#[85,82,73,32,84,111,111,32,76,111,110,103]⟩:ByteArray),(⟨#[77,105,115,100,105,114,101,99,116,101,100,32,82,101,113,117,101,115,116]⟩:ByteArray),(⟨#[84,111,111,32,77,97,110,121,32,82,101,113,117,101,115,116,115]⟩:ByteArray),(⟨#[82,101,113,117,101,115,116,32,72,101,97,100,101,114,32,70,105,101,108,100,115,32,84,111,111,32,76,97,114,103,101]⟩:ByteArray),(⟨#[78,111,116,32,73,109,112,108,101,109,101,110,116,101,100]⟩:ByteArray),(⟨#[66,97,100,32,71,97,116,101,119,97,121]⟩:ByteArray),(⟨#[83,101,114,118,105,99,101,32,85,110,97,118,97,105,108,97,98,108,101]⟩:ByteArray),(⟨#[71,97,116,101,119,97,121,32,84,105,109,101,111,117,116]⟩:ByteArray),(⟨#[72,84,84,80,32,86,101,114,115,105,111,110,32,78,111,116,32,83,117,112,112,111,114,116,101,100]⟩:ByteArray)]:List ByteArray)) 0)=some r:=by first|(rw [hy494];with_reducible exact H)|(have H2_:=(Option.bind_some _ _).symm.trans H;rw [hy494];with_reducible exact H2_)|(have H2_:=(Option.bind_some _ _).symm.trans H;with_reducible exact H2_)|with_reducible exact H|(rw [hy494];exact H)|exact H
 have Ny494:=Aside0.mk hy494
 clear hy494
 obtain ⟨y497,hy497⟩ : ∃ y_:List ByteArray,y_=(([(⟨#[79,75]⟩:ByteArray),(⟨#[78,111,32,67,111,110,116,101,110,116]⟩:ByteArray),(⟨#[66,97,100,32,82,101,113,117,101,115,116]⟩:ByteArray),(⟨#[78,111,116,32,70,111,117,110,100]⟩:ByteArray),(⟨#[67,111,110,116,101,110,116,32,84,111,111,32,76,97,114,103,101]⟩:ByteArray),(⟨#[85,82,73,32,84,111,111,32,76,111,110,103]⟩:ByteArray),(⟨#[77,105,115,100,105,114,101,99,116,101,100,32,82,101,113,117,101,115,116]⟩:ByteArray),(⟨#[84,111,111,32,77,97,110,121,32,82,101,113,117,101,115,116,115]⟩:ByteArray),(⟨#[82,101,113,117,101,115,116,32,72,101,97,100,101,114,32,70,105,101,108,100,115,32,84,111,111,32,76,97,114,103,101]⟩:ByteArray),(⟨#[78,111,116,32,73,109,112,108,101,109,101,110,116,101,100]⟩:ByteArray),(⟨#[66,97,100,32,71,97,116,101,119,97,121]⟩:ByteArray),(⟨#[83,101,114,118,105,99,101,32,85,110,97,118,97,105,108,97,98,108,101]⟩:ByteArray),(⟨#[71,97,116,101,119,97,121,32,84,105,109,101,111,117,116]⟩:ByteArray),(⟨#[72,84,84,80,32,86,101,114,115,105,111,110,32,78,111,116,32,83,117,112,112,111,114,116,101,100]⟩:ByteArray)]:List ByteArray)):=⟨_,rfl⟩
 replace H:(tollbarref05_Reason.l0 k a0 y494 y497 0)=some r:=by first|(rw [hy497];with_reducible exact H)|(have H2_:=(Option.bind_some _ _).symm.trans H;rw [hy497];with_reducible exact H2_)|(have H2_:=(Option.bind_some _ _).symm.trans H;with_reducible exact H2_)|with_reducible exact H|(rw [hy497];exact H)|exact H
 have Ny497:=Aside0.mk hy497
 clear hy497
 have H' := Aside0.mk H
 clear H
 go_enter Tryz.func53,Tryz.ntmps53
 go_wp2_with (first|((with_reducible refine gate_dst (N:=6) rfl ?_);refine Kd.R_lit (Kd.int .i64) _ 3 ?hg (N:=6) ?hd (xs:=([200,204,400,404,413,414,421,429,431,501,502,503,504,505]:List Int)) (inner:=[.int .i64 200,.int .i64 204,.int .i64 400,.int .i64 404,.int .i64 413,.int .i64 414,.int .i64 421,.int .i64 429,.int .i64 431,.int .i64 501,.int .i64 502,.int .i64 503,.int .i64 504,.int .i64 505]) (ok:=fun _=>True) (okp:=fun _=>True) ?hr ?hp (fun _ hk=>hk) trivial (Below.refl _ _) (Nat.le_refl _) (by simp) ?_;(case hd=>rfl);(case hg=>rfl);(case hr=>first|(go_simp;done)|(go_simp;rfl));(case hp=>exact (Reps.one (show Kd.M (Kd.int .i64) _ _ _ 200 [.int .i64 200] from rfl) (Reps.one (show Kd.M (Kd.int .i64) _ _ _ 204 [.int .i64 204] from rfl) (Reps.one (show Kd.M (Kd.int .i64) _ _ _ 400 [.int .i64 400] from rfl) (Reps.one (show Kd.M (Kd.int .i64) _ _ _ 404 [.int .i64 404] from rfl) (Reps.one (show Kd.M (Kd.int .i64) _ _ _ 413 [.int .i64 413] from rfl) (Reps.one (show Kd.M (Kd.int .i64) _ _ _ 414 [.int .i64 414] from rfl) (Reps.one (show Kd.M (Kd.int .i64) _ _ _ 421 [.int .i64 421] from rfl) (Reps.one (show Kd.M (Kd.int .i64) _ _ _ 429 [.int .i64 429] from rfl) (Reps.one (show Kd.M (Kd.int .i64) _ _ _ 431 [.int .i64 431] from rfl) (Reps.one (show Kd.M (Kd.int .i64) _ _ _ 501 [.int .i64 501] from rfl) (Reps.one (show Kd.M (Kd.int .i64) _ _ _ 502 [.int .i64 502] from rfl) (Reps.one (show Kd.M (Kd.int .i64) _ _ _ 503 [.int .i64 503] from rfl) (Reps.one (show Kd.M (Kd.int .i64) _ _ _ 504 [.int .i64 504] from rfl) (Reps.one (show Kd.M (Kd.int .i64) _ _ _ 505 [.int .i64 505] from rfl) (Reps.none _ _))))))))))))))));intro v495 w2 ho3 hb hg_ hnew_;clear hg_ hnew_;(first|rw [← Ny494.out] at ho3|(simp only [Int.reduceToNat] at ho3;rw [← Ny494.out] at ho3));have n0_:=Aside0.mk (Kd.R_lower ho3 (below_size (by repeat (first|(with_reducible first|exact HB.out|apply below_alloc|apply pw_below_drewN|apply below_drew1)|exact HB.out))));have n1_:=Aside0.mk (below_step (by repeat (first|(with_reducible first|exact HB.out|apply below_alloc|apply pw_below_drewN|apply below_drew1)|exact HB.out)) hb);clear HB;have HO496:=n0_;have HB:=n1_;clear n0_ n1_;clear hb ho3)|((with_reducible refine gate_dst (N:=7) rfl ?_);refine Kd.R_lit Kd.string _ 9 ?hg (N:=7) ?hd (xs:=([(⟨#[79,75]⟩:ByteArray),(⟨#[78,111,32,67,111,110,116,101,110,116]⟩:ByteArray),(⟨#[66,97,100,32,82,101,113,117,101,115,116]⟩:ByteArray),(⟨#[78,111,116,32,70,111,117,110,100]⟩:ByteArray),(⟨#[67,111,110,116,101,110,116,32,84,111,111,32,76,97,114,103,101]⟩:ByteArray),(⟨#[85,82,73,32,84,111,111,32,76,111,110,103]⟩:ByteArray),(⟨#[77,105,115,100,105,114,101,99,116,101,100,32,82,101,113,117,101,115,116]⟩:ByteArray),(⟨#[84,111,111,32,77,97,110,121,32,82,101,113,117,101,115,116,115]⟩:ByteArray),(⟨#[82,101,113,117,101,115,116,32,72,101,97,100,101,114,32,70,105,101,108,100,115,32,84,111,111,32,76,97,114,103,101]⟩:ByteArray),(⟨#[78,111,116,32,73,109,112,108,101,109,101,110,116,101,100]⟩:ByteArray),(⟨#[66,97,100,32,71,97,116,101,119,97,121]⟩:ByteArray),(⟨#[83,101,114,118,105,99,101,32,85,110,97,118,97,105,108,97,98,108,101]⟩:ByteArray),(⟨#[71,97,116,101,119,97,121,32,84,105,109,101,111,117,116]⟩:ByteArray),(⟨#[72,84,84,80,32,86,101,114,115,105,111,110,32,78,111,116,32,83,117,112,112,111,114,116,101,100]⟩:ByteArray)]:List ByteArray)) (inner:=[.string (⟨#[79,75]⟩:ByteArray),.string (⟨#[78,111,32,67,111,110,116,101,110,116]⟩:ByteArray),.string (⟨#[66,97,100,32,82,101,113,117,101,115,116]⟩:ByteArray),.string (⟨#[78,111,116,32,70,111,117,110,100]⟩:ByteArray),.string (⟨#[67,111,110,116,101,110,116,32,84,111,111,32,76,97,114,103,101]⟩:ByteArray),.string (⟨#[85,82,73,32,84,111,111,32,76,111,110,103]⟩:ByteArray),.string (⟨#[77,105,115,100,105,114,101,99,116,101,100,32,82,101,113,117,101,115,116]⟩:ByteArray),.string (⟨#[84,111,111,32,77,97,110,121,32,82,101,113,117,101,115,116,115]⟩:ByteArray),.string (⟨#[82,101,113,117,101,115,116,32,72,101,97,100,101,114,32,70,105,101,108,100,115,32,84,111,111,32,76,97,114,103,101]⟩:ByteArray),.string (⟨#[78,111,116,32,73,109,112,108,101,109,101,110,116,101,100]⟩:ByteArray),.string (⟨#[66,97,100,32,71,97,116,101,119,97,121]⟩:ByteArray),.string (⟨#[83,101,114,118,105,99,101,32,85,110,97,118,97,105,108,97,98,108,101]⟩:ByteArray),.string (⟨#[71,97,116,101,119,97,121,32,84,105,109,101,111,117,116]⟩:ByteArray),.string (⟨#[72,84,84,80,32,86,101,114,115,105,111,110,32,78,111,116,32,83,117,112,112,111,114,116,101,100]⟩:ByteArray)]) (ok:=fun _=>True) (okp:=fun _=>True) ?hr ?hp (fun _ hk=>hk) trivial (Below.refl _ _) (Nat.le_refl _) (by simp) ?_;(case hd=>rfl);(case hg=>rfl);(case hr=>first|(go_simp;done)|(go_simp;rfl));(case hp=>exact (Reps.one (show Kd.M Kd.string _ _ _ (⟨#[79,75]⟩:ByteArray) [.string (⟨#[79,75]⟩:ByteArray)] from rfl) (Reps.one (show Kd.M Kd.string _ _ _ (⟨#[78,111,32,67,111,110,116,101,110,116]⟩:ByteArray) [.string (⟨#[78,111,32,67,111,110,116,101,110,116]⟩:ByteArray)] from rfl) (Reps.one (show Kd.M Kd.string _ _ _ (⟨#[66,97,100,32,82,101,113,117,101,115,116]⟩:ByteArray) [.string (⟨#[66,97,100,32,82,101,113,117,101,115,116]⟩:ByteArray)] from rfl) (Reps.one (show Kd.M Kd.string _ _ _ (⟨#[78,111,116,32,70,111,117,110,100]⟩:ByteArray) [.string (⟨#[78,111,116,32,70,111,117,110,100]⟩:ByteArray)] from rfl) (Reps.one (show Kd.M Kd.string _ _ _ (⟨#[67,111,110,116,101,110,116,32,84,111,111,32,76,97,114,103,101]⟩:ByteArray) [.string (⟨#[67,111,110,116,101,110,116,32,84,111,111,32,76,97,114,103,101]⟩:ByteArray)] from rfl) (Reps.one (show Kd.M Kd.string _ _ _ (⟨#[85,82,73,32,84,111,111,32,76,111,110,103]⟩:ByteArray) [.string (⟨#[85,82,73,32,84,111,111,32,76,111,110,103]⟩:ByteArray)] from rfl) (Reps.one (show Kd.M Kd.string _ _ _ (⟨#[77,105,115,100,105,114,101,99,116,101,100,32,82,101,113,117,101,115,116]⟩:ByteArray) [.string (⟨#[77,105,115,100,105,114,101,99,116,101,100,32,82,101,113,117,101,115,116]⟩:ByteArray)] from rfl) (Reps.one (show Kd.M Kd.string _ _ _ (⟨#[84,111,111,32,77,97,110,121,32,82,101,113,117,101,115,116,115]⟩:ByteArray) [.string (⟨#[84,111,111,32,77,97,110,121,32,82,101,113,117,101,115,116,115]⟩:ByteArray)] from rfl) (Reps.one (show Kd.M Kd.string _ _ _ (⟨#[82,101,113,117,101,115,116,32,72,101,97,100,101,114,32,70,105,101,108,100,115,32,84,111,111,32,76,97,114,103,101]⟩:ByteArray) [.string (⟨#[82,101,113,117,101,115,116,32,72,101,97,100,101,114,32,70,105,101,108,100,115,32,84,111,111,32,76,97,114,103,101]⟩:ByteArray)] from rfl) (Reps.one (show Kd.M Kd.string _ _ _ (⟨#[78,111,116,32,73,109,112,108,101,109,101,110,116,101,100]⟩:ByteArray) [.string (⟨#[78,111,116,32,73,109,112,108,101,109,101,110,116,101,100]⟩:ByteArray)] from rfl) (Reps.one (show Kd.M Kd.string _ _ _ (⟨#[66,97,100,32,71,97,116,101,119,97,121]⟩:ByteArray) [.string (⟨#[66,97,100,32,71,97,116,101,119,97,121]⟩:ByteArray)] from rfl) (Reps.one (show Kd.M Kd.string _ _ _ (⟨#[83,101,114,118,105,99,101,32,85,110,97,118,97,105,108,97,98,108,101]⟩:ByteArray) [.string (⟨#[83,101,114,118,105,99,101,32,85,110,97,118,97,105,108,97,98,108,101]⟩:ByteArray)] from rfl) (Reps.one (show Kd.M Kd.string _ _ _ (⟨#[71,97,116,101,119,97,121,32,84,105,109,101,111,117,116]⟩:ByteArray) [.string (⟨#[71,97,116,101,119,97,121,32,84,105,109,101,111,117,116]⟩:ByteArray)] from rfl) (Reps.one (show Kd.M Kd.string _ _ _ (⟨#[72,84,84,80,32,86,101,114,115,105,111,110,32,78,111,116,32,83,117,112,112,111,114,116,101,100]⟩:ByteArray) [.string (⟨#[72,84,84,80,32,86,101,114,115,105,111,110,32,78,111,116,32,83,117,112,112,111,114,116,101,100]⟩:ByteArray)] from rfl) (Reps.none _ _))))))))))))))));intro v498 w4 ho5 hb hg_ hnew_;clear hg_ hnew_;(first|rw [← Ny497.out] at ho5|(simp only [Int.reduceToNat] at ho5;rw [← Ny497.out] at ho5));have n0_:=Aside0.mk (Kd.R_below (by (with_reducible repeat (first|apply Kd.R_alloc|apply Kd.R_drewN|apply Kd.R_drew));exact HO496.out) hb);have n1_:=Aside0.mk (Kd.R_lower ho5 (below_size (by repeat (first|(with_reducible first|exact HB.out|apply below_alloc|apply pw_below_drewN|apply below_drew1)|exact HB.out))));have n2_:=Aside0.mk (below_step (by repeat (first|(with_reducible first|exact HB.out|apply below_alloc|apply pw_below_drewN|apply below_drew1)|exact HB.out)) hb);clear HO496;clear HB;have HO496:=n0_;have HO499:=n1_;have HB:=n2_;clear n0_ n1_ n2_;clear hb ho5))
 go_loopg [5] k (fun kq v5 w' => ∃ (x5_1:Int),v5 = .int .i64 x5_1∧Aside0 (tollbarref05_Reason.l0 kq a0 y494 y497 x5_1=some r)∧Aside0 (kq ≤ k)∧Aside0 (Kd.R (Kd.int .i64) 3 w' w.heap.size (fun _=>True) v495 y494)∧Aside0 (Kd.R Kd.string 9 w' w.heap.size (fun _=>True) v498 y497)∧Aside0 (Below w.heap.size w w'))
 case atStart=>exact ⟨(0),(by first|rfl|(simp;done)|(simp [*];done)),H',⟨Nat.le_refl _⟩,⟨by (with_reducible repeat (first|apply Kd.R_alloc|apply Kd.R_drewN|apply Kd.R_drew));exact HO496.out⟩,⟨by (with_reducible repeat (first|apply Kd.R_alloc|apply Kd.R_drewN|apply Kd.R_drew));exact HO499.out⟩,⟨by repeat (first|(with_reducible first|exact HB.out|apply below_alloc|apply pw_below_drewN|apply below_drew1)|exact HB.out)⟩⟩
 case round =>
  clear H'
  try clear p2
  try clear c5
  obtain ⟨x5_1,rfl,HA,HK1,HO_3,HO_4,HB⟩:=hrel
  cases gk with
  | zero=>exact absurd HA.out (by simp [tollbarref05_Reason.l0])
  | succ k1 =>
   have H:=HA.out
   clear HA
   simp only [tollbarref05_Reason.l0] at H
   by_cases c6:x5_1 < (y494.length:Int)
   ·rw [if_pos c6] at H
    have c6b0:decide (x5_1 < (y494.length:Int))=true:=decide_eq_true c6
    clear c6
    by_cases c7:0 ≤ x5_1
    ·rw [if_pos c7] at H
     have c7b0:decide (0 ≤ x5_1)=true:=decide_eq_true c7
     clear c7
     by_cases c8:(rd y494 x5_1)=a0
     ·rw [if_pos c8] at H
      have c8b0:((rd y494 x5_1) == a0)=true:=beq_iff_eq.mpr c8
      have c8b1:((rd y494 x5_1) != a0)=false:=bne_eq_false_iff_eq.mpr c8
      clear c8
      by_cases c9:x5_1 < (y497.length:Int)
      ·rw [if_pos c9] at H
       have c9b0:decide (x5_1 < (y497.length:Int))=true:=decide_eq_true c9
       clear c9
       obtain rfl:=Option.some.inj H
       obtain ⟨Ao10,co10,eo10⟩:=Kd.R_slice HO_3.out
       subst eo10
       have p500:0 ≤ (x5_1:Int):=of_decide_eq_true (by first|(with_reducible assumption)|assumption)
       have q500:x5_1 < (y494.length:Int):=of_decide_eq_true (by first|(with_reducible assumption)|assumption)
       obtain ⟨ad500,e500,hx500_0⟩:=Kd.at_int (Kd.R_reads' HO_3.out).2.2 x5_1 p500 q500
       cases e500
       replace p500:=eq_true p500
       replace q500:=eq_true q500
       obtain ⟨Ao11,co11,eo11⟩:=Kd.R_slice HO_4.out
       subst eo11
       have p501:0 ≤ (x5_1:Int):=of_decide_eq_true (by first|(with_reducible assumption)|assumption)
       have q501:x5_1 < (y497.length:Int):=of_decide_eq_true (by first|(with_reducible assumption)|assumption)
       obtain ⟨ad501,e501,hx501_0⟩:=Kd.at_string (Kd.R_reads' HO_4.out).2.2 x5_1 p501 q501
       cases e501
       replace p501:=eq_true p501
       replace q501:=eq_true q501
       go_wp2
       go_ret
       exact ⟨by first|rfl|(simp [errW_none,errW_some] <;> rfl)|(simp [*,errW_none,errW_some] <;> rfl),by repeat (first|(with_reducible first|exact HB.out|apply below_alloc|apply pw_below_drewN|apply below_drew1)|exact HB.out)⟩
      ·rw [if_neg c9] at H
       exact absurd H (by simp)
     ·rw [if_neg c8] at H
      have c8b0:((rd y494 x5_1) == a0)=false:=beq_eq_false_iff_ne.mpr c8
      have c8b1:((rd y494 x5_1) != a0)=true:=bne_iff_ne.mpr c8
      have H' := Aside0.mk H
      clear H
      obtain ⟨Ao12,co12,eo12⟩:=Kd.R_slice HO_3.out
      subst eo12
      have p500:0 ≤ (x5_1:Int):=of_decide_eq_true (by first|(with_reducible assumption)|assumption)
      have q500:x5_1 < (y494.length:Int):=of_decide_eq_true (by first|(with_reducible assumption)|assumption)
      obtain ⟨ad500,e500,hx500_0⟩:=Kd.at_int (Kd.R_reads' HO_3.out).2.2 x5_1 p500 q500
      cases e500
      replace p500:=eq_true p500
      replace q500:=eq_true q500
      go_wp2
      go_roundg k1
      case measure=>have:=HK1.out;omega
      case rel=>exact ⟨(wrap64 (x5_1 + 1)),(by first|rfl|(simp;done)|(simp [*];done)),H',⟨by have:=HK1.out;omega⟩,⟨by (with_reducible repeat (first|apply Kd.R_alloc|apply Kd.R_drewN|apply Kd.R_drew));exact HO_3.out⟩,⟨by (with_reducible repeat (first|apply Kd.R_alloc|apply Kd.R_drewN|apply Kd.R_drew));exact HO_4.out⟩,⟨by repeat (first|(with_reducible first|exact HB.out|apply below_alloc|apply pw_below_drewN|apply below_drew1)|exact HB.out)⟩⟩
    ·rw [if_neg c7] at H
     exact absurd H (by simp)
   ·rw [if_neg c6] at H
    have c6b0:decide (x5_1 < (y494.length:Int))=false:=decide_eq_false c6
    clear c6
    obtain rfl:=Option.some.inj H
    obtain ⟨Ao13,co13,eo13⟩:=Kd.R_slice HO_3.out
    subst eo13
    go_wp2
    go_ret
    exact ⟨by first|rfl|(simp [errW_none,errW_some] <;> rfl)|(simp [*,errW_none,errW_some] <;> rfl),by repeat (first|(with_reducible first|exact HB.out|apply below_alloc|apply pw_below_drewN|apply below_drew1)|exact HB.out)⟩
mutual
def tollbarref02_Text.l0:Nat → Int → ByteArray → Option (ByteArray)
 | 0,_,_=>none
 | k + 1,x0,x3=>if x3.toList=([]:List UInt8) then ((some (([(wrap64 (48 + (Int.tmod x0 10))) % 256]:List Int):List Int)).bind fun y460=>(if (strOfNums y460).size + x3.size ≤ 9223372036854775807 then (tollbarref02_Text.l0 k (wrap64 (Int.tdiv x0 10)) ((strOfNums y460) ++ x3)) else (none))) else (if x0 > 0 then ((some (([(wrap64 (48 + (Int.tmod x0 10))) % 256]:List Int):List Int)).bind fun y463=>(if (strOfNums y463).size + x3.size ≤ 9223372036854775807 then (tollbarref02_Text.l0 k (wrap64 (Int.tdiv x0 10)) ((strOfNums y463) ++ x3)) else (none))) else (some x3))
def tollbarref02_Text.f:Nat → Int → Option (ByteArray)
 | 0,_=>none
 | k + 1,a0=>if a0=(-9223372036854775808) then (some (⟨#[45,57,50,50,51,51,55,50,48,51,54,56,53,52,55,55,53,56,48,56]⟩:ByteArray)) else (if a0 < 0 then ((tollbarref02_Text.f k (wrap64 (-a0))).bind fun t459=>(if 1 + t459.size ≤ 9223372036854775807 then (some ((⟨#[45]⟩:ByteArray) ++ t459)) else (none))) else (tollbarref02_Text.l0 k a0 (⟨#[]⟩:ByteArray)))
end
set_option maxHeartbeats 8000000 in
set_option maxRecDepth 100000 in
theorem tollbarref02_Text.calls (k:Nat) : ∀ (a0:Int) (r:ByteArray) (w:World) (h:tollbarref02_Text.f k a0=some r),
  Calls Tryz.prog 91 #[.int .i64 a0] w fun e w' => e = .returned (.string r)∧Below w.heap.size w w' := by
 induction k using Nat.strongRecOn with
 | _ k ih =>
 intro a0 r w h
 cases k with
 | zero=>exact absurd h (by simp [tollbarref02_Text.f])
 | succ k =>
 simp only [tollbarref02_Text.f] at h
 have HB:=Aside0.mk (Below.refl w.heap.size w)
 have H:(if a0=(-9223372036854775808) then (some (⟨#[45,57,50,50,51,51,55,50,48,51,54,56,53,52,55,55,53,56,48,56]⟩:ByteArray)) else (if a0 < 0 then ((tollbarref02_Text.f k (wrap64 (-a0))).bind fun t459=>(if 1 + t459.size ≤ 9223372036854775807 then (some ((⟨#[45]⟩:ByteArray) ++ t459)) else (none))) else (tollbarref02_Text.l0 k a0 (⟨#[]⟩:ByteArray))))=some r:=h
 clear h
 by_cases c2:a0=(-9223372036854775808)
 ·rw [if_pos c2] at H
  have c2b0:(a0 == (-9223372036854775808))=true:=beq_iff_eq.mpr c2
  have c2b1:(a0 != (-9223372036854775808))=false:=bne_eq_false_iff_eq.mpr c2
  clear c2
  obtain rfl:=Option.some.inj H
  go_enter Tryz.func91,Tryz.ntmps91
  go_wp2
  go_ret
  exact ⟨by first|rfl|(simp [errW_none,errW_some] <;> rfl)|(simp [*,errW_none,errW_some] <;> rfl),by repeat (first|(with_reducible first|exact HB.out|apply below_alloc|apply pw_below_drewN|apply below_drew1)|exact HB.out)⟩
 ·rw [if_neg c2] at H
  have c2b0:(a0 == (-9223372036854775808))=false:=beq_eq_false_iff_ne.mpr c2
  have c2b1:(a0 != (-9223372036854775808))=true:=bne_iff_ne.mpr c2
  by_cases c3:a0 < 0
  ·rw [if_pos c3] at H
   have c3b0:decide (a0 < 0)=true:=decide_eq_true c3
   clear c3
   replace H:=Option.bind_eq_some_iff.mp H
   obtain ⟨t459,A40,H⟩:=H
   replace H:(if 1 + t459.size ≤ 9223372036854775807 then (some ((⟨#[45]⟩:ByteArray) ++ t459)) else (none))=some r:=H
   have A4:=Aside0.mk A40
   clear A40
   by_cases c5:1 + t459.size ≤ 9223372036854775807
   ·rw [if_pos c5] at H
    have c5b0:=eq_true c5
    have c5b1:decide (1 + t459.size ≤ 9223372036854775807)=true:=decide_eq_true c5
    try have c5b2:(9223372036854775807 < 1 + t459.size)=False:=eq_false (Nat.not_lt.2 c5)
    obtain rfl:=Option.some.inj H
    go_enter Tryz.func91,Tryz.ntmps91
    go_wp2_with (first|((with_reducible refine gate_callee (f:=91) rfl ?_);refine goesL_ (some 10) rfl rfl Tryz.func91 (by kernel_rfl) rfl #[.int .i64 (wrap64 (-a0))] rfl (by (try simp only [List.map_toArray,List.map_cons,List.map_nil]);first|done|rfl|(simp only [List.length_drop,List.length_take];rfl)) ?_;(with_reducible refine (ih k (by omega) (wrap64 (-a0)) t459 _ A4.out).mono ?_);rintro e w6 ⟨rfl,hb⟩;(try clear A4);refine ⟨_,rfl,?_⟩;have n0_:=Aside0.mk (below_step (by repeat (first|(with_reducible first|exact HB.out|apply below_alloc|apply pw_below_drewN|apply below_drew1)|exact HB.out)) hb);clear HB;have HB:=n0_;clear n0_;(try clear hb);(try clear hb2);(try clear hk);(try clear hi)))
    go_ret
    exact ⟨by first|rfl|(simp [errW_none,errW_some] <;> rfl)|(simp [*,errW_none,errW_some] <;> rfl),by repeat (first|(with_reducible first|exact HB.out|apply below_alloc|apply pw_below_drewN|apply below_drew1)|exact HB.out)⟩
   ·rw [if_neg c5] at H
    exact absurd H (by simp)
  ·rw [if_neg c3] at H
   have c3b0:decide (a0 < 0)=false:=decide_eq_false c3
   clear c3
   have H' := Aside0.mk H
   clear H
   go_enter Tryz.func91,Tryz.ntmps91
   go_wp2
   go_loopg [0,3] k (fun kq v0 v3 w' => ∃ (x0_1:Int) (x3_1:ByteArray),v0 = .int .i64 x0_1∧v3 = .string x3_1∧Aside0 (tollbarref02_Text.l0 kq x0_1 x3_1=some r)∧Aside0 (kq ≤ k)∧Aside0 (Below w.heap.size w w'))
   case atStart=>exact ⟨(a0),((⟨#[]⟩:ByteArray)),(by first|rfl|(simp;done)|(simp [*];done)),(by first|rfl|(simp;done)|(simp [*];done)),H',⟨Nat.le_refl _⟩,⟨by repeat (first|(with_reducible first|exact HB.out|apply below_alloc|apply pw_below_drewN|apply below_drew1)|exact HB.out)⟩⟩
   case round =>
    clear H'
    try clear c2
    try clear c2b0
    try clear c2b1
    try clear p2
    try clear c3
    try clear c3b0
    try clear c5
    try clear c5b0
    try clear c5b1
    try clear c5b2
    try clear p6
    obtain ⟨x0_1,x3_1,rfl,rfl,HA,HK1,HB⟩:=hrel
    cases gk with
    | zero=>exact absurd HA.out (by simp [tollbarref02_Text.l0])
    | succ k1 =>
     have H:=HA.out
     clear HA
     simp only [tollbarref02_Text.l0] at H
     by_cases c7:x3_1.toList=([]:List UInt8)
     ·rw [if_pos c7] at H
      have c7b0:(x3_1.toList == ([]:List UInt8))=true:=beq_iff_eq.mpr c7
      have c7b1:(x3_1.toList != ([]:List UInt8))=false:=bne_eq_false_iff_eq.mpr c7
      clear c7
      obtain ⟨y460,hy460⟩ : ∃ y_:List Int,y_=(([(wrap64 (48 + (Int.tmod x0_1 10))) % 256]:List Int)):=⟨_,rfl⟩
      replace H:(if (strOfNums y460).size + x3_1.size ≤ 9223372036854775807 then (tollbarref02_Text.l0 k1 (wrap64 (Int.tdiv x0_1 10)) ((strOfNums y460) ++ x3_1)) else (none))=some r:=by first|(rw [hy460];with_reducible exact H)|(have H2_:=(Option.bind_some _ _).symm.trans H;rw [hy460];with_reducible exact H2_)|(have H2_:=(Option.bind_some _ _).symm.trans H;with_reducible exact H2_)|with_reducible exact H|(rw [hy460];exact H)|exact H
      have Ny460:=Aside0.mk hy460
      clear hy460
      by_cases c8:(strOfNums y460).size + x3_1.size ≤ 9223372036854775807
      ·rw [if_pos c8] at H
       have c8b0:=eq_true c8
       have c8b1:decide ((strOfNums y460).size + x3_1.size ≤ 9223372036854775807)=true:=decide_eq_true c8
       try have c8b2:(9223372036854775807 < (strOfNums y460).size + x3_1.size)=False:=eq_false (Nat.not_lt.2 c8)
       have H' := Aside0.mk H
       clear H
       go_wp2_with (first|((with_reducible refine gate_dst (N:=22) rfl ?_);refine Kd.R_lit (Kd.int .u8) _ 5 ?hg (N:=22) ?hd (xs:=([(wrap64 (48 + (Int.tmod x0_1 10))) % 256]:List Int)) (inner:=[.int .u8 ((wrap64 (48 + (Int.tmod x0_1 10))) % 256)]) (ok:=fun _=>True) (okp:=fun _=>True) ?hr ?hp (fun _ hk=>hk) trivial (Below.refl _ _) (Nat.le_refl _) (by simp) ?_;(case hd=>rfl);(case hg=>rfl);(case hr=>first|(go_simp;done)|(go_simp;rfl));(case hp=>exact (Reps.one (show Kd.M (Kd.int .u8) _ _ _ ((wrap64 (48 + (Int.tmod x0_1 10))) % 256) [.int .u8 ((wrap64 (48 + (Int.tmod x0_1 10))) % 256)] from rfl) (Reps.none _ _)));intro v461 w9 ho10 hb hg_ hnew_;clear hg_ hnew_;(first|rw [← Ny460.out] at ho10|(simp only [Int.reduceToNat] at ho10;rw [← Ny460.out] at ho10));have n0_:=Aside0.mk (Kd.R_lower ho10 (below_size (by repeat (first|(with_reducible first|exact HB.out|apply below_alloc|apply pw_below_drewN|apply below_drew1)|exact HB.out))));have n1_:=Aside0.mk (below_step (by repeat (first|(with_reducible first|exact HB.out|apply below_alloc|apply pw_below_drewN|apply below_drew1)|exact HB.out)) hb);clear HB;have HO462:=n0_;have HB:=n1_;clear n0_ n1_;clear hb ho10;have hcv11:=own_string (P:=Tryz.prog) Tryz.underlying23 Tryz.underlying5 Tryz.underlying9 (Kd.own_of_R HO462.out)))
       go_roundg k1
       case measure=>have:=HK1.out;omega
       case rel=>exact ⟨(wrap64 (Int.tdiv x0_1 10)),((strOfNums y460) ++ x3_1),(by first|rfl|(simp;done)|(simp [*];done)),(by first|rfl|(simp;done)|(simp [*];done)),H',⟨by have:=HK1.out;omega⟩,⟨by repeat (first|(with_reducible first|exact HB.out|apply below_alloc|apply pw_below_drewN|apply below_drew1)|exact HB.out)⟩⟩
      ·rw [if_neg c8] at H
       exact absurd H (by simp)
     ·rw [if_neg c7] at H
      have c7b0:(x3_1.toList == ([]:List UInt8))=false:=beq_eq_false_iff_ne.mpr c7
      have c7b1:(x3_1.toList != ([]:List UInt8))=true:=bne_iff_ne.mpr c7
      by_cases c12:x0_1 > 0
      ·rw [if_pos c12] at H
       have c12b0:decide (0 < x0_1)=true:=decide_eq_true c12
       clear c12
       obtain ⟨y463,hy463⟩ : ∃ y_:List Int,y_=(([(wrap64 (48 + (Int.tmod x0_1 10))) % 256]:List Int)):=⟨_,rfl⟩
       replace H:(if (strOfNums y463).size + x3_1.size ≤ 9223372036854775807 then (tollbarref02_Text.l0 k1 (wrap64 (Int.tdiv x0_1 10)) ((strOfNums y463) ++ x3_1)) else (none))=some r:=by first|(rw [hy463];with_reducible exact H)|(have H2_:=(Option.bind_some _ _).symm.trans H;rw [hy463];with_reducible exact H2_)|(have H2_:=(Option.bind_some _ _).symm.trans H;with_reducible exact H2_)|with_reducible exact H|(rw [hy463];exact H)|exact H
       have Ny463:=Aside0.mk hy463
       clear hy463
       by_cases c13:(strOfNums y463).size + x3_1.size ≤ 9223372036854775807
       ·rw [if_pos c13] at H
        have c13b0:=eq_true c13
        have c13b1:decide ((strOfNums y463).size + x3_1.size ≤ 9223372036854775807)=true:=decide_eq_true c13
        try have c13b2:(9223372036854775807 < (strOfNums y463).size + x3_1.size)=False:=eq_false (Nat.not_lt.2 c13)
        have H' := Aside0.mk H
        clear H
        go_wp2_with (first|((with_reducible refine gate_dst (N:=22) rfl ?_);refine Kd.R_lit (Kd.int .u8) _ 5 ?hg (N:=22) ?hd (xs:=([(wrap64 (48 + (Int.tmod x0_1 10))) % 256]:List Int)) (inner:=[.int .u8 ((wrap64 (48 + (Int.tmod x0_1 10))) % 256)]) (ok:=fun _=>True) (okp:=fun _=>True) ?hr ?hp (fun _ hk=>hk) trivial (Below.refl _ _) (Nat.le_refl _) (by simp) ?_;(case hd=>rfl);(case hg=>rfl);(case hr=>first|(go_simp;done)|(go_simp;rfl));(case hp=>exact (Reps.one (show Kd.M (Kd.int .u8) _ _ _ ((wrap64 (48 + (Int.tmod x0_1 10))) % 256) [.int .u8 ((wrap64 (48 + (Int.tmod x0_1 10))) % 256)] from rfl) (Reps.none _ _)));intro v464 w14 ho15 hb hg_ hnew_;clear hg_ hnew_;(first|rw [← Ny463.out] at ho15|(simp only [Int.reduceToNat] at ho15;rw [← Ny463.out] at ho15));have n0_:=Aside0.mk (Kd.R_lower ho15 (below_size (by repeat (first|(with_reducible first|exact HB.out|apply below_alloc|apply pw_below_drewN|apply below_drew1)|exact HB.out))));have n1_:=Aside0.mk (below_step (by repeat (first|(with_reducible first|exact HB.out|apply below_alloc|apply pw_below_drewN|apply below_drew1)|exact HB.out)) hb);clear HB;have HO465:=n0_;have HB:=n1_;clear n0_ n1_;clear hb ho15;have hcv16:=own_string (P:=Tryz.prog) Tryz.underlying23 Tryz.underlying5 Tryz.underlying9 (Kd.own_of_R HO465.out)))
        go_roundg k1
        case measure=>have:=HK1.out;omega
        case rel=>exact ⟨(wrap64 (Int.tdiv x0_1 10)),((strOfNums y463) ++ x3_1),(by first|rfl|(simp;done)|(simp [*];done)),(by first|rfl|(simp;done)|(simp [*];done)),H',⟨by have:=HK1.out;omega⟩,⟨by repeat (first|(with_reducible first|exact HB.out|apply below_alloc|apply pw_below_drewN|apply below_drew1)|exact HB.out)⟩⟩
       ·rw [if_neg c13] at H
        exact absurd H (by simp)
      ·rw [if_neg c12] at H
       have c12b0:decide (0 < x0_1)=false:=decide_eq_false c12
       clear c12
       obtain rfl:=Option.some.inj H
       go_wp2
       go_ret
       exact ⟨by first|rfl|(simp [errW_none,errW_some] <;> rfl)|(simp [*,errW_none,errW_some] <;> rfl),by repeat (first|(with_reducible first|exact HB.out|apply below_alloc|apply pw_below_drewN|apply below_drew1)|exact HB.out)⟩
def tollbarref12_length.f (k:Nat) (a0:Int):Option (ByteArray × ByteArray):=(tollbarref02_Text.f k a0).bind fun t467=>(some ((⟨#[67,111,110,116,101,110,116,45,76,101,110,103,116,104]⟩:ByteArray),t467))
set_option maxHeartbeats 8000000 in
set_option maxRecDepth 100000 in
theorem tollbarref12_length.calls (k:Nat) (a0:Int) (r1:ByteArray) (r2:ByteArray) (w:World) (h:tollbarref12_length.f k a0=some (r1,r2)) :
  Calls Tryz.prog 51 #[.int .i64 a0] w fun e w' => e = .returned (.agg #[.string r1,.string r2])∧Below w.heap.size w w' := by
 have hu55:=Tryz.underlying55
 have HB:=Aside0.mk (Below.refl w.heap.size w)
 have H:((tollbarref02_Text.f k a0).bind fun t467=>(some ((⟨#[67,111,110,116,101,110,116,45,76,101,110,103,116,104]⟩:ByteArray),t467)))=some (r1,r2):=h
 clear h
 replace H:=Option.bind_eq_some_iff.mp H
 obtain ⟨t467,A20,H⟩:=H
 replace H:(some ((⟨#[67,111,110,116,101,110,116,45,76,101,110,103,116,104]⟩:ByteArray),t467))=some (r1,r2):=H
 have A2:=Aside0.mk A20
 clear A20
 simp only [Option.some.injEq,Prod.mk.injEq] at H
 obtain ⟨rfl,rfl⟩:=H
 go_enter Tryz.func51,Tryz.ntmps51
 go_wp2_with (first|((with_reducible refine gate_dst (N:=2) rfl ?_);refine box_event ?hg (N:=2) ?hd (cs:=#[.string (⟨#[]⟩:ByteArray),.string (⟨#[]⟩:ByteArray)]) (t:=55) ?hr ?_;(case hd=>rfl);(case hg=>rfl);(case hr=>first|(go_simp;done)|(go_simp;rfl));intro gb466 hg w3 hbox hb;have n0_:=Aside0.mk (below_step (by repeat (first|(with_reducible first|exact HB.out|apply below_alloc|apply pw_below_drewN|apply below_drew1)|exact HB.out)) hb);have n1_:=Aside0.mk (hbox);have n2_:=Aside0.mk ((by rw [hg];exact (below_size (by repeat (first|(with_reducible first|exact HB.out|apply below_alloc|apply pw_below_drewN|apply below_drew1)|exact HB.out))):w.heap.size ≤ gb466));have n3_:=Aside0.mk ((by rw [hg];exact (below_size (by repeat (first|(with_reducible first|exact HB.out|apply below_alloc|apply pw_below_drewN|apply below_drew1)|exact HB.out))):w.heap.size ≤ gb466));clear HB;have HB:=n0_;have BK466:=n1_;have GW466:=n2_;have GE466:=n3_;clear n0_ n1_ n2_ n3_;clear hb hbox hg)|((with_reducible refine gate_callee (f:=91) rfl ?_);refine goesL_ (some 4) rfl rfl Tryz.func91 (by kernel_rfl) rfl #[.int .i64 a0] rfl (by (try simp only [List.map_toArray,List.map_cons,List.map_nil]);first|done|rfl|(simp only [List.length_drop,List.length_take];rfl)) ?_;(with_reducible refine (tollbarref02_Text.calls k a0 t467 _ A2.out).mono ?_);rintro e w4 ⟨rfl,hb⟩;(try clear A2);refine ⟨_,rfl,?_⟩;have n0_:=Aside0.mk (blk_below (g:=gb466) (o:=.cells #[.string (⟨#[]⟩:ByteArray),.string (⟨#[]⟩:ByteArray)] 55 (0,0)) (by (with_reducible repeat (first|refine blk_drewN ?_ _|refine blk_drew ?_|refine blk_alloc ?_ _));exact BK466.out) hb);have n1_:=Aside0.mk (below_step (by repeat (first|(with_reducible first|exact HB.out|apply below_alloc|apply pw_below_drewN|apply below_drew1|refine below_set ?_ GE466.out)|exact HB.out)) hb);clear BK466;clear HB;have BK466:=n0_;have HB:=n1_;clear n0_ n1_;(try clear hb);(try clear hb2);(try clear hk);(try clear hi);have hcz5_0:w4.cell? ⟨gb466,0,none⟩=some (.string (⟨#[]⟩:ByteArray)):=(blk_cell BK466.out 0).trans rfl;have hcz5_1:w4.cell? ⟨gb466,1,none⟩=some (.string (⟨#[]⟩:ByteArray)):=(blk_cell BK466.out 1).trans rfl;have hfz5_0:=blk_frozen BK466.out 0;have hfz5_1:=blk_frozen BK466.out 1))
 refine bodyPost_ret (results_cell_row rfl _ _ gb466 55 #[.string (⟨#[67,111,110,116,101,110,116,45,76,101,110,103,116,104]⟩:ByteArray),.string t467] (0,0) _ rfl (by (with_reducible repeat (first|refine blk_drewN ?_ _|refine blk_drew ?_|refine blk_alloc ?_ _));refine blk_put (cs:=#[.string (⟨#[67,111,110,116,101,110,116,45,76,101,110,103,116,104]⟩:ByteArray),.string (⟨#[]⟩:ByteArray)]) ?_ 1 _ rfl;(with_reducible repeat (first|refine blk_drewN ?_ _|refine blk_drew ?_|refine blk_alloc ?_ _));refine blk_put (cs:=#[.string (⟨#[]⟩:ByteArray),.string (⟨#[]⟩:ByteArray)]) ?_ 0 _ rfl;(with_reducible repeat (first|refine blk_drewN ?_ _|refine blk_drew ?_|refine blk_alloc ?_ _));exact BK466.out) Tryz.underlying55 rfl (by kernel_rfl)) rfl ?_
 exact ⟨by first|rfl|(simp [errW_none,errW_some] <;> rfl)|(simp [*,errW_none,errW_some] <;> rfl),by repeat (first|(with_reducible first|exact HB.out|apply below_alloc|apply pw_below_drewN|apply below_drew1|refine below_set ?_ GE466.out)|exact HB.out)⟩
def tollbarref12_Own.f (k:Nat) (a0:Int) (a1:Bool):Option (Int × ByteArray × Int × (List (S55)) × List Int):=(tollbarref05_Reason.f k a0).bind fun t503=>((tollbarref12_length.f k 0).bind fun bt504=>((some (([(⟨bt504.1,bt504.2⟩:S55)]:List (S55)):List (S55))).bind fun y506=>(if a1=true then (if y506.length < 4398046511104 then (some (a0,t503,1,(y506 ++ [(⟨(⟨#[67,111,110,110,101,99,116,105,111,110]⟩:ByteArray),(⟨#[99,108,111,115,101]⟩:ByteArray)⟩:S55)]),([]:List Int))) else (none)) else (some (a0,t503,1,y506,([]:List Int))))))
set_option maxHeartbeats 8000000 in
set_option maxRecDepth 100000 in
theorem tollbarref12_Own.calls (k:Nat) (a0:Int) (a1:Bool) (r1:Int) (r2:ByteArray) (r3:Int) (r4:List (S55)) (r5:List Int) (w:World) (h:tollbarref12_Own.f k a0 a1=some (r1,r2,r3,r4,r5)) :
  Calls Tryz.prog 18 #[.int .i64 a0,.bool a1] w fun e w' => ∃ v3_ v4_:Value,e = .returned (.agg #[.int .i64 r1,.string r2,.int .i64 r3,v3_,v4_])∧Kd.R k55 55 w' w.heap.size (fun _=>True) v3_ r4∧Kd.R (Kd.int .u8) 5 w' w.heap.size (fun _=>True) v4_ r5∧Below w.heap.size w w' := by
 have hu25:=Tryz.underlying25
 have hu55:=Tryz.underlying55
 have HB:=Aside0.mk (Below.refl w.heap.size w)
 have H:((tollbarref05_Reason.f k a0).bind fun t34=>((tollbarref12_length.f k 0).bind fun bt35=>((some (([(⟨bt35.1,bt35.2⟩:S55)]:List (S55)):List (S55))).bind fun y33=>(if a1=true then (if y33.length < 4398046511104 then (some (a0,t34,1,(y33 ++ [(⟨(⟨#[67,111,110,110,101,99,116,105,111,110]⟩:ByteArray),(⟨#[99,108,111,115,101]⟩:ByteArray)⟩:S55)]),([]:List Int))) else (none)) else (some (a0,t34,1,y33,([]:List Int)))))))=some (r1,r2,r3,r4,r5):=h
 clear h
 replace H:=Option.bind_eq_some_iff.mp H
 obtain ⟨t34,A30,H⟩:=H
 replace H:((tollbarref12_length.f k 0).bind fun bt35=>((some (([(⟨bt35.1,bt35.2⟩:S55)]:List (S55)):List (S55))).bind fun y33=>(if a1=true then (if y33.length < 4398046511104 then (some (a0,t34,1,(y33 ++ [(⟨(⟨#[67,111,110,110,101,99,116,105,111,110]⟩:ByteArray),(⟨#[99,108,111,115,101]⟩:ByteArray)⟩:S55)]),([]:List Int))) else (none)) else (some (a0,t34,1,y33,([]:List Int))))))=some (r1,r2,r3,r4,r5):=H
 have A3:=Aside0.mk A30
 clear A30
 replace H:=Option.bind_eq_some_iff.mp H
 obtain ⟨⟨t35,t36⟩,A40,H⟩:=H
 replace H:((some (([(⟨t35,t36⟩:S55)]:List (S55)):List (S55))).bind fun y33=>(if a1=true then (if y33.length < 4398046511104 then (some (a0,t34,1,(y33 ++ [(⟨(⟨#[67,111,110,110,101,99,116,105,111,110]⟩:ByteArray),(⟨#[99,108,111,115,101]⟩:ByteArray)⟩:S55)]),([]:List Int))) else (none)) else (some (a0,t34,1,y33,([]:List Int)))))=some (r1,r2,r3,r4,r5):=H
 have A4:=Aside0.mk A40
 clear A40
 obtain ⟨y33,hy33⟩ : ∃ y_:List (S55),y_=(([(⟨t35,t36⟩:S55)]:List (S55))):=⟨_,rfl⟩
 replace H:(if a1=true then (if y33.length < 4398046511104 then (some (a0,t34,1,(y33 ++ [(⟨(⟨#[67,111,110,110,101,99,116,105,111,110]⟩:ByteArray),(⟨#[99,108,111,115,101]⟩:ByteArray)⟩:S55)]),([]:List Int))) else (none)) else (some (a0,t34,1,y33,([]:List Int))))=some (r1,r2,r3,r4,r5):=by first|(rw [hy33];with_reducible exact H)|(have H2_:=(Option.bind_some _ _).symm.trans H;rw [hy33];with_reducible exact H2_)|(have H2_:=(Option.bind_some _ _).symm.trans H;with_reducible exact H2_)|with_reducible exact H|(rw [hy33];exact H)|exact H
 have Ny33:=Aside0.mk hy33
 clear hy33
 by_cases c5:a1=true
 ·subst c5
  have H1:(if y33.length < 4398046511104 then (some (a0,t34,1,(y33 ++ [(⟨(⟨#[67,111,110,110,101,99,116,105,111,110]⟩:ByteArray),(⟨#[99,108,111,115,101]⟩:ByteArray)⟩:S55)]),([]:List Int))) else (none))=some (r1,r2,r3,r4,r5):=by rw [if_pos rfl] at H;exact H
  clear H
  have H:=H1
  clear H1
  by_cases c6:y33.length < 4398046511104
  ·rw [if_pos c6] at H
   have LMc6:=Aside0.mk c6
   clear c6
   obtain ⟨y38,hy38⟩ : ∃ y_:List (S55),y_=(y33 ++ [(⟨(⟨#[67,111,110,110,101,99,116,105,111,110]⟩:ByteArray),(⟨#[99,108,111,115,101]⟩:ByteArray)⟩:S55)]):=⟨_,rfl⟩
   replace H:(some (a0,t34,1,y38,([]:List Int)))=some (r1,r2,r3,r4,r5):=by first|(rw [hy38];with_reducible exact H)|(have H2_:=(Option.bind_some _ _).symm.trans H;rw [hy38];with_reducible exact H2_)|(have H2_:=(Option.bind_some _ _).symm.trans H;with_reducible exact H2_)|with_reducible exact H|(rw [hy38];exact H)|exact H
   have Ny38:=Aside0.mk hy38
   clear hy38
   simp only [Option.some.injEq,Prod.mk.injEq] at H
   obtain ⟨rfl,rfl,rfl,rfl,rfl⟩:=H
   go_enter Tryz.func18,Tryz.ntmps18
   go_wp2_with (first|((with_reducible refine gate_dst (N:=4) rfl ?_);refine box_event ?hg (N:=4) ?hd (cs:=#[.int .i64 0,.string (⟨#[]⟩:ByteArray),.int .i64 0,.slice none 0 0,.slice none 0 0]) (t:=25) ?hr ?_;(case hd=>rfl);(case hg=>rfl);(case hr=>first|(go_simp;done)|(go_simp;rfl));intro gb31 hg w7 hbox hb;have n0_:=Aside0.mk (below_step (by repeat (first|(with_reducible first|exact HB.out|apply below_alloc|apply pw_below_drewN|apply below_drew1)|exact HB.out)) hb);have n1_:=Aside0.mk (hbox);have n2_:=Aside0.mk ((by rw [hg];exact (below_size (by repeat (first|(with_reducible first|exact HB.out|apply below_alloc|apply pw_below_drewN|apply below_drew1)|exact HB.out))):w.heap.size ≤ gb31));have n3_:=Aside0.mk ((by rw [hg];exact (below_size (by repeat (first|(with_reducible first|exact HB.out|apply below_alloc|apply pw_below_drewN|apply below_drew1)|exact HB.out))):w.heap.size ≤ gb31));clear HB;have HB:=n0_;have BK31:=n1_;have GW31:=n2_;have GE31:=n3_;clear n0_ n1_ n2_ n3_;clear hb hbox hg)|((with_reducible refine gate_callee (f:=53) rfl ?_);refine goesL_ (some 8) rfl rfl Tryz.func53 (by kernel_rfl) rfl #[.int .i64 a0] rfl (by (try simp only [List.map_toArray,List.map_cons,List.map_nil]);first|done|rfl|(simp only [List.length_drop,List.length_take];rfl)) ?_;(with_reducible refine (tollbarref05_Reason.calls k a0 t34 _ A3.out).mono ?_);rintro e w8 ⟨rfl,hb⟩;(try clear A3);refine ⟨_,rfl,?_⟩;have n0_:=Aside0.mk (blk_below (g:=gb31) (o:=.cells #[.int .i64 0,.string (⟨#[]⟩:ByteArray),.int .i64 0,.slice none 0 0,.slice none 0 0] 25 (0,0)) (by (with_reducible repeat (first|refine blk_drewN ?_ _|refine blk_drew ?_|refine blk_alloc ?_ _));exact BK31.out) hb);have n1_:=Aside0.mk (below_step (by repeat (first|(with_reducible first|exact HB.out|apply below_alloc|apply pw_below_drewN|apply below_drew1|refine below_set ?_ GE31.out)|exact HB.out)) hb);clear BK31;clear HB;have BK31:=n0_;have HB:=n1_;clear n0_ n1_;(try clear hb);(try clear hb2);(try clear hk);(try clear hi))|((with_reducible refine gate_callee (f:=51) rfl ?_);refine goesL_ (some 9) rfl rfl Tryz.func51 (by kernel_rfl) rfl #[.int .i64 0] rfl (by (try simp only [List.map_toArray,List.map_cons,List.map_nil]);first|done|rfl|(simp only [List.length_drop,List.length_take];rfl)) ?_;(with_reducible refine (tollbarref12_length.calls k 0 t35 t36 _ A4.out).mono ?_);rintro e w9 ⟨rfl,hb⟩;(try clear A4);refine ⟨_,rfl,?_⟩;have n0_:=Aside0.mk (blk_below (g:=gb31) (o:=.cells #[.int .i64 0,.string (⟨#[]⟩:ByteArray),.int .i64 0,.slice none 0 0,.slice none 0 0] 25 (0,0)) (by (with_reducible repeat (first|refine blk_drewN ?_ _|refine blk_drew ?_|refine blk_alloc ?_ _));exact BK31.out) hb);have n1_:=Aside0.mk (below_step (by repeat (first|(with_reducible first|exact HB.out|apply below_alloc|apply pw_below_drewN|apply below_drew1|refine below_set ?_ GE31.out)|exact HB.out)) hb);clear BK31;clear HB;have BK31:=n0_;have HB:=n1_;clear n0_ n1_;(try clear hb);(try clear hb2);(try clear hk);(try clear hi))|((with_reducible refine gate_dst (N:=10) rfl ?_);refine Kd.R_lit k55 _ 55 ?hg (N:=10) ?hd (xs:=([(⟨t35,t36⟩:S55)]:List (S55))) (inner:=[.string t35,.string t36]) (ok:=fun _=>True) (okp:=fun _=>True) ?hr ?hp (fun _ hk=>hk) trivial (Below.refl _ _) (Nat.le_refl _) (by simp) ?_;(case hd=>rfl);(case hg=>rfl);(case hr=>first|(go_simp;done)|(go_simp;rfl));(case hp=>exact (Reps.c2 (show Kd.M k55 _ _ _ (⟨t35,t36⟩:S55) [.string t35,.string t36] from (k55_mkM _ _ _ (⟨t35,t36⟩:S55) )) (Reps.none _ _)));intro v41 w10 ho11 hb hg_ hnew_;clear hg_ hnew_;(first|rw [← Ny33.out] at ho11|(simp only [Int.reduceToNat] at ho11;rw [← Ny33.out] at ho11));have n0_:=Aside0.mk (Kd.R_lower ho11 (below_size (by repeat (first|(with_reducible first|exact HB.out|apply below_alloc|apply pw_below_drewN|apply below_drew1|refine below_set ?_ GE31.out)|exact HB.out))));have n1_:=Aside0.mk (blk_below (g:=gb31) (o:=.cells #[.int .i64 0,.string (⟨#[]⟩:ByteArray),.int .i64 0,.slice none 0 0,.slice none 0 0] 25 (0,0)) (by (with_reducible repeat (first|refine blk_drewN ?_ _|refine blk_drew ?_|refine blk_alloc ?_ _));exact BK31.out) hb);have n2_:=Aside0.mk (below_step (by repeat (first|(with_reducible first|exact HB.out|apply below_alloc|apply pw_below_drewN|apply below_drew1|refine below_set ?_ GE31.out)|exact HB.out)) hb);clear BK31;clear HB;have HO37:=n0_;have BK31:=n1_;have HB:=n2_;clear n0_ n1_ n2_;clear hb ho11;obtain ⟨Ao12,co12,eo12⟩:=Kd.R_slice HO37.out;subst eo12)|((with_reducible refine gate_dst (N:=5) rfl ?_);refine box_event ?hg (N:=5) ?hd (cs:=#[.int .i64 0,.string (⟨#[]⟩:ByteArray),.int .i64 0,.slice none 0 0,.slice none 0 0]) (t:=25) ?hr ?_;(case hd=>rfl);(case hg=>rfl);(case hr=>first|(go_simp;done)|(go_simp;rfl));intro gb32 hg w13 hbox hb;have n0_:=Aside0.mk (Kd.R_below (by (with_reducible repeat (first|apply Kd.R_alloc|apply Kd.R_drewN|apply Kd.R_drew));exact HO37.out) hb);have n1_:=Aside0.mk (blk_below (g:=gb31) (o:=.cells #[.int .i64 0,.string (⟨#[]⟩:ByteArray),.int .i64 0,.slice none 0 0,.slice none 0 0] 25 (0,0)) (by (with_reducible repeat (first|refine blk_drewN ?_ _|refine blk_drew ?_|refine blk_alloc ?_ _));exact BK31.out) hb);have n2_:=Aside0.mk (below_step (by repeat (first|(with_reducible first|exact HB.out|apply below_alloc|apply pw_below_drewN|apply below_drew1|refine below_set ?_ GE31.out)|exact HB.out)) hb);have n3_:=Aside0.mk (hbox);have n4_:=Aside0.mk ((by rw [hg];exact (below_size (by repeat (first|(with_reducible first|exact HB.out|apply below_alloc|apply pw_below_drewN|apply below_drew1|refine below_set ?_ GE31.out)|exact HB.out))):w.heap.size ≤ gb32));have n5_:=Aside0.mk ((by rw [hg];exact (below_size (by repeat (first|(with_reducible first|exact HB.out|apply below_alloc|apply pw_below_drewN|apply below_drew1|refine below_set ?_ GE31.out)|exact HB.out))):w.heap.size ≤ gb32));have n6_:=Aside0.mk ((by rw [hg];exact Nat.ne_of_lt (blk_lt (g:=gb31) (o:=.cells #[.int .i64 0,.string (⟨#[]⟩:ByteArray),.int .i64 0,.slice none 0 0,.slice none 0 0] 25 (0,0)) (by (with_reducible repeat (first|refine blk_drewN ?_ _|refine blk_drew ?_|refine blk_alloc ?_ _));exact BK31.out)):gb31 ≠ gb32));have n7_:=Aside0.mk ((by rw [hg];exact Nat.ne_of_gt (blk_lt (g:=gb31) (o:=.cells #[.int .i64 0,.string (⟨#[]⟩:ByteArray),.int .i64 0,.slice none 0 0,.slice none 0 0] 25 (0,0)) (by (with_reducible repeat (first|refine blk_drewN ?_ _|refine blk_drew ?_|refine blk_alloc ?_ _));exact BK31.out)):gb32 ≠ gb31));clear HO37;clear BK31;clear HB;have HO37:=n0_;have BK31:=n1_;have HB:=n2_;have BK32:=n3_;have GW32:=n4_;have GE32:=n5_;have NB31_509:=n6_;have NB32_502:=n7_;clear n0_ n1_ n2_ n3_ n4_ n5_ n6_ n7_;clear hb hbox hg;have hnb14:=NB32_502.out;have hnc14:=NB31_509.out;have hcz15_0:w13.cell? ⟨gb32,0,none⟩=some (.int .i64 0):=(blk_cell BK32.out 0).trans rfl;have hcz15_1:w13.cell? ⟨gb32,1,none⟩=some (.string (⟨#[]⟩:ByteArray)):=(blk_cell BK32.out 1).trans rfl;have hcz15_2:w13.cell? ⟨gb32,2,none⟩=some (.int .i64 0):=(blk_cell BK32.out 2).trans rfl;have hcz15_3:w13.cell? ⟨gb32,3,none⟩=some (.slice none 0 0):=(blk_cell BK32.out 3).trans rfl;have hcz15_4:w13.cell? ⟨gb32,4,none⟩=some (.slice none 0 0):=(blk_cell BK32.out 4).trans rfl;have hfz15_0:=blk_frozen BK32.out 0;have hfz15_1:=blk_frozen BK32.out 1;have hfz15_2:=blk_frozen BK32.out 2;have hfz15_3:=blk_frozen BK32.out 3;have hfz15_4:=blk_frozen BK32.out 4)|((with_reducible refine gate_builtin (b:=.append) (xs:=#[.tmp 14,.tmp 16]) rfl ?_);at_builtin;refine Kd.R_append k55 (w0:=w) w.heap.size rfl (.tmp 14) (.tmp 16) 22 55 (.agg #[(.string ⟨#[]⟩),(.string ⟨#[]⟩)]) 32 rfl Tryz.underlying22 info55 rfl (by decide) (by omega) (.slice Ao12 y33.length co12) y33 (⟨(⟨#[67,111,110,110,101,99,116,105,111,110]⟩:ByteArray),(⟨#[99,108,111,115,101]⟩:ByteArray)⟩:S55) [.string (⟨#[67,111,110,110,101,99,116,105,111,110]⟩:ByteArray),.string (⟨#[99,108,111,115,101]⟩:ByteArray)] (fun _=>True) (fun _=>False) rfl (by first|(go_simp;done)|(go_simp;rfl)) ?aP (fun _ hk=>hk.elim) ?aF ?aO ?aB ?aS ?aL ?_;(case aP=>exact k55_mkM _ _ _ (⟨(⟨#[67,111,110,110,101,99,116,105,111,110]⟩:ByteArray),(⟨#[99,108,111,115,101]⟩:ByteArray)⟩:S55));(case aB=>exact (by repeat (first|(with_reducible first|exact HB.out|apply below_alloc|apply pw_below_drewN|apply below_drew1|refine below_set ?_ GE31.out|refine below_set ?_ GE32.out)|exact HB.out)));(case aF=>exact (fun _ _=>trivial));(case aO=>exact (by (with_reducible repeat (first|apply Kd.R_alloc|apply Kd.R_drewN|apply Kd.R_drew));exact Kd.R_mono (Kd.R_far (p:=⟨gb32,4,none⟩) (Kd.R_far (p:=⟨gb32,3,none⟩) (Kd.R_far (p:=⟨gb32,2,none⟩) (Kd.R_far (p:=⟨gb32,1,none⟩) (Kd.R_far (p:=⟨gb32,0,none⟩) (Kd.R_types HO37.out BK32.out (by decide)) (fun _ hk=>hk.2) (.int .i64 a0)) (fun _ hk=>hk.2) (.string t34)) (fun _ hk=>hk.2) (.int .i64 1)) (fun _ hk=>hk.2) (.slice Ao12 y33.length co12)) (fun _ hk=>hk.2) (.slice none 0 0)) (fun _ hk=>trivial)));(case aS=>exact (below_size (by repeat (first|(with_reducible first|exact HB.out|apply below_alloc|apply pw_below_drewN|apply below_drew1|refine below_set ?_ GE31.out|refine below_set ?_ GE32.out)|exact HB.out))));(case aL=>have:=LMc6.out;omega);intro v42 w16 ho hb hg hat;rw [← Ny38.out] at ho;have n0_:=Aside0.mk (blk_grown (g:=gb31) (o:=.cells #[.int .i64 0,.string (⟨#[]⟩:ByteArray),.int .i64 0,.slice none 0 0,.slice none 0 0] 25 (0,0)) (by (with_reducible repeat (first|refine blk_drewN ?_ _|refine blk_drew ?_|refine blk_alloc ?_ _));refine blk_far ?_ NB31_509.out _;(with_reducible repeat (first|refine blk_drewN ?_ _|refine blk_drew ?_|refine blk_alloc ?_ _));refine blk_far ?_ NB31_509.out _;(with_reducible repeat (first|refine blk_drewN ?_ _|refine blk_drew ?_|refine blk_alloc ?_ _));refine blk_far ?_ NB31_509.out _;(with_reducible repeat (first|refine blk_drewN ?_ _|refine blk_drew ?_|refine blk_alloc ?_ _));refine blk_far ?_ NB31_509.out _;(with_reducible repeat (first|refine blk_drewN ?_ _|refine blk_drew ?_|refine blk_alloc ?_ _));refine blk_far ?_ NB31_509.out _;(with_reducible repeat (first|refine blk_drewN ?_ _|refine blk_drew ?_|refine blk_alloc ?_ _));exact BK31.out) hg (Kd.R_ne HO37.out BK31.out (by decide)));have n1_:=Aside0.mk (blk_grown (g:=gb32) (o:=.cells #[.int .i64 a0,.string t34,.int .i64 1,.slice Ao12 y33.length co12,.slice none 0 0] 25 (0,0)) (by (with_reducible repeat (first|refine blk_drewN ?_ _|refine blk_drew ?_|refine blk_alloc ?_ _));refine blk_put (cs:=#[.int .i64 a0,.string t34,.int .i64 1,.slice Ao12 y33.length co12,.slice none 0 0]) ?_ 4 _ rfl;(with_reducible repeat (first|refine blk_drewN ?_ _|refine blk_drew ?_|refine blk_alloc ?_ _));refine blk_put (cs:=#[.int .i64 a0,.string t34,.int .i64 1,.slice none 0 0,.slice none 0 0]) ?_ 3 _ rfl;(with_reducible repeat (first|refine blk_drewN ?_ _|refine blk_drew ?_|refine blk_alloc ?_ _));refine blk_put (cs:=#[.int .i64 a0,.string t34,.int .i64 0,.slice none 0 0,.slice none 0 0]) ?_ 2 _ rfl;(with_reducible repeat (first|refine blk_drewN ?_ _|refine blk_drew ?_|refine blk_alloc ?_ _));refine blk_put (cs:=#[.int .i64 a0,.string (⟨#[]⟩:ByteArray),.int .i64 0,.slice none 0 0,.slice none 0 0]) ?_ 1 _ rfl;(with_reducible repeat (first|refine blk_drewN ?_ _|refine blk_drew ?_|refine blk_alloc ?_ _));refine blk_put (cs:=#[.int .i64 0,.string (⟨#[]⟩:ByteArray),.int .i64 0,.slice none 0 0,.slice none 0 0]) ?_ 0 _ rfl;(with_reducible repeat (first|refine blk_drewN ?_ _|refine blk_drew ?_|refine blk_alloc ?_ _));exact BK32.out) hg (Kd.R_ne HO37.out BK32.out (by decide)));have n2_:=Aside0.mk (hb);have n3_:=Aside0.mk (ho);clear BK31;clear BK32;clear HB;clear HO37;have BK31:=n0_;have BK32:=n1_;have HB:=n2_;have HO39:=n3_;clear n0_ n1_ n2_ n3_;clear ho hb hg hat;obtain ⟨Ao17,co17,eo17⟩:=Kd.R_slice HO39.out;subst eo17;have hcz18_0:w16.cell? ⟨gb32,0,none⟩=some (.int .i64 a0):=(blk_cell BK32.out 0).trans rfl;have hcz18_1:w16.cell? ⟨gb32,1,none⟩=some (.string t34):=(blk_cell BK32.out 1).trans rfl;have hcz18_2:w16.cell? ⟨gb32,2,none⟩=some (.int .i64 1):=(blk_cell BK32.out 2).trans rfl;have hcz18_3:w16.cell? ⟨gb32,3,none⟩=some (.slice Ao12 y33.length co12):=(blk_cell BK32.out 3).trans rfl;have hcz18_4:w16.cell? ⟨gb32,4,none⟩=some (.slice none 0 0):=(blk_cell BK32.out 4).trans rfl;have hfz18_0:=blk_frozen BK32.out 0;have hfz18_1:=blk_frozen BK32.out 1;have hfz18_2:=blk_frozen BK32.out 2;have hfz18_3:=blk_frozen BK32.out 3;have hfz18_4:=blk_frozen BK32.out 4;have hcz19_0:w16.cell? ⟨gb31,0,none⟩=some (.int .i64 0):=(blk_cell BK31.out 0).trans rfl;have hcz19_1:w16.cell? ⟨gb31,1,none⟩=some (.string (⟨#[]⟩:ByteArray)):=(blk_cell BK31.out 1).trans rfl;have hcz19_2:w16.cell? ⟨gb31,2,none⟩=some (.int .i64 0):=(blk_cell BK31.out 2).trans rfl;have hcz19_3:w16.cell? ⟨gb31,3,none⟩=some (.slice none 0 0):=(blk_cell BK31.out 3).trans rfl;have hcz19_4:w16.cell? ⟨gb31,4,none⟩=some (.slice none 0 0):=(blk_cell BK31.out 4).trans rfl;have hfz19_0:=blk_frozen BK31.out 0;have hfz19_1:=blk_frozen BK31.out 1;have hfz19_2:=blk_frozen BK31.out 2;have hfz19_3:=blk_frozen BK31.out 3;have hfz19_4:=blk_frozen BK31.out 4))
   refine bodyPost_ret (results_cell_row rfl _ _ gb31 25 #[.int .i64 a0,.string t34,.int .i64 1,.slice Ao17 y38.length co17,.slice none 0 0] (0,0) _ rfl (by (with_reducible repeat (first|refine blk_drewN ?_ _|refine blk_drew ?_|refine blk_alloc ?_ _));refine blk_put (cs:=#[.int .i64 a0,.string t34,.int .i64 1,.slice Ao17 y38.length co17,.slice none 0 0]) ?_ 4 _ rfl;(with_reducible repeat (first|refine blk_drewN ?_ _|refine blk_drew ?_|refine blk_alloc ?_ _));refine blk_put (cs:=#[.int .i64 a0,.string t34,.int .i64 1,.slice none 0 0,.slice none 0 0]) ?_ 3 _ rfl;(with_reducible repeat (first|refine blk_drewN ?_ _|refine blk_drew ?_|refine blk_alloc ?_ _));refine blk_put (cs:=#[.int .i64 a0,.string t34,.int .i64 0,.slice none 0 0,.slice none 0 0]) ?_ 2 _ rfl;(with_reducible repeat (first|refine blk_drewN ?_ _|refine blk_drew ?_|refine blk_alloc ?_ _));refine blk_put (cs:=#[.int .i64 a0,.string (⟨#[]⟩:ByteArray),.int .i64 0,.slice none 0 0,.slice none 0 0]) ?_ 1 _ rfl;(with_reducible repeat (first|refine blk_drewN ?_ _|refine blk_drew ?_|refine blk_alloc ?_ _));refine blk_put (cs:=#[.int .i64 0,.string (⟨#[]⟩:ByteArray),.int .i64 0,.slice none 0 0,.slice none 0 0]) ?_ 0 _ rfl;(with_reducible repeat (first|refine blk_drewN ?_ _|refine blk_drew ?_|refine blk_alloc ?_ _));refine blk_far ?_ NB31_509.out _;(with_reducible repeat (first|refine blk_drewN ?_ _|refine blk_drew ?_|refine blk_alloc ?_ _));exact BK31.out) Tryz.underlying25 rfl (by kernel_rfl)) rfl ?_
   exact ⟨_,_,by first|rfl|(simp [errW_none,errW_some] <;> rfl)|(simp [*,errW_none,errW_some] <;> rfl),by (with_reducible repeat (first|apply Kd.R_alloc|apply Kd.R_drewN|apply Kd.R_drew));exact Kd.R_mono (Kd.R_far (p:=⟨gb31,4,none⟩) (Kd.R_far (p:=⟨gb31,3,none⟩) (Kd.R_far (p:=⟨gb31,2,none⟩) (Kd.R_far (p:=⟨gb31,1,none⟩) (Kd.R_far (p:=⟨gb31,0,none⟩) (Kd.R_far (p:=⟨gb32,3,none⟩) (Kd.R_types (Kd.R_types HO39.out BK32.out (by decide)) BK31.out (by decide)) (fun _ hk=>hk.1.2) (.slice Ao17 y38.length co17)) (fun _ hk=>hk.2) (.int .i64 a0)) (fun _ hk=>hk.2) (.string t34)) (fun _ hk=>hk.2) (.int .i64 1)) (fun _ hk=>hk.2) (.slice Ao17 y38.length co17)) (fun _ hk=>hk.2) (.slice none 0 0)) (fun _ hk=>trivial),by first|exact Kd.R_nil _ _ _ _ _|exact Kd.N_nil _ _ _ _ _|exact Kd.V_nil _ _ _ _ _|exact Kd.Q_nil _ _ _ _ _|exact Kd.S_nil _ _ _ _ _,by repeat (first|(with_reducible first|exact HB.out|apply below_alloc|apply pw_below_drewN|apply below_drew1|refine below_set ?_ GE31.out|refine below_set ?_ GE32.out)|exact HB.out)⟩
  ·rw [if_neg c6] at H
   exact absurd H (by simp)
 ·replace c5:=Bool.eq_false_iff.mpr c5
  subst c5
  have H1:(some (a0,t34,1,y33,([]:List Int)))=some (r1,r2,r3,r4,r5):=by rw [if_neg (show ¬ (false=true) by decide)] at H;exact H
  clear H
  have H:=H1
  clear H1
  simp only [Option.some.injEq,Prod.mk.injEq] at H
  obtain ⟨rfl,rfl,rfl,rfl,rfl⟩:=H
  go_enter Tryz.func18,Tryz.ntmps18
  go_wp2_with (first|((with_reducible refine gate_dst (N:=4) rfl ?_);refine box_event ?hg (N:=4) ?hd (cs:=#[.int .i64 0,.string (⟨#[]⟩:ByteArray),.int .i64 0,.slice none 0 0,.slice none 0 0]) (t:=25) ?hr ?_;(case hd=>rfl);(case hg=>rfl);(case hr=>first|(go_simp;done)|(go_simp;rfl));intro gb31 hg w20 hbox hb;have n0_:=Aside0.mk (below_step (by repeat (first|(with_reducible first|exact HB.out|apply below_alloc|apply pw_below_drewN|apply below_drew1)|exact HB.out)) hb);have n1_:=Aside0.mk (hbox);have n2_:=Aside0.mk ((by rw [hg];exact (below_size (by repeat (first|(with_reducible first|exact HB.out|apply below_alloc|apply pw_below_drewN|apply below_drew1)|exact HB.out))):w.heap.size ≤ gb31));have n3_:=Aside0.mk ((by rw [hg];exact (below_size (by repeat (first|(with_reducible first|exact HB.out|apply below_alloc|apply pw_below_drewN|apply below_drew1)|exact HB.out))):w.heap.size ≤ gb31));clear HB;have HB:=n0_;have BK31:=n1_;have GW31:=n2_;have GE31:=n3_;clear n0_ n1_ n2_ n3_;clear hb hbox hg)|((with_reducible refine gate_callee (f:=53) rfl ?_);refine goesL_ (some 8) rfl rfl Tryz.func53 (by kernel_rfl) rfl #[.int .i64 a0] rfl (by (try simp only [List.map_toArray,List.map_cons,List.map_nil]);first|done|rfl|(simp only [List.length_drop,List.length_take];rfl)) ?_;(with_reducible refine (tollbarref05_Reason.calls k a0 t34 _ A3.out).mono ?_);rintro e w21 ⟨rfl,hb⟩;(try clear A3);refine ⟨_,rfl,?_⟩;have n0_:=Aside0.mk (blk_below (g:=gb31) (o:=.cells #[.int .i64 0,.string (⟨#[]⟩:ByteArray),.int .i64 0,.slice none 0 0,.slice none 0 0] 25 (0,0)) (by (with_reducible repeat (first|refine blk_drewN ?_ _|refine blk_drew ?_|refine blk_alloc ?_ _));exact BK31.out) hb);have n1_:=Aside0.mk (below_step (by repeat (first|(with_reducible first|exact HB.out|apply below_alloc|apply pw_below_drewN|apply below_drew1|refine below_set ?_ GE31.out)|exact HB.out)) hb);clear BK31;clear HB;have BK31:=n0_;have HB:=n1_;clear n0_ n1_;(try clear hb);(try clear hb2);(try clear hk);(try clear hi))|((with_reducible refine gate_callee (f:=51) rfl ?_);refine goesL_ (some 9) rfl rfl Tryz.func51 (by kernel_rfl) rfl #[.int .i64 0] rfl (by (try simp only [List.map_toArray,List.map_cons,List.map_nil]);first|done|rfl|(simp only [List.length_drop,List.length_take];rfl)) ?_;(with_reducible refine (tollbarref12_length.calls k 0 t35 t36 _ A4.out).mono ?_);rintro e w22 ⟨rfl,hb⟩;(try clear A4);refine ⟨_,rfl,?_⟩;have n0_:=Aside0.mk (blk_below (g:=gb31) (o:=.cells #[.int .i64 0,.string (⟨#[]⟩:ByteArray),.int .i64 0,.slice none 0 0,.slice none 0 0] 25 (0,0)) (by (with_reducible repeat (first|refine blk_drewN ?_ _|refine blk_drew ?_|refine blk_alloc ?_ _));exact BK31.out) hb);have n1_:=Aside0.mk (below_step (by repeat (first|(with_reducible first|exact HB.out|apply below_alloc|apply pw_below_drewN|apply below_drew1|refine below_set ?_ GE31.out)|exact HB.out)) hb);clear BK31;clear HB;have BK31:=n0_;have HB:=n1_;clear n0_ n1_;(try clear hb);(try clear hb2);(try clear hk);(try clear hi))|((with_reducible refine gate_dst (N:=10) rfl ?_);refine Kd.R_lit k55 _ 55 ?hg (N:=10) ?hd (xs:=([(⟨t35,t36⟩:S55)]:List (S55))) (inner:=[.string t35,.string t36]) (ok:=fun _=>True) (okp:=fun _=>True) ?hr ?hp (fun _ hk=>hk) trivial (Below.refl _ _) (Nat.le_refl _) (by simp) ?_;(case hd=>rfl);(case hg=>rfl);(case hr=>first|(go_simp;done)|(go_simp;rfl));(case hp=>exact (Reps.c2 (show Kd.M k55 _ _ _ (⟨t35,t36⟩:S55) [.string t35,.string t36] from (k55_mkM _ _ _ (⟨t35,t36⟩:S55) )) (Reps.none _ _)));intro v41 w23 ho24 hb hg_ hnew_;clear hg_ hnew_;(first|rw [← Ny33.out] at ho24|(simp only [Int.reduceToNat] at ho24;rw [← Ny33.out] at ho24));have n0_:=Aside0.mk (Kd.R_lower ho24 (below_size (by repeat (first|(with_reducible first|exact HB.out|apply below_alloc|apply pw_below_drewN|apply below_drew1|refine below_set ?_ GE31.out)|exact HB.out))));have n1_:=Aside0.mk (blk_below (g:=gb31) (o:=.cells #[.int .i64 0,.string (⟨#[]⟩:ByteArray),.int .i64 0,.slice none 0 0,.slice none 0 0] 25 (0,0)) (by (with_reducible repeat (first|refine blk_drewN ?_ _|refine blk_drew ?_|refine blk_alloc ?_ _));exact BK31.out) hb);have n2_:=Aside0.mk (below_step (by repeat (first|(with_reducible first|exact HB.out|apply below_alloc|apply pw_below_drewN|apply below_drew1|refine below_set ?_ GE31.out)|exact HB.out)) hb);clear BK31;clear HB;have HO37:=n0_;have BK31:=n1_;have HB:=n2_;clear n0_ n1_ n2_;clear hb ho24;obtain ⟨Ao25,co25,eo25⟩:=Kd.R_slice HO37.out;subst eo25)|((with_reducible refine gate_dst (N:=5) rfl ?_);refine box_event ?hg (N:=5) ?hd (cs:=#[.int .i64 0,.string (⟨#[]⟩:ByteArray),.int .i64 0,.slice none 0 0,.slice none 0 0]) (t:=25) ?hr ?_;(case hd=>rfl);(case hg=>rfl);(case hr=>first|(go_simp;done)|(go_simp;rfl));intro gb32 hg w26 hbox hb;have n0_:=Aside0.mk (Kd.R_below (by (with_reducible repeat (first|apply Kd.R_alloc|apply Kd.R_drewN|apply Kd.R_drew));exact HO37.out) hb);have n1_:=Aside0.mk (blk_below (g:=gb31) (o:=.cells #[.int .i64 0,.string (⟨#[]⟩:ByteArray),.int .i64 0,.slice none 0 0,.slice none 0 0] 25 (0,0)) (by (with_reducible repeat (first|refine blk_drewN ?_ _|refine blk_drew ?_|refine blk_alloc ?_ _));exact BK31.out) hb);have n2_:=Aside0.mk (below_step (by repeat (first|(with_reducible first|exact HB.out|apply below_alloc|apply pw_below_drewN|apply below_drew1|refine below_set ?_ GE31.out)|exact HB.out)) hb);have n3_:=Aside0.mk (hbox);have n4_:=Aside0.mk ((by rw [hg];exact (below_size (by repeat (first|(with_reducible first|exact HB.out|apply below_alloc|apply pw_below_drewN|apply below_drew1|refine below_set ?_ GE31.out)|exact HB.out))):w.heap.size ≤ gb32));have n5_:=Aside0.mk ((by rw [hg];exact (below_size (by repeat (first|(with_reducible first|exact HB.out|apply below_alloc|apply pw_below_drewN|apply below_drew1|refine below_set ?_ GE31.out)|exact HB.out))):w.heap.size ≤ gb32));have n6_:=Aside0.mk ((by rw [hg];exact Nat.ne_of_lt (blk_lt (g:=gb31) (o:=.cells #[.int .i64 0,.string (⟨#[]⟩:ByteArray),.int .i64 0,.slice none 0 0,.slice none 0 0] 25 (0,0)) (by (with_reducible repeat (first|refine blk_drewN ?_ _|refine blk_drew ?_|refine blk_alloc ?_ _));exact BK31.out)):gb31 ≠ gb32));have n7_:=Aside0.mk ((by rw [hg];exact Nat.ne_of_gt (blk_lt (g:=gb31) (o:=.cells #[.int .i64 0,.string (⟨#[]⟩:ByteArray),.int .i64 0,.slice none 0 0,.slice none 0 0] 25 (0,0)) (by (with_reducible repeat (first|refine blk_drewN ?_ _|refine blk_drew ?_|refine blk_alloc ?_ _));exact BK31.out)):gb32 ≠ gb31));clear HO37;clear BK31;clear HB;have HO37:=n0_;have BK31:=n1_;have HB:=n2_;have BK32:=n3_;have GW32:=n4_;have GE32:=n5_;have NB31_509:=n6_;have NB32_502:=n7_;clear n0_ n1_ n2_ n3_ n4_ n5_ n6_ n7_;clear hb hbox hg;have hnb27:=NB32_502.out;have hnc27:=NB31_509.out;have hcz28_0:w26.cell? ⟨gb32,0,none⟩=some (.int .i64 0):=(blk_cell BK32.out 0).trans rfl;have hcz28_1:w26.cell? ⟨gb32,1,none⟩=some (.string (⟨#[]⟩:ByteArray)):=(blk_cell BK32.out 1).trans rfl;have hcz28_2:w26.cell? ⟨gb32,2,none⟩=some (.int .i64 0):=(blk_cell BK32.out 2).trans rfl;have hcz28_3:w26.cell? ⟨gb32,3,none⟩=some (.slice none 0 0):=(blk_cell BK32.out 3).trans rfl;have hcz28_4:w26.cell? ⟨gb32,4,none⟩=some (.slice none 0 0):=(blk_cell BK32.out 4).trans rfl;have hfz28_0:=blk_frozen BK32.out 0;have hfz28_1:=blk_frozen BK32.out 1;have hfz28_2:=blk_frozen BK32.out 2;have hfz28_3:=blk_frozen BK32.out 3;have hfz28_4:=blk_frozen BK32.out 4;have hcz29_0:w26.cell? ⟨gb31,0,none⟩=some (.int .i64 0):=(blk_cell BK31.out 0).trans rfl;have hcz29_1:w26.cell? ⟨gb31,1,none⟩=some (.string (⟨#[]⟩:ByteArray)):=(blk_cell BK31.out 1).trans rfl;have hcz29_2:w26.cell? ⟨gb31,2,none⟩=some (.int .i64 0):=(blk_cell BK31.out 2).trans rfl;have hcz29_3:w26.cell? ⟨gb31,3,none⟩=some (.slice none 0 0):=(blk_cell BK31.out 3).trans rfl;have hcz29_4:w26.cell? ⟨gb31,4,none⟩=some (.slice none 0 0):=(blk_cell BK31.out 4).trans rfl;have hfz29_0:=blk_frozen BK31.out 0;have hfz29_1:=blk_frozen BK31.out 1;have hfz29_2:=blk_frozen BK31.out 2;have hfz29_3:=blk_frozen BK31.out 3;have hfz29_4:=blk_frozen BK31.out 4))
  refine bodyPost_ret (results_cell_row rfl _ _ gb31 25 #[.int .i64 a0,.string t34,.int .i64 1,.slice Ao25 y33.length co25,.slice none 0 0] (0,0) _ rfl (by (with_reducible repeat (first|refine blk_drewN ?_ _|refine blk_drew ?_|refine blk_alloc ?_ _));refine blk_put (cs:=#[.int .i64 a0,.string t34,.int .i64 1,.slice Ao25 y33.length co25,.slice none 0 0]) ?_ 4 _ rfl;(with_reducible repeat (first|refine blk_drewN ?_ _|refine blk_drew ?_|refine blk_alloc ?_ _));refine blk_put (cs:=#[.int .i64 a0,.string t34,.int .i64 1,.slice none 0 0,.slice none 0 0]) ?_ 3 _ rfl;(with_reducible repeat (first|refine blk_drewN ?_ _|refine blk_drew ?_|refine blk_alloc ?_ _));refine blk_put (cs:=#[.int .i64 a0,.string t34,.int .i64 0,.slice none 0 0,.slice none 0 0]) ?_ 2 _ rfl;(with_reducible repeat (first|refine blk_drewN ?_ _|refine blk_drew ?_|refine blk_alloc ?_ _));refine blk_put (cs:=#[.int .i64 a0,.string (⟨#[]⟩:ByteArray),.int .i64 0,.slice none 0 0,.slice none 0 0]) ?_ 1 _ rfl;(with_reducible repeat (first|refine blk_drewN ?_ _|refine blk_drew ?_|refine blk_alloc ?_ _));refine blk_put (cs:=#[.int .i64 0,.string (⟨#[]⟩:ByteArray),.int .i64 0,.slice none 0 0,.slice none 0 0]) ?_ 0 _ rfl;(with_reducible repeat (first|refine blk_drewN ?_ _|refine blk_drew ?_|refine blk_alloc ?_ _));refine blk_far ?_ NB31_509.out _;(with_reducible repeat (first|refine blk_drewN ?_ _|refine blk_drew ?_|refine blk_alloc ?_ _));refine blk_far ?_ NB31_509.out _;(with_reducible repeat (first|refine blk_drewN ?_ _|refine blk_drew ?_|refine blk_alloc ?_ _));refine blk_far ?_ NB31_509.out _;(with_reducible repeat (first|refine blk_drewN ?_ _|refine blk_drew ?_|refine blk_alloc ?_ _));refine blk_far ?_ NB31_509.out _;(with_reducible repeat (first|refine blk_drewN ?_ _|refine blk_drew ?_|refine blk_alloc ?_ _));refine blk_far ?_ NB31_509.out _;(with_reducible repeat (first|refine blk_drewN ?_ _|refine blk_drew ?_|refine blk_alloc ?_ _));exact BK31.out) Tryz.underlying25 rfl (by kernel_rfl)) rfl ?_
  exact ⟨_,_,by first|rfl|(simp [errW_none,errW_some] <;> rfl)|(simp [*,errW_none,errW_some] <;> rfl),by (with_reducible repeat (first|apply Kd.R_alloc|apply Kd.R_drewN|apply Kd.R_drew));exact Kd.R_mono (Kd.R_far (p:=⟨gb31,4,none⟩) (Kd.R_far (p:=⟨gb31,3,none⟩) (Kd.R_far (p:=⟨gb31,2,none⟩) (Kd.R_far (p:=⟨gb31,1,none⟩) (Kd.R_far (p:=⟨gb31,0,none⟩) (Kd.R_far (p:=⟨gb32,4,none⟩) (Kd.R_far (p:=⟨gb32,3,none⟩) (Kd.R_far (p:=⟨gb32,2,none⟩) (Kd.R_far (p:=⟨gb32,1,none⟩) (Kd.R_far (p:=⟨gb32,0,none⟩) (Kd.R_types (Kd.R_types HO37.out BK32.out (by decide)) BK31.out (by decide)) (fun _ hk=>hk.1.2) (.int .i64 a0)) (fun _ hk=>hk.1.2) (.string t34)) (fun _ hk=>hk.1.2) (.int .i64 1)) (fun _ hk=>hk.1.2) (.slice Ao25 y33.length co25)) (fun _ hk=>hk.1.2) (.slice none 0 0)) (fun _ hk=>hk.2) (.int .i64 a0)) (fun _ hk=>hk.2) (.string t34)) (fun _ hk=>hk.2) (.int .i64 1)) (fun _ hk=>hk.2) (.slice Ao25 y33.length co25)) (fun _ hk=>hk.2) (.slice none 0 0)) (fun _ hk=>trivial),by first|exact Kd.R_nil _ _ _ _ _|exact Kd.N_nil _ _ _ _ _|exact Kd.V_nil _ _ _ _ _|exact Kd.Q_nil _ _ _ _ _|exact Kd.S_nil _ _ _ _ _,by repeat (first|(with_reducible first|exact HB.out|apply below_alloc|apply pw_below_drewN|apply below_drew1|refine below_set ?_ GE31.out|refine below_set ?_ GE32.out)|exact HB.out)⟩
mutual
def tollbarref01_Join.l0:Nat → List Int → List Int → List Int → Int → Option (List Int)
 | 0,_,_,_,_=>none
 | k + 1,x0,x1,x5,x6=>if x6 < (x0.length:Int) then (if 0 ≤ x6 then (if x5.length < 140737488355328 then (tollbarref01_Join.l0 k x0 x1 (x5 ++ [rd x0 x6]) (wrap64 (x6 + 1))) else (none)) else (none)) else (tollbarref01_Join.l1 k x1 x5 0)
def tollbarref01_Join.l1:Nat → List Int → List Int → Int → Option (List Int)
 | 0,_,_,_=>none
 | k + 1,x1,x5,x7=>if x7 < (x1.length:Int) then (if 0 ≤ x7 then (if x5.length < 140737488355328 then (tollbarref01_Join.l1 k x1 (x5 ++ [rd x1 x7]) (wrap64 (x7 + 1))) else (none)) else (none)) else (some x5)
end
def tollbarref01_Join.f (k:Nat) (l0:List Int) (l1:List Int):Option (List Int):=tollbarref01_Join.l0 k l0 l1 (([]:List Int)) 0
set_option maxHeartbeats 8000000 in
set_option maxRecDepth 100000 in
theorem tollbarref01_Join.calls (k:Nat) (A0:Option Addr) (c0:Nat) (l0:List Int) (A1:Option Addr) (c1:Nat) (l1:List Int) (r:List Int) (w:World) (hr0:Kd.C (Kd.int .u8) w A0 l0.length l0) (hc0:l0.length ≤ c0) (hr1:Kd.C (Kd.int .u8) w A1 l1.length l1) (hc1:l1.length ≤ c1) (h:tollbarref01_Join.f k l0 l1=some r) :
  Calls Tryz.prog 50 #[.slice A0 l0.length c0,.slice A1 l1.length c1] w fun e w' => ∃ v0_:Value,e = .returned (v0_)∧Kd.R (Kd.int .u8) 5 w' w.heap.size (fun _=>True) v0_ r∧Below w.heap.size w w' := by
 have HR0:=Aside0.mk hr0
 have HC0:=Aside0.mk hc0
 clear hr0 hc0
 have HR1:=Aside0.mk hr1
 have HC1:=Aside0.mk hc1
 clear hr1 hc1
 have HB:=Aside0.mk (Below.refl w.heap.size w)
 have H:(tollbarref01_Join.l0 k l0 l1 (([]:List Int)) 0)=some r:=h
 clear h
 obtain ⟨y448,hy448⟩ : ∃ y_:List Int,y_=(([]:List Int)):=⟨_,rfl⟩
 replace H:(tollbarref01_Join.l0 k l0 l1 y448 0)=some r:=by first|(rw [hy448];with_reducible exact H)|(have H2_:=(Option.bind_some _ _).symm.trans H;rw [hy448];with_reducible exact H2_)|(have H2_:=(Option.bind_some _ _).symm.trans H;with_reducible exact H2_)|with_reducible exact H|(rw [hy448];exact H)|exact H
 have Ny448:=Aside0.mk hy448
 clear hy448
 have H' := Aside0.mk H
 clear H
 go_enter Tryz.func50,Tryz.ntmps50
 go_wp2_with (first|((with_reducible refine gate_dst (N:=8) rfl ?_);refine Kd.R_lit (Kd.int .u8) _ 5 ?hg (N:=8) ?hd (xs:=([]:List Int)) (inner:=[]) (ok:=fun _=>True) (okp:=fun _=>True) ?hr ?hp (fun _ hk=>hk) trivial (Below.refl _ _) (Nat.le_refl _) (by simp) ?_;(case hd=>rfl);(case hg=>rfl);(case hr=>first|(go_simp;done)|(go_simp;rfl));(case hp=>exact (Reps.none _ _));intro v449 w3 ho4 hb hg_ hnew_;clear hg_ hnew_;(first|rw [← Ny448.out] at ho4|(simp only [Int.reduceToNat] at ho4;rw [← Ny448.out] at ho4));have n0_:=Aside0.mk (Kd.R_lower ho4 (below_size (by repeat (first|(with_reducible first|exact HB.out|apply below_alloc|apply pw_below_drewN|apply below_drew1)|exact HB.out))));have n1_:=Aside0.mk (below_step (by repeat (first|(with_reducible first|exact HB.out|apply below_alloc|apply pw_below_drewN|apply below_drew1)|exact HB.out)) hb);clear HB;have HO450:=n0_;have HB:=n1_;clear n0_ n1_;clear hb ho4))
 go_loopg [5,6] k (fun kq v5 v6 w' => ∃ (x5_1:List Int) (x6_1:Int),v6 = .int .i64 x6_1∧Aside0 (tollbarref01_Join.l0 kq l0 l1 x5_1 x6_1=some r)∧Aside0 (kq ≤ k)∧Aside0 (Kd.R (Kd.int .u8) 5 w' w.heap.size (fun _=>True) v5 x5_1)∧Aside0 (Below w.heap.size w w'))
 case atStart=>exact ⟨(y448),(0),(by first|rfl|(simp;done)|(simp [*];done)),H',⟨Nat.le_refl _⟩,⟨by (with_reducible repeat (first|apply Kd.R_alloc|apply Kd.R_drewN|apply Kd.R_drew));exact HO450.out⟩,⟨by repeat (first|(with_reducible first|exact HB.out|apply below_alloc|apply pw_below_drewN|apply below_drew1)|exact HB.out)⟩⟩
 case round =>
  clear H'
  try clear c1
  try clear p2
  obtain ⟨x5_1,x6_1,rfl,HA,HK1,HO_5,HB⟩:=hrel
  cases gk with
  | zero=>exact absurd HA.out (by simp [tollbarref01_Join.l0])
  | succ k1 =>
   have H:=HA.out
   clear HA
   simp only [tollbarref01_Join.l0] at H
   by_cases c5:x6_1 < (l0.length:Int)
   ·rw [if_pos c5] at H
    have c5b0:decide (x6_1 < (l0.length:Int))=true:=decide_eq_true c5
    clear c5
    by_cases c6:0 ≤ x6_1
    ·rw [if_pos c6] at H
     have c6b0:decide (0 ≤ x6_1)=true:=decide_eq_true c6
     clear c6
     by_cases c7:x5_1.length < 140737488355328
     ·rw [if_pos c7] at H
      have LMc7:=Aside0.mk c7
      clear c7
      obtain ⟨y452,hy452⟩ : ∃ y_:List Int,y_=(x5_1 ++ [rd l0 x6_1]):=⟨_,rfl⟩
      replace H:(tollbarref01_Join.l0 k1 l0 l1 y452 (wrap64 (x6_1 + 1)))=some r:=by first|(rw [hy452];with_reducible exact H)|(have H2_:=(Option.bind_some _ _).symm.trans H;rw [hy452];with_reducible exact H2_)|(have H2_:=(Option.bind_some _ _).symm.trans H;with_reducible exact H2_)|with_reducible exact H|(rw [hy452];exact H)|exact H
      have Ny452:=Aside0.mk hy452
      clear hy452
      have H' := Aside0.mk H
      clear H
      have p451:0 ≤ (x6_1:Int):=of_decide_eq_true (by first|(with_reducible assumption)|assumption)
      have q451:x6_1 < (l0.length:Int):=of_decide_eq_true (by first|(with_reducible assumption)|assumption)
      obtain ⟨ad451,e451,hx451_0⟩:=Kd.at_int HR0.out x6_1 p451 q451
      cases e451
      replace hx451_0:=(HB.out.cell (World.block_lt_of_cell? w _ hx451_0)).trans hx451_0
      replace p451:=eq_true p451
      replace q451:=eq_true q451
      go_wp2_with (first|((with_reducible refine gate_builtin (b:=.append) (xs:=#[.tmp 15,.tmp 20]) rfl ?_);at_builtin;refine Kd.R_append (Kd.int .u8) (w0:=w) w.heap.size rfl (.tmp 15) (.tmp 20) 23 5 (.int .u8 0) 1 rfl Tryz.underlying23 info5 rfl (by decide) (by omega) u5 x5_1 (rd l0 x6_1) [.int .u8 (rd l0 x6_1)] (fun _=>True) (fun _=>False) rfl rfl ?aP (fun _ hk=>hk.elim) ?aF ?aO ?aB ?aS ?aL ?_;(case aP=>exact rfl);(case aB=>exact (by repeat (first|(with_reducible first|exact HB.out|apply below_alloc|apply pw_below_drewN|apply below_drew1)|exact HB.out)));(case aF=>exact (fun _ _=>trivial));(case aO=>exact (by (with_reducible repeat (first|apply Kd.R_alloc|apply Kd.R_drewN|apply Kd.R_drew));exact HO_5.out));(case aS=>exact (below_size (by repeat (first|(with_reducible first|exact HB.out|apply below_alloc|apply pw_below_drewN|apply below_drew1)|exact HB.out))));(case aL=>have:=LMc7.out;omega);intro v453 w8 ho hb hg hat;rw [← Ny452.out] at ho;have n0_:=Aside0.mk (hb);have n1_:=Aside0.mk (ho);clear HB;clear HO_5;have HB:=n0_;have HO454:=n1_;clear n0_ n1_;clear ho hb hg hat))
      go_roundg k1
      case measure=>have:=HK1.out;omega
      case rel=>exact ⟨(y452),(wrap64 (x6_1 + 1)),(by first|rfl|(simp;done)|(simp [*];done)),H',⟨by have:=HK1.out;omega⟩,⟨by (with_reducible repeat (first|apply Kd.R_alloc|apply Kd.R_drewN|apply Kd.R_drew));exact HO454.out⟩,⟨by repeat (first|(with_reducible first|exact HB.out|apply below_alloc|apply pw_below_drewN|apply below_drew1)|exact HB.out)⟩⟩
     ·rw [if_neg c7] at H
      exact absurd H (by simp)
    ·rw [if_neg c6] at H
     exact absurd H (by simp)
   ·rw [if_neg c5] at H
    have c5b0:decide (x6_1 < (l0.length:Int))=false:=decide_eq_false c5
    clear c5
    have H' := Aside0.mk H
    clear H
    go_wp2
    go_loopg [5,7] k1 (fun kq v5 v7 w' => ∃ (x5_2:List Int) (x7_2:Int),v7 = .int .i64 x7_2∧Aside0 (tollbarref01_Join.l1 kq l1 x5_2 x7_2=some r)∧Aside0 (kq ≤ k1)∧Aside0 (Kd.R (Kd.int .u8) 5 w' w.heap.size (fun _=>True) v5 x5_2)∧Aside0 (Below w.heap.size w w'))
    case atStart=>exact ⟨(x5_1),(0),(by first|rfl|(simp;done)|(simp [*];done)),H',⟨Nat.le_refl _⟩,⟨by (with_reducible repeat (first|apply Kd.R_alloc|apply Kd.R_drewN|apply Kd.R_drew));exact HO_5.out⟩,⟨by repeat (first|(with_reducible first|exact HB.out|apply below_alloc|apply pw_below_drewN|apply below_drew1)|exact HB.out)⟩⟩
    case round =>
     clear H'
     try clear c1
     try clear p2
     try clear p4
     try clear q4
     try clear hx4
     try clear c5
     try clear c5b0
     try clear c6
     try clear c6b0
     try clear p6
     try clear c7
     try clear hx451_0
     try clear p2
     try clear p451
     try clear q451
     obtain ⟨x5_2,x7_2,rfl,HA,HK2,HO_5,HB⟩:=hrel
     cases gk with
     | zero=>exact absurd HA.out (by simp [tollbarref01_Join.l1])
     | succ k2 =>
      have H:=HA.out
      clear HA
      simp only [tollbarref01_Join.l1] at H
      by_cases c9:x7_2 < (l1.length:Int)
      ·rw [if_pos c9] at H
       have c9b0:decide (x7_2 < (l1.length:Int))=true:=decide_eq_true c9
       clear c9
       by_cases c10:0 ≤ x7_2
       ·rw [if_pos c10] at H
        have c10b0:decide (0 ≤ x7_2)=true:=decide_eq_true c10
        clear c10
        by_cases c11:x5_2.length < 140737488355328
        ·rw [if_pos c11] at H
         have LMc11:=Aside0.mk c11
         clear c11
         obtain ⟨y456,hy456⟩ : ∃ y_:List Int,y_=(x5_2 ++ [rd l1 x7_2]):=⟨_,rfl⟩
         replace H:(tollbarref01_Join.l1 k2 l1 y456 (wrap64 (x7_2 + 1)))=some r:=by first|(rw [hy456];with_reducible exact H)|(have H2_:=(Option.bind_some _ _).symm.trans H;rw [hy456];with_reducible exact H2_)|(have H2_:=(Option.bind_some _ _).symm.trans H;with_reducible exact H2_)|with_reducible exact H|(rw [hy456];exact H)|exact H
         have Ny456:=Aside0.mk hy456
         clear hy456
         have H' := Aside0.mk H
         clear H
         have p455:0 ≤ (x7_2:Int):=of_decide_eq_true (by first|(with_reducible assumption)|assumption)
         have q455:x7_2 < (l1.length:Int):=of_decide_eq_true (by first|(with_reducible assumption)|assumption)
         obtain ⟨ad455,e455,hx455_0⟩:=Kd.at_int HR1.out x7_2 p455 q455
         cases e455
         replace hx455_0:=(HB.out.cell (World.block_lt_of_cell? w _ hx455_0)).trans hx455_0
         replace p455:=eq_true p455
         replace q455:=eq_true q455
         go_wp2_with (first|((with_reducible refine gate_builtin (b:=.append) (xs:=#[.tmp 28,.tmp 33]) rfl ?_);at_builtin;refine Kd.R_append (Kd.int .u8) (w0:=w) w.heap.size rfl (.tmp 28) (.tmp 33) 23 5 (.int .u8 0) 1 rfl Tryz.underlying23 info5 rfl (by decide) (by omega) u5 x5_2 (rd l1 x7_2) [.int .u8 (rd l1 x7_2)] (fun _=>True) (fun _=>False) rfl rfl ?aP (fun _ hk=>hk.elim) ?aF ?aO ?aB ?aS ?aL ?_;(case aP=>exact rfl);(case aB=>exact (by repeat (first|(with_reducible first|exact HB.out|apply below_alloc|apply pw_below_drewN|apply below_drew1)|exact HB.out)));(case aF=>exact (fun _ _=>trivial));(case aO=>exact (by (with_reducible repeat (first|apply Kd.R_alloc|apply Kd.R_drewN|apply Kd.R_drew));exact HO_5.out));(case aS=>exact (below_size (by repeat (first|(with_reducible first|exact HB.out|apply below_alloc|apply pw_below_drewN|apply below_drew1)|exact HB.out))));(case aL=>have:=LMc11.out;omega);intro v457 w12 ho hb hg hat;rw [← Ny456.out] at ho;have n0_:=Aside0.mk (hb);have n1_:=Aside0.mk (ho);clear HB;clear HO_5;have HB:=n0_;have HO458:=n1_;clear n0_ n1_;clear ho hb hg hat))
         go_roundg k2
         case measure=>have:=HK1.out;have:=HK2.out;omega
         case rel=>exact ⟨(y456),(wrap64 (x7_2 + 1)),(by first|rfl|(simp;done)|(simp [*];done)),H',⟨by have:=HK1.out;have:=HK2.out;omega⟩,⟨by (with_reducible repeat (first|apply Kd.R_alloc|apply Kd.R_drewN|apply Kd.R_drew));exact HO458.out⟩,⟨by repeat (first|(with_reducible first|exact HB.out|apply below_alloc|apply pw_below_drewN|apply below_drew1)|exact HB.out)⟩⟩
        ·rw [if_neg c11] at H
         exact absurd H (by simp)
       ·rw [if_neg c10] at H
        exact absurd H (by simp)
      ·rw [if_neg c9] at H
       have c9b0:decide (x7_2 < (l1.length:Int))=false:=decide_eq_false c9
       clear c9
       obtain rfl:=Option.some.inj H
       go_wp2
       go_ret
       exact ⟨_,by first|rfl|(simp [errW_none,errW_some] <;> rfl)|(simp [*,errW_none,errW_some] <;> rfl),by (with_reducible repeat (first|apply Kd.R_alloc|apply Kd.R_drewN|apply Kd.R_drew));exact HO_5.out,by repeat (first|(with_reducible first|exact HB.out|apply below_alloc|apply pw_below_drewN|apply below_drew1)|exact HB.out)⟩
def tollbarref02_Fold.l0:Nat → ByteArray → List Int → Int → Option (ByteArray)
 | 0,_,_,_=>none
 | k + 1,x0,x3,x4=>if x4 < (x0.size:Int) then (if 0 ≤ x4 then (if (bt x0 x4) ≥ 65 then (if (bt x0 x4) ≤ 90 then (if x3.length < 140737488355328 then (tollbarref02_Fold.l0 k x0 (x3 ++ [((bt x0 x4) + 32) % 256]) (wrap64 (x4 + 1))) else (none)) else (if x3.length < 140737488355328 then (tollbarref02_Fold.l0 k x0 (x3 ++ [bt x0 x4]) (wrap64 (x4 + 1))) else (none))) else (if x3.length < 140737488355328 then (tollbarref02_Fold.l0 k x0 (x3 ++ [bt x0 x4]) (wrap64 (x4 + 1))) else (none))) else (none)) else (some (strOfNums x3))
def tollbarref02_Fold.f (k:Nat) (a0:ByteArray):Option (ByteArray):=tollbarref02_Fold.l0 k a0 (([]:List Int)) 0
set_option maxHeartbeats 8000000 in
set_option maxRecDepth 100000 in
theorem tollbarref02_Fold.calls (k:Nat) (a0:ByteArray) (r:ByteArray) (w:World) (h:tollbarref02_Fold.f k a0=some r) :
  Calls Tryz.prog 106 #[.string a0] w fun e w' => e = .returned (.string r)∧Below w.heap.size w w' := by
 have HB:=Aside0.mk (Below.refl w.heap.size w)
 have H:(tollbarref02_Fold.l0 k a0 (([]:List Int)) 0)=some r:=h
 clear h
 obtain ⟨y357,hy357⟩ : ∃ y_:List Int,y_=(([]:List Int)):=⟨_,rfl⟩
 replace H:(tollbarref02_Fold.l0 k a0 y357 0)=some r:=by first|(rw [hy357];with_reducible exact H)|(have H2_:=(Option.bind_some _ _).symm.trans H;rw [hy357];with_reducible exact H2_)|(have H2_:=(Option.bind_some _ _).symm.trans H;with_reducible exact H2_)|with_reducible exact H|(rw [hy357];exact H)|exact H
 have Ny357:=Aside0.mk hy357
 clear hy357
 have H' := Aside0.mk H
 clear H
 go_enter Tryz.func106,Tryz.ntmps106
 go_wp2_with (first|((with_reducible refine gate_dst (N:=6) rfl ?_);refine Kd.R_lit (Kd.int .u8) _ 5 ?hg (N:=6) ?hd (xs:=([]:List Int)) (inner:=[]) (ok:=fun _=>True) (okp:=fun _=>True) ?hr ?hp (fun _ hk=>hk) trivial (Below.refl _ _) (Nat.le_refl _) (by simp) ?_;(case hd=>rfl);(case hg=>rfl);(case hr=>first|(go_simp;done)|(go_simp;rfl));(case hp=>exact (Reps.none _ _));intro v358 w2 ho3 hb hg_ hnew_;clear hg_ hnew_;(first|rw [← Ny357.out] at ho3|(simp only [Int.reduceToNat] at ho3;rw [← Ny357.out] at ho3));have n0_:=Aside0.mk (Kd.R_lower ho3 (below_size (by repeat (first|(with_reducible first|exact HB.out|apply below_alloc|apply pw_below_drewN|apply below_drew1)|exact HB.out))));have n1_:=Aside0.mk (below_step (by repeat (first|(with_reducible first|exact HB.out|apply below_alloc|apply pw_below_drewN|apply below_drew1)|exact HB.out)) hb);clear HB;have HO359:=n0_;have HB:=n1_;clear n0_ n1_;clear hb ho3))
 go_loopg [3,4] k (fun kq v3 v4 w' => ∃ (x3_1:List Int) (x4_1:Int),v4 = .int .i64 x4_1∧Aside0 (tollbarref02_Fold.l0 kq a0 x3_1 x4_1=some r)∧Aside0 (kq ≤ k)∧Aside0 (Kd.R (Kd.int .u8) 5 w' w.heap.size (fun _=>True) v3 x3_1)∧Aside0 (Below w.heap.size w w'))
 case atStart=>exact ⟨(y357),(0),(by first|rfl|(simp;done)|(simp [*];done)),H',⟨Nat.le_refl _⟩,⟨by (with_reducible repeat (first|apply Kd.R_alloc|apply Kd.R_drewN|apply Kd.R_drew));exact HO359.out⟩,⟨by repeat (first|(with_reducible first|exact HB.out|apply below_alloc|apply pw_below_drewN|apply below_drew1)|exact HB.out)⟩⟩
 case round =>
  clear H'
  try clear c1
  try clear p2
  obtain ⟨x3_1,x4_1,rfl,HA,HK1,HO_3,HB⟩:=hrel
  cases gk with
  | zero=>exact absurd HA.out (by simp [tollbarref02_Fold.l0])
  | succ k1 =>
   have H:=HA.out
   clear HA
   simp only [tollbarref02_Fold.l0] at H
   by_cases c4:x4_1 < (a0.size:Int)
   ·rw [if_pos c4] at H
    have c4b0:decide (x4_1 < (a0.size:Int))=true:=decide_eq_true c4
    clear c4
    by_cases c5:0 ≤ x4_1
    ·rw [if_pos c5] at H
     have c5b0:decide (0 ≤ x4_1)=true:=decide_eq_true c5
     clear c5
     by_cases c7:(bt a0 x4_1) ≥ 65
     ·rw [if_pos c7] at H
      have c7b0:decide (65 ≤ (bt a0 x4_1))=true:=decide_eq_true c7
      clear c7
      by_cases c8:(bt a0 x4_1) ≤ 90
      ·rw [if_pos c8] at H
       have c8b0:decide ((bt a0 x4_1) ≤ 90)=true:=decide_eq_true c8
       clear c8
       by_cases c9:x3_1.length < 140737488355328
       ·rw [if_pos c9] at H
        have LMc9:=Aside0.mk c9
        clear c9
        obtain ⟨y360,hy360⟩ : ∃ y_:List Int,y_=(x3_1 ++ [((bt a0 x4_1) + 32) % 256]):=⟨_,rfl⟩
        replace H:(tollbarref02_Fold.l0 k1 a0 y360 (wrap64 (x4_1 + 1)))=some r:=by first|(rw [hy360];with_reducible exact H)|(have H2_:=(Option.bind_some _ _).symm.trans H;rw [hy360];with_reducible exact H2_)|(have H2_:=(Option.bind_some _ _).symm.trans H;with_reducible exact H2_)|with_reducible exact H|(rw [hy360];exact H)|exact H
        have Ny360:=Aside0.mk hy360
        clear hy360
        have H' := Aside0.mk H
        clear H
        have p6:0 ≤ (x4_1:Int):=of_decide_eq_true (by first|(with_reducible assumption)|assumption)
        have q6:x4_1 < (a0.size:Int):=of_decide_eq_true (by first|(with_reducible assumption)|assumption)
        have hx6:=bt_at a0 x4_1
        replace p6:=eq_true p6
        replace q6:=eq_true q6
        go_wp2_with (first|((with_reducible refine gate_builtin (b:=.append) (xs:=#[.tmp 24,.tmp 26]) rfl ?_);at_builtin;refine Kd.R_append (Kd.int .u8) (w0:=w) w.heap.size rfl (.tmp 24) (.tmp 26) 23 5 (.int .u8 0) 1 rfl Tryz.underlying23 info5 rfl (by decide) (by omega) u3 x3_1 (((bt a0 x4_1) + 32) % 256) [.int .u8 (((bt a0 x4_1) + 32) % 256)] (fun _=>True) (fun _=>False) rfl rfl ?aP (fun _ hk=>hk.elim) ?aF ?aO ?aB ?aS ?aL ?_;(case aP=>exact rfl);(case aB=>exact (by repeat (first|(with_reducible first|exact HB.out|apply below_alloc|apply pw_below_drewN|apply below_drew1)|exact HB.out)));(case aF=>exact (fun _ _=>trivial));(case aO=>exact (by (with_reducible repeat (first|apply Kd.R_alloc|apply Kd.R_drewN|apply Kd.R_drew));exact HO_3.out));(case aS=>exact (below_size (by repeat (first|(with_reducible first|exact HB.out|apply below_alloc|apply pw_below_drewN|apply below_drew1)|exact HB.out))));(case aL=>have:=LMc9.out;omega);intro v361 w10 ho hb hg hat;rw [← Ny360.out] at ho;have n0_:=Aside0.mk (hb);have n1_:=Aside0.mk (ho);clear HB;clear HO_3;have HB:=n0_;have HO362:=n1_;clear n0_ n1_;clear ho hb hg hat))
        go_roundg k1
        case measure=>have:=HK1.out;omega
        case rel=>exact ⟨(y360),(wrap64 (x4_1 + 1)),(by first|rfl|(simp;done)|(simp [*];done)),H',⟨by have:=HK1.out;omega⟩,⟨by (with_reducible repeat (first|apply Kd.R_alloc|apply Kd.R_drewN|apply Kd.R_drew));exact HO362.out⟩,⟨by repeat (first|(with_reducible first|exact HB.out|apply below_alloc|apply pw_below_drewN|apply below_drew1)|exact HB.out)⟩⟩
       ·rw [if_neg c9] at H
        exact absurd H (by simp)
      ·rw [if_neg c8] at H
       have c8b0:decide ((bt a0 x4_1) ≤ 90)=false:=decide_eq_false c8
       clear c8
       by_cases c11:x3_1.length < 140737488355328
       ·rw [if_pos c11] at H
        have LMc11:=Aside0.mk c11
        clear c11
        obtain ⟨y363,hy363⟩ : ∃ y_:List Int,y_=(x3_1 ++ [bt a0 x4_1]):=⟨_,rfl⟩
        replace H:(tollbarref02_Fold.l0 k1 a0 y363 (wrap64 (x4_1 + 1)))=some r:=by first|(rw [hy363];with_reducible exact H)|(have H2_:=(Option.bind_some _ _).symm.trans H;rw [hy363];with_reducible exact H2_)|(have H2_:=(Option.bind_some _ _).symm.trans H;with_reducible exact H2_)|with_reducible exact H|(rw [hy363];exact H)|exact H
        have Ny363:=Aside0.mk hy363
        clear hy363
        have H' := Aside0.mk H
        clear H
        have p6:0 ≤ (x4_1:Int):=of_decide_eq_true (by first|(with_reducible assumption)|assumption)
        have q6:x4_1 < (a0.size:Int):=of_decide_eq_true (by first|(with_reducible assumption)|assumption)
        have hx6:=bt_at a0 x4_1
        replace p6:=eq_true p6
        replace q6:=eq_true q6
        go_wp2_with (first|((with_reducible refine gate_builtin (b:=.append) (xs:=#[.tmp 24,.tmp 26]) rfl ?_);at_builtin;refine Kd.R_append (Kd.int .u8) (w0:=w) w.heap.size rfl (.tmp 24) (.tmp 26) 23 5 (.int .u8 0) 1 rfl Tryz.underlying23 info5 rfl (by decide) (by omega) u3 x3_1 (bt a0 x4_1) [.int .u8 (bt a0 x4_1)] (fun _=>True) (fun _=>False) rfl rfl ?aP (fun _ hk=>hk.elim) ?aF ?aO ?aB ?aS ?aL ?_;(case aP=>exact rfl);(case aB=>exact (by repeat (first|(with_reducible first|exact HB.out|apply below_alloc|apply pw_below_drewN|apply below_drew1)|exact HB.out)));(case aF=>exact (fun _ _=>trivial));(case aO=>exact (by (with_reducible repeat (first|apply Kd.R_alloc|apply Kd.R_drewN|apply Kd.R_drew));exact HO_3.out));(case aS=>exact (below_size (by repeat (first|(with_reducible first|exact HB.out|apply below_alloc|apply pw_below_drewN|apply below_drew1)|exact HB.out))));(case aL=>have:=LMc11.out;omega);intro v364 w12 ho hb hg hat;rw [← Ny363.out] at ho;have n0_:=Aside0.mk (hb);have n1_:=Aside0.mk (ho);clear HB;clear HO_3;have HB:=n0_;have HO365:=n1_;clear n0_ n1_;clear ho hb hg hat))
        go_roundg k1
        case measure=>have:=HK1.out;omega
        case rel=>exact ⟨(y363),(wrap64 (x4_1 + 1)),(by first|rfl|(simp;done)|(simp [*];done)),H',⟨by have:=HK1.out;omega⟩,⟨by (with_reducible repeat (first|apply Kd.R_alloc|apply Kd.R_drewN|apply Kd.R_drew));exact HO365.out⟩,⟨by repeat (first|(with_reducible first|exact HB.out|apply below_alloc|apply pw_below_drewN|apply below_drew1)|exact HB.out)⟩⟩
       ·rw [if_neg c11] at H
        exact absurd H (by simp)
     ·rw [if_neg c7] at H
      have c7b0:decide (65 ≤ (bt a0 x4_1))=false:=decide_eq_false c7
      clear c7
      by_cases c13:x3_1.length < 140737488355328
      ·rw [if_pos c13] at H
       have LMc13:=Aside0.mk c13
       clear c13
       obtain ⟨y366,hy366⟩ : ∃ y_:List Int,y_=(x3_1 ++ [bt a0 x4_1]):=⟨_,rfl⟩
       replace H:(tollbarref02_Fold.l0 k1 a0 y366 (wrap64 (x4_1 + 1)))=some r:=by first|(rw [hy366];with_reducible exact H)|(have H2_:=(Option.bind_some _ _).symm.trans H;rw [hy366];with_reducible exact H2_)|(have H2_:=(Option.bind_some _ _).symm.trans H;with_reducible exact H2_)|with_reducible exact H|(rw [hy366];exact H)|exact H
       have Ny366:=Aside0.mk hy366
       clear hy366
       have H' := Aside0.mk H
       clear H
       have p6:0 ≤ (x4_1:Int):=of_decide_eq_true (by first|(with_reducible assumption)|assumption)
       have q6:x4_1 < (a0.size:Int):=of_decide_eq_true (by first|(with_reducible assumption)|assumption)
       have hx6:=bt_at a0 x4_1
       replace p6:=eq_true p6
       replace q6:=eq_true q6
       go_wp2_with (first|((with_reducible refine gate_builtin (b:=.append) (xs:=#[.tmp 24,.tmp 26]) rfl ?_);at_builtin;refine Kd.R_append (Kd.int .u8) (w0:=w) w.heap.size rfl (.tmp 24) (.tmp 26) 23 5 (.int .u8 0) 1 rfl Tryz.underlying23 info5 rfl (by decide) (by omega) u3 x3_1 (bt a0 x4_1) [.int .u8 (bt a0 x4_1)] (fun _=>True) (fun _=>False) rfl rfl ?aP (fun _ hk=>hk.elim) ?aF ?aO ?aB ?aS ?aL ?_;(case aP=>exact rfl);(case aB=>exact (by repeat (first|(with_reducible first|exact HB.out|apply below_alloc|apply pw_below_drewN|apply below_drew1)|exact HB.out)));(case aF=>exact (fun _ _=>trivial));(case aO=>exact (by (with_reducible repeat (first|apply Kd.R_alloc|apply Kd.R_drewN|apply Kd.R_drew));exact HO_3.out));(case aS=>exact (below_size (by repeat (first|(with_reducible first|exact HB.out|apply below_alloc|apply pw_below_drewN|apply below_drew1)|exact HB.out))));(case aL=>have:=LMc13.out;omega);intro v367 w14 ho hb hg hat;rw [← Ny366.out] at ho;have n0_:=Aside0.mk (hb);have n1_:=Aside0.mk (ho);clear HB;clear HO_3;have HB:=n0_;have HO368:=n1_;clear n0_ n1_;clear ho hb hg hat))
       go_roundg k1
       case measure=>have:=HK1.out;omega
       case rel=>exact ⟨(y366),(wrap64 (x4_1 + 1)),(by first|rfl|(simp;done)|(simp [*];done)),H',⟨by have:=HK1.out;omega⟩,⟨by (with_reducible repeat (first|apply Kd.R_alloc|apply Kd.R_drewN|apply Kd.R_drew));exact HO368.out⟩,⟨by repeat (first|(with_reducible first|exact HB.out|apply below_alloc|apply pw_below_drewN|apply below_drew1)|exact HB.out)⟩⟩
      ·rw [if_neg c13] at H
       exact absurd H (by simp)
    ·rw [if_neg c5] at H
     exact absurd H (by simp)
   ·rw [if_neg c4] at H
    have c4b0:decide (x4_1 < (a0.size:Int))=false:=decide_eq_false c4
    clear c4
    obtain rfl:=Option.some.inj H
    have hcv15:=own_string (P:=Tryz.prog) Tryz.underlying23 Tryz.underlying5 Tryz.underlying9 (Kd.own_of_R HO_3.out)
    go_wp2
    go_ret
    exact ⟨by first|rfl|(simp [errW_none,errW_some] <;> rfl)|(simp [*,errW_none,errW_some] <;> rfl),by repeat (first|(with_reducible first|exact HB.out|apply below_alloc|apply pw_below_drewN|apply below_drew1)|exact HB.out)⟩
def tollbarref02_blank.f (a0:Int):Option (Bool):=if a0=32 then (some true) else (some (a0 == 9))
set_option maxHeartbeats 8000000 in
set_option maxRecDepth 100000 in
theorem tollbarref02_blank.calls (a0:Int) (r:Bool) (w:World) (h:tollbarref02_blank.f a0=some r) :
  Calls Tryz.prog 70 #[.int .u8 a0] w fun e w' => e = .returned (.bool r)∧Drawn0 w w' := by
 have H:(if a0=32 then (some true) else (some (a0 == 9)))=some r:=h
 clear h
 by_cases c2:a0=32
 ·rw [if_pos c2] at H
  have c2b0:(a0 == 32)=true:=beq_iff_eq.mpr c2
  have c2b1:(a0 != 32)=false:=bne_eq_false_iff_eq.mpr c2
  clear c2
  obtain rfl:=Option.some.inj H
  go_enter Tryz.func70,Tryz.ntmps70
  go_wp2
  go_ret
  exact ⟨by first|rfl|(simp;done)|(simp [*];done),by repeat (first|exact Drawn0.refl _|apply Drawn0.step)⟩
 ·rw [if_neg c2] at H
  have c2b0:(a0 == 32)=false:=beq_eq_false_iff_ne.mpr c2
  have c2b1:(a0 != 32)=true:=bne_iff_ne.mpr c2
  obtain rfl:=Option.some.inj H
  go_enter Tryz.func70,Tryz.ntmps70
  go_wp2
  go_ret
  exact ⟨by first|rfl|(simp;done)|(simp [*];done),by repeat (first|exact Drawn0.refl _|apply Drawn0.step)⟩
mutual
def tollbarref02_Trim.j1:Nat → ByteArray → Option (ByteArray)
 | 0,_=>none
 | k + 1,x0=>tollbarref02_Trim.l1 k x0
def tollbarref02_Trim.l1:Nat → ByteArray → Option (ByteArray)
 | 0,_=>none
 | k + 1,x0=>if (x0.size:Int) > 0 then (if 0 ≤ (wrap64 ((x0.size:Int) - 1)) then (if (wrap64 ((x0.size:Int) - 1)) < (x0.size:Int) then ((tollbarref02_blank.f (bt x0 (wrap64 ((x0.size:Int) - 1)))).bind fun t381=>(if t381=true then (if (wrap64 ((x0.size:Int) - 1)) ≤ (x0.size:Int) then (tollbarref02_Trim.l1 k (x0.extract 0 ((wrap64 ((x0.size:Int) - 1)):Int).toNat)) else (none)) else (some x0))) else (none)) else (none)) else (some x0)
def tollbarref02_Trim.l0:Nat → ByteArray → Option (ByteArray)
 | 0,_=>none
 | k + 1,x0=>if (x0.size:Int) > 0 then (if 0 < (x0.size:Int) then ((tollbarref02_blank.f (bt x0 0)).bind fun t380=>(if t380=true then (if 1 ≤ (x0.size:Int) then (tollbarref02_Trim.l0 k (x0.extract 1 x0.size)) else (none)) else (tollbarref02_Trim.j1 k x0))) else (none)) else (tollbarref02_Trim.j1 k x0)
end
def tollbarref02_Trim.f (k:Nat) (a0:ByteArray):Option (ByteArray):=tollbarref02_Trim.l0 k a0
set_option maxHeartbeats 8000000 in
set_option maxRecDepth 100000 in
theorem tollbarref02_Trim.calls (k:Nat) (a0:ByteArray) (r:ByteArray) (w:World) (h:tollbarref02_Trim.f k a0=some r) :
  Calls Tryz.prog 32 #[.string a0] w fun e w' => e = .returned (.string r)∧Drawn0 w w' := by
 have H:(tollbarref02_Trim.l0 k a0)=some r:=h
 clear h
 have HC2:=Aside0.mk H
 clear H
 go_enter Tryz.func32,Tryz.ntmps32
 go_upto_block 0 with (fail)
 go_cut [0] (fun v0 wc => ∃ (kq:Nat) (x0_1:ByteArray),v0 = .string x0_1∧Aside0 (tollbarref02_Trim.j1 kq x0_1=some r)∧Aside0 (kq ≤ k)∧Drawn0 w wc)
 case first =>
  have H:=HC2.out
  clear HC2
  have H' := Aside0.mk H
  clear H
  go_wp2
  go_loopg [0] k (fun kq v0 w' => ∃ (x0_1:ByteArray),v0 = .string x0_1∧Aside0 (tollbarref02_Trim.l0 kq x0_1=some r)∧Aside0 (kq ≤ k)∧Drawn0 w w')
  case atStart=>exact ⟨(a0),(by first|rfl|(simp;done)|(simp [*];done)),H',⟨Nat.le_refl _⟩,by repeat (first|exact Drawn0.refl _|apply Drawn0.step)⟩
  case round =>
   clear H'
   try clear p2
   obtain ⟨x0_1,rfl,HA,HK1,⟨m1,rfl⟩⟩:=hrel
   cases gk with
   | zero=>exact absurd HA.out (by simp [tollbarref02_Trim.l0])
   | succ k1 =>
    have H:=HA.out
    clear HA
    simp only [tollbarref02_Trim.l0] at H
    by_cases c3:(x0_1.size:Int) > 0
    ·rw [if_pos c3] at H
     have c3b0:decide (0 < (x0_1.size:Int))=true:=decide_eq_true c3
     have c3b1:decide (0 < x0_1.size)=true:=decide_eq_true (by omega)
     clear c3
     (first|rw [c3b0]|(simp only [i64_w,i32_w];rw [c3b0])|rw [c3b1]|skip)
     by_cases c4:0 < (x0_1.size:Int)
     ·rw [if_pos c4] at H
      have c4b0:decide (0 < (x0_1.size:Int))=true:=decide_eq_true c4
      have c4b1:decide (0 < x0_1.size)=true:=decide_eq_true (by omega)
      clear c4
      replace H:=Option.bind_eq_some_iff.mp H
      obtain ⟨t380,A60,H⟩:=H
      replace H:(if t380=true then (if 1 ≤ (x0_1.size:Int) then (tollbarref02_Trim.l0 k1 (x0_1.extract 1 x0_1.size)) else (none)) else (tollbarref02_Trim.j1 k1 x0_1))=some r:=H
      have A6:=Aside0.mk A60
      clear A60
      by_cases c7:t380=true
      ·subst c7
       have H1:(if 1 ≤ (x0_1.size:Int) then (tollbarref02_Trim.l0 k1 (x0_1.extract 1 x0_1.size)) else (none))=some r:=by rw [if_pos rfl] at H;exact H
       clear H
       have H:=H1
       clear H1
       by_cases c8:1 ≤ (x0_1.size:Int)
       ·rw [if_pos c8] at H
        have c8b0:=eq_true c8
        have c8b1:decide (1 ≤ (x0_1.size:Int))=true:=decide_eq_true c8
        clear c8
        have H' := Aside0.mk H
        clear H
        have p5:0 ≤ (0:Int):=(by omega)
        have q5:0 < x0_1.size:=(by have:(0:Int) < (x0_1.size:Int):=of_decide_eq_true (by first|(with_reducible assumption)|assumption);omega)
        have hx5 : ∀ h:0 < x0_1.size,((x0_1[0]'h).toNat:Int)=bt x0_1 0:=bt_at x0_1 0
        clear p5
        have qi5:(0 < (x0_1.size:Int))=True:=eq_true (of_decide_eq_true (by first|(with_reducible assumption)|assumption))
        replace q5:=eq_true q5
        go_wp2_with (first|(go_at_call 70;(with_reducible refine (tollbarref02_blank.calls (bt x0_1 0) true _ A6.out).mono ?_);rintro e w' ⟨rfl,⟨nd,rfl⟩⟩;(try clear A6)))
        go_roundg k1
        case measure=>have:=HK1.out;omega
        case rel=>exact ⟨(x0_1.extract 1 x0_1.size),(by first|rfl|(simp;done)|(simp [*];done)),H',⟨by have:=HK1.out;omega⟩,by repeat (first|exact Drawn0.refl _|apply Drawn0.step)⟩
       ·rw [if_neg c8] at H
        exact absurd H (by simp)
      ·replace c7:=Bool.eq_false_iff.mpr c7
       subst c7
       have H1:(tollbarref02_Trim.j1 k1 x0_1)=some r:=by rw [if_neg (show ¬ (false=true) by decide)] at H;exact H
       clear H
       have H:=H1
       clear H1
       have H' := Aside0.mk H
       clear H
       have p5:0 ≤ (0:Int):=(by omega)
       have q5:0 < x0_1.size:=(by have:(0:Int) < (x0_1.size:Int):=of_decide_eq_true (by first|(with_reducible assumption)|assumption);omega)
       have hx5 : ∀ h:0 < x0_1.size,((x0_1[0]'h).toNat:Int)=bt x0_1 0:=bt_at x0_1 0
       clear p5
       have qi5:(0 < (x0_1.size:Int))=True:=eq_true (of_decide_eq_true (by first|(with_reducible assumption)|assumption))
       replace q5:=eq_true q5
       go_wp2_with (first|(go_at_call 70;(with_reducible refine (tollbarref02_blank.calls (bt x0_1 0) false _ A6.out).mono ?_);rintro e w' ⟨rfl,⟨nd,rfl⟩⟩;(try clear A6)))
       go_meet
       case rel=>exact ⟨_,(x0_1),(by first|rfl|(simp;done)|(simp [*];done)),H',⟨by have:=HK1.out;first|omega|exact Nat.le_refl _⟩,by repeat (first|exact Drawn0.refl _|apply Drawn0.step)⟩
     ·rw [if_neg c4] at H
      exact absurd H (by simp)
    ·rw [if_neg c3] at H
     have c3b0:decide (0 < (x0_1.size:Int))=false:=decide_eq_false c3
     have c3b1:decide (0 < x0_1.size)=false:=decide_eq_false (by omega)
     clear c3
     (first|rw [c3b0]|(simp only [i64_w,i32_w];rw [c3b0])|rw [c3b1]|skip)
     have H' := Aside0.mk H
     clear H
     go_wp2
     go_meet
     case rel=>exact ⟨_,(x0_1),(by first|rfl|(simp;done)|(simp [*];done)),H',⟨by have:=HK1.out;first|omega|exact Nat.le_refl _⟩,by repeat (first|exact Drawn0.refl _|apply Drawn0.step)⟩
 case rest =>
  clear HC2
  try clear p2
  try clear c3
  try clear c3b0
  try clear c3b1
  try clear c4
  try clear c4b0
  try clear c4b1
  try clear p5
  try clear q5
  try clear hx5
  try clear qi5
  try clear c7
  try clear c8
  try clear c8b0
  try clear c8b1
  try clear p2
  try clear p5
  try clear q5
  obtain ⟨kq,x0_1,rfl,HA,HJ1,⟨mc1,rfl⟩⟩:=hcut
  cases kq with
  | zero=>exact absurd HA.out (by simp [tollbarref02_Trim.j1])
  | succ kj1 =>
   have H:=HA.out
   clear HA
   simp only [tollbarref02_Trim.j1] at H
   have H' := Aside0.mk H
   clear H
   go_wp2
   go_loopg [0] kj1 (fun kq v0 w' => ∃ (x0_2:ByteArray),v0 = .string x0_2∧Aside0 (tollbarref02_Trim.l1 kq x0_2=some r)∧Aside0 (kq ≤ kj1)∧Drawn0 w w')
   case atStart=>exact ⟨(x0_1),(by first|rfl|(simp;done)|(simp [*];done)),H',⟨Nat.le_refl _⟩,by repeat (first|exact Drawn0.refl _|apply Drawn0.step)⟩
   case round =>
    clear H'
    try clear c1
    try clear p2
    try clear c3
    try clear c3b0
    try clear c3b1
    try clear c4
    try clear c4b0
    try clear c4b1
    try clear p5
    try clear q5
    try clear hx5
    try clear qi5
    try clear c7
    try clear c8
    try clear c8b0
    try clear c8b1
    try clear p2
    try clear p5
    try clear q5
    obtain ⟨x0_2,rfl,HA,HK2,⟨m2,rfl⟩⟩:=hrel
    cases gk with
    | zero=>exact absurd HA.out (by simp [tollbarref02_Trim.l1])
    | succ k2 =>
     have H:=HA.out
     clear HA
     simp only [tollbarref02_Trim.l1] at H
     by_cases c9:(x0_2.size:Int) > 0
     ·rw [if_pos c9] at H
      have c9b0:decide (0 < (x0_2.size:Int))=true:=decide_eq_true c9
      have c9b1:decide (0 < x0_2.size)=true:=decide_eq_true (by omega)
      clear c9
      obtain ⟨ji10,hji10⟩ : ∃ j_:Int,(wrap64 ((x0_2.size:Int) - 1))=j_:=⟨_,rfl⟩
      replace H:(if 0 ≤ (ji10) then (if (ji10) < (x0_2.size:Int) then ((tollbarref02_blank.f (bt x0_2 (ji10))).bind fun t381=>(if t381=true then (if (ji10) ≤ (x0_2.size:Int) then (tollbarref02_Trim.l1 k2 (x0_2.extract 0 ((ji10):Int).toNat)) else (none)) else (some x0_2))) else (none)) else (none))=some r:=by first|(rw [hji10] at H;exact H)|(simp only [hji10] at H ⊢;exact H)
      have hji10w:(IntKind.i64.wrap ((x0_2.size:Int) - 1))=ji10:=(i64_w _).trans hji10
      by_cases c11:0 ≤ (ji10)
      ·rw [if_pos c11] at H
       have c11b0:decide (0 ≤ (ji10))=true:=decide_eq_true c11
       clear c11
       by_cases c12:(ji10) < (x0_2.size:Int)
       ·rw [if_pos c12] at H
        have c12b0:decide ((ji10) < (x0_2.size:Int))=true:=decide_eq_true c12
        clear c12
        replace H:=Option.bind_eq_some_iff.mp H
        obtain ⟨t381,A140,H⟩:=H
        replace H:(if t381=true then (if (ji10) ≤ (x0_2.size:Int) then (tollbarref02_Trim.l1 k2 (x0_2.extract 0 ((ji10):Int).toNat)) else (none)) else (some x0_2))=some r:=H
        have A14:=Aside0.mk A140
        clear A140
        by_cases c15:t381=true
        ·subst c15
         have H1:(if (ji10) ≤ (x0_2.size:Int) then (tollbarref02_Trim.l1 k2 (x0_2.extract 0 ((ji10):Int).toNat)) else (none))=some r:=by rw [if_pos rfl] at H;exact H
         clear H
         have H:=H1
         clear H1
         have c16b0:=eq_true (of_decide_eq_true (by first|(with_reducible assumption)|assumption):0 ≤ (ji10))
         by_cases c17:(ji10) ≤ (x0_2.size:Int)
         ·rw [if_pos c17] at H
          have c17b0:=eq_true c17
          have c17b1:decide ((ji10) ≤ (x0_2.size:Int))=true:=decide_eq_true c17
          clear c17
          have H' := Aside0.mk H
          clear H
          have p13:0 ≤ ((ji10):Int):=of_decide_eq_true (by first|(with_reducible assumption)|assumption)
          have q13:(ji10) < (x0_2.size:Int):=of_decide_eq_true (by first|(with_reducible assumption)|assumption)
          have hx13:=bt_at x0_2 (ji10)
          replace p13:=eq_true p13
          replace q13:=eq_true q13
          go_wp2_with (first|(go_at_call 70;(with_reducible refine (tollbarref02_blank.calls (bt x0_2 (ji10)) true _ A14.out).mono ?_);rintro e w' ⟨rfl,⟨nd,rfl⟩⟩;(try clear A14)))
          go_roundg k2
          case measure=>have:=HJ1.out;have:=HK2.out;omega
          case rel=>exact ⟨(x0_2.extract 0 ((ji10):Int).toNat),(by first|rfl|(simp;done)|(simp only [← hji10] <;> (first|rfl|simp))|(simp [*];done)),H',⟨by have:=HJ1.out;have:=HK2.out;omega⟩,by repeat (first|exact Drawn0.refl _|apply Drawn0.step)⟩
         ·rw [if_neg c17] at H
          exact absurd H (by simp)
        ·replace c15:=Bool.eq_false_iff.mpr c15
         subst c15
         have H1:(some x0_2)=some r:=by rw [if_neg (show ¬ (false=true) by decide)] at H;exact H
         clear H
         have H:=H1
         clear H1
         obtain rfl:=Option.some.inj H
         have p13:0 ≤ ((ji10):Int):=of_decide_eq_true (by first|(with_reducible assumption)|assumption)
         have q13:(ji10) < (x0_2.size:Int):=of_decide_eq_true (by first|(with_reducible assumption)|assumption)
         have hx13:=bt_at x0_2 (ji10)
         replace p13:=eq_true p13
         replace q13:=eq_true q13
         go_wp2_with (first|(go_at_call 70;(with_reducible refine (tollbarref02_blank.calls (bt x0_2 (ji10)) false _ A14.out).mono ?_);rintro e w' ⟨rfl,⟨nd,rfl⟩⟩;(try clear A14)))
         go_ret
         exact ⟨by first|rfl|(simp;done)|(simp only [← hji10] <;> (first|rfl|simp))|(simp [*];done),by repeat (first|exact Drawn0.refl _|apply Drawn0.step)⟩
       ·rw [if_neg c12] at H
        exact absurd H (by simp)
      ·rw [if_neg c11] at H
       exact absurd H (by simp)
     ·rw [if_neg c9] at H
      have c9b0:decide (0 < (x0_2.size:Int))=false:=decide_eq_false c9
      have c9b1:decide (0 < x0_2.size)=false:=decide_eq_false (by omega)
      clear c9
      obtain rfl:=Option.some.inj H
      go_wp2
      go_ret
      exact ⟨by first|rfl|(simp;done)|(simp [*];done),by repeat (first|exact Drawn0.refl _|apply Drawn0.step)⟩
end Go.Proofs.YtfjeinnemimjoaaGreatDoor.P
