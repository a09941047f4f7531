/- Each function below answers as its Lean twin says; plain lemmas; a row where its theorem stands. No further condition. (Laid by this repo's pack.py out of its texts and of the print's words.) -/
import Derived.Test.YtfjeinnemimjoaaDoorZd8102f62
namespace Go.Proofs.YtfjeinnemimjoaaDoor.P
open Go.RowKit Go.Proofs.YtfjeinnemimjoaaDoorW.PrintWords Go.Proofs.YtfjeinnemimjoaaDoorW.PrintLast Go.Proofs.YtfjeinnemimjoaaDoorW.PrintMore
attribute [local go_sem] max2_int min2_int max_two min_two max_three min_three max_four min_four
set_option linter.unusedVariables false
set_option linter.unusedSimpArgs false
mutual
def scrub_Request.l0:Nat → ByteArray → ByteArray → List ByteArray → List (S41) → Int → Int → ByteArray → ByteArray → Int → List (S41) → List Int → List (S175) → List (S177) → List (S41) → List ByteArray → Int → Int → Int → Int → Option (ByteArray × ByteArray × Int × (List (S41)) × List Int)
 | 0,_,_,_,_,_,_,_,_,_,_,_,_,_,_,_,_,_,_,_=>none
 | k + 1,x2,x3,x9,x17,x18,x19,x317000,x317001,x317002,x317003,x317004,x318000,x318001,x318002,x318003,x318004,x318005,x318006,x318007=>if x19 < x18 then (if 0 ≤ x19 then (if x19 < (x17.length:Int) then (if x9.length < 8796093022208 then (scrub_Request.l0 k x2 x3 (x9 ++ [(rd_T41 x17 x19).f0]) x17 x18 (wrap64 (x19 + 1)) x317000 x317001 x317002 x317003 x317004 x318000 x318001 x318002 x318003 x318004 x318005 x318006 x318007) else (none)) else (none)) else (none)) else ((some (([(⟨(⟨#[72,111,115,116]⟩:ByteArray),x2⟩:S41)]:List (S41)):List (S41))).bind fun y327=>((scrub_onward.f k x317003).bind fun t330=>((field_Without.f k t330 x9).bind fun t333=>(if y327.length + t333.length < 4398046511104 then ((some (y327 ++ t333:List (S41))).bind fun y336=>(if y336.length + x318002.length < 4398046511104 then ((some (y336 ++ x318002:List (S41))).bind fun y339=>(if (x317004.length:Int) > 0 then (scrub_Request.j1 k x3 y339 (decide ((x317004.length:Int) > 0)) x317000 x317001 x317002 x317003 x317004) else (if x317000.toList=([80,79,83,84]:List UInt8) then (scrub_Request.j1 k x3 y339 (x317000.toList == ([80,79,83,84]:List UInt8)) x317000 x317001 x317002 x317003 x317004) else (if x317000.toList=([80,85,84]:List UInt8) then (scrub_Request.j1 k x3 y339 (x317000.toList == ([80,85,84]:List UInt8)) x317000 x317001 x317002 x317003 x317004) else (scrub_Request.j1 k x3 y339 (x317000.toList == ([80,65,84,67,72]:List UInt8)) x317000 x317001 x317002 x317003 x317004))))) else (none))) else (none)))))
def scrub_Request.j1:Nat → ByteArray → List (S41) → Bool → ByteArray → ByteArray → Int → List (S41) → List Int → Option (ByteArray × ByteArray × Int × (List (S41)) × List Int)
 | 0,_,_,_,_,_,_,_,_=>none
 | k + 1,x3,x12,x42,x317000,x317001,x317002,x317003,x317004=>if x42=true then ((scrub_length.f (x317004.length:Int)).bind fun bt342=>(if x12.length < 4398046511104 then ((bytes_Clone.f x317004).bind fun t347=>(some (x317000,x3,1,(x12 ++ [(⟨bt342.1,bt342.2⟩:S41)]),t347))) else (none))) else ((bytes_Clone.f x317004).bind fun t350=>(some (x317000,x3,1,x12,t350)))
end
def scrub_Request.f (k:Nat) (a0_0:ByteArray) (a0_1:ByteArray) (a0_2:Int) (l0_3:List (S41)) (l0_4:List Int) (l1_0:List (S175)) (l1_1:List (S177)) (l1_2:List (S41)) (l1_3:List ByteArray) (a1_4:Int) (a1_5:Int) (a1_6:Int) (a1_7:Int) (a2:ByteArray) (a3:ByteArray):Option (ByteArray × ByteArray × Int × (List (S41)) × List Int):=(slices_Clone_string_string.f l1_3).bind fun t319=>(scrub_Request.l0 k a2 a3 t319 l1_2 (l1_2.length:Int) 0 a0_0 a0_1 a0_2 l0_3 l0_4 l1_0 l1_1 l1_2 l1_3 a1_4 a1_5 a1_6 a1_7)
def scrub_Request.T14:Bool × List (List Nat × List Nat):=(true,[([],[]),([0],[0]),([],[]),([],[]),([],[]),([4],[4]),([5],[5]),([1,2,3,6],[1,2,3,6]),([7,6,0,1,2,3,4,5,6,7],[7])])
def scrub_Request.B14:List Nat:=[0,1,0,0,0,16,48,127,255]
theorem scrub_Request.tab14:rtab .any (opsOf Tryd.f15 14)=scrub_Request.T14:=by kernel_rfl
theorem scrub_Request.bits14:waitsOk scrub_Request.T14.2 scrub_Request.B14=true:=by kernel_rfl
set_option maxHeartbeats 8000000 in
set_option maxRecDepth 100000 in
theorem scrub_Request.calls (k:Nat) (a0_0:ByteArray) (a0_1:ByteArray) (a0_2:Int) (A0_3:Option Addr) (c0_3:Nat) (l0_3:List (S41)) (A0_4:Option Addr) (c0_4:Nat) (l0_4:List Int) (A1_0:Option Addr) (c1_0:Nat) (l1_0:List (S175)) (A1_1:Option Addr) (c1_1:Nat) (l1_1:List (S177)) (A1_2:Option Addr) (c1_2:Nat) (l1_2:List (S41)) (A1_3:Option Addr) (c1_3:Nat) (l1_3:List ByteArray) (a1_4:Int) (a1_5:Int) (a1_6:Int) (a1_7:Int) (a2:ByteArray) (a3:ByteArray) (r1:ByteArray) (r2:ByteArray) (r3:Int) (r4:List (S41)) (r5:List Int) (w:World) (hr0_3:Kd.C k41 w A0_3 l0_3.length l0_3) (hc0_3:l0_3.length ≤ c0_3) (hr0_4:Kd.C (Kd.int .u8) w A0_4 l0_4.length l0_4) (hc0_4:l0_4.length ≤ c0_4) (hr1_0:Kd.C k175 w A1_0 l1_0.length l1_0) (hc1_0:l1_0.length ≤ c1_0) (hr1_1:Kd.C k177 w A1_1 l1_1.length l1_1) (hc1_1:l1_1.length ≤ c1_1) (hr1_2:Kd.C k41 w A1_2 l1_2.length l1_2) (hc1_2:l1_2.length ≤ c1_2) (hr1_3:Kd.C Kd.string w A1_3 l1_3.length l1_3) (hc1_3:l1_3.length ≤ c1_3) (h:scrub_Request.f k a0_0 a0_1 a0_2 l0_3 l0_4 l1_0 l1_1 l1_2 l1_3 a1_4 a1_5 a1_6 a1_7 a2 a3=some (r1,r2,r3,r4,r5)) (ht:Tabs w) :
  Calls Tryd.prog 15 #[.agg #[.string a0_0,.string a0_1,.int .i64 a0_2,.slice A0_3 l0_3.length c0_3,.slice A0_4 l0_4.length c0_4],.agg #[.slice A1_0 l1_0.length c1_0,.slice A1_1 l1_1.length c1_1,.slice A1_2 l1_2.length c1_2,.slice A1_3 l1_3.length c1_3,.int .i64 a1_4,.int .i64 a1_5,.int .i64 a1_6,.int .i64 a1_7],.string a2,.string a3] w fun e w' => ∃ v3_ v4_:Value,e = .returned (.agg #[.string r1,.string r2,.int .i64 r3,v3_,v4_])∧Kd.R k41 41 w' w.heap.size (fun _=>True) v3_ r4∧Kd.R (Kd.int .u8) 5 w' w.heap.size (fun _=>True) v4_ r5∧Below w.heap.size w w' := by
 have HTB:=Aside0.mk ht
 clear ht
 have hu33:=Tryd.underlying33
 have hu38:=Tryd.underlying38
 have hu41:=Tryd.underlying41
 have HR0_3:=Aside0.mk hr0_3
 have HC0_3:=Aside0.mk hc0_3
 clear hr0_3 hc0_3
 have HR0_4:=Aside0.mk hr0_4
 have HC0_4:=Aside0.mk hc0_4
 clear hr0_4 hc0_4
 have HR1_0:=Aside0.mk hr1_0
 have HC1_0:=Aside0.mk hc1_0
 clear hr1_0 hc1_0
 have HR1_1:=Aside0.mk hr1_1
 have HC1_1:=Aside0.mk hc1_1
 clear hr1_1 hc1_1
 have HR1_2:=Aside0.mk hr1_2
 have HC1_2:=Aside0.mk hc1_2
 clear hr1_2 hc1_2
 have HR1_3:=Aside0.mk hr1_3
 have HC1_3:=Aside0.mk hc1_3
 clear hr1_3 hc1_3
 have HB:=Aside0.mk (Below.refl w.heap.size w)
 have H:((slices_Clone_string_string.f l1_3).bind fun t319=>(scrub_Request.l0 k a2 a3 t319 l1_2 (l1_2.length:Int) 0 a0_0 a0_1 a0_2 l0_3 l0_4 l1_0 l1_1 l1_2 l1_3 a1_4 a1_5 a1_6 a1_7))=some (r1,r2,r3,r4,r5):=h
 clear h
 replace H:=Option.bind_eq_some_iff.mp H
 obtain ⟨t319,A50,H⟩:=H
 replace H:(scrub_Request.l0 k a2 a3 t319 l1_2 (l1_2.length:Int) 0 a0_0 a0_1 a0_2 l0_3 l0_4 l1_0 l1_1 l1_2 l1_3 a1_4 a1_5 a1_6 a1_7)=some (r1,r2,r3,r4,r5):=H
 have A5:=Aside0.mk A50
 clear A50
 have H' := Aside0.mk H
 clear H
 go_enter Tryd.func15,Tryd.ntmps15
 go_wp2_with (first|((with_reducible refine gate_dst (N:=4) rfl ?_);refine box_event ?hg (N:=4) ?hd (cs:=#[.string a0_0,.string a0_1,.int .i64 a0_2,.slice A0_3 l0_3.length c0_3,.slice A0_4 l0_4.length c0_4]) (t:=33) ?hr ?_;(case hd=>rfl);(case hg=>rfl);(case hr=>first|(go_simp;done)|(go_simp;rfl));intro gb84 hg w6 hbox hb;have n0_:=Aside0.mk (below_step (by repeat (first|(with_reducible first|exact HB.out|apply below_alloc|apply pw_below_drewN|apply below_drew1)|exact HB.out)) hb);have n1_:=Aside0.mk (hbox);have n2_:=Aside0.mk ((by rw [hg];exact (below_size (by repeat (first|(with_reducible first|exact HB.out|apply below_alloc|apply pw_below_drewN|apply below_drew1)|exact HB.out))):w.heap.size ≤ gb84));have n3_:=Aside0.mk ((by rw [hg];exact (below_size (by repeat (first|(with_reducible first|exact HB.out|apply below_alloc|apply pw_below_drewN|apply below_drew1)|exact HB.out))):w.heap.size ≤ gb84));clear HB;have HB:=n0_;have BK84:=n1_;have GW84:=n2_;have GE84:=n3_;clear n0_ n1_ n2_ n3_;clear hb hbox hg)|((with_reducible refine gate_dst (N:=5) rfl ?_);refine box_event ?hg (N:=5) ?hd (cs:=#[.slice A1_0 l1_0.length c1_0,.slice A1_1 l1_1.length c1_1,.slice A1_2 l1_2.length c1_2,.slice A1_3 l1_3.length c1_3,.int .i64 a1_4,.int .i64 a1_5,.int .i64 a1_6,.int .i64 a1_7]) (t:=38) ?hr ?_;(case hd=>rfl);(case hg=>rfl);(case hr=>first|(go_simp;done)|(go_simp;rfl));intro gb86 hg w7 hbox hb;have n0_:=Aside0.mk (blk_below (g:=gb84) (o:=.cells #[.string a0_0,.string a0_1,.int .i64 a0_2,.slice A0_3 l0_3.length c0_3,.slice A0_4 l0_4.length c0_4] 33 (0,0)) (by (with_reducible repeat (first|refine blk_drewN ?_ _|refine blk_drew ?_|refine blk_alloc ?_ _));exact BK84.out) hb);have n1_:=Aside0.mk (below_step (by repeat (first|(with_reducible first|exact HB.out|apply below_alloc|apply pw_below_drewN|apply below_drew1|refine below_set ?_ GE84.out)|exact HB.out)) hb);have n2_:=Aside0.mk (hbox);have n3_:=Aside0.mk ((by rw [hg];exact (below_size (by repeat (first|(with_reducible first|exact HB.out|apply below_alloc|apply pw_below_drewN|apply below_drew1|refine below_set ?_ GE84.out)|exact HB.out))):w.heap.size ≤ gb86));have n4_:=Aside0.mk ((by rw [hg];exact (below_size (by repeat (first|(with_reducible first|exact HB.out|apply below_alloc|apply pw_below_drewN|apply below_drew1|refine below_set ?_ GE84.out)|exact HB.out))):w.heap.size ≤ gb86));have n5_:=Aside0.mk ((by rw [hg];exact Nat.ne_of_lt (blk_lt (g:=gb84) (o:=.cells #[.string a0_0,.string a0_1,.int .i64 a0_2,.slice A0_3 l0_3.length c0_3,.slice A0_4 l0_4.length c0_4] 33 (0,0)) (by (with_reducible repeat (first|refine blk_drewN ?_ _|refine blk_drew ?_|refine blk_alloc ?_ _));exact BK84.out)):gb84 ≠ gb86));have n6_:=Aside0.mk ((by rw [hg];exact Nat.ne_of_gt (blk_lt (g:=gb84) (o:=.cells #[.string a0_0,.string a0_1,.int .i64 a0_2,.slice A0_3 l0_3.length c0_3,.slice A0_4 l0_4.length c0_4] 33 (0,0)) (by (with_reducible repeat (first|refine blk_drewN ?_ _|refine blk_drew ?_|refine blk_alloc ?_ _));exact BK84.out)):gb86 ≠ gb84));clear BK84;clear HB;have BK84:=n0_;have HB:=n1_;have BK86:=n2_;have GW86:=n3_;have GE86:=n4_;have NB84_317:=n5_;have NB86_316:=n6_;clear n0_ n1_ n2_ n3_ n4_ n5_ n6_;clear hb hbox hg)|((with_reducible refine gate_dst (N:=8) rfl ?_);refine box_event ?hg (N:=8) ?hd (cs:=#[.string (⟨#[]⟩:ByteArray),.string (⟨#[]⟩:ByteArray),.int .i64 0,.slice none 0 0,.slice none 0 0]) (t:=33) ?hr ?_;(case hd=>rfl);(case hg=>rfl);(case hr=>first|(go_simp;done)|(go_simp;rfl));intro gb85 hg w8 hbox hb;have n0_:=Aside0.mk (blk_below (g:=gb84) (o:=.cells #[.string a0_0,.string a0_1,.int .i64 a0_2,.slice A0_3 l0_3.length c0_3,.slice A0_4 l0_4.length c0_4] 33 (0,0)) (by (with_reducible repeat (first|refine blk_drewN ?_ _|refine blk_drew ?_|refine blk_alloc ?_ _));exact BK84.out) hb);have n1_:=Aside0.mk (blk_below (g:=gb86) (o:=.cells #[.slice A1_0 l1_0.length c1_0,.slice A1_1 l1_1.length c1_1,.slice A1_2 l1_2.length c1_2,.slice A1_3 l1_3.length c1_3,.int .i64 a1_4,.int .i64 a1_5,.int .i64 a1_6,.int .i64 a1_7] 38 (0,0)) (by (with_reducible repeat (first|refine blk_drewN ?_ _|refine blk_drew ?_|refine blk_alloc ?_ _));exact BK86.out) hb);have n2_:=Aside0.mk (below_step (by repeat (first|(with_reducible first|exact HB.out|apply below_alloc|apply pw_below_drewN|apply below_drew1|refine below_set ?_ GE84.out|refine below_set ?_ GE86.out)|exact HB.out)) hb);have n3_:=Aside0.mk (hbox);have n4_:=Aside0.mk ((by rw [hg];exact (below_size (by repeat (first|(with_reducible first|exact HB.out|apply below_alloc|apply pw_below_drewN|apply below_drew1|refine below_set ?_ GE84.out|refine below_set ?_ GE86.out)|exact HB.out))):w.heap.size ≤ gb85));have n5_:=Aside0.mk ((by rw [hg];exact (below_size (by repeat (first|(with_reducible first|exact HB.out|apply below_alloc|apply pw_below_drewN|apply below_drew1|refine below_set ?_ GE84.out|refine below_set ?_ GE86.out)|exact HB.out))):w.heap.size ≤ gb85));have n6_:=Aside0.mk ((by rw [hg];exact Nat.ne_of_lt (blk_lt (g:=gb84) (o:=.cells #[.string a0_0,.string a0_1,.int .i64 a0_2,.slice A0_3 l0_3.length c0_3,.slice A0_4 l0_4.length c0_4] 33 (0,0)) (by (with_reducible repeat (first|refine blk_drewN ?_ _|refine blk_drew ?_|refine blk_alloc ?_ _));exact BK84.out)):gb84 ≠ gb85));have n7_:=Aside0.mk ((by rw [hg];exact Nat.ne_of_gt (blk_lt (g:=gb84) (o:=.cells #[.string a0_0,.string a0_1,.int .i64 a0_2,.slice A0_3 l0_3.length c0_3,.slice A0_4 l0_4.length c0_4] 33 (0,0)) (by (with_reducible repeat (first|refine blk_drewN ?_ _|refine blk_drew ?_|refine blk_alloc ?_ _));exact BK84.out)):gb85 ≠ gb84));have n8_:=Aside0.mk ((by rw [hg];exact Nat.ne_of_lt (blk_lt (g:=gb86) (o:=.cells #[.slice A1_0 l1_0.length c1_0,.slice A1_1 l1_1.length c1_1,.slice A1_2 l1_2.length c1_2,.slice A1_3 l1_3.length c1_3,.int .i64 a1_4,.int .i64 a1_5,.int .i64 a1_6,.int .i64 a1_7] 38 (0,0)) (by (with_reducible repeat (first|refine blk_drewN ?_ _|refine blk_drew ?_|refine blk_alloc ?_ _));exact BK86.out)):gb86 ≠ gb85));have n9_:=Aside0.mk ((by rw [hg];exact Nat.ne_of_gt (blk_lt (g:=gb86) (o:=.cells #[.slice A1_0 l1_0.length c1_0,.slice A1_1 l1_1.length c1_1,.slice A1_2 l1_2.length c1_2,.slice A1_3 l1_3.length c1_3,.int .i64 a1_4,.int .i64 a1_5,.int .i64 a1_6,.int .i64 a1_7] 38 (0,0)) (by (with_reducible repeat (first|refine blk_drewN ?_ _|refine blk_drew ?_|refine blk_alloc ?_ _));exact BK86.out)):gb85 ≠ gb86));clear BK84;clear BK86;clear HB;have BK84:=n0_;have BK86:=n1_;have HB:=n2_;have BK85:=n3_;have GW85:=n4_;have GE85:=n5_;have NB84_318:=n6_;have NB85_316:=n7_;have NB86_318:=n8_;have NB85_317:=n9_;clear n0_ n1_ n2_ n3_ n4_ n5_ n6_ n7_ n8_ n9_;clear hb hbox hg;have hnb9:=NB86_316.out;have hnc9:=NB84_317.out;have hnb10:=NB86_318.out;have hnc10:=NB85_317.out;have hcz11_0:w8.cell? ⟨gb86,0,none⟩=some (.slice A1_0 l1_0.length c1_0):=(blk_cell BK86.out 0).trans rfl;have hcz11_1:w8.cell? ⟨gb86,1,none⟩=some (.slice A1_1 l1_1.length c1_1):=(blk_cell BK86.out 1).trans rfl;have hcz11_2:w8.cell? ⟨gb86,2,none⟩=some (.slice A1_2 l1_2.length c1_2):=(blk_cell BK86.out 2).trans rfl;have hcz11_3:w8.cell? ⟨gb86,3,none⟩=some (.slice A1_3 l1_3.length c1_3):=(blk_cell BK86.out 3).trans rfl;have hcz11_4:w8.cell? ⟨gb86,4,none⟩=some (.int .i64 a1_4):=(blk_cell BK86.out 4).trans rfl;have hcz11_5:w8.cell? ⟨gb86,5,none⟩=some (.int .i64 a1_5):=(blk_cell BK86.out 5).trans rfl;have hcz11_6:w8.cell? ⟨gb86,6,none⟩=some (.int .i64 a1_6):=(blk_cell BK86.out 6).trans rfl;have hcz11_7:w8.cell? ⟨gb86,7,none⟩=some (.int .i64 a1_7):=(blk_cell BK86.out 7).trans rfl;have hfz11_0:=blk_frozen BK86.out 0;have hfz11_1:=blk_frozen BK86.out 1;have hfz11_2:=blk_frozen BK86.out 2;have hfz11_3:=blk_frozen BK86.out 3;have hfz11_4:=blk_frozen BK86.out 4;have hfz11_5:=blk_frozen BK86.out 5;have hfz11_6:=blk_frozen BK86.out 6;have hfz11_7:=blk_frozen BK86.out 7)|((with_reducible refine gate_callee (f:=35) rfl ?_);refine goesL_ (some 15) rfl rfl Tryd.func35 (by kernel_rfl) rfl #[.slice A1_3 l1_3.length c1_3] rfl (by (try simp only [List.map_toArray,List.map_cons,List.map_nil]);first|done|rfl|(simp only [List.length_drop,List.length_take];rfl)) ?_;(with_reducible refine (slices_Clone_string_string.calls _ _ l1_3 t319 _ ?side1 ?side2 A5.out).mono ?_);(case side1=>repeat (first|exact (Kd.C_below HR1_3.out HB.out)|(with_reducible refine Kd.C_alloc ?_ _)|(with_reducible refine Kd.C_drewN ?_ _)|(with_reducible refine Kd.C_drew ?_)));(case side2=>exact HC1_3.out);rintro e w12 ⟨v320,rfl,ho0,hb⟩;(try clear A5);refine ⟨_,rfl,?_⟩;have n0_:=Aside0.mk (Kd.R_lower ho0 (below_size (by repeat (first|(with_reducible first|exact HB.out|apply below_alloc|apply pw_below_drewN|apply below_drew1|refine below_set ?_ GE84.out|refine below_set ?_ GE86.out|refine below_set ?_ GE85.out)|exact HB.out))));have n1_:=Aside0.mk (blk_below (g:=gb84) (o:=.cells #[.string a0_0,.string a0_1,.int .i64 a0_2,.slice A0_3 l0_3.length c0_3,.slice A0_4 l0_4.length c0_4] 33 (0,0)) (by (with_reducible repeat (first|refine blk_drewN ?_ _|refine blk_drew ?_|refine blk_alloc ?_ _));exact BK84.out) hb);have n2_:=Aside0.mk (blk_below (g:=gb86) (o:=.cells #[.slice A1_0 l1_0.length c1_0,.slice A1_1 l1_1.length c1_1,.slice A1_2 l1_2.length c1_2,.slice A1_3 l1_3.length c1_3,.int .i64 a1_4,.int .i64 a1_5,.int .i64 a1_6,.int .i64 a1_7] 38 (0,0)) (by (with_reducible repeat (first|refine blk_drewN ?_ _|refine blk_drew ?_|refine blk_alloc ?_ _));exact BK86.out) hb);have n3_:=Aside0.mk (blk_below (g:=gb85) (o:=.cells #[.string (⟨#[]⟩:ByteArray),.string (⟨#[]⟩:ByteArray),.int .i64 0,.slice none 0 0,.slice none 0 0] 33 (0,0)) (by (with_reducible repeat (first|refine blk_drewN ?_ _|refine blk_drew ?_|refine blk_alloc ?_ _));exact BK85.out) hb);have n4_:=Aside0.mk (below_step (by repeat (first|(with_reducible first|exact HB.out|apply below_alloc|apply pw_below_drewN|apply below_drew1|refine below_set ?_ GE84.out|refine below_set ?_ GE86.out|refine below_set ?_ GE85.out)|exact HB.out)) hb);clear BK84;clear BK86;clear BK85;clear HB;have HO321:=n0_;have BK84:=n1_;have BK86:=n2_;have BK85:=n3_;have HB:=n4_;clear n0_ n1_ n2_ n3_ n4_;(try clear hb);(try clear hb2);(try clear hk);(try clear hi);(try clear ho0);have hcz13_0:w12.cell? ⟨gb86,0,none⟩=some (.slice A1_0 l1_0.length c1_0):=(blk_cell BK86.out 0).trans rfl;have hcz13_1:w12.cell? ⟨gb86,1,none⟩=some (.slice A1_1 l1_1.length c1_1):=(blk_cell BK86.out 1).trans rfl;have hcz13_2:w12.cell? ⟨gb86,2,none⟩=some (.slice A1_2 l1_2.length c1_2):=(blk_cell BK86.out 2).trans rfl;have hcz13_3:w12.cell? ⟨gb86,3,none⟩=some (.slice A1_3 l1_3.length c1_3):=(blk_cell BK86.out 3).trans rfl;have hcz13_4:w12.cell? ⟨gb86,4,none⟩=some (.int .i64 a1_4):=(blk_cell BK86.out 4).trans rfl;have hcz13_5:w12.cell? ⟨gb86,5,none⟩=some (.int .i64 a1_5):=(blk_cell BK86.out 5).trans rfl;have hcz13_6:w12.cell? ⟨gb86,6,none⟩=some (.int .i64 a1_6):=(blk_cell BK86.out 6).trans rfl;have hcz13_7:w12.cell? ⟨gb86,7,none⟩=some (.int .i64 a1_7):=(blk_cell BK86.out 7).trans rfl;have hfz13_0:=blk_frozen BK86.out 0;have hfz13_1:=blk_frozen BK86.out 1;have hfz13_2:=blk_frozen BK86.out 2;have hfz13_3:=blk_frozen BK86.out 3;have hfz13_4:=blk_frozen BK86.out 4;have hfz13_5:=blk_frozen BK86.out 5;have hfz13_6:=blk_frozen BK86.out 6;have hfz13_7:=blk_frozen BK86.out 7))
 go_loopg [9,19] k (fun kq v9 v19 w' => ∃ (x9_1:List ByteArray) (x19_1:Int),v19 = .int .i64 x19_1∧Aside0 (scrub_Request.l0 kq a2 a3 x9_1 l1_2 (l1_2.length:Int) x19_1 a0_0 a0_1 a0_2 l0_3 l0_4 l1_0 l1_1 l1_2 l1_3 a1_4 a1_5 a1_6 a1_7=some (r1,r2,r3,r4,r5))∧Aside0 (kq ≤ k)∧Aside0 (Kd.R Kd.string 9 w' w.heap.size (fun _=>True) v9 x9_1)∧Aside0 (w'.heap[gb84]? = some (.cells #[.string a0_0,.string a0_1,.int .i64 a0_2,(.slice A0_3 l0_3.length c0_3),(.slice A0_4 l0_4.length c0_4)] 33 (0,0)))∧Aside0 (w'.heap[gb86]? = some (.cells #[(.slice A1_0 l1_0.length c1_0),(.slice A1_1 l1_1.length c1_1),(.slice A1_2 l1_2.length c1_2),(.slice A1_3 l1_3.length c1_3),.int .i64 a1_4,.int .i64 a1_5,.int .i64 a1_6,.int .i64 a1_7] 38 (0,0)))∧Aside0 (w'.heap[gb85]? = some (.cells #[.string (⟨#[]⟩:ByteArray),.string (⟨#[]⟩:ByteArray),.int .i64 0,(.slice none 0 0),(.slice none 0 0)] 33 (0,0)))∧Aside0 (Below w.heap.size w w'))
 case atStart=>exact ⟨(t319),(0),(by first|rfl|(simp;done)|(simp [*];done)),H',⟨Nat.le_refl _⟩,⟨by (with_reducible repeat (first|apply Kd.R_alloc|apply Kd.R_drewN|apply Kd.R_drew));exact HO321.out⟩,⟨by (with_reducible repeat (first|refine blk_drewN ?_ _|refine blk_drew ?_|refine blk_alloc ?_ _));exact BK84.out⟩,⟨by (with_reducible repeat (first|refine blk_drewN ?_ _|refine blk_drew ?_|refine blk_alloc ?_ _));exact BK86.out⟩,⟨by (with_reducible repeat (first|refine blk_drewN ?_ _|refine blk_drew ?_|refine blk_alloc ?_ _));exact BK85.out⟩,⟨by repeat (first|(with_reducible first|exact HB.out|apply below_alloc|apply pw_below_drewN|apply below_drew1|refine below_set ?_ GE84.out|refine below_set ?_ GE86.out|refine below_set ?_ GE85.out)|exact HB.out)⟩⟩
 case round =>
  clear H'
  try clear c1
  try clear p2
  try clear c3
  try clear c9
  try clear c10
  try clear hcz11_0
  try clear hcz11_1
  try clear hcz11_2
  try clear hcz11_3
  try clear hcz11_4
  try clear hcz11_5
  try clear hcz11_6
  try clear hcz11_7
  try clear hcz13_0
  try clear hcz13_1
  try clear hcz13_2
  try clear hcz13_3
  try clear hcz13_4
  try clear hcz13_5
  try clear hcz13_6
  try clear hcz13_7
  try clear hfz11_0
  try clear hfz11_1
  try clear hfz11_2
  try clear hfz11_3
  try clear hfz11_4
  try clear hfz11_5
  try clear hfz11_6
  try clear hfz11_7
  try clear hfz13_0
  try clear hfz13_1
  try clear hfz13_2
  try clear hfz13_3
  try clear hfz13_4
  try clear hfz13_5
  try clear hfz13_6
  try clear hfz13_7
  obtain ⟨x9_1,x19_1,rfl,HA,HK1,HO_9,BK84,BK86,BK85,HB⟩:=hrel
  cases gk with
  | zero=>exact absurd HA.out (by simp [scrub_Request.l0])
  | succ k1 =>
   have H:=HA.out
   clear HA
   simp only [scrub_Request.l0] at H
   by_cases c14:x19_1 < (l1_2.length:Int)
   ·rw [if_pos c14] at H
    have c14b0:decide (x19_1 < (l1_2.length:Int))=true:=decide_eq_true c14
    clear c14
    by_cases c15:0 ≤ x19_1
    ·rw [if_pos c15] at H
     have c15b0:decide (0 ≤ x19_1)=true:=decide_eq_true c15
     clear c15
     by_cases c16:x19_1 < (l1_2.length:Int)
     ·rw [if_pos c16] at H
      have c16b0:decide (x19_1 < (l1_2.length:Int))=true:=decide_eq_true c16
      clear c16
      by_cases c17:x9_1.length < 8796093022208
      ·rw [if_pos c17] at H
       have LMc17:=Aside0.mk c17
       clear c17
       obtain ⟨y97,hy97⟩ : ∃ y_:List ByteArray,y_=(x9_1 ++ [(rd_T41 l1_2 x19_1).f0]):=⟨_,rfl⟩
       replace H:(scrub_Request.l0 k1 a2 a3 y97 l1_2 (l1_2.length:Int) (wrap64 (x19_1 + 1)) a0_0 a0_1 a0_2 l0_3 l0_4 l1_0 l1_1 l1_2 l1_3 a1_4 a1_5 a1_6 a1_7)=some (r1,r2,r3,r4,r5):=by first|(rw [hy97];with_reducible exact H)|(have H2_:=(Option.bind_some _ _).symm.trans H;rw [hy97];with_reducible exact H2_)|(have H2_:=(Option.bind_some _ _).symm.trans H;with_reducible exact H2_)|with_reducible exact H|(rw [hy97];exact H)|exact H
       have Ny97:=Aside0.mk hy97
       clear hy97
       have H' := Aside0.mk H
       clear H
       have p89:0 ≤ (x19_1:Int):=of_decide_eq_true (by first|(with_reducible assumption)|assumption)
       have q89:x19_1 < (l1_2.length:Int):=of_decide_eq_true (by first|(with_reducible assumption)|assumption)
       obtain ⟨ad89,e89,hx89_0,hx89_1⟩:=at_T41 HR1_2.out x19_1 p89 q89
       cases e89
       replace hx89_0:=(HB.out.cell (World.block_lt_of_cell? w _ hx89_0)).trans hx89_0
       replace hx89_1:=(HB.out.cell (World.block_lt_of_cell? w _ hx89_1)).trans hx89_1
       replace p89:=eq_true p89
       replace q89:=eq_true q89
       go_wp2_with (first|((with_reducible refine gate_dst (N:=11) rfl ?_);refine box_event ?hg (N:=11) ?hd (cs:=#[.string (⟨#[]⟩:ByteArray),.string (⟨#[]⟩:ByteArray)]) (t:=41) ?hr ?_;(case hd=>rfl);(case hg=>rfl);(case hr=>first|(go_simp;done)|(go_simp;rfl));intro gb87 hg w18 hbox hb;have n0_:=Aside0.mk (Kd.R_below (by (with_reducible repeat (first|apply Kd.R_alloc|apply Kd.R_drewN|apply Kd.R_drew));exact HO_9.out) hb);have n1_:=Aside0.mk (blk_below (g:=gb84) (o:=.cells #[.string a0_0,.string a0_1,.int .i64 a0_2,.slice A0_3 l0_3.length c0_3,.slice A0_4 l0_4.length c0_4] 33 (0,0)) (by (with_reducible repeat (first|refine blk_drewN ?_ _|refine blk_drew ?_|refine blk_alloc ?_ _));exact BK84.out) hb);have n2_:=Aside0.mk (blk_below (g:=gb86) (o:=.cells #[.slice A1_0 l1_0.length c1_0,.slice A1_1 l1_1.length c1_1,.slice (some ad89) l1_2.length c1_2,.slice A1_3 l1_3.length c1_3,.int .i64 a1_4,.int .i64 a1_5,.int .i64 a1_6,.int .i64 a1_7] 38 (0,0)) (by (with_reducible repeat (first|refine blk_drewN ?_ _|refine blk_drew ?_|refine blk_alloc ?_ _));exact BK86.out) hb);have n3_:=Aside0.mk (blk_below (g:=gb85) (o:=.cells #[.string (⟨#[]⟩:ByteArray),.string (⟨#[]⟩:ByteArray),.int .i64 0,.slice none 0 0,.slice none 0 0] 33 (0,0)) (by (with_reducible repeat (first|refine blk_drewN ?_ _|refine blk_drew ?_|refine blk_alloc ?_ _));exact BK85.out) hb);have n4_:=Aside0.mk (below_step (by repeat (first|(with_reducible first|exact HB.out|apply below_alloc|apply pw_below_drewN|apply below_drew1|refine below_set ?_ GE84.out|refine below_set ?_ GE86.out|refine below_set ?_ GE85.out)|exact HB.out)) hb);have n5_:=Aside0.mk (hbox);have n6_:=Aside0.mk ((by rw [hg];exact (below_size (by repeat (first|(with_reducible first|exact HB.out|apply below_alloc|apply pw_below_drewN|apply below_drew1|refine below_set ?_ GE84.out|refine below_set ?_ GE86.out|refine below_set ?_ GE85.out)|exact HB.out))):w.heap.size ≤ gb87));have n7_:=Aside0.mk ((by rw [hg];exact (below_size (by repeat (first|(with_reducible first|exact HB.out|apply below_alloc|apply pw_below_drewN|apply below_drew1|refine below_set ?_ GE84.out|refine below_set ?_ GE86.out|refine below_set ?_ GE85.out)|exact HB.out))):w.heap.size ≤ gb87));have n8_:=Aside0.mk ((by rw [hg];exact Nat.ne_of_lt (blk_lt (g:=gb84) (o:=.cells #[.string a0_0,.string a0_1,.int .i64 a0_2,.slice A0_3 l0_3.length c0_3,.slice A0_4 l0_4.length c0_4] 33 (0,0)) (by (with_reducible repeat (first|refine blk_drewN ?_ _|refine blk_drew ?_|refine blk_alloc ?_ _));exact BK84.out)):gb84 ≠ gb87));have n9_:=Aside0.mk ((by rw [hg];exact Nat.ne_of_gt (blk_lt (g:=gb84) (o:=.cells #[.string a0_0,.string a0_1,.int .i64 a0_2,.slice A0_3 l0_3.length c0_3,.slice A0_4 l0_4.length c0_4] 33 (0,0)) (by (with_reducible repeat (first|refine blk_drewN ?_ _|refine blk_drew ?_|refine blk_alloc ?_ _));exact BK84.out)):gb87 ≠ gb84));have n10_:=Aside0.mk ((by rw [hg];exact Nat.ne_of_lt (blk_lt (g:=gb86) (o:=.cells #[.slice A1_0 l1_0.length c1_0,.slice A1_1 l1_1.length c1_1,.slice (some ad89) l1_2.length c1_2,.slice A1_3 l1_3.length c1_3,.int .i64 a1_4,.int .i64 a1_5,.int .i64 a1_6,.int .i64 a1_7] 38 (0,0)) (by (with_reducible repeat (first|refine blk_drewN ?_ _|refine blk_drew ?_|refine blk_alloc ?_ _));exact BK86.out)):gb86 ≠ gb87));have n11_:=Aside0.mk ((by rw [hg];exact Nat.ne_of_gt (blk_lt (g:=gb86) (o:=.cells #[.slice A1_0 l1_0.length c1_0,.slice A1_1 l1_1.length c1_1,.slice (some ad89) l1_2.length c1_2,.slice A1_3 l1_3.length c1_3,.int .i64 a1_4,.int .i64 a1_5,.int .i64 a1_6,.int .i64 a1_7] 38 (0,0)) (by (with_reducible repeat (first|refine blk_drewN ?_ _|refine blk_drew ?_|refine blk_alloc ?_ _));exact BK86.out)):gb87 ≠ gb86));have n12_:=Aside0.mk ((by rw [hg];exact Nat.ne_of_lt (blk_lt (g:=gb85) (o:=.cells #[.string (⟨#[]⟩:ByteArray),.string (⟨#[]⟩:ByteArray),.int .i64 0,.slice none 0 0,.slice none 0 0] 33 (0,0)) (by (with_reducible repeat (first|refine blk_drewN ?_ _|refine blk_drew ?_|refine blk_alloc ?_ _));exact BK85.out)):gb85 ≠ gb87));have n13_:=Aside0.mk ((by rw [hg];exact Nat.ne_of_gt (blk_lt (g:=gb85) (o:=.cells #[.string (⟨#[]⟩:ByteArray),.string (⟨#[]⟩:ByteArray),.int .i64 0,.slice none 0 0,.slice none 0 0] 33 (0,0)) (by (with_reducible repeat (first|refine blk_drewN ?_ _|refine blk_drew ?_|refine blk_alloc ?_ _));exact BK85.out)):gb87 ≠ gb85));clear HO_9;clear BK84;clear BK86;clear BK85;clear HB;have HO_9:=n0_;have BK84:=n1_;have BK86:=n2_;have BK85:=n3_;have HB:=n4_;have BK87:=n5_;have GW87:=n6_;have GE87:=n7_;have NB84_323:=n8_;have NB87_316:=n9_;have NB86_323:=n10_;have NB87_317:=n11_;have NB85_323:=n12_;have NB87_318:=n13_;clear n0_ n1_ n2_ n3_ n4_ n5_ n6_ n7_ n8_ n9_ n10_ n11_ n12_ n13_;clear hb hbox hg;have hnb19:=NB87_316.out;have hnc19:=NB84_323.out;have hnb20:=NB87_317.out;have hnc20:=NB86_323.out;have hnb21:=NB87_318.out;have hnc21:=NB85_323.out;have hcz22_0:w18.cell? ⟨gb87,0,none⟩=some (.string (⟨#[]⟩:ByteArray)):=(blk_cell BK87.out 0).trans rfl;have hcz22_1:w18.cell? ⟨gb87,1,none⟩=some (.string (⟨#[]⟩:ByteArray)):=(blk_cell BK87.out 1).trans rfl;have hfz22_0:=blk_frozen BK87.out 0;have hfz22_1:=blk_frozen BK87.out 1)|((with_reducible refine gate_builtin (b:=.append) (xs:=#[.tmp 23,.tmp 26]) rfl ?_);at_builtin;refine Kd.R_append Kd.string (w0:=w) w.heap.size rfl (.tmp 23) (.tmp 26) 36 9 (.string ⟨#[]⟩) 16 rfl Tryd.underlying36 info9 rfl (by decide) (by omega) u9 x9_1 ((rd_T41 l1_2 x19_1).f0) [.string ((rd_T41 l1_2 x19_1).f0)] (fun _=>True) (fun _=>False) rfl (by first|(go_simp;done)|(go_simp;rfl)) ?aP (fun _ hk=>hk.elim) ?aF ?aO ?aB ?aS ?aL ?_;(case aP=>exact rfl);(case aB=>exact (by repeat (first|(with_reducible first|exact HB.out|apply below_alloc|apply pw_below_drewN|apply below_drew1|refine below_set ?_ GE84.out|refine below_set ?_ GE86.out|refine below_set ?_ GE85.out|refine below_set ?_ GE87.out)|exact HB.out)));(case aF=>exact (fun _ _=>trivial));(case aO=>exact (by (with_reducible repeat (first|apply Kd.R_alloc|apply Kd.R_drewN|apply Kd.R_drew));exact Kd.R_mono (Kd.R_far (p:=⟨gb87,1,none⟩) (Kd.R_far (p:=⟨gb87,0,none⟩) (Kd.R_types HO_9.out BK87.out (by decide)) (fun _ hk=>hk.2) (.string ((rd_T41 l1_2 x19_1).f0))) (fun _ hk=>hk.2) (.string ((rd_T41 l1_2 x19_1).f1))) (fun _ hk=>trivial)));(case aS=>exact (below_size (by repeat (first|(with_reducible first|exact HB.out|apply below_alloc|apply pw_below_drewN|apply below_drew1|refine below_set ?_ GE84.out|refine below_set ?_ GE86.out|refine below_set ?_ GE85.out|refine below_set ?_ GE87.out)|exact HB.out))));(case aL=>have:=LMc17.out;omega);intro v325 w23 ho hb hg hat;rw [← Ny97.out] at ho;have n0_:=Aside0.mk (blk_grown (g:=gb84) (o:=.cells #[.string a0_0,.string a0_1,.int .i64 a0_2,.slice A0_3 l0_3.length c0_3,.slice A0_4 l0_4.length c0_4] 33 (0,0)) (by (with_reducible repeat (first|refine blk_drewN ?_ _|refine blk_drew ?_|refine blk_alloc ?_ _));refine blk_far ?_ NB84_323.out _;(with_reducible repeat (first|refine blk_drewN ?_ _|refine blk_drew ?_|refine blk_alloc ?_ _));refine blk_far ?_ NB84_323.out _;(with_reducible repeat (first|refine blk_drewN ?_ _|refine blk_drew ?_|refine blk_alloc ?_ _));exact BK84.out) hg (Kd.R_ne HO_9.out BK84.out (by decide)));have n1_:=Aside0.mk (blk_grown (g:=gb86) (o:=.cells #[.slice A1_0 l1_0.length c1_0,.slice A1_1 l1_1.length c1_1,.slice (some ad89) l1_2.length c1_2,.slice A1_3 l1_3.length c1_3,.int .i64 a1_4,.int .i64 a1_5,.int .i64 a1_6,.int .i64 a1_7] 38 (0,0)) (by (with_reducible repeat (first|refine blk_drewN ?_ _|refine blk_drew ?_|refine blk_alloc ?_ _));refine blk_far ?_ NB86_323.out _;(with_reducible repeat (first|refine blk_drewN ?_ _|refine blk_drew ?_|refine blk_alloc ?_ _));refine blk_far ?_ NB86_323.out _;(with_reducible repeat (first|refine blk_drewN ?_ _|refine blk_drew ?_|refine blk_alloc ?_ _));exact BK86.out) hg (Kd.R_ne HO_9.out BK86.out (by decide)));have n2_:=Aside0.mk (blk_grown (g:=gb85) (o:=.cells #[.string (⟨#[]⟩:ByteArray),.string (⟨#[]⟩:ByteArray),.int .i64 0,.slice none 0 0,.slice none 0 0] 33 (0,0)) (by (with_reducible repeat (first|refine blk_drewN ?_ _|refine blk_drew ?_|refine blk_alloc ?_ _));refine blk_far ?_ NB85_323.out _;(with_reducible repeat (first|refine blk_drewN ?_ _|refine blk_drew ?_|refine blk_alloc ?_ _));refine blk_far ?_ NB85_323.out _;(with_reducible repeat (first|refine blk_drewN ?_ _|refine blk_drew ?_|refine blk_alloc ?_ _));exact BK85.out) hg (Kd.R_ne HO_9.out BK85.out (by decide)));have n3_:=Aside0.mk (blk_grown (g:=gb87) (o:=.cells #[.string ((rd_T41 l1_2 x19_1).f0),.string ((rd_T41 l1_2 x19_1).f1)] 41 (0,0)) (by (with_reducible repeat (first|refine blk_drewN ?_ _|refine blk_drew ?_|refine blk_alloc ?_ _));refine blk_put (cs:=#[.string ((rd_T41 l1_2 x19_1).f0),.string (⟨#[]⟩:ByteArray)]) ?_ 1 _ rfl;(with_reducible repeat (first|refine blk_drewN ?_ _|refine blk_drew ?_|refine blk_alloc ?_ _));refine blk_put (cs:=#[.string (⟨#[]⟩:ByteArray),.string (⟨#[]⟩:ByteArray)]) ?_ 0 _ rfl;(with_reducible repeat (first|refine blk_drewN ?_ _|refine blk_drew ?_|refine blk_alloc ?_ _));exact BK87.out) hg (Kd.R_ne HO_9.out BK87.out (by decide)));have n4_:=Aside0.mk (hb);have n5_:=Aside0.mk (ho);clear BK84;clear BK86;clear BK85;clear BK87;clear HB;clear HO_9;have BK84:=n0_;have BK86:=n1_;have BK85:=n2_;have BK87:=n3_;have HB:=n4_;have HO326:=n5_;clear n0_ n1_ n2_ n3_ n4_ n5_;clear ho hb hg hat))
       go_roundg k1
       case measure=>have:=HK1.out;omega
       case rel=>exact ⟨(y97),(wrap64 (x19_1 + 1)),(by first|rfl|(simp;done)|(simp [*];done)),H',⟨by have:=HK1.out;omega⟩,⟨by (with_reducible repeat (first|apply Kd.R_alloc|apply Kd.R_drewN|apply Kd.R_drew));exact HO326.out⟩,⟨by (with_reducible repeat (first|refine blk_drewN ?_ _|refine blk_drew ?_|refine blk_alloc ?_ _));exact BK84.out⟩,⟨by (with_reducible repeat (first|refine blk_drewN ?_ _|refine blk_drew ?_|refine blk_alloc ?_ _));exact BK86.out⟩,⟨by (with_reducible repeat (first|refine blk_drewN ?_ _|refine blk_drew ?_|refine blk_alloc ?_ _));exact BK85.out⟩,⟨by repeat (first|(with_reducible first|exact HB.out|apply below_alloc|apply pw_below_drewN|apply below_drew1|refine below_set ?_ GE84.out|refine below_set ?_ GE86.out|refine below_set ?_ GE85.out|refine below_set ?_ GE87.out)|exact HB.out)⟩⟩
      ·rw [if_neg c17] at H
       exact absurd H (by simp)
     ·rw [if_neg c16] at H
      exact absurd H (by simp)
    ·rw [if_neg c15] at H
     exact absurd H (by simp)
   ·rw [if_neg c14] at H
    have c14b0:decide (x19_1 < (l1_2.length:Int))=false:=decide_eq_false c14
    clear c14
    obtain ⟨y91,hy91⟩ : ∃ y_:List (S41),y_=(([(⟨(⟨#[72,111,115,116]⟩:ByteArray),a2⟩:S41)]:List (S41))):=⟨_,rfl⟩
    replace H:((scrub_onward.f k1 l0_3).bind fun t98=>((field_Without.f k1 t98 x9_1).bind fun t92=>(if y91.length + t92.length < 4398046511104 then ((some (y91 ++ t92:List (S41))).bind fun y90=>(if y90.length + l1_2.length < 4398046511104 then ((some (y90 ++ l1_2:List (S41))).bind fun y88=>(if (l0_4.length:Int) > 0 then (scrub_Request.j1 k1 a3 y88 (decide ((l0_4.length:Int) > 0)) a0_0 a0_1 a0_2 l0_3 l0_4) else (if a0_0.toList=([80,79,83,84]:List UInt8) then (scrub_Request.j1 k1 a3 y88 (a0_0.toList == ([80,79,83,84]:List UInt8)) a0_0 a0_1 a0_2 l0_3 l0_4) else (if a0_0.toList=([80,85,84]:List UInt8) then (scrub_Request.j1 k1 a3 y88 (a0_0.toList == ([80,85,84]:List UInt8)) a0_0 a0_1 a0_2 l0_3 l0_4) else (scrub_Request.j1 k1 a3 y88 (a0_0.toList == ([80,65,84,67,72]:List UInt8)) a0_0 a0_1 a0_2 l0_3 l0_4))))) else (none))) else (none))))=some (r1,r2,r3,r4,r5):=by first|(rw [hy91];with_reducible exact H)|(have H2_:=(Option.bind_some _ _).symm.trans H;rw [hy91];with_reducible exact H2_)|(have H2_:=(Option.bind_some _ _).symm.trans H;with_reducible exact H2_)|with_reducible exact H|(rw [hy91];exact H)|exact H
    have Ny91:=Aside0.mk hy91
    clear hy91
    replace H:=Option.bind_eq_some_iff.mp H
    obtain ⟨t98,A240,H⟩:=H
    replace H:((field_Without.f k1 t98 x9_1).bind fun t92=>(if y91.length + t92.length < 4398046511104 then ((some (y91 ++ t92:List (S41))).bind fun y90=>(if y90.length + l1_2.length < 4398046511104 then ((some (y90 ++ l1_2:List (S41))).bind fun y88=>(if (l0_4.length:Int) > 0 then (scrub_Request.j1 k1 a3 y88 (decide ((l0_4.length:Int) > 0)) a0_0 a0_1 a0_2 l0_3 l0_4) else (if a0_0.toList=([80,79,83,84]:List UInt8) then (scrub_Request.j1 k1 a3 y88 (a0_0.toList == ([80,79,83,84]:List UInt8)) a0_0 a0_1 a0_2 l0_3 l0_4) else (if a0_0.toList=([80,85,84]:List UInt8) then (scrub_Request.j1 k1 a3 y88 (a0_0.toList == ([80,85,84]:List UInt8)) a0_0 a0_1 a0_2 l0_3 l0_4) else (scrub_Request.j1 k1 a3 y88 (a0_0.toList == ([80,65,84,67,72]:List UInt8)) a0_0 a0_1 a0_2 l0_3 l0_4))))) else (none))) else (none)))=some (r1,r2,r3,r4,r5):=H
    have A24:=Aside0.mk A240
    clear A240
    replace H:=Option.bind_eq_some_iff.mp H
    obtain ⟨t92,A250,H⟩:=H
    replace H:(if y91.length + t92.length < 4398046511104 then ((some (y91 ++ t92:List (S41))).bind fun y90=>(if y90.length + l1_2.length < 4398046511104 then ((some (y90 ++ l1_2:List (S41))).bind fun y88=>(if (l0_4.length:Int) > 0 then (scrub_Request.j1 k1 a3 y88 (decide ((l0_4.length:Int) > 0)) a0_0 a0_1 a0_2 l0_3 l0_4) else (if a0_0.toList=([80,79,83,84]:List UInt8) then (scrub_Request.j1 k1 a3 y88 (a0_0.toList == ([80,79,83,84]:List UInt8)) a0_0 a0_1 a0_2 l0_3 l0_4) else (if a0_0.toList=([80,85,84]:List UInt8) then (scrub_Request.j1 k1 a3 y88 (a0_0.toList == ([80,85,84]:List UInt8)) a0_0 a0_1 a0_2 l0_3 l0_4) else (scrub_Request.j1 k1 a3 y88 (a0_0.toList == ([80,65,84,67,72]:List UInt8)) a0_0 a0_1 a0_2 l0_3 l0_4))))) else (none))) else (none))=some (r1,r2,r3,r4,r5):=H
    have A25:=Aside0.mk A250
    clear A250
    by_cases c26:y91.length + t92.length < 4398046511104
    ·rw [if_pos c26] at H
     have LMc26:=Aside0.mk c26
     clear c26
     obtain ⟨y90,hy90⟩ : ∃ y_:List (S41),y_=(y91 ++ t92):=⟨_,rfl⟩
     replace H:(if y90.length + l1_2.length < 4398046511104 then ((some (y90 ++ l1_2:List (S41))).bind fun y88=>(if (l0_4.length:Int) > 0 then (scrub_Request.j1 k1 a3 y88 (decide ((l0_4.length:Int) > 0)) a0_0 a0_1 a0_2 l0_3 l0_4) else (if a0_0.toList=([80,79,83,84]:List UInt8) then (scrub_Request.j1 k1 a3 y88 (a0_0.toList == ([80,79,83,84]:List UInt8)) a0_0 a0_1 a0_2 l0_3 l0_4) else (if a0_0.toList=([80,85,84]:List UInt8) then (scrub_Request.j1 k1 a3 y88 (a0_0.toList == ([80,85,84]:List UInt8)) a0_0 a0_1 a0_2 l0_3 l0_4) else (scrub_Request.j1 k1 a3 y88 (a0_0.toList == ([80,65,84,67,72]:List UInt8)) a0_0 a0_1 a0_2 l0_3 l0_4))))) else (none))=some (r1,r2,r3,r4,r5):=by first|(rw [hy90];with_reducible exact H)|(have H2_:=(Option.bind_some _ _).symm.trans H;rw [hy90];with_reducible exact H2_)|(have H2_:=(Option.bind_some _ _).symm.trans H;with_reducible exact H2_)|with_reducible exact H|(rw [hy90];exact H)|exact H
     have Ny90:=Aside0.mk hy90
     clear hy90
     by_cases c27:y90.length + l1_2.length < 4398046511104
     ·rw [if_pos c27] at H
      have LMc27:=Aside0.mk c27
      clear c27
      obtain ⟨y88,hy88⟩ : ∃ y_:List (S41),y_=(y90 ++ l1_2):=⟨_,rfl⟩
      replace H:(if (l0_4.length:Int) > 0 then (scrub_Request.j1 k1 a3 y88 (decide ((l0_4.length:Int) > 0)) a0_0 a0_1 a0_2 l0_3 l0_4) else (if a0_0.toList=([80,79,83,84]:List UInt8) then (scrub_Request.j1 k1 a3 y88 (a0_0.toList == ([80,79,83,84]:List UInt8)) a0_0 a0_1 a0_2 l0_3 l0_4) else (if a0_0.toList=([80,85,84]:List UInt8) then (scrub_Request.j1 k1 a3 y88 (a0_0.toList == ([80,85,84]:List UInt8)) a0_0 a0_1 a0_2 l0_3 l0_4) else (scrub_Request.j1 k1 a3 y88 (a0_0.toList == ([80,65,84,67,72]:List UInt8)) a0_0 a0_1 a0_2 l0_3 l0_4))))=some (r1,r2,r3,r4,r5):=by first|(rw [hy88];with_reducible exact H)|(have H2_:=(Option.bind_some _ _).symm.trans H;rw [hy88];with_reducible exact H2_)|(have H2_:=(Option.bind_some _ _).symm.trans H;with_reducible exact H2_)|with_reducible exact H|(rw [hy88];exact H)|exact H
      have Ny88:=Aside0.mk hy88
      clear hy88
      have HC28:=Aside0.mk H
      clear H
      go_upto_if 42 with (first|((with_reducible refine gate_dst (N:=31) rfl ?_);refine Kd.R_lit k41 _ 41 ?hg (N:=31) ?hd (xs:=([(⟨(⟨#[72,111,115,116]⟩:ByteArray),a2⟩:S41)]:List (S41))) (inner:=[.string (⟨#[72,111,115,116]⟩:ByteArray),.string a2]) (ok:=fun _=>True) (okp:=fun _=>True) ?hr ?hp (fun _ hk=>hk) trivial (Below.refl _ _) (Nat.le_refl _) (by simp) ?_;(case hd=>rfl);(case hg=>rfl);(case hr=>first|(go_simp;done)|(go_simp;rfl));(case hp=>exact (Reps.c2 (show Kd.M k41 _ _ _ (⟨(⟨#[72,111,115,116]⟩:ByteArray),a2⟩:S41) [.string (⟨#[72,111,115,116]⟩:ByteArray),.string a2] from (k41_mkM _ _ _ (⟨(⟨#[72,111,115,116]⟩:ByteArray),a2⟩:S41) )) (Reps.none _ _)));intro v328 w29 ho30 hb hg_ hnew_;clear hg_ hnew_;(first|rw [← Ny91.out] at ho30|(simp only [Int.reduceToNat] at ho30;rw [← Ny91.out] at ho30));have n0_:=Aside0.mk (Kd.R_below (by (with_reducible repeat (first|apply Kd.R_alloc|apply Kd.R_drewN|apply Kd.R_drew));exact HO_9.out) hb);have n1_:=Aside0.mk (Kd.R_lower ho30 (below_size (by repeat (first|(with_reducible first|exact HB.out|apply below_alloc|apply pw_below_drewN|apply below_drew1|refine below_set ?_ GE84.out|refine below_set ?_ GE86.out|refine below_set ?_ GE85.out)|exact HB.out))));have n2_:=Aside0.mk (blk_below (g:=gb84) (o:=.cells #[.string a0_0,.string a0_1,.int .i64 a0_2,.slice A0_3 l0_3.length c0_3,.slice A0_4 l0_4.length c0_4] 33 (0,0)) (by (with_reducible repeat (first|refine blk_drewN ?_ _|refine blk_drew ?_|refine blk_alloc ?_ _));exact BK84.out) hb);have n3_:=Aside0.mk (blk_below (g:=gb86) (o:=.cells #[.slice A1_0 l1_0.length c1_0,.slice A1_1 l1_1.length c1_1,.slice A1_2 l1_2.length c1_2,.slice A1_3 l1_3.length c1_3,.int .i64 a1_4,.int .i64 a1_5,.int .i64 a1_6,.int .i64 a1_7] 38 (0,0)) (by (with_reducible repeat (first|refine blk_drewN ?_ _|refine blk_drew ?_|refine blk_alloc ?_ _));exact BK86.out) hb);have n4_:=Aside0.mk (blk_below (g:=gb85) (o:=.cells #[.string (⟨#[]⟩:ByteArray),.string (⟨#[]⟩:ByteArray),.int .i64 0,.slice none 0 0,.slice none 0 0] 33 (0,0)) (by (with_reducible repeat (first|refine blk_drewN ?_ _|refine blk_drew ?_|refine blk_alloc ?_ _));exact BK85.out) hb);have n5_:=Aside0.mk (below_step (by repeat (first|(with_reducible first|exact HB.out|apply below_alloc|apply pw_below_drewN|apply below_drew1|refine below_set ?_ GE84.out|refine below_set ?_ GE86.out|refine below_set ?_ GE85.out)|exact HB.out)) hb);clear HO_9;clear BK84;clear BK86;clear BK85;clear HB;have HO_9:=n0_;have HO94:=n1_;have BK84:=n2_;have BK86:=n3_;have BK85:=n4_;have HB:=n5_;clear n0_ n1_ n2_ n3_ n4_ n5_;clear hb ho30;have hnb31:=NB84_317.out;have hnc31:=NB86_316.out;have hnb32:=NB84_318.out;have hnc32:=NB85_316.out;have hcz33_0:w29.cell? ⟨gb84,0,none⟩=some (.string a0_0):=(blk_cell BK84.out 0).trans rfl;have hcz33_1:w29.cell? ⟨gb84,1,none⟩=some (.string a0_1):=(blk_cell BK84.out 1).trans rfl;have hcz33_2:w29.cell? ⟨gb84,2,none⟩=some (.int .i64 a0_2):=(blk_cell BK84.out 2).trans rfl;have hcz33_3:w29.cell? ⟨gb84,3,none⟩=some (.slice A0_3 l0_3.length c0_3):=(blk_cell BK84.out 3).trans rfl;have hcz33_4:w29.cell? ⟨gb84,4,none⟩=some (.slice A0_4 l0_4.length c0_4):=(blk_cell BK84.out 4).trans rfl;have hfz33_0:=blk_frozen BK84.out 0;have hfz33_1:=blk_frozen BK84.out 1;have hfz33_2:=blk_frozen BK84.out 2;have hfz33_3:=blk_frozen BK84.out 3;have hfz33_4:=blk_frozen BK84.out 4)|((with_reducible refine gate_callee (f:=37) rfl ?_);refine goesL_ (some 34) rfl rfl Tryd.func37 (by kernel_rfl) rfl #[.slice A0_3 l0_3.length c0_3] rfl (by (try simp only [List.map_toArray,List.map_cons,List.map_nil]);first|done|rfl|(simp only [List.length_drop,List.length_take];rfl)) ?_;(with_reducible refine (scrub_onward.calls k1 _ _ l0_3 t98 _ ?side1 ?side2 A24.out).mono ?_);(case side1=>repeat (first|exact (Kd.C_below HR0_3.out HB.out)|(with_reducible refine Kd.C_alloc ?_ _)|(with_reducible refine Kd.C_drewN ?_ _)|(with_reducible refine Kd.C_drew ?_)));(case side2=>exact HC0_3.out);rintro e w34 ⟨v331,rfl,ho0,hb⟩;refine ⟨_,rfl,?_⟩;have n0_:=Aside0.mk (Kd.R_below (by (with_reducible repeat (first|apply Kd.R_alloc|apply Kd.R_drewN|apply Kd.R_drew));exact HO_9.out) hb);have n1_:=Aside0.mk (Kd.R_elder' (by (with_reducible repeat (first|apply Kd.R_alloc|apply Kd.R_drewN|apply Kd.R_drew));exact HO94.out) (Kd.R_base ho0) hb);have n2_:=Aside0.mk (Kd.R_lower (Kd.R_new' ho0 (Kd.R_lt (by (with_reducible repeat (first|apply Kd.R_alloc|apply Kd.R_drewN|apply Kd.R_drew));exact HO94.out))) (below_size (by repeat (first|(with_reducible first|exact HB.out|apply below_alloc|apply pw_below_drewN|apply below_drew1|refine below_set ?_ GE84.out|refine below_set ?_ GE86.out|refine below_set ?_ GE85.out)|exact HB.out))));have n3_:=Aside0.mk (blk_below (g:=gb84) (o:=.cells #[.string a0_0,.string a0_1,.int .i64 a0_2,.slice A0_3 l0_3.length c0_3,.slice A0_4 l0_4.length c0_4] 33 (0,0)) (by (with_reducible repeat (first|refine blk_drewN ?_ _|refine blk_drew ?_|refine blk_alloc ?_ _));exact BK84.out) hb);have n4_:=Aside0.mk (blk_below (g:=gb86) (o:=.cells #[.slice A1_0 l1_0.length c1_0,.slice A1_1 l1_1.length c1_1,.slice A1_2 l1_2.length c1_2,.slice A1_3 l1_3.length c1_3,.int .i64 a1_4,.int .i64 a1_5,.int .i64 a1_6,.int .i64 a1_7] 38 (0,0)) (by (with_reducible repeat (first|refine blk_drewN ?_ _|refine blk_drew ?_|refine blk_alloc ?_ _));exact BK86.out) hb);have n5_:=Aside0.mk (blk_below (g:=gb85) (o:=.cells #[.string (⟨#[]⟩:ByteArray),.string (⟨#[]⟩:ByteArray),.int .i64 0,.slice none 0 0,.slice none 0 0] 33 (0,0)) (by (with_reducible repeat (first|refine blk_drewN ?_ _|refine blk_drew ?_|refine blk_alloc ?_ _));exact BK85.out) hb);have n6_:=Aside0.mk (below_step (by repeat (first|(with_reducible first|exact HB.out|apply below_alloc|apply pw_below_drewN|apply below_drew1|refine below_set ?_ GE84.out|refine below_set ?_ GE86.out|refine below_set ?_ GE85.out)|exact HB.out)) hb);clear HO_9;clear HO94;clear BK84;clear BK86;clear BK85;clear HB;have HO_9:=n0_;have HO94:=n1_;have HO93:=n2_;have BK84:=n3_;have BK86:=n4_;have BK85:=n5_;have HB:=n6_;clear n0_ n1_ n2_ n3_ n4_ n5_ n6_;(try clear hb);(try clear hb2);(try clear hk);(try clear hi);(try clear ho0);obtain ⟨Ao35,co35,eo35⟩:=Kd.R_slice HO93.out;subst eo35;obtain ⟨Ao36,co36,eo36⟩:=Kd.R_slice HO_9.out;subst eo36)|((with_reducible refine gate_callee (f:=36) rfl ?_);refine goesL_ (some 36) rfl rfl Tryd.func36 (by kernel_rfl) rfl #[.slice Ao35 t98.length co35,.slice Ao36 x9_1.length co36] rfl (by (try simp only [List.map_toArray,List.map_cons,List.map_nil]);first|done|rfl|(simp only [List.length_drop,List.length_take];rfl)) ?_;(with_reducible refine (field_Without.calls k1 _ _ t98 _ _ x9_1 t92 _ ?side1 ?side2 ?side3 ?side4 A25.out).mono ?_);(case side1=>repeat (first|exact (Kd.R_reads' HO93.out).2.2|(with_reducible refine Kd.C_alloc ?_ _)|(with_reducible refine Kd.C_drewN ?_ _)|(with_reducible refine Kd.C_drew ?_)));(case side2=>exact (Kd.R_reads' HO93.out).2.1);(case side3=>repeat (first|exact (Kd.R_reads' HO_9.out).2.2|(with_reducible refine Kd.C_alloc ?_ _)|(with_reducible refine Kd.C_drewN ?_ _)|(with_reducible refine Kd.C_drew ?_)));(case side4=>exact (Kd.R_reads' HO_9.out).2.1);rintro e w37 ⟨v334,rfl,ho0,hb⟩;refine ⟨_,rfl,?_⟩;have n0_:=Aside0.mk (Kd.R_below (by (with_reducible repeat (first|apply Kd.R_alloc|apply Kd.R_drewN|apply Kd.R_drew));exact HO_9.out) hb);have n1_:=Aside0.mk (Kd.R_elder' (by (with_reducible repeat (first|apply Kd.R_alloc|apply Kd.R_drewN|apply Kd.R_drew));exact HO94.out) (Kd.R_base ho0) hb);have n2_:=Aside0.mk (Kd.R_elder' (by (with_reducible repeat (first|apply Kd.R_alloc|apply Kd.R_drewN|apply Kd.R_drew));exact HO93.out) (Kd.R_base ho0) hb);have n3_:=Aside0.mk (Kd.R_lower (Kd.R_new' (Kd.R_new' ho0 (Kd.R_lt (by (with_reducible repeat (first|apply Kd.R_alloc|apply Kd.R_drewN|apply Kd.R_drew));exact HO94.out))) (Kd.R_lt (by (with_reducible repeat (first|apply Kd.R_alloc|apply Kd.R_drewN|apply Kd.R_drew));exact HO93.out))) (below_size (by repeat (first|(with_reducible first|exact HB.out|apply below_alloc|apply pw_below_drewN|apply below_drew1|refine below_set ?_ GE84.out|refine below_set ?_ GE86.out|refine below_set ?_ GE85.out)|exact HB.out))));have n4_:=Aside0.mk (blk_below (g:=gb84) (o:=.cells #[.string a0_0,.string a0_1,.int .i64 a0_2,.slice A0_3 l0_3.length c0_3,.slice A0_4 l0_4.length c0_4] 33 (0,0)) (by (with_reducible repeat (first|refine blk_drewN ?_ _|refine blk_drew ?_|refine blk_alloc ?_ _));exact BK84.out) hb);have n5_:=Aside0.mk (blk_below (g:=gb86) (o:=.cells #[.slice A1_0 l1_0.length c1_0,.slice A1_1 l1_1.length c1_1,.slice A1_2 l1_2.length c1_2,.slice A1_3 l1_3.length c1_3,.int .i64 a1_4,.int .i64 a1_5,.int .i64 a1_6,.int .i64 a1_7] 38 (0,0)) (by (with_reducible repeat (first|refine blk_drewN ?_ _|refine blk_drew ?_|refine blk_alloc ?_ _));exact BK86.out) hb);have n6_:=Aside0.mk (blk_below (g:=gb85) (o:=.cells #[.string (⟨#[]⟩:ByteArray),.string (⟨#[]⟩:ByteArray),.int .i64 0,.slice none 0 0,.slice none 0 0] 33 (0,0)) (by (with_reducible repeat (first|refine blk_drewN ?_ _|refine blk_drew ?_|refine blk_alloc ?_ _));exact BK85.out) hb);have n7_:=Aside0.mk (below_step (by repeat (first|(with_reducible first|exact HB.out|apply below_alloc|apply pw_below_drewN|apply below_drew1|refine below_set ?_ GE84.out|refine below_set ?_ GE86.out|refine below_set ?_ GE85.out)|exact HB.out)) hb);clear HO_9;clear HO94;clear HO93;clear BK84;clear BK86;clear BK85;clear HB;have HO_9:=n0_;have HO94:=n1_;have HO93:=n2_;have HO99:=n3_;have BK84:=n4_;have BK86:=n5_;have BK85:=n6_;have HB:=n7_;clear n0_ n1_ n2_ n3_ n4_ n5_ n6_ n7_;(try clear hb);(try clear hb2);(try clear hk);(try clear hi);(try clear ho0);obtain ⟨Ao39,co39,eo39⟩:=Kd.R_slice HO99.out;subst eo39)|((with_reducible refine gate_builtin (b:=.append) (xs:=#[.tmp 31,.tmp 36]) rfl ?_);at_builtin;refine Kd.R_append_rows k41 (w0:=w) w.heap.size rfl (.tmp 31) (.tmp 36) 31 41 (.agg #[(.string ⟨#[]⟩),(.string ⟨#[]⟩)]) 32 rfl Tryd.underlying31 info41 rfl (by decide) (by omega) v328 y91 t92 _ _ _ (fun k_=>some k_ ≠ (.slice Ao35 t98.length co35:Value).ownBlock∧some k_ ≠ (.slice Ao39 t92.length co39:Value).ownBlock) (fun _=>False) rfl rfl ?aO ?aR (fun _ _ h=>h) (fun _ h=>h.elim) ?aF ?aB ?aS ?aL ?_;(case aR=>repeat (first|exact (Kd.R_reads' HO99.out).2.2|(with_reducible refine Kd.C_alloc ?_ _)|(with_reducible refine Kd.C_drewN ?_ _)|(with_reducible refine Kd.C_drew ?_)));(case aB=>exact (by repeat (first|(with_reducible first|exact HB.out|apply below_alloc|apply pw_below_drewN|apply below_drew1|refine below_set ?_ GE84.out|refine below_set ?_ GE86.out|refine below_set ?_ GE85.out)|exact HB.out)));(case aF=>exact (fun k_ hk=>⟨Kd.fresh' (Kd.R_lt (by (with_reducible repeat (first|apply Kd.R_alloc|apply Kd.R_drewN|apply Kd.R_drew));exact HO93.out)) k_ hk,Kd.fresh' (Kd.R_lt (by (with_reducible repeat (first|apply Kd.R_alloc|apply Kd.R_drewN|apply Kd.R_drew));exact HO99.out)) k_ hk⟩));(case aO=>exact (by (with_reducible repeat (first|apply Kd.R_alloc|apply Kd.R_drewN|apply Kd.R_drew));exact Kd.R_mono HO94.out (fun _ hk=>⟨hk.1.2,hk.2⟩)));(case aS=>exact (below_size (by repeat (first|(with_reducible first|exact HB.out|apply below_alloc|apply pw_below_drewN|apply below_drew1|refine below_set ?_ GE84.out|refine below_set ?_ GE86.out|refine below_set ?_ GE85.out)|exact HB.out))));(case aL=>have:=LMc26.out;omega);intro v337 w38 ho hb hg hat;rw [← Ny90.out] at ho;have n0_:=Aside0.mk (Kd.R_over' (by (with_reducible repeat (first|apply Kd.R_alloc|apply Kd.R_drewN|apply Kd.R_drew));exact HO_9.out) (Kd.R_typed (by (with_reducible repeat (first|apply Kd.R_alloc|apply Kd.R_drewN|apply Kd.R_drew));exact HO94.out)) (by decide) hg);have n1_:=Aside0.mk (blk_grown (g:=gb84) (o:=.cells #[.string a0_0,.string a0_1,.int .i64 a0_2,.slice A0_3 l0_3.length c0_3,.slice A0_4 l0_4.length c0_4] 33 (0,0)) (by (with_reducible repeat (first|refine blk_drewN ?_ _|refine blk_drew ?_|refine blk_alloc ?_ _));exact BK84.out) hg (Kd.R_ne HO94.out BK84.out (by decide)));have n2_:=Aside0.mk (blk_grown (g:=gb86) (o:=.cells #[.slice A1_0 l1_0.length c1_0,.slice A1_1 l1_1.length c1_1,.slice A1_2 l1_2.length c1_2,.slice A1_3 l1_3.length c1_3,.int .i64 a1_4,.int .i64 a1_5,.int .i64 a1_6,.int .i64 a1_7] 38 (0,0)) (by (with_reducible repeat (first|refine blk_drewN ?_ _|refine blk_drew ?_|refine blk_alloc ?_ _));exact BK86.out) hg (Kd.R_ne HO94.out BK86.out (by decide)));have n3_:=Aside0.mk (blk_grown (g:=gb85) (o:=.cells #[.string (⟨#[]⟩:ByteArray),.string (⟨#[]⟩:ByteArray),.int .i64 0,.slice none 0 0,.slice none 0 0] 33 (0,0)) (by (with_reducible repeat (first|refine blk_drewN ?_ _|refine blk_drew ?_|refine blk_alloc ?_ _));exact BK85.out) hg (Kd.R_ne HO94.out BK85.out (by decide)));have n4_:=Aside0.mk (Kd.R_after (ok:=(fun k_=>some k_ ≠ (.slice Ao39 t92.length co39:Value).ownBlock)) (by (with_reducible repeat (first|apply Kd.R_alloc|apply Kd.R_drewN|apply Kd.R_drew));exact Kd.R_mono HO93.out (fun _ hk=>⟨hk.2,hk.1.2⟩)) hg hat);have n5_:=Aside0.mk (Kd.R_after (ok:=(fun k_=>some k_ ≠ (.slice Ao35 t98.length co35:Value).ownBlock)) (by (with_reducible repeat (first|apply Kd.R_alloc|apply Kd.R_drewN|apply Kd.R_drew));exact Kd.R_mono HO99.out (fun _ hk=>⟨hk.2,hk.1.2⟩)) hg hat);have n6_:=Aside0.mk (hb);have n7_:=Aside0.mk (ho);clear HO_9;clear BK84;clear BK86;clear BK85;clear HO93;clear HO99;clear HB;clear HO94;have HO_9:=n0_;have BK84:=n1_;have BK86:=n2_;have BK85:=n3_;have HO93:=n4_;have HO99:=n5_;have HB:=n6_;have HO338:=n7_;clear n0_ n1_ n2_ n3_ n4_ n5_ n6_ n7_;clear ho hb hg hat;have hnb40:=NB86_318.out;have hnc40:=NB85_317.out;have hcz41_0:w38.cell? ⟨gb86,0,none⟩=some (.slice A1_0 l1_0.length c1_0):=(blk_cell BK86.out 0).trans rfl;have hcz41_1:w38.cell? ⟨gb86,1,none⟩=some (.slice A1_1 l1_1.length c1_1):=(blk_cell BK86.out 1).trans rfl;have hcz41_2:w38.cell? ⟨gb86,2,none⟩=some (.slice A1_2 l1_2.length c1_2):=(blk_cell BK86.out 2).trans rfl;have hcz41_3:w38.cell? ⟨gb86,3,none⟩=some (.slice A1_3 l1_3.length c1_3):=(blk_cell BK86.out 3).trans rfl;have hcz41_4:w38.cell? ⟨gb86,4,none⟩=some (.int .i64 a1_4):=(blk_cell BK86.out 4).trans rfl;have hcz41_5:w38.cell? ⟨gb86,5,none⟩=some (.int .i64 a1_5):=(blk_cell BK86.out 5).trans rfl;have hcz41_6:w38.cell? ⟨gb86,6,none⟩=some (.int .i64 a1_6):=(blk_cell BK86.out 6).trans rfl;have hcz41_7:w38.cell? ⟨gb86,7,none⟩=some (.int .i64 a1_7):=(blk_cell BK86.out 7).trans rfl;have hfz41_0:=blk_frozen BK86.out 0;have hfz41_1:=blk_frozen BK86.out 1;have hfz41_2:=blk_frozen BK86.out 2;have hfz41_3:=blk_frozen BK86.out 3;have hfz41_4:=blk_frozen BK86.out 4;have hfz41_5:=blk_frozen BK86.out 5;have hfz41_6:=blk_frozen BK86.out 6;have hfz41_7:=blk_frozen BK86.out 7)|((with_reducible refine gate_builtin (b:=.append) (xs:=#[.tmp 38,.tmp 40]) rfl ?_);at_builtin;refine Kd.R_append_rows k41 (w0:=w) w.heap.size rfl (.tmp 38) (.tmp 40) 31 41 (.agg #[(.string ⟨#[]⟩),(.string ⟨#[]⟩)]) 32 rfl Tryd.underlying31 info41 rfl (by decide) (by omega) v337 y90 l1_2 _ _ _ (fun k_=>some k_ ≠ (.slice Ao35 t98.length co35:Value).ownBlock∧some k_ ≠ (.slice Ao39 t92.length co39:Value).ownBlock) (fun _=>False) rfl rfl ?aO ?aR (fun _ _ h=>h) (fun _ h=>h.elim) ?aF ?aB ?aS ?aL ?_;(case aR=>repeat (first|exact (Kd.C_below HR1_2.out HB.out)|(with_reducible refine Kd.C_alloc ?_ _)|(with_reducible refine Kd.C_drewN ?_ _)|(with_reducible refine Kd.C_drew ?_)));(case aB=>exact (by repeat (first|(with_reducible first|exact HB.out|apply below_alloc|apply pw_below_drewN|apply below_drew1|refine below_set ?_ GE84.out|refine below_set ?_ GE86.out|refine below_set ?_ GE85.out)|exact HB.out)));(case aF=>exact (fun k_ hk=>⟨Kd.fresh' (Kd.R_lt (by (with_reducible repeat (first|apply Kd.R_alloc|apply Kd.R_drewN|apply Kd.R_drew));exact HO93.out)) k_ hk,Kd.fresh' (Kd.R_lt (by (with_reducible repeat (first|apply Kd.R_alloc|apply Kd.R_drewN|apply Kd.R_drew));exact HO99.out)) k_ hk⟩));(case aO=>exact (by (with_reducible repeat (first|apply Kd.R_alloc|apply Kd.R_drewN|apply Kd.R_drew));exact HO338.out));(case aS=>exact (below_size (by repeat (first|(with_reducible first|exact HB.out|apply below_alloc|apply pw_below_drewN|apply below_drew1|refine below_set ?_ GE84.out|refine below_set ?_ GE86.out|refine below_set ?_ GE85.out)|exact HB.out))));(case aL=>have:=LMc27.out;omega);intro v340 w42 ho hb hg hat;rw [← Ny88.out] at ho;have n0_:=Aside0.mk (Kd.R_over' (by (with_reducible repeat (first|apply Kd.R_alloc|apply Kd.R_drewN|apply Kd.R_drew));exact HO_9.out) (Kd.R_typed (by (with_reducible repeat (first|apply Kd.R_alloc|apply Kd.R_drewN|apply Kd.R_drew));exact HO338.out)) (by decide) hg);have n1_:=Aside0.mk (blk_grown (g:=gb84) (o:=.cells #[.string a0_0,.string a0_1,.int .i64 a0_2,.slice A0_3 l0_3.length c0_3,.slice A0_4 l0_4.length c0_4] 33 (0,0)) (by (with_reducible repeat (first|refine blk_drewN ?_ _|refine blk_drew ?_|refine blk_alloc ?_ _));exact BK84.out) hg (Kd.R_ne HO338.out BK84.out (by decide)));have n2_:=Aside0.mk (blk_grown (g:=gb86) (o:=.cells #[.slice A1_0 l1_0.length c1_0,.slice A1_1 l1_1.length c1_1,.slice A1_2 l1_2.length c1_2,.slice A1_3 l1_3.length c1_3,.int .i64 a1_4,.int .i64 a1_5,.int .i64 a1_6,.int .i64 a1_7] 38 (0,0)) (by (with_reducible repeat (first|refine blk_drewN ?_ _|refine blk_drew ?_|refine blk_alloc ?_ _));exact BK86.out) hg (Kd.R_ne HO338.out BK86.out (by decide)));have n3_:=Aside0.mk (blk_grown (g:=gb85) (o:=.cells #[.string (⟨#[]⟩:ByteArray),.string (⟨#[]⟩:ByteArray),.int .i64 0,.slice none 0 0,.slice none 0 0] 33 (0,0)) (by (with_reducible repeat (first|refine blk_drewN ?_ _|refine blk_drew ?_|refine blk_alloc ?_ _));exact BK85.out) hg (Kd.R_ne HO338.out BK85.out (by decide)));have n4_:=Aside0.mk (Kd.R_after (ok:=(fun k_=>some k_ ≠ (.slice Ao39 t92.length co39:Value).ownBlock)) (by (with_reducible repeat (first|apply Kd.R_alloc|apply Kd.R_drewN|apply Kd.R_drew));exact HO93.out) hg hat);have n5_:=Aside0.mk (Kd.R_after (ok:=(fun k_=>some k_ ≠ (.slice Ao35 t98.length co35:Value).ownBlock)) (by (with_reducible repeat (first|apply Kd.R_alloc|apply Kd.R_drewN|apply Kd.R_drew));exact HO99.out) hg hat);have n6_:=Aside0.mk (hb);have n7_:=Aside0.mk (ho);clear HO_9;clear BK84;clear BK86;clear BK85;clear HO93;clear HO99;clear HB;clear HO338;have HO_9:=n0_;have BK84:=n1_;have BK86:=n2_;have BK85:=n3_;have HO93:=n4_;have HO99:=n5_;have HB:=n6_;have HO341:=n7_;clear n0_ n1_ n2_ n3_ n4_ n5_ n6_ n7_;clear ho hb hg hat;have hcz43_0:w42.cell? ⟨gb84,0,none⟩=some (.string a0_0):=(blk_cell BK84.out 0).trans rfl;have hcz43_1:w42.cell? ⟨gb84,1,none⟩=some (.string a0_1):=(blk_cell BK84.out 1).trans rfl;have hcz43_2:w42.cell? ⟨gb84,2,none⟩=some (.int .i64 a0_2):=(blk_cell BK84.out 2).trans rfl;have hcz43_3:w42.cell? ⟨gb84,3,none⟩=some (.slice A0_3 l0_3.length c0_3):=(blk_cell BK84.out 3).trans rfl;have hcz43_4:w42.cell? ⟨gb84,4,none⟩=some (.slice A0_4 l0_4.length c0_4):=(blk_cell BK84.out 4).trans rfl;have hfz43_0:=blk_frozen BK84.out 0;have hfz43_1:=blk_frozen BK84.out 1;have hfz43_2:=blk_frozen BK84.out 2;have hfz43_3:=blk_frozen BK84.out 3;have hfz43_4:=blk_frozen BK84.out 4))
      (try simp only [Act.put,zqA,zqB,zqC])
      go_cut [42] (fun v42 wc => ∃ (kq:Nat) (x42_27:Bool),v42 = .bool x42_27∧Aside0 (scrub_Request.j1 kq a3 y88 x42_27 a0_0 a0_1 a0_2 l0_3 l0_4=some (r1,r2,r3,r4,r5))∧Aside0 (kq ≤ k1)∧Aside0 (Kd.R k41 41 wc w.heap.size (fun _=>True) v340 y88)∧Aside0 (wc.heap[gb84]? = some (.cells #[.string a0_0,.string a0_1,.int .i64 a0_2,(.slice A0_3 l0_3.length c0_3),(.slice A0_4 l0_4.length c0_4)] 33 (0,0)))∧Aside0 (wc.heap[gb86]? = some (.cells #[(.slice A1_0 l1_0.length c1_0),(.slice A1_1 l1_1.length c1_1),(.slice A1_2 l1_2.length c1_2),(.slice A1_3 l1_3.length c1_3),.int .i64 a1_4,.int .i64 a1_5,.int .i64 a1_6,.int .i64 a1_7] 38 (0,0)))∧Aside0 (wc.heap[gb85]? = some (.cells #[.string (⟨#[]⟩:ByteArray),.string (⟨#[]⟩:ByteArray),.int .i64 0,(.slice none 0 0),(.slice none 0 0)] 33 (0,0)))∧Aside0 (Below w.heap.size w wc))
      case first =>
       have H:=HC28.out
       clear HC28
       by_cases c44:(l0_4.length:Int) > 0
       ·rw [if_pos c44] at H
        have c44b0:decide (0 < (l0_4.length:Int))=true:=decide_eq_true c44
        have c44b1:decide (0 < l0_4.length)=true:=decide_eq_true (by omega)
        clear c44
        (first|rw [c44b0]|(simp only [i64_w,i32_w];rw [c44b0])|rw [c44b1]|skip)
        have H' := Aside0.mk H
        clear H
        go_wp2
        go_meet
        case rel=>exact ⟨_,(decide ((l0_4.length:Int) > 0)),(by first|rfl|(simp;done)|(simp [*];done)),H',⟨by have:=HK1.out;first|omega|exact Nat.le_refl _⟩,⟨by (with_reducible repeat (first|apply Kd.R_alloc|apply Kd.R_drewN|apply Kd.R_drew));exact Kd.R_mono HO341.out (fun _ hk=>trivial)⟩,⟨by (with_reducible repeat (first|refine blk_drewN ?_ _|refine blk_drew ?_|refine blk_alloc ?_ _));exact BK84.out⟩,⟨by (with_reducible repeat (first|refine blk_drewN ?_ _|refine blk_drew ?_|refine blk_alloc ?_ _));exact BK86.out⟩,⟨by (with_reducible repeat (first|refine blk_drewN ?_ _|refine blk_drew ?_|refine blk_alloc ?_ _));exact BK85.out⟩,⟨by repeat (first|(with_reducible first|exact HB.out|apply below_alloc|apply pw_below_drewN|apply below_drew1|refine below_set ?_ GE84.out|refine below_set ?_ GE86.out|refine below_set ?_ GE85.out)|exact HB.out)⟩⟩
       ·rw [if_neg c44] at H
        have c44b0:decide (0 < (l0_4.length:Int))=false:=decide_eq_false c44
        have c44b1:decide (0 < l0_4.length)=false:=decide_eq_false (by omega)
        clear c44
        (first|rw [c44b0]|(simp only [i64_w,i32_w];rw [c44b0])|rw [c44b1]|skip)
        by_cases c45:a0_0.toList=([80,79,83,84]:List UInt8)
        ·rw [if_pos c45] at H
         have c45b0:(a0_0.toList == ([80,79,83,84]:List UInt8))=true:=beq_iff_eq.mpr c45
         have c45b1:(a0_0.toList != ([80,79,83,84]:List UInt8))=false:=bne_eq_false_iff_eq.mpr c45
         clear c45
         have H' := Aside0.mk H
         clear H
         have hnb46:=NB84_317.out
         have hnc46:=NB86_316.out
         have hnb47:=NB84_318.out
         have hnc47:=NB85_316.out
         have hcz48_0:w42.cell? ⟨gb84,0,none⟩=some (.string a0_0):=(blk_cell BK84.out 0).trans rfl
         have hcz48_1:w42.cell? ⟨gb84,1,none⟩=some (.string a0_1):=(blk_cell BK84.out 1).trans rfl
         have hcz48_2:w42.cell? ⟨gb84,2,none⟩=some (.int .i64 a0_2):=(blk_cell BK84.out 2).trans rfl
         have hcz48_3:w42.cell? ⟨gb84,3,none⟩=some (.slice A0_3 l0_3.length c0_3):=(blk_cell BK84.out 3).trans rfl
         have hcz48_4:w42.cell? ⟨gb84,4,none⟩=some (.slice A0_4 l0_4.length c0_4):=(blk_cell BK84.out 4).trans rfl
         have hfz48_0:=blk_frozen BK84.out 0
         have hfz48_1:=blk_frozen BK84.out 1
         have hfz48_2:=blk_frozen BK84.out 2
         have hfz48_3:=blk_frozen BK84.out 3
         have hfz48_4:=blk_frozen BK84.out 4
         go_wp2
         go_meet
         case rel=>exact ⟨_,((a0_0.toList == ([80,79,83,84]:List UInt8))),(by first|rfl|(simp;done)|(simp [*];done)),H',⟨by have:=HK1.out;first|omega|exact Nat.le_refl _⟩,⟨by (with_reducible repeat (first|apply Kd.R_alloc|apply Kd.R_drewN|apply Kd.R_drew));exact Kd.R_mono HO341.out (fun _ hk=>trivial)⟩,⟨by (with_reducible repeat (first|refine blk_drewN ?_ _|refine blk_drew ?_|refine blk_alloc ?_ _));exact BK84.out⟩,⟨by (with_reducible repeat (first|refine blk_drewN ?_ _|refine blk_drew ?_|refine blk_alloc ?_ _));exact BK86.out⟩,⟨by (with_reducible repeat (first|refine blk_drewN ?_ _|refine blk_drew ?_|refine blk_alloc ?_ _));exact BK85.out⟩,⟨by repeat (first|(with_reducible first|exact HB.out|apply below_alloc|apply pw_below_drewN|apply below_drew1|refine below_set ?_ GE84.out|refine below_set ?_ GE86.out|refine below_set ?_ GE85.out)|exact HB.out)⟩⟩
        ·rw [if_neg c45] at H
         have c45b0:(a0_0.toList == ([80,79,83,84]:List UInt8))=false:=beq_eq_false_iff_ne.mpr c45
         have c45b1:(a0_0.toList != ([80,79,83,84]:List UInt8))=true:=bne_iff_ne.mpr c45
         by_cases c49:a0_0.toList=([80,85,84]:List UInt8)
         ·rw [if_pos c49] at H
          have c49b0:(a0_0.toList == ([80,85,84]:List UInt8))=true:=beq_iff_eq.mpr c49
          have c49b1:(a0_0.toList != ([80,85,84]:List UInt8))=false:=bne_eq_false_iff_eq.mpr c49
          clear c49
          have H' := Aside0.mk H
          clear H
          have hnb50:=NB84_317.out
          have hnc50:=NB86_316.out
          have hnb51:=NB84_318.out
          have hnc51:=NB85_316.out
          have hcz52_0:w42.cell? ⟨gb84,0,none⟩=some (.string a0_0):=(blk_cell BK84.out 0).trans rfl
          have hcz52_1:w42.cell? ⟨gb84,1,none⟩=some (.string a0_1):=(blk_cell BK84.out 1).trans rfl
          have hcz52_2:w42.cell? ⟨gb84,2,none⟩=some (.int .i64 a0_2):=(blk_cell BK84.out 2).trans rfl
          have hcz52_3:w42.cell? ⟨gb84,3,none⟩=some (.slice A0_3 l0_3.length c0_3):=(blk_cell BK84.out 3).trans rfl
          have hcz52_4:w42.cell? ⟨gb84,4,none⟩=some (.slice A0_4 l0_4.length c0_4):=(blk_cell BK84.out 4).trans rfl
          have hfz52_0:=blk_frozen BK84.out 0
          have hfz52_1:=blk_frozen BK84.out 1
          have hfz52_2:=blk_frozen BK84.out 2
          have hfz52_3:=blk_frozen BK84.out 3
          have hfz52_4:=blk_frozen BK84.out 4
          go_wp2
          go_meet
          case rel=>exact ⟨_,((a0_0.toList == ([80,85,84]:List UInt8))),(by first|rfl|(simp;done)|(simp [*];done)),H',⟨by have:=HK1.out;first|omega|exact Nat.le_refl _⟩,⟨by (with_reducible repeat (first|apply Kd.R_alloc|apply Kd.R_drewN|apply Kd.R_drew));exact Kd.R_mono HO341.out (fun _ hk=>trivial)⟩,⟨by (with_reducible repeat (first|refine blk_drewN ?_ _|refine blk_drew ?_|refine blk_alloc ?_ _));exact BK84.out⟩,⟨by (with_reducible repeat (first|refine blk_drewN ?_ _|refine blk_drew ?_|refine blk_alloc ?_ _));exact BK86.out⟩,⟨by (with_reducible repeat (first|refine blk_drewN ?_ _|refine blk_drew ?_|refine blk_alloc ?_ _));exact BK85.out⟩,⟨by repeat (first|(with_reducible first|exact HB.out|apply below_alloc|apply pw_below_drewN|apply below_drew1|refine below_set ?_ GE84.out|refine below_set ?_ GE86.out|refine below_set ?_ GE85.out)|exact HB.out)⟩⟩
         ·rw [if_neg c49] at H
          have c49b0:(a0_0.toList == ([80,85,84]:List UInt8))=false:=beq_eq_false_iff_ne.mpr c49
          have c49b1:(a0_0.toList != ([80,85,84]:List UInt8))=true:=bne_iff_ne.mpr c49
          have H' := Aside0.mk H
          clear H
          have hnb53:=NB84_317.out
          have hnc53:=NB86_316.out
          have hnb54:=NB84_318.out
          have hnc54:=NB85_316.out
          have hcz55_0:w42.cell? ⟨gb84,0,none⟩=some (.string a0_0):=(blk_cell BK84.out 0).trans rfl
          have hcz55_1:w42.cell? ⟨gb84,1,none⟩=some (.string a0_1):=(blk_cell BK84.out 1).trans rfl
          have hcz55_2:w42.cell? ⟨gb84,2,none⟩=some (.int .i64 a0_2):=(blk_cell BK84.out 2).trans rfl
          have hcz55_3:w42.cell? ⟨gb84,3,none⟩=some (.slice A0_3 l0_3.length c0_3):=(blk_cell BK84.out 3).trans rfl
          have hcz55_4:w42.cell? ⟨gb84,4,none⟩=some (.slice A0_4 l0_4.length c0_4):=(blk_cell BK84.out 4).trans rfl
          have hfz55_0:=blk_frozen BK84.out 0
          have hfz55_1:=blk_frozen BK84.out 1
          have hfz55_2:=blk_frozen BK84.out 2
          have hfz55_3:=blk_frozen BK84.out 3
          have hfz55_4:=blk_frozen BK84.out 4
          go_wp2
          go_meet
          case rel=>exact ⟨_,((a0_0.toList == ([80,65,84,67,72]:List UInt8))),(by first|rfl|(simp;done)|(simp [*];done)),H',⟨by have:=HK1.out;first|omega|exact Nat.le_refl _⟩,⟨by (with_reducible repeat (first|apply Kd.R_alloc|apply Kd.R_drewN|apply Kd.R_drew));exact Kd.R_mono HO341.out (fun _ hk=>trivial)⟩,⟨by (with_reducible repeat (first|refine blk_drewN ?_ _|refine blk_drew ?_|refine blk_alloc ?_ _));exact BK84.out⟩,⟨by (with_reducible repeat (first|refine blk_drewN ?_ _|refine blk_drew ?_|refine blk_alloc ?_ _));exact BK86.out⟩,⟨by (with_reducible repeat (first|refine blk_drewN ?_ _|refine blk_drew ?_|refine blk_alloc ?_ _));exact BK85.out⟩,⟨by repeat (first|(with_reducible first|exact HB.out|apply below_alloc|apply pw_below_drewN|apply below_drew1|refine below_set ?_ GE84.out|refine below_set ?_ GE86.out|refine below_set ?_ GE85.out)|exact HB.out)⟩⟩
      case rest =>
       clear HC28
       try clear c1
       try clear c2
       try clear p2
       try clear c3
       try clear p3
       try clear q3
       try clear hx3
       try clear c4
       try clear c5
       try clear p6
       try clear c9
       try clear c10
       try clear c14
       try clear c14b0
       try clear c15
       try clear c15b0
       try clear c16
       try clear c16b0
       try clear c17
       try clear c19
       try clear c20
       try clear c21
       try clear c26
       try clear c27
       try clear c31
       try clear c32
       try clear p32
       try clear q32
       try clear hx32
       try clear c35
       try clear c36
       try clear c37
       try clear c40
       try clear c44
       try clear c44b0
       try clear c44b1
       try clear c45
       try clear c45b0
       try clear c45b1
       try clear c46
       try clear c47
       try clear c49
       try clear c49b0
       try clear c49b1
       try clear c50
       try clear c51
       try clear c53
       try clear c54
       try clear hcz11_0
       try clear hcz11_1
       try clear hcz11_2
       try clear hcz11_3
       try clear hcz11_4
       try clear hcz11_5
       try clear hcz11_6
       try clear hcz11_7
       try clear hcz13_0
       try clear hcz13_1
       try clear hcz13_2
       try clear hcz13_3
       try clear hcz13_4
       try clear hcz13_5
       try clear hcz13_6
       try clear hcz13_7
       try clear hcz22_0
       try clear hcz22_1
       try clear hcz33_0
       try clear hcz33_1
       try clear hcz33_2
       try clear hcz33_3
       try clear hcz33_4
       try clear hcz41_0
       try clear hcz41_1
       try clear hcz41_2
       try clear hcz41_3
       try clear hcz41_4
       try clear hcz41_5
       try clear hcz41_6
       try clear hcz41_7
       try clear hcz43_0
       try clear hcz43_1
       try clear hcz43_2
       try clear hcz43_3
       try clear hcz43_4
       try clear hcz48_0
       try clear hcz48_1
       try clear hcz48_2
       try clear hcz48_3
       try clear hcz48_4
       try clear hcz52_0
       try clear hcz52_1
       try clear hcz52_2
       try clear hcz52_3
       try clear hcz52_4
       try clear hcz55_0
       try clear hcz55_1
       try clear hcz55_2
       try clear hcz55_3
       try clear hcz55_4
       try clear hfz11_0
       try clear hfz11_1
       try clear hfz11_2
       try clear hfz11_3
       try clear hfz11_4
       try clear hfz11_5
       try clear hfz11_6
       try clear hfz11_7
       try clear hfz13_0
       try clear hfz13_1
       try clear hfz13_2
       try clear hfz13_3
       try clear hfz13_4
       try clear hfz13_5
       try clear hfz13_6
       try clear hfz13_7
       try clear hfz22_0
       try clear hfz22_1
       try clear hfz33_0
       try clear hfz33_1
       try clear hfz33_2
       try clear hfz33_3
       try clear hfz33_4
       try clear hfz41_0
       try clear hfz41_1
       try clear hfz41_2
       try clear hfz41_3
       try clear hfz41_4
       try clear hfz41_5
       try clear hfz41_6
       try clear hfz41_7
       try clear hfz43_0
       try clear hfz43_1
       try clear hfz43_2
       try clear hfz43_3
       try clear hfz43_4
       try clear hfz48_0
       try clear hfz48_1
       try clear hfz48_2
       try clear hfz48_3
       try clear hfz48_4
       try clear hfz52_0
       try clear hfz52_1
       try clear hfz52_2
       try clear hfz52_3
       try clear hfz52_4
       try clear hfz55_0
       try clear hfz55_1
       try clear hfz55_2
       try clear hfz55_3
       try clear hfz55_4
       try clear hx89_0
       try clear hx89_1
       try clear p2
       try clear p89
       try clear q89
       obtain ⟨kq,x42_27,rfl,HA,HJ27,HO_12,BK84,BK86,BK85,HB⟩:=hcut
       cases kq with
       | zero=>exact absurd HA.out (by simp [scrub_Request.j1])
       | succ kj27 =>
        have H:=HA.out
        clear HA
        simp only [scrub_Request.j1] at H
        by_cases c56:x42_27=true
        ·subst c56
         have H1:((scrub_length.f (l0_4.length:Int)).bind fun bt342=>(if y88.length < 4398046511104 then ((bytes_Clone.f l0_4).bind fun t96=>(some (a0_0,a3,1,(y88 ++ [(⟨bt342.1,bt342.2⟩:S41)]),t96))) else (none)))=some (r1,r2,r3,r4,r5):=by rw [if_pos rfl] at H;exact H
         clear H
         have H:=H1
         clear H1
         replace H:=Option.bind_eq_some_iff.mp H
         obtain ⟨⟨t342,t343⟩,A570,H⟩:=H
         replace H:(if y88.length < 4398046511104 then ((bytes_Clone.f l0_4).bind fun t96=>(some (a0_0,a3,1,(y88 ++ [(⟨t342,t343⟩:S41)]),t96))) else (none))=some (r1,r2,r3,r4,r5):=H
         have A57:=Aside0.mk A570
         clear A570
         by_cases c58:y88.length < 4398046511104
         ·rw [if_pos c58] at H
          have LMc58:=Aside0.mk c58
          clear c58
          obtain ⟨y95,hy95⟩ : ∃ y_:List (S41),y_=(y88 ++ [(⟨t342,t343⟩:S41)]):=⟨_,rfl⟩
          replace H:((bytes_Clone.f l0_4).bind fun t96=>(some (a0_0,a3,1,y95,t96)))=some (r1,r2,r3,r4,r5):=by first|(rw [hy95];with_reducible exact H)|(have H2_:=(Option.bind_some _ _).symm.trans H;rw [hy95];with_reducible exact H2_)|(have H2_:=(Option.bind_some _ _).symm.trans H;with_reducible exact H2_)|with_reducible exact H|(rw [hy95];exact H)|exact H
          have Ny95:=Aside0.mk hy95
          clear hy95
          replace H:=Option.bind_eq_some_iff.mp H
          obtain ⟨t96,A590,H⟩:=H
          replace H:(some (a0_0,a3,1,y95,t96))=some (r1,r2,r3,r4,r5):=H
          have A59:=Aside0.mk A590
          clear A590
          simp only [Option.some.injEq,Prod.mk.injEq] at H
          obtain ⟨rfl,rfl,rfl,rfl,rfl⟩:=H
          have hnb60:=NB84_317.out
          have hnc60:=NB86_316.out
          have hnb61:=NB84_318.out
          have hnc61:=NB85_316.out
          have hcz62_0:wc.cell? ⟨gb84,0,none⟩=some (.string a0_0):=(blk_cell BK84.out 0).trans rfl
          have hcz62_1:wc.cell? ⟨gb84,1,none⟩=some (.string a0_1):=(blk_cell BK84.out 1).trans rfl
          have hcz62_2:wc.cell? ⟨gb84,2,none⟩=some (.int .i64 a0_2):=(blk_cell BK84.out 2).trans rfl
          have hcz62_3:wc.cell? ⟨gb84,3,none⟩=some (.slice A0_3 l0_3.length c0_3):=(blk_cell BK84.out 3).trans rfl
          have hcz62_4:wc.cell? ⟨gb84,4,none⟩=some (.slice A0_4 l0_4.length c0_4):=(blk_cell BK84.out 4).trans rfl
          have hfz62_0:=blk_frozen BK84.out 0
          have hfz62_1:=blk_frozen BK84.out 1
          have hfz62_2:=blk_frozen BK84.out 2
          have hfz62_3:=blk_frozen BK84.out 3
          have hfz62_4:=blk_frozen BK84.out 4
          try go_wp2_with (first|((with_reducible refine gate_callee (f:=38) rfl ?_);refine goesL_ (some 60) rfl rfl Tryd.func38 (by kernel_rfl) rfl #[.int .i64 (l0_4.length:Int)] rfl (by (try simp only [List.map_toArray,List.map_cons,List.map_nil]);first|done|rfl|(simp only [List.length_drop,List.length_take];rfl)) ?_;(with_reducible refine (scrub_length.calls (l0_4.length:Int) t342 t343 _ A57.out ?hT).mono ?_);(case hT=>exact HTB.out.below (by repeat (first|(with_reducible first|exact HB.out|apply below_alloc|apply pw_below_drewN|apply below_drew1|refine below_set ?_ GE84.out|refine below_set ?_ GE86.out|refine below_set ?_ GE85.out|refine below_set ?_ GE87.out)|exact HB.out)));rintro e w63 ⟨rfl,hb⟩;(try clear A57);refine ⟨_,rfl,?_⟩;have n0_:=Aside0.mk (Kd.R_below (by (with_reducible repeat (first|apply Kd.R_alloc|apply Kd.R_drewN|apply Kd.R_drew));exact HO_12.out) hb);have n1_:=Aside0.mk (blk_below (g:=gb84) (o:=.cells #[.string a0_0,.string a0_1,.int .i64 a0_2,.slice A0_3 l0_3.length c0_3,.slice A0_4 l0_4.length c0_4] 33 (0,0)) (by (with_reducible repeat (first|refine blk_drewN ?_ _|refine blk_drew ?_|refine blk_alloc ?_ _));exact BK84.out) hb);have n2_:=Aside0.mk (blk_below (g:=gb86) (o:=.cells #[.slice A1_0 l1_0.length c1_0,.slice A1_1 l1_1.length c1_1,.slice A1_2 l1_2.length c1_2,.slice A1_3 l1_3.length c1_3,.int .i64 a1_4,.int .i64 a1_5,.int .i64 a1_6,.int .i64 a1_7] 38 (0,0)) (by (with_reducible repeat (first|refine blk_drewN ?_ _|refine blk_drew ?_|refine blk_alloc ?_ _));exact BK86.out) hb);have n3_:=Aside0.mk (blk_below (g:=gb85) (o:=.cells #[.string (⟨#[]⟩:ByteArray),.string (⟨#[]⟩:ByteArray),.int .i64 0,.slice none 0 0,.slice none 0 0] 33 (0,0)) (by (with_reducible repeat (first|refine blk_drewN ?_ _|refine blk_drew ?_|refine blk_alloc ?_ _));exact BK85.out) hb);have n4_:=Aside0.mk (below_step (by repeat (first|(with_reducible first|exact HB.out|apply below_alloc|apply pw_below_drewN|apply below_drew1|refine below_set ?_ GE84.out|refine below_set ?_ GE86.out|refine below_set ?_ GE85.out)|exact HB.out)) hb);clear HO_12;clear BK84;clear BK86;clear BK85;clear HB;have HO_12:=n0_;have BK84:=n1_;have BK86:=n2_;have BK85:=n3_;have HB:=n4_;clear n0_ n1_ n2_ n3_ n4_;(try clear hb);(try clear hb2);(try clear hk);(try clear hi))|((with_reducible refine gate_builtin (b:=.append) (xs:=#[.tmp 56,.tmp 61]) rfl ?_);at_builtin;refine Kd.R_append k41 (w0:=w) w.heap.size rfl (.tmp 56) (.tmp 61) 31 41 (.agg #[(.string ⟨#[]⟩),(.string ⟨#[]⟩)]) 32 rfl Tryd.underlying31 info41 rfl (by decide) (by omega) v340 y88 (⟨t342,t343⟩:S41) [.string t342,.string t343] (fun _=>True) (fun _=>False) rfl rfl ?aP (fun _ hk=>hk.elim) ?aF ?aO ?aB ?aS ?aL ?_;(case aP=>exact k41_mkM _ _ _ (⟨t342,t343⟩:S41));(case aB=>exact (by repeat (first|(with_reducible first|exact HB.out|apply below_alloc|apply pw_below_drewN|apply below_drew1|refine below_set ?_ GE84.out|refine below_set ?_ GE86.out|refine below_set ?_ GE85.out)|exact HB.out)));(case aF=>exact (fun _ _=>trivial));(case aO=>exact (by (with_reducible repeat (first|apply Kd.R_alloc|apply Kd.R_drewN|apply Kd.R_drew));exact HO_12.out));(case aS=>exact (below_size (by repeat (first|(with_reducible first|exact HB.out|apply below_alloc|apply pw_below_drewN|apply below_drew1|refine below_set ?_ GE84.out|refine below_set ?_ GE86.out|refine below_set ?_ GE85.out)|exact HB.out))));(case aL=>have:=LMc58.out;omega);intro v345 w64 ho hb hg hat;rw [← Ny95.out] at ho;have n0_:=Aside0.mk (blk_grown (g:=gb84) (o:=.cells #[.string a0_0,.string a0_1,.int .i64 a0_2,.slice A0_3 l0_3.length c0_3,.slice A0_4 l0_4.length c0_4] 33 (0,0)) (by (with_reducible repeat (first|refine blk_drewN ?_ _|refine blk_drew ?_|refine blk_alloc ?_ _));exact BK84.out) hg (Kd.R_ne HO_12.out BK84.out (by decide)));have n1_:=Aside0.mk (blk_grown (g:=gb86) (o:=.cells #[.slice A1_0 l1_0.length c1_0,.slice A1_1 l1_1.length c1_1,.slice A1_2 l1_2.length c1_2,.slice A1_3 l1_3.length c1_3,.int .i64 a1_4,.int .i64 a1_5,.int .i64 a1_6,.int .i64 a1_7] 38 (0,0)) (by (with_reducible repeat (first|refine blk_drewN ?_ _|refine blk_drew ?_|refine blk_alloc ?_ _));exact BK86.out) hg (Kd.R_ne HO_12.out BK86.out (by decide)));have n2_:=Aside0.mk (blk_grown (g:=gb85) (o:=.cells #[.string (⟨#[]⟩:ByteArray),.string (⟨#[]⟩:ByteArray),.int .i64 0,.slice none 0 0,.slice none 0 0] 33 (0,0)) (by (with_reducible repeat (first|refine blk_drewN ?_ _|refine blk_drew ?_|refine blk_alloc ?_ _));exact BK85.out) hg (Kd.R_ne HO_12.out BK85.out (by decide)));have n3_:=Aside0.mk (hb);have n4_:=Aside0.mk (ho);clear BK84;clear BK86;clear BK85;clear HB;clear HO_12;have BK84:=n0_;have BK86:=n1_;have BK85:=n2_;have HB:=n3_;have HO346:=n4_;clear n0_ n1_ n2_ n3_ n4_;clear ho hb hg hat))
          replace HO346:=Aside0.mk (Kd.R_drew HO346.out)
          replace BK84:=Aside0.mk (blk_drew BK84.out)
          replace BK86:=Aside0.mk (blk_drew BK86.out)
          replace BK85:=Aside0.mk (blk_drew BK85.out)
          replace HB:=Aside0.mk (below_drew1 HB.out)
          refine start_ (n:=9) (S:=fun w' => w'.cell? ⟨gb84,0,none⟩=some (.string a0_0)∧w'.cell? ⟨gb84,1,none⟩=some (.string a0_1)∧w'.cell? ⟨gb84,2,none⟩=some (.int .i64 a0_2)∧w'.cell? ⟨gb84,3,none⟩=some (.slice A0_3 l0_3.length c0_3)∧w'.cell? ⟨gb84,4,none⟩=some (.slice A0_4 l0_4.length c0_4)) (ds:=[]) #[false,false,false,false,false,false,false,false,false] (by kernel_rfl) rfl rfl ⟨(blk_cell BK84.out 0).trans rfl,(blk_cell BK84.out 1).trans rfl,(blk_cell BK84.out 2).trans rfl,(blk_cell BK84.out 3).trans rfl,(blk_cell BK84.out 4).trans rfl⟩ (fun hHeld=>?_);refine with_tabW scrub_Request.tab14 scrub_Request.bits14 (fun HT_ HW_=>?_)
          generalize w64.drew=w65 at HO346 BK84 BK86 BK85 HB hHeld ⊢
          refine pure_ (i:=0) (N:=some 63) (v:=?_) (a' := ?_) #[true,false,false,false,false,false,false,false,false] rfl rfl (any_of HT_.out (by kernel_rfl)) (fun _ _ _ h=>h) (Or.inl ⟨by rfl,?_⟩) ?_ ?_
          rotate_left
          ·intro w';go_simp;with_reducible rfl
          rotate_left
          ·simp only [Act.put,zqA,zqB,zqC,i64_w,i32_w];rfl
          refine pure_ (i:=2) (N:=some 65) (v:=?_) (a' := ?_) #[true,false,true,false,false,false,false,false,false] rfl rfl (any_of HT_.out (by kernel_rfl)) (fun _ _ _ h=>h) (Or.inl ⟨by rfl,?_⟩) ?_ ?_
          rotate_left
          ·intro w';go_simp;with_reducible rfl
          rotate_left
          ·simp only [Act.put,zqA,zqB,zqC,i64_w,i32_w];rfl
          refine pure_ (i:=3) (N:=some 66) (v:=?_) (a' := ?_) #[true,false,true,true,false,false,false,false,false] rfl rfl (any_of HT_.out (by kernel_rfl)) (fun _ _ _ h=>h) (Or.inl ⟨by rfl,?_⟩) ?_ ?_
          rotate_left
          ·intro w';go_simp;with_reducible rfl
          rotate_left
          ·simp only [Act.put,zqA,zqB,zqC,i64_w,i32_w];rfl
          refine pure_ (i:=4) (N:=some 67) (v:=?_) (a' := ?_) #[true,false,true,true,true,false,false,false,false] rfl rfl (any_of HT_.out (by kernel_rfl)) (fun _ _ _ h=>h) (Or.inl ⟨by rfl,?_⟩) ?_ ?_
          rotate_left
          ·intro w';go_simp;with_reducible rfl
          rotate_left
          ·simp only [Act.put,zqA,zqB,zqC,i64_w,i32_w];rfl
          refine take_ (i:=1) (N:=some 64) (v:=?_) (a' := ?_) #[true,true,true,true,true,false,false,false,false] rfl rfl (take_ofW HT_.out HW_.out (by kernel_rfl)) (fun _ _ _ h=>h) (Or.inl ⟨by rfl,?_⟩) hHeld ?_ ?_
          rotate_left
          ·rintro w' ⟨s0,s1,s2,s3,s4⟩;go_simp;with_reducible rfl
          rotate_left
          ·simp only [Act.put,zqA,zqB,zqC,i64_w,i32_w];rfl
          refine take_ (i:=5) (N:=some 68) (v:=?_) (a' := ?_) #[true,true,true,true,true,true,false,false,false] rfl rfl (take_ofW HT_.out HW_.out (by kernel_rfl)) (fun _ _ _ h=>h) (Or.inl ⟨by rfl,?_⟩) hHeld ?_ ?_
          rotate_left
          ·rintro w' ⟨s0,s1,s2,s3,s4⟩;go_simp;with_reducible rfl
          rotate_left
          ·simp only [Act.put,zqA,zqB,zqC,i64_w,i32_w];rfl
          refine one_ (i:=6) (N:=some 69) #[true,true,true,true,true,true,true,false,false] rfl rfl (one_of HT_.out (by kernel_rfl)) (by decide) (fun K hK=>?_)
          refine goes_ Tryd.func39 (by kernel_rfl) rfl #[.slice A0_4 l0_4.length c0_4] (by rfl) rfl rfl (by (try simp only [List.map_toArray,List.map_cons,List.map_nil]);first|done|rfl|(simp only [List.length_drop,List.length_take];rfl)) ?_
          with_reducible refine (bytes_Clone.calls _ _ l0_4 t96 _ ?side1 ?side2 A59.out).mono ?_
          (case side1=>repeat (first|exact (Kd.C_below HR0_4.out HB.out)|(with_reducible refine Kd.C_alloc ?_ _)|(with_reducible refine Kd.C_drewN ?_ _)|(with_reducible refine Kd.C_drew ?_)))
          (case side2=>exact HC0_4.out)
          rintro e w66 ⟨v348,rfl,ho0,hb⟩
          refine ⟨_,rfl,?_⟩
          have n0_:=Aside0.mk (Kd.R_below (by (with_reducible repeat (first|apply Kd.R_alloc|apply Kd.R_drewN|apply Kd.R_drew));exact HO346.out) hb)
          have n1_:=Aside0.mk (Kd.R_lower ho0 (below_size (by repeat (first|(with_reducible first|exact HB.out|apply below_alloc|apply pw_below_drewN|apply below_drew1|refine below_set ?_ GE84.out|refine below_set ?_ GE86.out|refine below_set ?_ GE85.out)|exact HB.out))))
          have n2_:=Aside0.mk (blk_below (g:=gb84) (o:=.cells #[.string a0_0,.string a0_1,.int .i64 a0_2,.slice A0_3 l0_3.length c0_3,.slice A0_4 l0_4.length c0_4] 33 (0,0)) (by (with_reducible repeat (first|refine blk_drewN ?_ _|refine blk_drew ?_|refine blk_alloc ?_ _));exact BK84.out) hb)
          have n3_:=Aside0.mk (blk_below (g:=gb86) (o:=.cells #[.slice A1_0 l1_0.length c1_0,.slice A1_1 l1_1.length c1_1,.slice A1_2 l1_2.length c1_2,.slice A1_3 l1_3.length c1_3,.int .i64 a1_4,.int .i64 a1_5,.int .i64 a1_6,.int .i64 a1_7] 38 (0,0)) (by (with_reducible repeat (first|refine blk_drewN ?_ _|refine blk_drew ?_|refine blk_alloc ?_ _));exact BK86.out) hb)
          have n4_:=Aside0.mk (blk_below (g:=gb85) (o:=.cells #[.string (⟨#[]⟩:ByteArray),.string (⟨#[]⟩:ByteArray),.int .i64 0,.slice none 0 0,.slice none 0 0] 33 (0,0)) (by (with_reducible repeat (first|refine blk_drewN ?_ _|refine blk_drew ?_|refine blk_alloc ?_ _));exact BK85.out) hb)
          have n5_:=Aside0.mk (below_step (by repeat (first|(with_reducible first|exact HB.out|apply below_alloc|apply pw_below_drewN|apply below_drew1|refine below_set ?_ GE84.out|refine below_set ?_ GE86.out|refine below_set ?_ GE85.out)|exact HB.out)) hb)
          clear HO346 BK84 BK86 BK85 HB
          have HO346:=n0_
          have HO349:=n1_
          have BK84:=n2_
          have BK86:=n3_
          have BK85:=n4_
          have HB:=n5_
          clear n0_ n1_ n2_ n3_ n4_ n5_
          (try clear hb)
          (try clear hb2)
          (try clear hk)
          (try clear hi)
          (try clear ho0)
          obtain ⟨Ao67,co67,eo67⟩:=Kd.R_slice HO349.out
          (first|subst eo67|(injection eo67 with f1_ f2_ f3_;have f4_:=f1_.symm;have f5_:=f3_.symm;clear f1_ f2_ f3_;subst f4_;subst f5_))
          obtain ⟨Ao68,co68,eo68⟩:=Kd.R_slice HO346.out
          (first|subst eo68|(injection eo68 with f1_ f2_ f3_;have f4_:=f1_.symm;have f5_:=f3_.symm;clear f1_ f2_ f3_;subst f4_;subst f5_))
          refine hK.out _ _ ⟨(blk_cell BK84.out 0).trans rfl,(blk_cell BK84.out 1).trans rfl,(blk_cell BK84.out 2).trans rfl,(blk_cell BK84.out 3).trans rfl,(blk_cell BK84.out 4).trans rfl⟩ (fun hHeld=>?_)
          clear hK K
          refine norm_ (a' := ?_) ?_ ?_
          rotate_left
          ·show Act.put _ (some 69) _=_
           simp only [Act.put,zqA,zqB,zqC,i64_w,i32_w]
           rfl
          refine pure_ (i:=7) (N:=some 70) (v:=?_) (a' := ?_) #[true,true,true,true,true,true,true,true,false] rfl rfl (any_of HT_.out (by kernel_rfl)) (fun _ _ _ h=>h) (Or.inl ⟨by rfl,?_⟩) ?_ ?_
          rotate_left
          ·intro w';go_simp;with_reducible rfl
          rotate_left
          ·simp only [Act.put,zqA,zqB,zqC,i64_w,i32_w];rfl
          refine one_ (i:=8) (N:=none) #[true,true,true,true,true,true,true,true,true] rfl rfl (one_of HT_.out (by kernel_rfl)) (by decide) (fun K hK=>?_)
          have hs69:w66.cell? ⟨gb85,0,none⟩=some (.string (⟨#[]⟩:ByteArray)):=(blk_cell BK85.out 0).trans rfl
          have hfs69:=blk_frozen BK85.out 0
          have hns69_0:=NB84_318.out
          have hns69_1:=NB86_318.out
          have hms69_0:=NB85_316.out
          have hms69_1:=NB85_317.out
          have hs70:w66.cell? ⟨gb85,1,none⟩=some (.string (⟨#[]⟩:ByteArray)):=(blk_cell BK85.out 1).trans rfl
          have hfs70:=blk_frozen BK85.out 1
          have hns70_0:=NB84_318.out
          have hns70_1:=NB86_318.out
          have hms70_0:=NB85_316.out
          have hms70_1:=NB85_317.out
          have hs71:w66.cell? ⟨gb85,2,none⟩=some (.int .i64 0):=(blk_cell BK85.out 2).trans rfl
          have hfs71:=blk_frozen BK85.out 2
          have hns71_0:=NB84_318.out
          have hns71_1:=NB86_318.out
          have hms71_0:=NB85_316.out
          have hms71_1:=NB85_317.out
          have hs72:w66.cell? ⟨gb85,3,none⟩=some (.slice none 0 0):=(blk_cell BK85.out 3).trans rfl
          have hfs72:=blk_frozen BK85.out 3
          have hns72_0:=NB84_318.out
          have hns72_1:=NB86_318.out
          have hms72_0:=NB85_316.out
          have hms72_1:=NB85_317.out
          have hs73:w66.cell? ⟨gb85,4,none⟩=some (.slice none 0 0):=(blk_cell BK85.out 4).trans rfl
          have hfs73:=blk_frozen BK85.out 4
          have hns73_0:=NB84_318.out
          have hns73_1:=NB86_318.out
          have hms73_0:=NB85_316.out
          have hms73_1:=NB85_317.out
          refine skip_ (w1:=?_) (by rfl) rfl ?_ ?_
          rotate_left
          ·go_simp
           rfl
          refine hK.out _ _ ⟨((cell_far (p:=⟨gb85,_,none⟩) NB84_318.out _).trans (((cell_far (p:=⟨gb85,_,none⟩) NB84_318.out _).trans (((cell_far (p:=⟨gb85,_,none⟩) NB84_318.out _).trans (((cell_far (p:=⟨gb85,_,none⟩) NB84_318.out _).trans (((cell_far (p:=⟨gb85,_,none⟩) NB84_318.out _).trans (hHeld.1)))))))))),((cell_far (p:=⟨gb85,_,none⟩) NB84_318.out _).trans (((cell_far (p:=⟨gb85,_,none⟩) NB84_318.out _).trans (((cell_far (p:=⟨gb85,_,none⟩) NB84_318.out _).trans (((cell_far (p:=⟨gb85,_,none⟩) NB84_318.out _).trans (((cell_far (p:=⟨gb85,_,none⟩) NB84_318.out _).trans (hHeld.2.1)))))))))),((cell_far (p:=⟨gb85,_,none⟩) NB84_318.out _).trans (((cell_far (p:=⟨gb85,_,none⟩) NB84_318.out _).trans (((cell_far (p:=⟨gb85,_,none⟩) NB84_318.out _).trans (((cell_far (p:=⟨gb85,_,none⟩) NB84_318.out _).trans (((cell_far (p:=⟨gb85,_,none⟩) NB84_318.out _).trans (hHeld.2.2.1)))))))))),((cell_far (p:=⟨gb85,_,none⟩) NB84_318.out _).trans (((cell_far (p:=⟨gb85,_,none⟩) NB84_318.out _).trans (((cell_far (p:=⟨gb85,_,none⟩) NB84_318.out _).trans (((cell_far (p:=⟨gb85,_,none⟩) NB84_318.out _).trans (((cell_far (p:=⟨gb85,_,none⟩) NB84_318.out _).trans (hHeld.2.2.2.1)))))))))),((cell_far (p:=⟨gb85,_,none⟩) NB84_318.out _).trans (((cell_far (p:=⟨gb85,_,none⟩) NB84_318.out _).trans (((cell_far (p:=⟨gb85,_,none⟩) NB84_318.out _).trans (((cell_far (p:=⟨gb85,_,none⟩) NB84_318.out _).trans (((cell_far (p:=⟨gb85,_,none⟩) NB84_318.out _).trans (hHeld.2.2.2.2))))))))))⟩ (fun hHeld=>?_)
          clear hK K
          refine done_ (done_of HT_.out (by kernel_rfl)) ?_
          try go_wp2
          refine bodyPost_ret (results_cell_row rfl _ _ gb85 33 #[.string a0_0,.string a3,.int .i64 1,.slice Ao68 y95.length co68,.slice Ao67 t96.length co67] (0,0) _ rfl (by (with_reducible repeat (first|refine blk_drewN ?_ _|refine blk_drew ?_|refine blk_alloc ?_ _));refine blk_put (cs:=#[.string a0_0,.string a3,.int .i64 1,.slice Ao68 y95.length co68,.slice none 0 0]) ?_ 4 _ rfl;(with_reducible repeat (first|refine blk_drewN ?_ _|refine blk_drew ?_|refine blk_alloc ?_ _));refine blk_put (cs:=#[.string a0_0,.string a3,.int .i64 1,.slice none 0 0,.slice none 0 0]) ?_ 3 _ rfl;(with_reducible repeat (first|refine blk_drewN ?_ _|refine blk_drew ?_|refine blk_alloc ?_ _));refine blk_put (cs:=#[.string a0_0,.string a3,.int .i64 0,.slice none 0 0,.slice none 0 0]) ?_ 2 _ rfl;(with_reducible repeat (first|refine blk_drewN ?_ _|refine blk_drew ?_|refine blk_alloc ?_ _));refine blk_put (cs:=#[.string a0_0,.string (⟨#[]⟩:ByteArray),.int .i64 0,.slice none 0 0,.slice none 0 0]) ?_ 1 _ rfl;(with_reducible repeat (first|refine blk_drewN ?_ _|refine blk_drew ?_|refine blk_alloc ?_ _));refine blk_put (cs:=#[.string (⟨#[]⟩:ByteArray),.string (⟨#[]⟩:ByteArray),.int .i64 0,.slice none 0 0,.slice none 0 0]) ?_ 0 _ rfl;(with_reducible repeat (first|refine blk_drewN ?_ _|refine blk_drew ?_|refine blk_alloc ?_ _));exact BK85.out) Tryd.underlying33 rfl (by kernel_rfl)) rfl ?_
          exact ⟨_,_,by first|rfl|(simp [errW_none,errW_some] <;> rfl)|(simp [*,errW_none,errW_some] <;> rfl),by (with_reducible repeat (first|apply Kd.R_alloc|apply Kd.R_drewN|apply Kd.R_drew));exact Kd.R_mono (Kd.R_far (p:=⟨gb85,4,none⟩) (Kd.R_far (p:=⟨gb85,3,none⟩) (Kd.R_far (p:=⟨gb85,2,none⟩) (Kd.R_far (p:=⟨gb85,1,none⟩) (Kd.R_far (p:=⟨gb85,0,none⟩) (Kd.R_types HO346.out BK85.out (by decide)) (fun _ hk=>hk.2) (.string a0_0)) (fun _ hk=>hk.2) (.string a3)) (fun _ hk=>hk.2) (.int .i64 1)) (fun _ hk=>hk.2) (.slice Ao68 y95.length co68)) (fun _ hk=>hk.2) (.slice Ao67 t96.length co67)) (fun _ hk=>trivial),by (with_reducible repeat (first|apply Kd.R_alloc|apply Kd.R_drewN|apply Kd.R_drew));exact Kd.R_mono (Kd.R_far (p:=⟨gb85,4,none⟩) (Kd.R_far (p:=⟨gb85,3,none⟩) (Kd.R_far (p:=⟨gb85,2,none⟩) (Kd.R_far (p:=⟨gb85,1,none⟩) (Kd.R_far (p:=⟨gb85,0,none⟩) (Kd.R_types HO349.out BK85.out (by decide)) (fun _ hk=>hk.2) (.string a0_0)) (fun _ hk=>hk.2) (.string a3)) (fun _ hk=>hk.2) (.int .i64 1)) (fun _ hk=>hk.2) (.slice Ao68 y95.length co68)) (fun _ hk=>hk.2) (.slice Ao67 t96.length co67)) (fun _ hk=>trivial),by repeat (first|(with_reducible first|exact HB.out|apply below_alloc|apply pw_below_drewN|apply below_drew1|refine below_set ?_ GE84.out|refine below_set ?_ GE86.out|refine below_set ?_ GE85.out)|exact HB.out)⟩
         ·rw [if_neg c58] at H
          exact absurd H (by simp)
        ·replace c56:=Bool.eq_false_iff.mpr c56
         subst c56
         have H1:((bytes_Clone.f l0_4).bind fun t350=>(some (a0_0,a3,1,y88,t350)))=some (r1,r2,r3,r4,r5):=by rw [if_neg (show ¬ (false=true) by decide)] at H;exact H
         clear H
         have H:=H1
         clear H1
         replace H:=Option.bind_eq_some_iff.mp H
         obtain ⟨t350,A740,H⟩:=H
         replace H:(some (a0_0,a3,1,y88,t350))=some (r1,r2,r3,r4,r5):=H
         have A74:=Aside0.mk A740
         clear A740
         simp only [Option.some.injEq,Prod.mk.injEq] at H
         obtain ⟨rfl,rfl,rfl,rfl,rfl⟩:=H
         try go_wp2
         replace HO_12:=Aside0.mk (Kd.R_drew HO_12.out)
         replace BK84:=Aside0.mk (blk_drew BK84.out)
         replace BK86:=Aside0.mk (blk_drew BK86.out)
         replace BK85:=Aside0.mk (blk_drew BK85.out)
         replace HB:=Aside0.mk (below_drew1 HB.out)
         refine start_ (n:=9) (S:=fun w' => w'.cell? ⟨gb84,0,none⟩=some (.string a0_0)∧w'.cell? ⟨gb84,1,none⟩=some (.string a0_1)∧w'.cell? ⟨gb84,2,none⟩=some (.int .i64 a0_2)∧w'.cell? ⟨gb84,3,none⟩=some (.slice A0_3 l0_3.length c0_3)∧w'.cell? ⟨gb84,4,none⟩=some (.slice A0_4 l0_4.length c0_4)) (ds:=[]) #[false,false,false,false,false,false,false,false,false] (by kernel_rfl) rfl rfl ⟨(blk_cell BK84.out 0).trans rfl,(blk_cell BK84.out 1).trans rfl,(blk_cell BK84.out 2).trans rfl,(blk_cell BK84.out 3).trans rfl,(blk_cell BK84.out 4).trans rfl⟩ (fun hHeld=>?_);refine with_tabW scrub_Request.tab14 scrub_Request.bits14 (fun HT_ HW_=>?_)
         generalize wc.drew=w75 at HO_12 BK84 BK86 BK85 HB hHeld ⊢
         refine pure_ (i:=0) (N:=some 63) (v:=?_) (a' := ?_) #[true,false,false,false,false,false,false,false,false] rfl rfl (any_of HT_.out (by kernel_rfl)) (fun _ _ _ h=>h) (Or.inl ⟨by rfl,?_⟩) ?_ ?_
         rotate_left
         ·intro w';go_simp;with_reducible rfl
         rotate_left
         ·simp only [Act.put,zqA,zqB,zqC,i64_w,i32_w];rfl
         refine pure_ (i:=2) (N:=some 65) (v:=?_) (a' := ?_) #[true,false,true,false,false,false,false,false,false] rfl rfl (any_of HT_.out (by kernel_rfl)) (fun _ _ _ h=>h) (Or.inl ⟨by rfl,?_⟩) ?_ ?_
         rotate_left
         ·intro w';go_simp;with_reducible rfl
         rotate_left
         ·simp only [Act.put,zqA,zqB,zqC,i64_w,i32_w];rfl
         refine pure_ (i:=3) (N:=some 66) (v:=?_) (a' := ?_) #[true,false,true,true,false,false,false,false,false] rfl rfl (any_of HT_.out (by kernel_rfl)) (fun _ _ _ h=>h) (Or.inl ⟨by rfl,?_⟩) ?_ ?_
         rotate_left
         ·intro w';go_simp;with_reducible rfl
         rotate_left
         ·simp only [Act.put,zqA,zqB,zqC,i64_w,i32_w];rfl
         refine pure_ (i:=4) (N:=some 67) (v:=?_) (a' := ?_) #[true,false,true,true,true,false,false,false,false] rfl rfl (any_of HT_.out (by kernel_rfl)) (fun _ _ _ h=>h) (Or.inl ⟨by rfl,?_⟩) ?_ ?_
         rotate_left
         ·intro w';go_simp;with_reducible rfl
         rotate_left
         ·simp only [Act.put,zqA,zqB,zqC,i64_w,i32_w];rfl
         refine take_ (i:=1) (N:=some 64) (v:=?_) (a' := ?_) #[true,true,true,true,true,false,false,false,false] rfl rfl (take_ofW HT_.out HW_.out (by kernel_rfl)) (fun _ _ _ h=>h) (Or.inl ⟨by rfl,?_⟩) hHeld ?_ ?_
         rotate_left
         ·rintro w' ⟨s0,s1,s2,s3,s4⟩;go_simp;with_reducible rfl
         rotate_left
         ·simp only [Act.put,zqA,zqB,zqC,i64_w,i32_w];rfl
         refine take_ (i:=5) (N:=some 68) (v:=?_) (a' := ?_) #[true,true,true,true,true,true,false,false,false] rfl rfl (take_ofW HT_.out HW_.out (by kernel_rfl)) (fun _ _ _ h=>h) (Or.inl ⟨by rfl,?_⟩) hHeld ?_ ?_
         rotate_left
         ·rintro w' ⟨s0,s1,s2,s3,s4⟩;go_simp;with_reducible rfl
         rotate_left
         ·simp only [Act.put,zqA,zqB,zqC,i64_w,i32_w];rfl
         refine one_ (i:=6) (N:=some 69) #[true,true,true,true,true,true,true,false,false] rfl rfl (one_of HT_.out (by kernel_rfl)) (by decide) (fun K hK=>?_)
         refine goes_ Tryd.func39 (by kernel_rfl) rfl #[.slice A0_4 l0_4.length c0_4] (by rfl) rfl rfl (by (try simp only [List.map_toArray,List.map_cons,List.map_nil]);first|done|rfl|(simp only [List.length_drop,List.length_take];rfl)) ?_
         with_reducible refine (bytes_Clone.calls _ _ l0_4 t350 _ ?side1 ?side2 A74.out).mono ?_
         (case side1=>repeat (first|exact (Kd.C_below HR0_4.out HB.out)|(with_reducible refine Kd.C_alloc ?_ _)|(with_reducible refine Kd.C_drewN ?_ _)|(with_reducible refine Kd.C_drew ?_)))
         (case side2=>exact HC0_4.out)
         rintro e w76 ⟨v351,rfl,ho0,hb⟩
         refine ⟨_,rfl,?_⟩
         have n0_:=Aside0.mk (Kd.R_below (by (with_reducible repeat (first|apply Kd.R_alloc|apply Kd.R_drewN|apply Kd.R_drew));exact HO_12.out) hb)
         have n1_:=Aside0.mk (Kd.R_lower ho0 (below_size (by repeat (first|(with_reducible first|exact HB.out|apply below_alloc|apply pw_below_drewN|apply below_drew1|refine below_set ?_ GE84.out|refine below_set ?_ GE86.out|refine below_set ?_ GE85.out)|exact HB.out))))
         have n2_:=Aside0.mk (blk_below (g:=gb84) (o:=.cells #[.string a0_0,.string a0_1,.int .i64 a0_2,.slice A0_3 l0_3.length c0_3,.slice A0_4 l0_4.length c0_4] 33 (0,0)) (by (with_reducible repeat (first|refine blk_drewN ?_ _|refine blk_drew ?_|refine blk_alloc ?_ _));exact BK84.out) hb)
         have n3_:=Aside0.mk (blk_below (g:=gb86) (o:=.cells #[.slice A1_0 l1_0.length c1_0,.slice A1_1 l1_1.length c1_1,.slice A1_2 l1_2.length c1_2,.slice A1_3 l1_3.length c1_3,.int .i64 a1_4,.int .i64 a1_5,.int .i64 a1_6,.int .i64 a1_7] 38 (0,0)) (by (with_reducible repeat (first|refine blk_drewN ?_ _|refine blk_drew ?_|refine blk_alloc ?_ _));exact BK86.out) hb)
         have n4_:=Aside0.mk (blk_below (g:=gb85) (o:=.cells #[.string (⟨#[]⟩:ByteArray),.string (⟨#[]⟩:ByteArray),.int .i64 0,.slice none 0 0,.slice none 0 0] 33 (0,0)) (by (with_reducible repeat (first|refine blk_drewN ?_ _|refine blk_drew ?_|refine blk_alloc ?_ _));exact BK85.out) hb)
         have n5_:=Aside0.mk (below_step (by repeat (first|(with_reducible first|exact HB.out|apply below_alloc|apply pw_below_drewN|apply below_drew1|refine below_set ?_ GE84.out|refine below_set ?_ GE86.out|refine below_set ?_ GE85.out)|exact HB.out)) hb)
         clear HO_12 BK84 BK86 BK85 HB
         have HO_12:=n0_
         have HO352:=n1_
         have BK84:=n2_
         have BK86:=n3_
         have BK85:=n4_
         have HB:=n5_
         clear n0_ n1_ n2_ n3_ n4_ n5_
         (try clear hb)
         (try clear hb2)
         (try clear hk)
         (try clear hi)
         (try clear ho0)
         obtain ⟨Ao77,co77,eo77⟩:=Kd.R_slice HO352.out
         (first|subst eo77|(injection eo77 with f1_ f2_ f3_;have f4_:=f1_.symm;have f5_:=f3_.symm;clear f1_ f2_ f3_;subst f4_;subst f5_))
         obtain ⟨Ao78,co78,eo78⟩:=Kd.R_slice HO_12.out
         (first|subst eo78|(injection eo78 with f1_ f2_ f3_;have f4_:=f1_.symm;have f5_:=f3_.symm;clear f1_ f2_ f3_;subst f4_;subst f5_))
         refine hK.out _ _ ⟨(blk_cell BK84.out 0).trans rfl,(blk_cell BK84.out 1).trans rfl,(blk_cell BK84.out 2).trans rfl,(blk_cell BK84.out 3).trans rfl,(blk_cell BK84.out 4).trans rfl⟩ (fun hHeld=>?_)
         clear hK K
         refine norm_ (a' := ?_) ?_ ?_
         rotate_left
         ·show Act.put _ (some 69) _=_
          simp only [Act.put,zqA,zqB,zqC,i64_w,i32_w]
          rfl
         refine pure_ (i:=7) (N:=some 70) (v:=?_) (a' := ?_) #[true,true,true,true,true,true,true,true,false] rfl rfl (any_of HT_.out (by kernel_rfl)) (fun _ _ _ h=>h) (Or.inl ⟨by rfl,?_⟩) ?_ ?_
         rotate_left
         ·intro w';go_simp;with_reducible rfl
         rotate_left
         ·simp only [Act.put,zqA,zqB,zqC,i64_w,i32_w];rfl
         refine one_ (i:=8) (N:=none) #[true,true,true,true,true,true,true,true,true] rfl rfl (one_of HT_.out (by kernel_rfl)) (by decide) (fun K hK=>?_)
         have hs79:w76.cell? ⟨gb85,0,none⟩=some (.string (⟨#[]⟩:ByteArray)):=(blk_cell BK85.out 0).trans rfl
         have hfs79:=blk_frozen BK85.out 0
         have hns79_0:=NB84_318.out
         have hns79_1:=NB86_318.out
         have hms79_0:=NB85_316.out
         have hms79_1:=NB85_317.out
         have hs80:w76.cell? ⟨gb85,1,none⟩=some (.string (⟨#[]⟩:ByteArray)):=(blk_cell BK85.out 1).trans rfl
         have hfs80:=blk_frozen BK85.out 1
         have hns80_0:=NB84_318.out
         have hns80_1:=NB86_318.out
         have hms80_0:=NB85_316.out
         have hms80_1:=NB85_317.out
         have hs81:w76.cell? ⟨gb85,2,none⟩=some (.int .i64 0):=(blk_cell BK85.out 2).trans rfl
         have hfs81:=blk_frozen BK85.out 2
         have hns81_0:=NB84_318.out
         have hns81_1:=NB86_318.out
         have hms81_0:=NB85_316.out
         have hms81_1:=NB85_317.out
         have hs82:w76.cell? ⟨gb85,3,none⟩=some (.slice none 0 0):=(blk_cell BK85.out 3).trans rfl
         have hfs82:=blk_frozen BK85.out 3
         have hns82_0:=NB84_318.out
         have hns82_1:=NB86_318.out
         have hms82_0:=NB85_316.out
         have hms82_1:=NB85_317.out
         have hs83:w76.cell? ⟨gb85,4,none⟩=some (.slice none 0 0):=(blk_cell BK85.out 4).trans rfl
         have hfs83:=blk_frozen BK85.out 4
         have hns83_0:=NB84_318.out
         have hns83_1:=NB86_318.out
         have hms83_0:=NB85_316.out
         have hms83_1:=NB85_317.out
         refine skip_ (w1:=?_) (by rfl) rfl ?_ ?_
         rotate_left
         ·go_simp
          rfl
         refine hK.out _ _ ⟨((cell_far (p:=⟨gb85,_,none⟩) NB84_318.out _).trans (((cell_far (p:=⟨gb85,_,none⟩) NB84_318.out _).trans (((cell_far (p:=⟨gb85,_,none⟩) NB84_318.out _).trans (((cell_far (p:=⟨gb85,_,none⟩) NB84_318.out _).trans (((cell_far (p:=⟨gb85,_,none⟩) NB84_318.out _).trans (hHeld.1)))))))))),((cell_far (p:=⟨gb85,_,none⟩) NB84_318.out _).trans (((cell_far (p:=⟨gb85,_,none⟩) NB84_318.out _).trans (((cell_far (p:=⟨gb85,_,none⟩) NB84_318.out _).trans (((cell_far (p:=⟨gb85,_,none⟩) NB84_318.out _).trans (((cell_far (p:=⟨gb85,_,none⟩) NB84_318.out _).trans (hHeld.2.1)))))))))),((cell_far (p:=⟨gb85,_,none⟩) NB84_318.out _).trans (((cell_far (p:=⟨gb85,_,none⟩) NB84_318.out _).trans (((cell_far (p:=⟨gb85,_,none⟩) NB84_318.out _).trans (((cell_far (p:=⟨gb85,_,none⟩) NB84_318.out _).trans (((cell_far (p:=⟨gb85,_,none⟩) NB84_318.out _).trans (hHeld.2.2.1)))))))))),((cell_far (p:=⟨gb85,_,none⟩) NB84_318.out _).trans (((cell_far (p:=⟨gb85,_,none⟩) NB84_318.out _).trans (((cell_far (p:=⟨gb85,_,none⟩) NB84_318.out _).trans (((cell_far (p:=⟨gb85,_,none⟩) NB84_318.out _).trans (((cell_far (p:=⟨gb85,_,none⟩) NB84_318.out _).trans (hHeld.2.2.2.1)))))))))),((cell_far (p:=⟨gb85,_,none⟩) NB84_318.out _).trans (((cell_far (p:=⟨gb85,_,none⟩) NB84_318.out _).trans (((cell_far (p:=⟨gb85,_,none⟩) NB84_318.out _).trans (((cell_far (p:=⟨gb85,_,none⟩) NB84_318.out _).trans (((cell_far (p:=⟨gb85,_,none⟩) NB84_318.out _).trans (hHeld.2.2.2.2))))))))))⟩ (fun hHeld=>?_)
         clear hK K
         refine done_ (done_of HT_.out (by kernel_rfl)) ?_
         try go_wp2
         refine bodyPost_ret (results_cell_row rfl _ _ gb85 33 #[.string a0_0,.string a3,.int .i64 1,.slice Ao78 y88.length co78,.slice Ao77 t350.length co77] (0,0) _ rfl (by (with_reducible repeat (first|refine blk_drewN ?_ _|refine blk_drew ?_|refine blk_alloc ?_ _));refine blk_put (cs:=#[.string a0_0,.string a3,.int .i64 1,.slice Ao78 y88.length co78,.slice none 0 0]) ?_ 4 _ rfl;(with_reducible repeat (first|refine blk_drewN ?_ _|refine blk_drew ?_|refine blk_alloc ?_ _));refine blk_put (cs:=#[.string a0_0,.string a3,.int .i64 1,.slice none 0 0,.slice none 0 0]) ?_ 3 _ rfl;(with_reducible repeat (first|refine blk_drewN ?_ _|refine blk_drew ?_|refine blk_alloc ?_ _));refine blk_put (cs:=#[.string a0_0,.string a3,.int .i64 0,.slice none 0 0,.slice none 0 0]) ?_ 2 _ rfl;(with_reducible repeat (first|refine blk_drewN ?_ _|refine blk_drew ?_|refine blk_alloc ?_ _));refine blk_put (cs:=#[.string a0_0,.string (⟨#[]⟩:ByteArray),.int .i64 0,.slice none 0 0,.slice none 0 0]) ?_ 1 _ rfl;(with_reducible repeat (first|refine blk_drewN ?_ _|refine blk_drew ?_|refine blk_alloc ?_ _));refine blk_put (cs:=#[.string (⟨#[]⟩:ByteArray),.string (⟨#[]⟩:ByteArray),.int .i64 0,.slice none 0 0,.slice none 0 0]) ?_ 0 _ rfl;(with_reducible repeat (first|refine blk_drewN ?_ _|refine blk_drew ?_|refine blk_alloc ?_ _));exact BK85.out) Tryd.underlying33 rfl (by kernel_rfl)) rfl ?_
         exact ⟨_,_,by first|rfl|(simp [errW_none,errW_some] <;> rfl)|(simp [*,errW_none,errW_some] <;> rfl),by (with_reducible repeat (first|apply Kd.R_alloc|apply Kd.R_drewN|apply Kd.R_drew));exact Kd.R_mono (Kd.R_far (p:=⟨gb85,4,none⟩) (Kd.R_far (p:=⟨gb85,3,none⟩) (Kd.R_far (p:=⟨gb85,2,none⟩) (Kd.R_far (p:=⟨gb85,1,none⟩) (Kd.R_far (p:=⟨gb85,0,none⟩) (Kd.R_types HO_12.out BK85.out (by decide)) (fun _ hk=>hk.2) (.string a0_0)) (fun _ hk=>hk.2) (.string a3)) (fun _ hk=>hk.2) (.int .i64 1)) (fun _ hk=>hk.2) (.slice Ao78 y88.length co78)) (fun _ hk=>hk.2) (.slice Ao77 t350.length co77)) (fun _ hk=>trivial),by (with_reducible repeat (first|apply Kd.R_alloc|apply Kd.R_drewN|apply Kd.R_drew));exact Kd.R_mono (Kd.R_far (p:=⟨gb85,4,none⟩) (Kd.R_far (p:=⟨gb85,3,none⟩) (Kd.R_far (p:=⟨gb85,2,none⟩) (Kd.R_far (p:=⟨gb85,1,none⟩) (Kd.R_far (p:=⟨gb85,0,none⟩) (Kd.R_types HO352.out BK85.out (by decide)) (fun _ hk=>hk.2) (.string a0_0)) (fun _ hk=>hk.2) (.string a3)) (fun _ hk=>hk.2) (.int .i64 1)) (fun _ hk=>hk.2) (.slice Ao78 y88.length co78)) (fun _ hk=>hk.2) (.slice Ao77 t350.length co77)) (fun _ hk=>trivial),by repeat (first|(with_reducible first|exact HB.out|apply below_alloc|apply pw_below_drewN|apply below_drew1|refine below_set ?_ GE84.out|refine below_set ?_ GE86.out|refine below_set ?_ GE85.out)|exact HB.out)⟩
     ·rw [if_neg c27] at H
      exact absurd H (by simp)
    ·rw [if_neg c26] at H
     exact absurd H (by simp)
def line_Reason.f (a0:Int):Option (ByteArray):=if a0=200 then (some (⟨#[79,75]⟩:ByteArray)) else (if a0=204 then (some (⟨#[78,111,32,67,111,110,116,101,110,116]⟩:ByteArray)) else (if a0=400 then (some (⟨#[66,97,100,32,82,101,113,117,101,115,116]⟩:ByteArray)) else (if a0=404 then (some (⟨#[78,111,116,32,70,111,117,110,100]⟩:ByteArray)) else (if a0=413 then (some (⟨#[67,111,110,116,101,110,116,32,84,111,111,32,76,97,114,103,101]⟩:ByteArray)) else (if a0=414 then (some (⟨#[85,82,73,32,84,111,111,32,76,111,110,103]⟩:ByteArray)) else (if a0=421 then (some (⟨#[77,105,115,100,105,114,101,99,116,101,100,32,82,101,113,117,101,115,116]⟩:ByteArray)) else (if a0=429 then (some (⟨#[84,111,111,32,77,97,110,121,32,82,101,113,117,101,115,116,115]⟩:ByteArray)) else (if a0=431 then (some (⟨#[82,101,113,117,101,115,116,32,72,101,97,100,101,114,32,70,105,101,108,100,115,32,84,111,111,32,76,97,114,103,101]⟩:ByteArray)) else (if a0=501 then (some (⟨#[78,111,116,32,73,109,112,108,101,109,101,110,116,101,100]⟩:ByteArray)) else (if a0=502 then (some (⟨#[66,97,100,32,71,97,116,101,119,97,121]⟩:ByteArray)) else (if a0=503 then (some (⟨#[83,101,114,118,105,99,101,32,85,110,97,118,97,105,108,97,98,108,101]⟩:ByteArray)) else (if a0=504 then (some (⟨#[71,97,116,101,119,97,121,32,84,105,109,101,111,117,116]⟩:ByteArray)) else (if a0=505 then (some (⟨#[72,84,84,80,32,86,101,114,115,105,111,110,32,78,111,116,32,83,117,112,112,111,114,116,101,100]⟩:ByteArray)) else (some (⟨#[83,116,97,116,117,115]⟩:ByteArray)))))))))))))))
set_option maxHeartbeats 8000000 in
set_option maxRecDepth 100000 in
theorem line_Reason.calls (a0:Int) (r:ByteArray) (w:World) (h:line_Reason.f a0=some r) :
  Calls Tryd.prog 57 #[.int .i64 a0] w fun e w' => e = .returned (.string r)∧Drawn0 w w' := by
 have H:(if a0=200 then (some (⟨#[79,75]⟩:ByteArray)) else (if a0=204 then (some (⟨#[78,111,32,67,111,110,116,101,110,116]⟩:ByteArray)) else (if a0=400 then (some (⟨#[66,97,100,32,82,101,113,117,101,115,116]⟩:ByteArray)) else (if a0=404 then (some (⟨#[78,111,116,32,70,111,117,110,100]⟩:ByteArray)) else (if a0=413 then (some (⟨#[67,111,110,116,101,110,116,32,84,111,111,32,76,97,114,103,101]⟩:ByteArray)) else (if a0=414 then (some (⟨#[85,82,73,32,84,111,111,32,76,111,110,103]⟩:ByteArray)) else (if a0=421 then (some (⟨#[77,105,115,100,105,114,101,99,116,101,100,32,82,101,113,117,101,115,116]⟩:ByteArray)) else (if a0=429 then (some (⟨#[84,111,111,32,77,97,110,121,32,82,101,113,117,101,115,116,115]⟩:ByteArray)) else (if a0=431 then (some (⟨#[82,101,113,117,101,115,116,32,72,101,97,100,101,114,32,70,105,101,108,100,115,32,84,111,111,32,76,97,114,103,101]⟩:ByteArray)) else (if a0=501 then (some (⟨#[78,111,116,32,73,109,112,108,101,109,101,110,116,101,100]⟩:ByteArray)) else (if a0=502 then (some (⟨#[66,97,100,32,71,97,116,101,119,97,121]⟩:ByteArray)) else (if a0=503 then (some (⟨#[83,101,114,118,105,99,101,32,85,110,97,118,97,105,108,97,98,108,101]⟩:ByteArray)) else (if a0=504 then (some (⟨#[71,97,116,101,119,97,121,32,84,105,109,101,111,117,116]⟩:ByteArray)) else (if a0=505 then (some (⟨#[72,84,84,80,32,86,101,114,115,105,111,110,32,78,111,116,32,83,117,112,112,111,114,116,101,100]⟩:ByteArray)) else (some (⟨#[83,116,97,116,117,115]⟩:ByteArray))))))))))))))))=some r:=h
 clear h
 by_cases c2:a0=200
 ·rw [if_pos c2] at H
  have c2b0:(a0 == 200)=true:=beq_iff_eq.mpr c2
  have c2b1:(a0 != 200)=false:=bne_eq_false_iff_eq.mpr c2
  clear c2
  obtain rfl:=Option.some.inj H
  go_enter Tryd.func57,Tryd.ntmps57
  go_wp2
  go_ret
  exact ⟨by first|rfl|(simp;done)|(simp [*];done),by repeat (first|exact Drawn0.refl _|apply Drawn0.step)⟩
 ·rw [if_neg c2] at H
  have c2b0:(a0 == 200)=false:=beq_eq_false_iff_ne.mpr c2
  have c2b1:(a0 != 200)=true:=bne_iff_ne.mpr c2
  by_cases c3:a0=204
  ·rw [if_pos c3] at H
   have c3b0:(a0 == 204)=true:=beq_iff_eq.mpr c3
   have c3b1:(a0 != 204)=false:=bne_eq_false_iff_eq.mpr c3
   clear c3
   obtain rfl:=Option.some.inj H
   go_enter Tryd.func57,Tryd.ntmps57
   go_wp2
   go_ret
   exact ⟨by first|rfl|(simp;done)|(simp [*];done),by repeat (first|exact Drawn0.refl _|apply Drawn0.step)⟩
  ·rw [if_neg c3] at H
   have c3b0:(a0 == 204)=false:=beq_eq_false_iff_ne.mpr c3
   have c3b1:(a0 != 204)=true:=bne_iff_ne.mpr c3
   by_cases c4:a0=400
   ·rw [if_pos c4] at H
    have c4b0:(a0 == 400)=true:=beq_iff_eq.mpr c4
    have c4b1:(a0 != 400)=false:=bne_eq_false_iff_eq.mpr c4
    clear c4
    obtain rfl:=Option.some.inj H
    go_enter Tryd.func57,Tryd.ntmps57
    go_wp2
    go_ret
    exact ⟨by first|rfl|(simp;done)|(simp [*];done),by repeat (first|exact Drawn0.refl _|apply Drawn0.step)⟩
   ·rw [if_neg c4] at H
    have c4b0:(a0 == 400)=false:=beq_eq_false_iff_ne.mpr c4
    have c4b1:(a0 != 400)=true:=bne_iff_ne.mpr c4
    by_cases c5:a0=404
    ·rw [if_pos c5] at H
     have c5b0:(a0 == 404)=true:=beq_iff_eq.mpr c5
     have c5b1:(a0 != 404)=false:=bne_eq_false_iff_eq.mpr c5
     clear c5
     obtain rfl:=Option.some.inj H
     go_enter Tryd.func57,Tryd.ntmps57
     go_wp2
     go_ret
     exact ⟨by first|rfl|(simp;done)|(simp [*];done),by repeat (first|exact Drawn0.refl _|apply Drawn0.step)⟩
    ·rw [if_neg c5] at H
     have c5b0:(a0 == 404)=false:=beq_eq_false_iff_ne.mpr c5
     have c5b1:(a0 != 404)=true:=bne_iff_ne.mpr c5
     by_cases c6:a0=413
     ·rw [if_pos c6] at H
      have c6b0:(a0 == 413)=true:=beq_iff_eq.mpr c6
      have c6b1:(a0 != 413)=false:=bne_eq_false_iff_eq.mpr c6
      clear c6
      obtain rfl:=Option.some.inj H
      go_enter Tryd.func57,Tryd.ntmps57
      go_wp2
      go_ret
      exact ⟨by first|rfl|(simp;done)|(simp [*];done),by repeat (first|exact Drawn0.refl _|apply Drawn0.step)⟩
     ·rw [if_neg c6] at H
      have c6b0:(a0 == 413)=false:=beq_eq_false_iff_ne.mpr c6
      have c6b1:(a0 != 413)=true:=bne_iff_ne.mpr c6
      by_cases c7:a0=414
      ·rw [if_pos c7] at H
       have c7b0:(a0 == 414)=true:=beq_iff_eq.mpr c7
       have c7b1:(a0 != 414)=false:=bne_eq_false_iff_eq.mpr c7
       clear c7
       obtain rfl:=Option.some.inj H
       go_enter Tryd.func57,Tryd.ntmps57
       go_wp2
       go_ret
       exact ⟨by first|rfl|(simp;done)|(simp [*];done),by repeat (first|exact Drawn0.refl _|apply Drawn0.step)⟩
      ·rw [if_neg c7] at H
       have c7b0:(a0 == 414)=false:=beq_eq_false_iff_ne.mpr c7
       have c7b1:(a0 != 414)=true:=bne_iff_ne.mpr c7
       by_cases c8:a0=421
       ·rw [if_pos c8] at H
        have c8b0:(a0 == 421)=true:=beq_iff_eq.mpr c8
        have c8b1:(a0 != 421)=false:=bne_eq_false_iff_eq.mpr c8
        clear c8
        obtain rfl:=Option.some.inj H
        go_enter Tryd.func57,Tryd.ntmps57
        go_wp2
        go_ret
        exact ⟨by first|rfl|(simp;done)|(simp [*];done),by repeat (first|exact Drawn0.refl _|apply Drawn0.step)⟩
       ·rw [if_neg c8] at H
        have c8b0:(a0 == 421)=false:=beq_eq_false_iff_ne.mpr c8
        have c8b1:(a0 != 421)=true:=bne_iff_ne.mpr c8
        by_cases c9:a0=429
        ·rw [if_pos c9] at H
         have c9b0:(a0 == 429)=true:=beq_iff_eq.mpr c9
         have c9b1:(a0 != 429)=false:=bne_eq_false_iff_eq.mpr c9
         clear c9
         obtain rfl:=Option.some.inj H
         go_enter Tryd.func57,Tryd.ntmps57
         go_wp2
         go_ret
         exact ⟨by first|rfl|(simp;done)|(simp [*];done),by repeat (first|exact Drawn0.refl _|apply Drawn0.step)⟩
        ·rw [if_neg c9] at H
         have c9b0:(a0 == 429)=false:=beq_eq_false_iff_ne.mpr c9
         have c9b1:(a0 != 429)=true:=bne_iff_ne.mpr c9
         by_cases c10:a0=431
         ·rw [if_pos c10] at H
          have c10b0:(a0 == 431)=true:=beq_iff_eq.mpr c10
          have c10b1:(a0 != 431)=false:=bne_eq_false_iff_eq.mpr c10
          clear c10
          obtain rfl:=Option.some.inj H
          go_enter Tryd.func57,Tryd.ntmps57
          go_wp2
          go_ret
          exact ⟨by first|rfl|(simp;done)|(simp [*];done),by repeat (first|exact Drawn0.refl _|apply Drawn0.step)⟩
         ·rw [if_neg c10] at H
          have c10b0:(a0 == 431)=false:=beq_eq_false_iff_ne.mpr c10
          have c10b1:(a0 != 431)=true:=bne_iff_ne.mpr c10
          by_cases c11:a0=501
          ·rw [if_pos c11] at H
           have c11b0:(a0 == 501)=true:=beq_iff_eq.mpr c11
           have c11b1:(a0 != 501)=false:=bne_eq_false_iff_eq.mpr c11
           clear c11
           obtain rfl:=Option.some.inj H
           go_enter Tryd.func57,Tryd.ntmps57
           go_wp2
           go_ret
           exact ⟨by first|rfl|(simp;done)|(simp [*];done),by repeat (first|exact Drawn0.refl _|apply Drawn0.step)⟩
          ·rw [if_neg c11] at H
           have c11b0:(a0 == 501)=false:=beq_eq_false_iff_ne.mpr c11
           have c11b1:(a0 != 501)=true:=bne_iff_ne.mpr c11
           by_cases c12:a0=502
           ·rw [if_pos c12] at H
            have c12b0:(a0 == 502)=true:=beq_iff_eq.mpr c12
            have c12b1:(a0 != 502)=false:=bne_eq_false_iff_eq.mpr c12
            clear c12
            obtain rfl:=Option.some.inj H
            go_enter Tryd.func57,Tryd.ntmps57
            go_wp2
            go_ret
            exact ⟨by first|rfl|(simp;done)|(simp [*];done),by repeat (first|exact Drawn0.refl _|apply Drawn0.step)⟩
           ·rw [if_neg c12] at H
            have c12b0:(a0 == 502)=false:=beq_eq_false_iff_ne.mpr c12
            have c12b1:(a0 != 502)=true:=bne_iff_ne.mpr c12
            by_cases c13:a0=503
            ·rw [if_pos c13] at H
             have c13b0:(a0 == 503)=true:=beq_iff_eq.mpr c13
             have c13b1:(a0 != 503)=false:=bne_eq_false_iff_eq.mpr c13
             clear c13
             obtain rfl:=Option.some.inj H
             go_enter Tryd.func57,Tryd.ntmps57
             go_wp2
             go_ret
             exact ⟨by first|rfl|(simp;done)|(simp [*];done),by repeat (first|exact Drawn0.refl _|apply Drawn0.step)⟩
            ·rw [if_neg c13] at H
             have c13b0:(a0 == 503)=false:=beq_eq_false_iff_ne.mpr c13
             have c13b1:(a0 != 503)=true:=bne_iff_ne.mpr c13
             by_cases c14:a0=504
             ·rw [if_pos c14] at H
              have c14b0:(a0 == 504)=true:=beq_iff_eq.mpr c14
              have c14b1:(a0 != 504)=false:=bne_eq_false_iff_eq.mpr c14
              clear c14
              obtain rfl:=Option.some.inj H
              go_enter Tryd.func57,Tryd.ntmps57
              go_wp2
              go_ret
              exact ⟨by first|rfl|(simp;done)|(simp [*];done),by repeat (first|exact Drawn0.refl _|apply Drawn0.step)⟩
             ·rw [if_neg c14] at H
              have c14b0:(a0 == 504)=false:=beq_eq_false_iff_ne.mpr c14
              have c14b1:(a0 != 504)=true:=bne_iff_ne.mpr c14
              by_cases c15:a0=505
              ·rw [if_pos c15] at H
               have c15b0:(a0 == 505)=true:=beq_iff_eq.mpr c15
               have c15b1:(a0 != 505)=false:=bne_eq_false_iff_eq.mpr c15
               clear c15
               obtain rfl:=Option.some.inj H
               go_enter Tryd.func57,Tryd.ntmps57
               go_wp2
               go_ret
               exact ⟨by first|rfl|(simp;done)|(simp [*];done),by repeat (first|exact Drawn0.refl _|apply Drawn0.step)⟩
              ·rw [if_neg c15] at H
               have c15b0:(a0 == 505)=false:=beq_eq_false_iff_ne.mpr c15
               have c15b1:(a0 != 505)=true:=bne_iff_ne.mpr c15
               obtain rfl:=Option.some.inj H
               go_enter Tryd.func57,Tryd.ntmps57
               go_wp2
               go_ret
               exact ⟨by first|rfl|(simp;done)|(simp [*];done),by repeat (first|exact Drawn0.refl _|apply Drawn0.step)⟩
def scrub_closing.f  : Option (ByteArray × ByteArray):=some ((⟨#[67,111,110,110,101,99,116,105,111,110]⟩:ByteArray),(⟨#[99,108,111,115,101]⟩:ByteArray))
set_option maxHeartbeats 8000000 in
set_option maxRecDepth 100000 in
theorem scrub_closing.calls  (r1:ByteArray) (r2:ByteArray) (w:World) (h:scrub_closing.f  = some (r1,r2)) :
  Calls Tryd.prog 56 #[] w fun e w' => e = .returned (.agg #[.string r1,.string r2])∧Below w.heap.size w w' := by
 have hu41:=Tryd.underlying41
 have HB:=Aside0.mk (Below.refl w.heap.size w)
 have H:(some ((⟨#[67,111,110,110,101,99,116,105,111,110]⟩:ByteArray),(⟨#[99,108,111,115,101]⟩:ByteArray)))=some (r1,r2):=h
 clear h
 simp only [Option.some.injEq,Prod.mk.injEq] at H
 obtain ⟨rfl,rfl⟩:=H
 go_enter Tryd.func56,Tryd.ntmps56
 go_wp2_with (first|((with_reducible refine gate_dst (N:=0) rfl ?_);refine box_event ?hg (N:=0) ?hd (cs:=#[.string (⟨#[]⟩:ByteArray),.string (⟨#[]⟩:ByteArray)]) (t:=41) ?hr ?_;(case hd=>rfl);(case hg=>rfl);(case hr=>first|(go_simp;done)|(go_simp;rfl));intro gb353 hg w1 hbox hb;have n0_:=Aside0.mk (below_step (by repeat (first|(with_reducible first|exact HB.out|apply below_alloc|apply pw_below_drewN|apply below_drew1)|exact HB.out)) hb);have n1_:=Aside0.mk (hbox);have n2_:=Aside0.mk ((by rw [hg];exact (below_size (by repeat (first|(with_reducible first|exact HB.out|apply below_alloc|apply pw_below_drewN|apply below_drew1)|exact HB.out))):w.heap.size ≤ gb353));have n3_:=Aside0.mk ((by rw [hg];exact (below_size (by repeat (first|(with_reducible first|exact HB.out|apply below_alloc|apply pw_below_drewN|apply below_drew1)|exact HB.out))):w.heap.size ≤ gb353));clear HB;have HB:=n0_;have BK353:=n1_;have GW353:=n2_;have GE353:=n3_;clear n0_ n1_ n2_ n3_;clear hb hbox hg;have hcz2_0:w1.cell? ⟨gb353,0,none⟩=some (.string (⟨#[]⟩:ByteArray)):=(blk_cell BK353.out 0).trans rfl;have hcz2_1:w1.cell? ⟨gb353,1,none⟩=some (.string (⟨#[]⟩:ByteArray)):=(blk_cell BK353.out 1).trans rfl;have hfz2_0:=blk_frozen BK353.out 0;have hfz2_1:=blk_frozen BK353.out 1))
 refine bodyPost_ret (results_cell_row rfl _ _ gb353 41 #[.string (⟨#[67,111,110,110,101,99,116,105,111,110]⟩:ByteArray),.string (⟨#[99,108,111,115,101]⟩:ByteArray)] (0,0) _ rfl (by (with_reducible repeat (first|refine blk_drewN ?_ _|refine blk_drew ?_|refine blk_alloc ?_ _));refine blk_put (cs:=#[.string (⟨#[67,111,110,110,101,99,116,105,111,110]⟩:ByteArray),.string (⟨#[]⟩:ByteArray)]) ?_ 1 _ rfl;(with_reducible repeat (first|refine blk_drewN ?_ _|refine blk_drew ?_|refine blk_alloc ?_ _));refine blk_put (cs:=#[.string (⟨#[]⟩:ByteArray),.string (⟨#[]⟩:ByteArray)]) ?_ 0 _ rfl;(with_reducible repeat (first|refine blk_drewN ?_ _|refine blk_drew ?_|refine blk_alloc ?_ _));exact BK353.out) Tryd.underlying41 rfl (by kernel_rfl)) rfl ?_
 exact ⟨by first|rfl|(simp [errW_none,errW_some] <;> rfl)|(simp [*,errW_none,errW_some] <;> rfl),by repeat (first|(with_reducible first|exact HB.out|apply below_alloc|apply pw_below_drewN|apply below_drew1|refine below_set ?_ GE353.out)|exact HB.out)⟩
def scrub_Own.f (a0:Int) (a1:Bool):Option (Int × ByteArray × Int × (List (S41)) × List Int):=(scrub_length.f 0).bind fun bt355=>((some (([(⟨bt355.1,bt355.2⟩:S41)]:List (S41)):List (S41))).bind fun y357=>(if a1=true then ((scrub_closing.f).bind fun bt360=>(if y357.length < 4398046511104 then ((line_Reason.f a0).bind fun t365=>(some (a0,t365,1,(y357 ++ [(⟨bt360.1,bt360.2⟩:S41)]),([]:List Int)))) else (none))) else ((line_Reason.f a0).bind fun t366=>(some (a0,t366,1,y357,([]:List Int))))))
set_option maxHeartbeats 8000000 in
set_option maxRecDepth 100000 in
theorem scrub_Own.calls (a0:Int) (a1:Bool) (r1:Int) (r2:ByteArray) (r3:Int) (r4:List (S41)) (r5:List Int) (w:World) (h:scrub_Own.f a0 a1=some (r1,r2,r3,r4,r5)) (ht:Tabs w) :
  Calls Tryd.prog 24 #[.int .i64 a0,.bool a1] w fun e w' => ∃ v3_ v4_:Value,e = .returned (.agg #[.int .i64 r1,.string r2,.int .i64 r3,v3_,v4_])∧Kd.R k41 41 w' w.heap.size (fun _=>True) v3_ r4∧Kd.R (Kd.int .u8) 5 w' w.heap.size (fun _=>True) v4_ r5∧Below w.heap.size w w' := by
 have HTB:=Aside0.mk ht
 clear ht
 have hu48:=Tryd.underlying48
 have HB:=Aside0.mk (Below.refl w.heap.size w)
 have H:((scrub_length.f 0).bind fun bt28=>((some (([(⟨bt28.1,bt28.2⟩:S41)]:List (S41)):List (S41))).bind fun y25=>(if a1=true then ((scrub_closing.f).bind fun bt27=>(if y25.length < 4398046511104 then ((line_Reason.f a0).bind fun t26=>(some (a0,t26,1,(y25 ++ [(⟨bt27.1,bt27.2⟩:S41)]),([]:List Int)))) else (none))) else ((line_Reason.f a0).bind fun t29=>(some (a0,t29,1,y25,([]:List Int)))))))=some (r1,r2,r3,r4,r5):=h
 clear h
 replace H:=Option.bind_eq_some_iff.mp H
 obtain ⟨⟨t28,t32⟩,A30,H⟩:=H
 replace H:((some (([(⟨t28,t32⟩:S41)]:List (S41)):List (S41))).bind fun y25=>(if a1=true then ((scrub_closing.f).bind fun bt27=>(if y25.length < 4398046511104 then ((line_Reason.f a0).bind fun t26=>(some (a0,t26,1,(y25 ++ [(⟨bt27.1,bt27.2⟩:S41)]),([]:List Int)))) else (none))) else ((line_Reason.f a0).bind fun t29=>(some (a0,t29,1,y25,([]:List Int))))))=some (r1,r2,r3,r4,r5):=H
 have A3:=Aside0.mk A30
 clear A30
 obtain ⟨y25,hy25⟩ : ∃ y_:List (S41),y_=(([(⟨t28,t32⟩:S41)]:List (S41))):=⟨_,rfl⟩
 replace H:(if a1=true then ((scrub_closing.f).bind fun bt27=>(if y25.length < 4398046511104 then ((line_Reason.f a0).bind fun t26=>(some (a0,t26,1,(y25 ++ [(⟨bt27.1,bt27.2⟩:S41)]),([]:List Int)))) else (none))) else ((line_Reason.f a0).bind fun t29=>(some (a0,t29,1,y25,([]:List Int)))))=some (r1,r2,r3,r4,r5):=by first|(rw [hy25];with_reducible exact H)|(have H2_:=(Option.bind_some _ _).symm.trans H;rw [hy25];with_reducible exact H2_)|(have H2_:=(Option.bind_some _ _).symm.trans H;with_reducible exact H2_)|with_reducible exact H|(rw [hy25];exact H)|exact H
 have Ny25:=Aside0.mk hy25
 clear hy25
 by_cases c4:a1=true
 ·subst c4
  have H1:((scrub_closing.f).bind fun bt27=>(if y25.length < 4398046511104 then ((line_Reason.f a0).bind fun t26=>(some (a0,t26,1,(y25 ++ [(⟨bt27.1,bt27.2⟩:S41)]),([]:List Int)))) else (none)))=some (r1,r2,r3,r4,r5):=by rw [if_pos rfl] at H;exact H
  clear H
  have H:=H1
  clear H1
  replace H:=Option.bind_eq_some_iff.mp H
  obtain ⟨⟨t27,t35⟩,A50,H⟩:=H
  replace H:(if y25.length < 4398046511104 then ((line_Reason.f a0).bind fun t26=>(some (a0,t26,1,(y25 ++ [(⟨t27,t35⟩:S41)]),([]:List Int)))) else (none))=some (r1,r2,r3,r4,r5):=H
  have A5:=Aside0.mk A50
  clear A50
  by_cases c6:y25.length < 4398046511104
  ·rw [if_pos c6] at H
   have LMc6:=Aside0.mk c6
   clear c6
   obtain ⟨y33,hy33⟩ : ∃ y_:List (S41),y_=(y25 ++ [(⟨t27,t35⟩:S41)]):=⟨_,rfl⟩
   replace H:((line_Reason.f a0).bind fun t26=>(some (a0,t26,1,y33,([]:List Int))))=some (r1,r2,r3,r4,r5):=by first|(rw [hy33];with_reducible exact H)|(have H2_:=(Option.bind_some _ _).symm.trans H;rw [hy33];with_reducible exact H2_)|(have H2_:=(Option.bind_some _ _).symm.trans H;with_reducible exact H2_)|with_reducible exact H|(rw [hy33];exact H)|exact H
   have Ny33:=Aside0.mk hy33
   clear hy33
   replace H:=Option.bind_eq_some_iff.mp H
   obtain ⟨t26,A70,H⟩:=H
   replace H:(some (a0,t26,1,y33,([]:List Int)))=some (r1,r2,r3,r4,r5):=H
   have A7:=Aside0.mk A70
   clear A70
   simp only [Option.some.injEq,Prod.mk.injEq] at H
   obtain ⟨rfl,rfl,rfl,rfl,rfl⟩:=H
   go_enter Tryd.func24,Tryd.ntmps24
   go_wp2_with (first|((with_reducible refine gate_dst (N:=4) rfl ?_);refine box_event ?hg (N:=4) ?hd (cs:=#[.int .i64 0,.string (⟨#[]⟩:ByteArray),.int .i64 0,.slice none 0 0,.slice none 0 0]) (t:=48) ?hr ?_;(case hd=>rfl);(case hg=>rfl);(case hr=>first|(go_simp;done)|(go_simp;rfl));intro gb23 hg w8 hbox hb;have n0_:=Aside0.mk (below_step (by repeat (first|(with_reducible first|exact HB.out|apply below_alloc|apply pw_below_drewN|apply below_drew1)|exact HB.out)) hb);have n1_:=Aside0.mk (hbox);have n2_:=Aside0.mk ((by rw [hg];exact (below_size (by repeat (first|(with_reducible first|exact HB.out|apply below_alloc|apply pw_below_drewN|apply below_drew1)|exact HB.out))):w.heap.size ≤ gb23));have n3_:=Aside0.mk ((by rw [hg];exact (below_size (by repeat (first|(with_reducible first|exact HB.out|apply below_alloc|apply pw_below_drewN|apply below_drew1)|exact HB.out))):w.heap.size ≤ gb23));clear HB;have HB:=n0_;have BK23:=n1_;have GW23:=n2_;have GE23:=n3_;clear n0_ n1_ n2_ n3_;clear hb hbox hg)|((with_reducible refine gate_callee (f:=38) rfl ?_);refine goesL_ (some 6) rfl rfl Tryd.func38 (by kernel_rfl) rfl #[.int .i64 0] rfl (by (try simp only [List.map_toArray,List.map_cons,List.map_nil]);first|done|rfl|(simp only [List.length_drop,List.length_take];rfl)) ?_;(with_reducible refine (scrub_length.calls 0 t28 t32 _ A3.out ?hT).mono ?_);(case hT=>exact HTB.out.below (by repeat (first|(with_reducible first|exact HB.out|apply below_alloc|apply pw_below_drewN|apply below_drew1|refine below_set ?_ GE23.out)|exact HB.out)));rintro e w9 ⟨rfl,hb⟩;(try clear A3);refine ⟨_,rfl,?_⟩;have n0_:=Aside0.mk (blk_below (g:=gb23) (o:=.cells #[.int .i64 0,.string (⟨#[]⟩:ByteArray),.int .i64 0,.slice none 0 0,.slice none 0 0] 48 (0,0)) (by (with_reducible repeat (first|refine blk_drewN ?_ _|refine blk_drew ?_|refine blk_alloc ?_ _));exact BK23.out) hb);have n1_:=Aside0.mk (below_step (by repeat (first|(with_reducible first|exact HB.out|apply below_alloc|apply pw_below_drewN|apply below_drew1|refine below_set ?_ GE23.out)|exact HB.out)) hb);clear BK23;clear HB;have BK23:=n0_;have HB:=n1_;clear n0_ n1_;(try clear hb);(try clear hb2);(try clear hk);(try clear hi))|((with_reducible refine gate_dst (N:=7) rfl ?_);refine Kd.R_lit k41 _ 41 ?hg (N:=7) ?hd (xs:=([(⟨t28,t32⟩:S41)]:List (S41))) (inner:=[.string t28,.string t32]) (ok:=fun _=>True) (okp:=fun _=>True) ?hr ?hp (fun _ hk=>hk) trivial (Below.refl _ _) (Nat.le_refl _) (by simp) ?_;(case hd=>rfl);(case hg=>rfl);(case hr=>first|(go_simp;done)|(go_simp;rfl));(case hp=>exact (Reps.c2 (show Kd.M k41 _ _ _ (⟨t28,t32⟩:S41) [.string t28,.string t32] from (k41_mkM _ _ _ (⟨t28,t32⟩:S41) )) (Reps.none _ _)));intro v37 w10 ho11 hb hg_ hnew_;clear hg_ hnew_;(first|rw [← Ny25.out] at ho11|(simp only [Int.reduceToNat] at ho11;rw [← Ny25.out] at ho11));have n0_:=Aside0.mk (Kd.R_lower ho11 (below_size (by repeat (first|(with_reducible first|exact HB.out|apply below_alloc|apply pw_below_drewN|apply below_drew1|refine below_set ?_ GE23.out)|exact HB.out))));have n1_:=Aside0.mk (blk_below (g:=gb23) (o:=.cells #[.int .i64 0,.string (⟨#[]⟩:ByteArray),.int .i64 0,.slice none 0 0,.slice none 0 0] 48 (0,0)) (by (with_reducible repeat (first|refine blk_drewN ?_ _|refine blk_drew ?_|refine blk_alloc ?_ _));exact BK23.out) hb);have n2_:=Aside0.mk (below_step (by repeat (first|(with_reducible first|exact HB.out|apply below_alloc|apply pw_below_drewN|apply below_drew1|refine below_set ?_ GE23.out)|exact HB.out)) hb);clear BK23;clear HB;have HO34:=n0_;have BK23:=n1_;have HB:=n2_;clear n0_ n1_ n2_;clear hb ho11)|((with_reducible refine gate_callee (f:=56) rfl ?_);refine goesL_ (some 10) rfl rfl Tryd.func56 (by kernel_rfl) rfl #[] rfl (by (try simp only [List.map_toArray,List.map_cons,List.map_nil]);first|done|rfl|(simp only [List.length_drop,List.length_take];rfl)) ?_;(with_reducible refine (scrub_closing.calls  t27 t35 _ A5.out).mono ?_);rintro e w12 ⟨rfl,hb⟩;(try clear A5);refine ⟨_,rfl,?_⟩;have n0_:=Aside0.mk (Kd.R_below (by (with_reducible repeat (first|apply Kd.R_alloc|apply Kd.R_drewN|apply Kd.R_drew));exact HO34.out) hb);have n1_:=Aside0.mk (blk_below (g:=gb23) (o:=.cells #[.int .i64 0,.string (⟨#[]⟩:ByteArray),.int .i64 0,.slice none 0 0,.slice none 0 0] 48 (0,0)) (by (with_reducible repeat (first|refine blk_drewN ?_ _|refine blk_drew ?_|refine blk_alloc ?_ _));exact BK23.out) hb);have n2_:=Aside0.mk (below_step (by repeat (first|(with_reducible first|exact HB.out|apply below_alloc|apply pw_below_drewN|apply below_drew1|refine below_set ?_ GE23.out)|exact HB.out)) hb);clear HO34;clear BK23;clear HB;have HO34:=n0_;have BK23:=n1_;have HB:=n2_;clear n0_ n1_ n2_;(try clear hb);(try clear hb2);(try clear hk);(try clear hi))|((with_reducible refine gate_builtin (b:=.append) (xs:=#[.tmp 9,.tmp 11]) rfl ?_);at_builtin;refine Kd.R_append k41 (w0:=w) w.heap.size rfl (.tmp 9) (.tmp 11) 31 41 (.agg #[(.string ⟨#[]⟩),(.string ⟨#[]⟩)]) 32 rfl Tryd.underlying31 info41 rfl (by decide) (by omega) v37 y25 (⟨t27,t35⟩:S41) [.string t27,.string t35] (fun _=>True) (fun _=>False) rfl rfl ?aP (fun _ hk=>hk.elim) ?aF ?aO ?aB ?aS ?aL ?_;(case aP=>exact k41_mkM _ _ _ (⟨t27,t35⟩:S41));(case aB=>exact (by repeat (first|(with_reducible first|exact HB.out|apply below_alloc|apply pw_below_drewN|apply below_drew1|refine below_set ?_ GE23.out)|exact HB.out)));(case aF=>exact (fun _ _=>trivial));(case aO=>exact (by (with_reducible repeat (first|apply Kd.R_alloc|apply Kd.R_drewN|apply Kd.R_drew));exact HO34.out));(case aS=>exact (below_size (by repeat (first|(with_reducible first|exact HB.out|apply below_alloc|apply pw_below_drewN|apply below_drew1|refine below_set ?_ GE23.out)|exact HB.out))));(case aL=>have:=LMc6.out;omega);intro v40 w13 ho hb hg hat;rw [← Ny33.out] at ho;have n0_:=Aside0.mk (blk_grown (g:=gb23) (o:=.cells #[.int .i64 0,.string (⟨#[]⟩:ByteArray),.int .i64 0,.slice none 0 0,.slice none 0 0] 48 (0,0)) (by (with_reducible repeat (first|refine blk_drewN ?_ _|refine blk_drew ?_|refine blk_alloc ?_ _));exact BK23.out) hg (Kd.R_ne HO34.out BK23.out (by decide)));have n1_:=Aside0.mk (hb);have n2_:=Aside0.mk (ho);clear BK23;clear HB;clear HO34;have BK23:=n0_;have HB:=n1_;have HO36:=n2_;clear n0_ n1_ n2_;clear ho hb hg hat)|((with_reducible refine gate_callee (f:=57) rfl ?_);refine goesL_ (some 15) rfl rfl Tryd.func57 (by kernel_rfl) rfl #[.int .i64 a0] rfl (by (try simp only [List.map_toArray,List.map_cons,List.map_nil]);first|done|rfl|(simp only [List.length_drop,List.length_take];rfl)) ?_;(with_reducible refine (line_Reason.calls a0 t26 _ A7.out).mono ?_);rintro e w' ⟨rfl,⟨nd,rfl⟩⟩;(try clear A7);refine ⟨_,rfl,?_⟩;(try (rw [drewN_self w13];generalize hq_:World.drewN w13 _=w13;have n0_:Aside0 (Kd.R k41 41 w13 w.heap.size (fun _=>True) v40 y33):=⟨by rw [← hq_];exact (by (with_reducible repeat (first|apply Kd.R_alloc|apply Kd.R_drewN|apply Kd.R_drew));exact HO36.out)⟩;have n1_:Aside0 (w13.heap[gb23]? = some (.cells #[.int .i64 0,.string (⟨#[]⟩:ByteArray),.int .i64 0,.slice none 0 0,.slice none 0 0] 48 (0,0))):=⟨by rw [← hq_];exact (by (with_reducible repeat (first|refine blk_drewN ?_ _|refine blk_drew ?_|refine blk_alloc ?_ _));exact BK23.out)⟩;have n2_:Aside0 (Below w.heap.size w w13):=⟨by rw [← hq_];exact (by repeat (first|(with_reducible first|exact HB.out|apply below_alloc|apply pw_below_drewN|apply below_drew1|refine below_set ?_ GE23.out)|exact HB.out))⟩;clear HO36 BK23 HB hq_;have HO36:=n0_;have BK23:=n1_;have HB:=n2_;clear n0_ n1_ n2_));obtain ⟨Ao14,co14,eo14⟩:=Kd.R_slice HO36.out;subst eo14;have hcz15_0:w13.cell? ⟨gb23,0,none⟩=some (.int .i64 0):=(blk_cell BK23.out 0).trans rfl;have hcz15_1:w13.cell? ⟨gb23,1,none⟩=some (.string (⟨#[]⟩:ByteArray)):=(blk_cell BK23.out 1).trans rfl;have hcz15_2:w13.cell? ⟨gb23,2,none⟩=some (.int .i64 0):=(blk_cell BK23.out 2).trans rfl;have hcz15_3:w13.cell? ⟨gb23,3,none⟩=some (.slice none 0 0):=(blk_cell BK23.out 3).trans rfl;have hcz15_4:w13.cell? ⟨gb23,4,none⟩=some (.slice none 0 0):=(blk_cell BK23.out 4).trans rfl;have hfz15_0:=blk_frozen BK23.out 0;have hfz15_1:=blk_frozen BK23.out 1;have hfz15_2:=blk_frozen BK23.out 2;have hfz15_3:=blk_frozen BK23.out 3;have hfz15_4:=blk_frozen BK23.out 4))
   refine bodyPost_ret (results_cell_row rfl _ _ gb23 48 #[.int .i64 a0,.string t26,.int .i64 1,.slice Ao14 y33.length co14,.slice none 0 0] (0,0) _ rfl (by (with_reducible repeat (first|refine blk_drewN ?_ _|refine blk_drew ?_|refine blk_alloc ?_ _));refine blk_put (cs:=#[.int .i64 a0,.string t26,.int .i64 1,.slice Ao14 y33.length co14,.slice none 0 0]) ?_ 4 _ rfl;(with_reducible repeat (first|refine blk_drewN ?_ _|refine blk_drew ?_|refine blk_alloc ?_ _));refine blk_put (cs:=#[.int .i64 a0,.string t26,.int .i64 1,.slice none 0 0,.slice none 0 0]) ?_ 3 _ rfl;(with_reducible repeat (first|refine blk_drewN ?_ _|refine blk_drew ?_|refine blk_alloc ?_ _));refine blk_put (cs:=#[.int .i64 a0,.string t26,.int .i64 0,.slice none 0 0,.slice none 0 0]) ?_ 2 _ rfl;(with_reducible repeat (first|refine blk_drewN ?_ _|refine blk_drew ?_|refine blk_alloc ?_ _));refine blk_put (cs:=#[.int .i64 a0,.string (⟨#[]⟩:ByteArray),.int .i64 0,.slice none 0 0,.slice none 0 0]) ?_ 1 _ rfl;(with_reducible repeat (first|refine blk_drewN ?_ _|refine blk_drew ?_|refine blk_alloc ?_ _));refine blk_put (cs:=#[.int .i64 0,.string (⟨#[]⟩:ByteArray),.int .i64 0,.slice none 0 0,.slice none 0 0]) ?_ 0 _ rfl;(with_reducible repeat (first|refine blk_drewN ?_ _|refine blk_drew ?_|refine blk_alloc ?_ _));exact BK23.out) Tryd.underlying48 rfl (by kernel_rfl)) rfl ?_
   exact ⟨_,_,by first|rfl|(simp [errW_none,errW_some] <;> rfl)|(simp [*,errW_none,errW_some] <;> rfl),by (with_reducible repeat (first|apply Kd.R_alloc|apply Kd.R_drewN|apply Kd.R_drew));exact Kd.R_mono (Kd.R_far (p:=⟨gb23,4,none⟩) (Kd.R_far (p:=⟨gb23,3,none⟩) (Kd.R_far (p:=⟨gb23,2,none⟩) (Kd.R_far (p:=⟨gb23,1,none⟩) (Kd.R_far (p:=⟨gb23,0,none⟩) (Kd.R_types HO36.out BK23.out (by decide)) (fun _ hk=>hk.2) (.int .i64 a0)) (fun _ hk=>hk.2) (.string t26)) (fun _ hk=>hk.2) (.int .i64 1)) (fun _ hk=>hk.2) (.slice Ao14 y33.length co14)) (fun _ hk=>hk.2) (.slice none 0 0)) (fun _ hk=>trivial),by first|exact Kd.R_nil _ _ _ _ _|exact Kd.N_nil _ _ _ _ _|exact Kd.V_nil _ _ _ _ _|exact Kd.Q_nil _ _ _ _ _|exact Kd.S_nil _ _ _ _ _,by repeat (first|(with_reducible first|exact HB.out|apply below_alloc|apply pw_below_drewN|apply below_drew1|refine below_set ?_ GE23.out)|exact HB.out)⟩
  ·rw [if_neg c6] at H
   exact absurd H (by simp)
 ·replace c4:=Bool.eq_false_iff.mpr c4
  subst c4
  have H1:((line_Reason.f a0).bind fun t29=>(some (a0,t29,1,y25,([]:List Int))))=some (r1,r2,r3,r4,r5):=by rw [if_neg (show ¬ (false=true) by decide)] at H;exact H
  clear H
  have H:=H1
  clear H1
  replace H:=Option.bind_eq_some_iff.mp H
  obtain ⟨t29,A39,H⟩:=H
  replace H:(some (a0,t29,1,y25,([]:List Int)))=some (r1,r2,r3,r4,r5):=H
  have A16:=Aside0.mk A39
  clear A39
  simp only [Option.some.injEq,Prod.mk.injEq] at H
  obtain ⟨rfl,rfl,rfl,rfl,rfl⟩:=H
  go_enter Tryd.func24,Tryd.ntmps24
  go_wp2_with (first|((with_reducible refine gate_dst (N:=4) rfl ?_);refine box_event ?hg (N:=4) ?hd (cs:=#[.int .i64 0,.string (⟨#[]⟩:ByteArray),.int .i64 0,.slice none 0 0,.slice none 0 0]) (t:=48) ?hr ?_;(case hd=>rfl);(case hg=>rfl);(case hr=>first|(go_simp;done)|(go_simp;rfl));intro gb23 hg w17 hbox hb;have n0_:=Aside0.mk (below_step (by repeat (first|(with_reducible first|exact HB.out|apply below_alloc|apply pw_below_drewN|apply below_drew1)|exact HB.out)) hb);have n1_:=Aside0.mk (hbox);have n2_:=Aside0.mk ((by rw [hg];exact (below_size (by repeat (first|(with_reducible first|exact HB.out|apply below_alloc|apply pw_below_drewN|apply below_drew1)|exact HB.out))):w.heap.size ≤ gb23));have n3_:=Aside0.mk ((by rw [hg];exact (below_size (by repeat (first|(with_reducible first|exact HB.out|apply below_alloc|apply pw_below_drewN|apply below_drew1)|exact HB.out))):w.heap.size ≤ gb23));clear HB;have HB:=n0_;have BK23:=n1_;have GW23:=n2_;have GE23:=n3_;clear n0_ n1_ n2_ n3_;clear hb hbox hg)|((with_reducible refine gate_callee (f:=38) rfl ?_);refine goesL_ (some 6) rfl rfl Tryd.func38 (by kernel_rfl) rfl #[.int .i64 0] rfl (by (try simp only [List.map_toArray,List.map_cons,List.map_nil]);first|done|rfl|(simp only [List.length_drop,List.length_take];rfl)) ?_;(with_reducible refine (scrub_length.calls 0 t28 t32 _ A3.out ?hT).mono ?_);(case hT=>exact HTB.out.below (by repeat (first|(with_reducible first|exact HB.out|apply below_alloc|apply pw_below_drewN|apply below_drew1|refine below_set ?_ GE23.out)|exact HB.out)));rintro e w18 ⟨rfl,hb⟩;(try clear A3);refine ⟨_,rfl,?_⟩;have n0_:=Aside0.mk (blk_below (g:=gb23) (o:=.cells #[.int .i64 0,.string (⟨#[]⟩:ByteArray),.int .i64 0,.slice none 0 0,.slice none 0 0] 48 (0,0)) (by (with_reducible repeat (first|refine blk_drewN ?_ _|refine blk_drew ?_|refine blk_alloc ?_ _));exact BK23.out) hb);have n1_:=Aside0.mk (below_step (by repeat (first|(with_reducible first|exact HB.out|apply below_alloc|apply pw_below_drewN|apply below_drew1|refine below_set ?_ GE23.out)|exact HB.out)) hb);clear BK23;clear HB;have BK23:=n0_;have HB:=n1_;clear n0_ n1_;(try clear hb);(try clear hb2);(try clear hk);(try clear hi))|((with_reducible refine gate_dst (N:=7) rfl ?_);refine Kd.R_lit k41 _ 41 ?hg (N:=7) ?hd (xs:=([(⟨t28,t32⟩:S41)]:List (S41))) (inner:=[.string t28,.string t32]) (ok:=fun _=>True) (okp:=fun _=>True) ?hr ?hp (fun _ hk=>hk) trivial (Below.refl _ _) (Nat.le_refl _) (by simp) ?_;(case hd=>rfl);(case hg=>rfl);(case hr=>first|(go_simp;done)|(go_simp;rfl));(case hp=>exact (Reps.c2 (show Kd.M k41 _ _ _ (⟨t28,t32⟩:S41) [.string t28,.string t32] from (k41_mkM _ _ _ (⟨t28,t32⟩:S41) )) (Reps.none _ _)));intro v37 w19 ho20 hb hg_ hnew_;clear hg_ hnew_;(first|rw [← Ny25.out] at ho20|(simp only [Int.reduceToNat] at ho20;rw [← Ny25.out] at ho20));have n0_:=Aside0.mk (Kd.R_lower ho20 (below_size (by repeat (first|(with_reducible first|exact HB.out|apply below_alloc|apply pw_below_drewN|apply below_drew1|refine below_set ?_ GE23.out)|exact HB.out))));have n1_:=Aside0.mk (blk_below (g:=gb23) (o:=.cells #[.int .i64 0,.string (⟨#[]⟩:ByteArray),.int .i64 0,.slice none 0 0,.slice none 0 0] 48 (0,0)) (by (with_reducible repeat (first|refine blk_drewN ?_ _|refine blk_drew ?_|refine blk_alloc ?_ _));exact BK23.out) hb);have n2_:=Aside0.mk (below_step (by repeat (first|(with_reducible first|exact HB.out|apply below_alloc|apply pw_below_drewN|apply below_drew1|refine below_set ?_ GE23.out)|exact HB.out)) hb);clear BK23;clear HB;have HO34:=n0_;have BK23:=n1_;have HB:=n2_;clear n0_ n1_ n2_;clear hb ho20)|((with_reducible refine gate_callee (f:=57) rfl ?_);refine goesL_ (some 15) rfl rfl Tryd.func57 (by kernel_rfl) rfl #[.int .i64 a0] rfl (by (try simp only [List.map_toArray,List.map_cons,List.map_nil]);first|done|rfl|(simp only [List.length_drop,List.length_take];rfl)) ?_;(with_reducible refine (line_Reason.calls a0 t29 _ A16.out).mono ?_);rintro e w' ⟨rfl,⟨nd,rfl⟩⟩;(try clear A16);refine ⟨_,rfl,?_⟩;(try (rw [drewN_self w19];generalize hq_:World.drewN w19 _=w19;have n0_:Aside0 (Kd.R k41 41 w19 w.heap.size (fun _=>True) v37 y25):=⟨by rw [← hq_];exact (by (with_reducible repeat (first|apply Kd.R_alloc|apply Kd.R_drewN|apply Kd.R_drew));exact HO34.out)⟩;have n1_:Aside0 (w19.heap[gb23]? = some (.cells #[.int .i64 0,.string (⟨#[]⟩:ByteArray),.int .i64 0,.slice none 0 0,.slice none 0 0] 48 (0,0))):=⟨by rw [← hq_];exact (by (with_reducible repeat (first|refine blk_drewN ?_ _|refine blk_drew ?_|refine blk_alloc ?_ _));exact BK23.out)⟩;have n2_:Aside0 (Below w.heap.size w w19):=⟨by rw [← hq_];exact (by repeat (first|(with_reducible first|exact HB.out|apply below_alloc|apply pw_below_drewN|apply below_drew1|refine below_set ?_ GE23.out)|exact HB.out))⟩;clear HO34 BK23 HB hq_;have HO34:=n0_;have BK23:=n1_;have HB:=n2_;clear n0_ n1_ n2_));obtain ⟨Ao21,co21,eo21⟩:=Kd.R_slice HO34.out;subst eo21;have hcz22_0:w19.cell? ⟨gb23,0,none⟩=some (.int .i64 0):=(blk_cell BK23.out 0).trans rfl;have hcz22_1:w19.cell? ⟨gb23,1,none⟩=some (.string (⟨#[]⟩:ByteArray)):=(blk_cell BK23.out 1).trans rfl;have hcz22_2:w19.cell? ⟨gb23,2,none⟩=some (.int .i64 0):=(blk_cell BK23.out 2).trans rfl;have hcz22_3:w19.cell? ⟨gb23,3,none⟩=some (.slice none 0 0):=(blk_cell BK23.out 3).trans rfl;have hcz22_4:w19.cell? ⟨gb23,4,none⟩=some (.slice none 0 0):=(blk_cell BK23.out 4).trans rfl;have hfz22_0:=blk_frozen BK23.out 0;have hfz22_1:=blk_frozen BK23.out 1;have hfz22_2:=blk_frozen BK23.out 2;have hfz22_3:=blk_frozen BK23.out 3;have hfz22_4:=blk_frozen BK23.out 4))
  refine bodyPost_ret (results_cell_row rfl _ _ gb23 48 #[.int .i64 a0,.string t29,.int .i64 1,.slice Ao21 y25.length co21,.slice none 0 0] (0,0) _ rfl (by (with_reducible repeat (first|refine blk_drewN ?_ _|refine blk_drew ?_|refine blk_alloc ?_ _));refine blk_put (cs:=#[.int .i64 a0,.string t29,.int .i64 1,.slice Ao21 y25.length co21,.slice none 0 0]) ?_ 4 _ rfl;(with_reducible repeat (first|refine blk_drewN ?_ _|refine blk_drew ?_|refine blk_alloc ?_ _));refine blk_put (cs:=#[.int .i64 a0,.string t29,.int .i64 1,.slice none 0 0,.slice none 0 0]) ?_ 3 _ rfl;(with_reducible repeat (first|refine blk_drewN ?_ _|refine blk_drew ?_|refine blk_alloc ?_ _));refine blk_put (cs:=#[.int .i64 a0,.string t29,.int .i64 0,.slice none 0 0,.slice none 0 0]) ?_ 2 _ rfl;(with_reducible repeat (first|refine blk_drewN ?_ _|refine blk_drew ?_|refine blk_alloc ?_ _));refine blk_put (cs:=#[.int .i64 a0,.string (⟨#[]⟩:ByteArray),.int .i64 0,.slice none 0 0,.slice none 0 0]) ?_ 1 _ rfl;(with_reducible repeat (first|refine blk_drewN ?_ _|refine blk_drew ?_|refine blk_alloc ?_ _));refine blk_put (cs:=#[.int .i64 0,.string (⟨#[]⟩:ByteArray),.int .i64 0,.slice none 0 0,.slice none 0 0]) ?_ 0 _ rfl;(with_reducible repeat (first|refine blk_drewN ?_ _|refine blk_drew ?_|refine blk_alloc ?_ _));exact BK23.out) Tryd.underlying48 rfl (by kernel_rfl)) rfl ?_
  exact ⟨_,_,by first|rfl|(simp [errW_none,errW_some] <;> rfl)|(simp [*,errW_none,errW_some] <;> rfl),by (with_reducible repeat (first|apply Kd.R_alloc|apply Kd.R_drewN|apply Kd.R_drew));exact Kd.R_mono (Kd.R_far (p:=⟨gb23,4,none⟩) (Kd.R_far (p:=⟨gb23,3,none⟩) (Kd.R_far (p:=⟨gb23,2,none⟩) (Kd.R_far (p:=⟨gb23,1,none⟩) (Kd.R_far (p:=⟨gb23,0,none⟩) (Kd.R_types HO34.out BK23.out (by decide)) (fun _ hk=>hk.2) (.int .i64 a0)) (fun _ hk=>hk.2) (.string t29)) (fun _ hk=>hk.2) (.int .i64 1)) (fun _ hk=>hk.2) (.slice Ao21 y25.length co21)) (fun _ hk=>hk.2) (.slice none 0 0)) (fun _ hk=>trivial),by first|exact Kd.R_nil _ _ _ _ _|exact Kd.N_nil _ _ _ _ _|exact Kd.V_nil _ _ _ _ _|exact Kd.Q_nil _ _ _ _ _|exact Kd.S_nil _ _ _ _ _,by repeat (first|(with_reducible first|exact HB.out|apply below_alloc|apply pw_below_drewN|apply below_drew1|refine below_set ?_ GE23.out)|exact HB.out)⟩
def frame_chunked.f (k:Nat) (l0:List (S41)):Option (Bool):=(field_List.f k l0 (⟨#[84,114,97,110,115,102,101,114,45,69,110,99,111,100,105,110,103]⟩:ByteArray)).bind fun t376=>(if (t376.length:Int)=1 then (if 0 < (t376.length:Int) then ((sign_Same.f (rdOf ByteArray.empty t376 0) (⟨#[99,104,117,110,107,101,100]⟩:ByteArray)).bind fun t380=>(some t380)) else (none)) else (some false))
set_option maxHeartbeats 8000000 in
set_option maxRecDepth 100000 in
theorem frame_chunked.calls (k:Nat) (A0:Option Addr) (c0:Nat) (l0:List (S41)) (r:Bool) (w:World) (hr0:Kd.C k41 w A0 l0.length l0) (hc0:l0.length ≤ c0) (h:frame_chunked.f k l0=some r) :
  Calls Tryd.prog 96 #[.slice A0 l0.length c0] w fun e w' => e = .returned (.bool r)∧Below w.heap.size w w' := by
 have HR0:=Aside0.mk hr0
 have HC0:=Aside0.mk hc0
 clear hr0 hc0
 have HB:=Aside0.mk (Below.refl w.heap.size w)
 have H:((field_List.f k l0 (⟨#[84,114,97,110,115,102,101,114,45,69,110,99,111,100,105,110,103]⟩:ByteArray)).bind fun t376=>(if (t376.length:Int)=1 then (if 0 < (t376.length:Int) then ((sign_Same.f (rdOf ByteArray.empty t376 0) (⟨#[99,104,117,110,107,101,100]⟩:ByteArray)).bind fun t380=>(some t380)) else (none)) else (some false)))=some r:=h
 clear h
 replace H:=Option.bind_eq_some_iff.mp H
 obtain ⟨t376,A20,H⟩:=H
 replace H:(if (t376.length:Int)=1 then (if 0 < (t376.length:Int) then ((sign_Same.f (rdOf ByteArray.empty t376 0) (⟨#[99,104,117,110,107,101,100]⟩:ByteArray)).bind fun t380=>(some t380)) else (none)) else (some false))=some r:=H
 have A2:=Aside0.mk A20
 clear A20
 by_cases c3:(t376.length:Int)=1
 ·rw [if_pos c3] at H
  have c3b0:((t376.length:Int) == 1)=true:=beq_iff_eq.mpr c3
  have c3b1:((t376.length:Int) != 1)=false:=bne_eq_false_iff_eq.mpr c3
  clear c3
  by_cases c4:0 < (t376.length:Int)
  ·rw [if_pos c4] at H
   have c4b0:decide (0 < (t376.length:Int))=true:=decide_eq_true c4
   have c4b1:decide (0 < t376.length)=true:=decide_eq_true (by omega)
   clear c4
   replace H:=Option.bind_eq_some_iff.mp H
   obtain ⟨t380,A50,H⟩:=H
   replace H:(some t380)=some r:=H
   have A5:=Aside0.mk A50
   clear A50
   obtain rfl:=Option.some.inj H
   go_enter Tryd.func96,Tryd.ntmps96
   go_wp2_with (first|((with_reducible refine gate_callee (f:=60) rfl ?_);refine goesL_ (some 5) rfl rfl Tryd.func60 (by kernel_rfl) rfl #[.slice A0 l0.length c0,.string (⟨#[84,114,97,110,115,102,101,114,45,69,110,99,111,100,105,110,103]⟩:ByteArray)] rfl (by (try simp only [List.map_toArray,List.map_cons,List.map_nil]);first|done|rfl|(simp only [List.length_drop,List.length_take];rfl)) ?_;(with_reducible refine (field_List.calls k _ _ l0 (⟨#[84,114,97,110,115,102,101,114,45,69,110,99,111,100,105,110,103]⟩:ByteArray) t376 _ ?side1 ?side2 A2.out).mono ?_);(case side1=>repeat (first|exact HR0.out|(with_reducible refine Kd.C_alloc ?_ _)|(with_reducible refine Kd.C_drewN ?_ _)|(with_reducible refine Kd.C_drew ?_)));(case side2=>exact HC0.out);rintro e w6 ⟨v377,rfl,ho0,hb⟩;(try clear A2);refine ⟨_,rfl,?_⟩;have n0_:=Aside0.mk (Kd.R_lower ho0 (below_size (by repeat (first|(with_reducible first|exact HB.out|apply below_alloc|apply pw_below_drewN|apply below_drew1)|exact HB.out))));have n1_:=Aside0.mk (below_step (by repeat (first|(with_reducible first|exact HB.out|apply below_alloc|apply pw_below_drewN|apply below_drew1)|exact HB.out)) hb);clear HB;have HO378:=n0_;have HB:=n1_;clear n0_ n1_;(try clear hb);(try clear hb2);(try clear hk);(try clear hi);(try clear ho0);obtain ⟨Ao7,co7,eo7⟩:=Kd.R_slice HO378.out;subst eo7;have p379:0 ≤ (0:Int):=(by omega);have q379:0 < (t376.length:Int):=of_decide_eq_true (by first|(with_reducible assumption)|assumption);obtain ⟨ad379,e379,hx379_0⟩:=Kd.at_string (Kd.R_reads' HO378.out).2.2 0 p379 q379;cases e379;have qi379:(0 < t376.length)=True:=eq_true (by omega);(try rw [show ((0:Int)).toNat=0 from rfl] at hx379_0);(try rw [Addr.add_zero'] at hx379_0);replace p379:=eq_true p379;replace q379:=eq_true q379)|(go_at_call 62;(with_reducible refine (sign_Same.calls (rdOf ByteArray.empty t376 0) (⟨#[99,104,117,110,107,101,100]⟩:ByteArray) t380 _ A5.out).mono ?_);rintro e w8 ⟨rfl,hb⟩;(try clear A5);have n0_:=Aside0.mk (Kd.R_below (by (with_reducible repeat (first|apply Kd.R_alloc|apply Kd.R_drewN|apply Kd.R_drew));exact HO378.out) hb);have n1_:=Aside0.mk (below_step (by repeat (first|(with_reducible first|exact HB.out|apply below_alloc|apply pw_below_drewN|apply below_drew1)|exact HB.out)) hb);clear HO378;clear HB;have HO378:=n0_;have HB:=n1_;clear n0_ n1_;(try clear hb);(try clear hb2);(try clear hk);(try clear hi)))
   go_ret
   exact ⟨by first|rfl|(simp [errW_none,errW_some] <;> rfl)|(simp [*,errW_none,errW_some] <;> rfl),by repeat (first|(with_reducible first|exact HB.out|apply below_alloc|apply pw_below_drewN|apply below_drew1)|exact HB.out)⟩
  ·rw [if_neg c4] at H
   exact absurd H (by simp)
 ·rw [if_neg c3] at H
  have c3b0:((t376.length:Int) == 1)=false:=beq_eq_false_iff_ne.mpr c3
  have c3b1:((t376.length:Int) != 1)=true:=bne_iff_ne.mpr c3
  obtain rfl:=Option.some.inj H
  go_enter Tryd.func96,Tryd.ntmps96
  go_wp2_with (first|((with_reducible refine gate_callee (f:=60) rfl ?_);refine goesL_ (some 5) rfl rfl Tryd.func60 (by kernel_rfl) rfl #[.slice A0 l0.length c0,.string (⟨#[84,114,97,110,115,102,101,114,45,69,110,99,111,100,105,110,103]⟩:ByteArray)] rfl (by (try simp only [List.map_toArray,List.map_cons,List.map_nil]);first|done|rfl|(simp only [List.length_drop,List.length_take];rfl)) ?_;(with_reducible refine (field_List.calls k _ _ l0 (⟨#[84,114,97,110,115,102,101,114,45,69,110,99,111,100,105,110,103]⟩:ByteArray) t376 _ ?side1 ?side2 A2.out).mono ?_);(case side1=>repeat (first|exact HR0.out|(with_reducible refine Kd.C_alloc ?_ _)|(with_reducible refine Kd.C_drewN ?_ _)|(with_reducible refine Kd.C_drew ?_)));(case side2=>exact HC0.out);rintro e w9 ⟨v377,rfl,ho0,hb⟩;(try clear A2);refine ⟨_,rfl,?_⟩;have n0_:=Aside0.mk (Kd.R_lower ho0 (below_size (by repeat (first|(with_reducible first|exact HB.out|apply below_alloc|apply pw_below_drewN|apply below_drew1)|exact HB.out))));have n1_:=Aside0.mk (below_step (by repeat (first|(with_reducible first|exact HB.out|apply below_alloc|apply pw_below_drewN|apply below_drew1)|exact HB.out)) hb);clear HB;have HO378:=n0_;have HB:=n1_;clear n0_ n1_;(try clear hb);(try clear hb2);(try clear hk);(try clear hi);(try clear ho0);obtain ⟨Ao10,co10,eo10⟩:=Kd.R_slice HO378.out;subst eo10))
  go_ret
  exact ⟨by first|rfl|(simp [errW_none,errW_some] <;> rfl)|(simp [*,errW_none,errW_some] <;> rfl),by repeat (first|(with_reducible first|exact HB.out|apply below_alloc|apply pw_below_drewN|apply below_drew1)|exact HB.out)⟩
def sign_Decimal.f (k:Nat) (a0:ByteArray):Option (Int × Bool):=(sign_number.f k a0 10 18).bind fun bt109=>(some (bt109.1,bt109.2))
set_option maxHeartbeats 8000000 in
set_option maxRecDepth 100000 in
theorem sign_Decimal.calls (k:Nat) (a0:ByteArray) (r1:Int) (r2:Bool) (w:World) (h:sign_Decimal.f k a0=some (r1,r2)) :
  Calls Tryd.prog 73 #[.string a0] w fun e w' => e = .returned (.tuple #[.int .i64 r1,.bool r2])∧Below w.heap.size w w' := by
 have HB:=Aside0.mk (Below.refl w.heap.size w)
 have H:((sign_number.f k a0 10 18).bind fun bt109=>(some (bt109.1,bt109.2)))=some (r1,r2):=h
 clear h
 replace H:=Option.bind_eq_some_iff.mp H
 obtain ⟨⟨t109,t110⟩,A20,H⟩:=H
 replace H:(some (t109,t110))=some (r1,r2):=H
 have A2:=Aside0.mk A20
 clear A20
 simp only [Option.some.injEq,Prod.mk.injEq] at H
 obtain ⟨rfl,rfl⟩:=H
 go_enter Tryd.func73,Tryd.ntmps73
 go_wp2_with (first|((with_reducible refine gate_callee (f:=80) rfl ?_);refine goesL_ (some 5) rfl rfl Tryd.func80 (by kernel_rfl) rfl #[.string a0,.int .i64 10,.int .i64 18] rfl (by (try simp only [List.map_toArray,List.map_cons,List.map_nil]);first|done|rfl|(simp only [List.length_drop,List.length_take];rfl)) ?_;(with_reducible refine (sign_number.calls k a0 10 18 t109 t110 _ A2.out).mono ?_);rintro e w3 ⟨rfl,hb⟩;(try clear A2);refine ⟨_,rfl,?_⟩;have n0_:=Aside0.mk (below_step (by repeat (first|(with_reducible first|exact HB.out|apply below_alloc|apply pw_below_drewN|apply below_drew1)|exact HB.out)) hb);clear HB;have HB:=n0_;clear n0_;(try clear hb);(try clear hb2);(try clear hk);(try clear hi)))
 go_ret2
 exact ⟨by first|rfl|(simp [errW_none,errW_some] <;> rfl)|(simp [*,errW_none,errW_some] <;> rfl),by repeat (first|(with_reducible first|exact HB.out|apply below_alloc|apply pw_below_drewN|apply below_drew1)|exact HB.out)⟩
def frame_length.l0:Nat → Int → List ByteArray → Int → Int → Option (Int × Bool)
 | 0,_,_,_,_=>none
 | k + 1,x5,x12,x13,x14=>if x14 < x13 then (if 0 ≤ x14 then (if x14 < (x12.length:Int) then ((sign_Decimal.f k (rdOf ByteArray.empty x12 x14)).bind fun bt374=>(if bt374.2=true then (if x5 ≥ 0 then (if bt374.1=x5 then (frame_length.l0 k bt374.1 x12 x13 (wrap64 (x14 + 1))) else (some (0,false))) else (frame_length.l0 k bt374.1 x12 x13 (wrap64 (x14 + 1)))) else (some (0,false)))) else (none)) else (none)) else (some (x5,decide (x5 ≥ 0)))
def frame_length.f (k:Nat) (l0:List (S41)):Option (Int × Bool):=(field_List.f k l0 (⟨#[67,111,110,116,101,110,116,45,76,101,110,103,116,104]⟩:ByteArray)).bind fun t370=>(frame_length.l0 k (-1) t370 (t370.length:Int) 0)
set_option maxHeartbeats 8000000 in
set_option maxRecDepth 100000 in
theorem frame_length.calls (k:Nat) (A0:Option Addr) (c0:Nat) (l0:List (S41)) (r1:Int) (r2:Bool) (w:World) (hr0:Kd.C k41 w A0 l0.length l0) (hc0:l0.length ≤ c0) (h:frame_length.f k l0=some (r1,r2)) :
  Calls Tryd.prog 95 #[.slice A0 l0.length c0] w fun e w' => e = .returned (.tuple #[.int .i64 r1,.bool r2])∧Below w.heap.size w w' := by
 have HR0:=Aside0.mk hr0
 have HC0:=Aside0.mk hc0
 clear hr0 hc0
 have HB:=Aside0.mk (Below.refl w.heap.size w)
 have H:((field_List.f k l0 (⟨#[67,111,110,116,101,110,116,45,76,101,110,103,116,104]⟩:ByteArray)).bind fun t370=>(frame_length.l0 k (-1) t370 (t370.length:Int) 0))=some (r1,r2):=h
 clear h
 replace H:=Option.bind_eq_some_iff.mp H
 obtain ⟨t370,A20,H⟩:=H
 replace H:(frame_length.l0 k (-1) t370 (t370.length:Int) 0)=some (r1,r2):=H
 have A2:=Aside0.mk A20
 clear A20
 have H' := Aside0.mk H
 clear H
 go_enter Tryd.func95,Tryd.ntmps95
 go_wp2_with (first|((with_reducible refine gate_callee (f:=60) rfl ?_);refine goesL_ (some 11) rfl rfl Tryd.func60 (by kernel_rfl) rfl #[.slice A0 l0.length c0,.string (⟨#[67,111,110,116,101,110,116,45,76,101,110,103,116,104]⟩:ByteArray)] rfl (by (try simp only [List.map_toArray,List.map_cons,List.map_nil]);first|done|rfl|(simp only [List.length_drop,List.length_take];rfl)) ?_;(with_reducible refine (field_List.calls k _ _ l0 (⟨#[67,111,110,116,101,110,116,45,76,101,110,103,116,104]⟩:ByteArray) t370 _ ?side1 ?side2 A2.out).mono ?_);(case side1=>repeat (first|exact HR0.out|(with_reducible refine Kd.C_alloc ?_ _)|(with_reducible refine Kd.C_drewN ?_ _)|(with_reducible refine Kd.C_drew ?_)));(case side2=>exact HC0.out);rintro e w3 ⟨v371,rfl,ho0,hb⟩;(try clear A2);refine ⟨_,rfl,?_⟩;have n0_:=Aside0.mk (Kd.R_lower ho0 (below_size (by repeat (first|(with_reducible first|exact HB.out|apply below_alloc|apply pw_below_drewN|apply below_drew1)|exact HB.out))));have n1_:=Aside0.mk (below_step (by repeat (first|(with_reducible first|exact HB.out|apply below_alloc|apply pw_below_drewN|apply below_drew1)|exact HB.out)) hb);clear HB;have HO372:=n0_;have HB:=n1_;clear n0_ n1_;(try clear hb);(try clear hb2);(try clear hk);(try clear hi);(try clear ho0);obtain ⟨Ao4,co4,eo4⟩:=Kd.R_slice HO372.out;subst eo4))
 go_loopg [5,14] k (fun kq v5 v14 w' => ∃ (x5_1:Int) (x14_1:Int),v5 = .int .i64 x5_1∧v14 = .int .i64 x14_1∧Aside0 (frame_length.l0 kq x5_1 t370 (t370.length:Int) x14_1=some (r1,r2))∧Aside0 (kq ≤ k)∧Aside0 (Kd.R Kd.string 9 w' w.heap.size (fun _=>True) (.slice Ao4 t370.length co4) t370)∧Aside0 (Below w.heap.size w w'))
 case atStart=>exact ⟨((-1)),(0),(by first|rfl|(simp;done)|(simp [*];done)),(by first|rfl|(simp;done)|(simp [*];done)),H',⟨Nat.le_refl _⟩,⟨by (with_reducible repeat (first|apply Kd.R_alloc|apply Kd.R_drewN|apply Kd.R_drew));exact HO372.out⟩,⟨by repeat (first|(with_reducible first|exact HB.out|apply below_alloc|apply pw_below_drewN|apply below_drew1)|exact HB.out)⟩⟩
 case round =>
  clear H'
  try clear p2
  obtain ⟨x5_1,x14_1,rfl,rfl,HA,HK1,HO_12,HB⟩:=hrel
  cases gk with
  | zero=>exact absurd HA.out (by simp [frame_length.l0])
  | succ k1 =>
   have H:=HA.out
   clear HA
   simp only [frame_length.l0] at H
   by_cases c5:x14_1 < (t370.length:Int)
   ·rw [if_pos c5] at H
    have c5b0:decide (x14_1 < (t370.length:Int))=true:=decide_eq_true c5
    clear c5
    by_cases c6:0 ≤ x14_1
    ·rw [if_pos c6] at H
     have c6b0:decide (0 ≤ x14_1)=true:=decide_eq_true c6
     clear c6
     by_cases c7:x14_1 < (t370.length:Int)
     ·rw [if_pos c7] at H
      have c7b0:decide (x14_1 < (t370.length:Int))=true:=decide_eq_true c7
      clear c7
      replace H:=Option.bind_eq_some_iff.mp H
      obtain ⟨⟨t374,t375⟩,A80,H⟩:=H
      replace H:(if t375=true then (if x5_1 ≥ 0 then (if t374=x5_1 then (frame_length.l0 k1 t374 t370 (t370.length:Int) (wrap64 (x14_1 + 1))) else (some (0,false))) else (frame_length.l0 k1 t374 t370 (t370.length:Int) (wrap64 (x14_1 + 1)))) else (some (0,false)))=some (r1,r2):=H
      have A8:=Aside0.mk A80
      clear A80
      by_cases c9:t375=true
      ·subst c9
       have H1:(if x5_1 ≥ 0 then (if t374=x5_1 then (frame_length.l0 k1 t374 t370 (t370.length:Int) (wrap64 (x14_1 + 1))) else (some (0,false))) else (frame_length.l0 k1 t374 t370 (t370.length:Int) (wrap64 (x14_1 + 1))))=some (r1,r2):=by rw [if_pos rfl] at H;exact H
       clear H
       have H:=H1
       clear H1
       by_cases c10:x5_1 ≥ 0
       ·rw [if_pos c10] at H
        have c10b0:decide (0 ≤ x5_1)=true:=decide_eq_true c10
        clear c10
        by_cases c11:t374=x5_1
        ·rw [if_pos c11] at H
         have c11b0:(t374 == x5_1)=true:=beq_iff_eq.mpr c11
         have c11b1:(t374 != x5_1)=false:=bne_eq_false_iff_eq.mpr c11
         clear c11
         have H' := Aside0.mk H
         clear H
         have p373:0 ≤ (x14_1:Int):=of_decide_eq_true (by first|(with_reducible assumption)|assumption)
         have q373:x14_1 < (t370.length:Int):=of_decide_eq_true (by first|(with_reducible assumption)|assumption)
         obtain ⟨ad373,e373,hx373_0⟩:=Kd.at_string (Kd.R_reads' HO_12.out).2.2 x14_1 p373 q373
         cases e373
         replace p373:=eq_true p373
         replace q373:=eq_true q373
         go_wp2_with (first|((with_reducible refine gate_callee (f:=73) rfl ?_);refine goesL_ (some 20) rfl rfl Tryd.func73 (by kernel_rfl) rfl #[.string (rdOf ByteArray.empty t370 x14_1)] rfl (by (try simp only [List.map_toArray,List.map_cons,List.map_nil]);first|done|rfl|(simp only [List.length_drop,List.length_take];rfl)) ?_;(with_reducible refine (sign_Decimal.calls k1 (rdOf ByteArray.empty t370 x14_1) t374 true _ A8.out).mono ?_);rintro e w12 ⟨rfl,hb⟩;(try clear A8);refine ⟨_,rfl,?_⟩;have n0_:=Aside0.mk (Kd.R_below (by (with_reducible repeat (first|apply Kd.R_alloc|apply Kd.R_drewN|apply Kd.R_drew));exact HO_12.out) hb);have n1_:=Aside0.mk (below_step (by repeat (first|(with_reducible first|exact HB.out|apply below_alloc|apply pw_below_drewN|apply below_drew1)|exact HB.out)) hb);clear HO_12;clear HB;have HO_12:=n0_;have HB:=n1_;clear n0_ n1_;(try clear hb);(try clear hb2);(try clear hk);(try clear hi)))
         go_roundg k1
         case measure=>have:=HK1.out;omega
         case rel=>exact ⟨(t374),(wrap64 (x14_1 + 1)),(by first|rfl|(simp;done)|(simp [*];done)),(by first|rfl|(simp;done)|(simp [*];done)),H',⟨by have:=HK1.out;omega⟩,⟨by (with_reducible repeat (first|apply Kd.R_alloc|apply Kd.R_drewN|apply Kd.R_drew));exact HO_12.out⟩,⟨by repeat (first|(with_reducible first|exact HB.out|apply below_alloc|apply pw_below_drewN|apply below_drew1)|exact HB.out)⟩⟩
        ·rw [if_neg c11] at H
         have c11b0:(t374 == x5_1)=false:=beq_eq_false_iff_ne.mpr c11
         have c11b1:(t374 != x5_1)=true:=bne_iff_ne.mpr c11
         simp only [Option.some.injEq,Prod.mk.injEq] at H
         obtain ⟨rfl,rfl⟩:=H
         have p373:0 ≤ (x14_1:Int):=of_decide_eq_true (by first|(with_reducible assumption)|assumption)
         have q373:x14_1 < (t370.length:Int):=of_decide_eq_true (by first|(with_reducible assumption)|assumption)
         obtain ⟨ad373,e373,hx373_0⟩:=Kd.at_string (Kd.R_reads' HO_12.out).2.2 x14_1 p373 q373
         cases e373
         replace p373:=eq_true p373
         replace q373:=eq_true q373
         go_wp2_with (first|((with_reducible refine gate_callee (f:=73) rfl ?_);refine goesL_ (some 20) rfl rfl Tryd.func73 (by kernel_rfl) rfl #[.string (rdOf ByteArray.empty t370 x14_1)] rfl (by (try simp only [List.map_toArray,List.map_cons,List.map_nil]);first|done|rfl|(simp only [List.length_drop,List.length_take];rfl)) ?_;(with_reducible refine (sign_Decimal.calls k1 (rdOf ByteArray.empty t370 x14_1) t374 true _ A8.out).mono ?_);rintro e w13 ⟨rfl,hb⟩;(try clear A8);refine ⟨_,rfl,?_⟩;have n0_:=Aside0.mk (Kd.R_below (by (with_reducible repeat (first|apply Kd.R_alloc|apply Kd.R_drewN|apply Kd.R_drew));exact HO_12.out) hb);have n1_:=Aside0.mk (below_step (by repeat (first|(with_reducible first|exact HB.out|apply below_alloc|apply pw_below_drewN|apply below_drew1)|exact HB.out)) hb);clear HO_12;clear HB;have HO_12:=n0_;have HB:=n1_;clear n0_ n1_;(try clear hb);(try clear hb2);(try clear hk);(try clear hi)))
         go_ret2
         exact ⟨by first|rfl|(simp [errW_none,errW_some] <;> rfl)|(simp [*,errW_none,errW_some] <;> rfl),by repeat (first|(with_reducible first|exact HB.out|apply below_alloc|apply pw_below_drewN|apply below_drew1)|exact HB.out)⟩
       ·rw [if_neg c10] at H
        have c10b0:decide (0 ≤ x5_1)=false:=decide_eq_false c10
        clear c10
        have H' := Aside0.mk H
        clear H
        have p373:0 ≤ (x14_1:Int):=of_decide_eq_true (by first|(with_reducible assumption)|assumption)
        have q373:x14_1 < (t370.length:Int):=of_decide_eq_true (by first|(with_reducible assumption)|assumption)
        obtain ⟨ad373,e373,hx373_0⟩:=Kd.at_string (Kd.R_reads' HO_12.out).2.2 x14_1 p373 q373
        cases e373
        replace p373:=eq_true p373
        replace q373:=eq_true q373
        go_wp2_with (first|((with_reducible refine gate_callee (f:=73) rfl ?_);refine goesL_ (some 20) rfl rfl Tryd.func73 (by kernel_rfl) rfl #[.string (rdOf ByteArray.empty t370 x14_1)] rfl (by (try simp only [List.map_toArray,List.map_cons,List.map_nil]);first|done|rfl|(simp only [List.length_drop,List.length_take];rfl)) ?_;(with_reducible refine (sign_Decimal.calls k1 (rdOf ByteArray.empty t370 x14_1) t374 true _ A8.out).mono ?_);rintro e w14 ⟨rfl,hb⟩;(try clear A8);refine ⟨_,rfl,?_⟩;have n0_:=Aside0.mk (Kd.R_below (by (with_reducible repeat (first|apply Kd.R_alloc|apply Kd.R_drewN|apply Kd.R_drew));exact HO_12.out) hb);have n1_:=Aside0.mk (below_step (by repeat (first|(with_reducible first|exact HB.out|apply below_alloc|apply pw_below_drewN|apply below_drew1)|exact HB.out)) hb);clear HO_12;clear HB;have HO_12:=n0_;have HB:=n1_;clear n0_ n1_;(try clear hb);(try clear hb2);(try clear hk);(try clear hi)))
        go_roundg k1
        case measure=>have:=HK1.out;omega
        case rel=>exact ⟨(t374),(wrap64 (x14_1 + 1)),(by first|rfl|(simp;done)|(simp [*];done)),(by first|rfl|(simp;done)|(simp [*];done)),H',⟨by have:=HK1.out;omega⟩,⟨by (with_reducible repeat (first|apply Kd.R_alloc|apply Kd.R_drewN|apply Kd.R_drew));exact HO_12.out⟩,⟨by repeat (first|(with_reducible first|exact HB.out|apply below_alloc|apply pw_below_drewN|apply below_drew1)|exact HB.out)⟩⟩
      ·replace c9:=Bool.eq_false_iff.mpr c9
       subst c9
       have H1:(some (0,false))=some (r1,r2):=by rw [if_neg (show ¬ (false=true) by decide)] at H;exact H
       clear H
       have H:=H1
       clear H1
       simp only [Option.some.injEq,Prod.mk.injEq] at H
       obtain ⟨rfl,rfl⟩:=H
       have p373:0 ≤ (x14_1:Int):=of_decide_eq_true (by first|(with_reducible assumption)|assumption)
       have q373:x14_1 < (t370.length:Int):=of_decide_eq_true (by first|(with_reducible assumption)|assumption)
       obtain ⟨ad373,e373,hx373_0⟩:=Kd.at_string (Kd.R_reads' HO_12.out).2.2 x14_1 p373 q373
       cases e373
       replace p373:=eq_true p373
       replace q373:=eq_true q373
       go_wp2_with (first|((with_reducible refine gate_callee (f:=73) rfl ?_);refine goesL_ (some 20) rfl rfl Tryd.func73 (by kernel_rfl) rfl #[.string (rdOf ByteArray.empty t370 x14_1)] rfl (by (try simp only [List.map_toArray,List.map_cons,List.map_nil]);first|done|rfl|(simp only [List.length_drop,List.length_take];rfl)) ?_;(with_reducible refine (sign_Decimal.calls k1 (rdOf ByteArray.empty t370 x14_1) t374 false _ A8.out).mono ?_);rintro e w15 ⟨rfl,hb⟩;(try clear A8);refine ⟨_,rfl,?_⟩;have n0_:=Aside0.mk (Kd.R_below (by (with_reducible repeat (first|apply Kd.R_alloc|apply Kd.R_drewN|apply Kd.R_drew));exact HO_12.out) hb);have n1_:=Aside0.mk (below_step (by repeat (first|(with_reducible first|exact HB.out|apply below_alloc|apply pw_below_drewN|apply below_drew1)|exact HB.out)) hb);clear HO_12;clear HB;have HO_12:=n0_;have HB:=n1_;clear n0_ n1_;(try clear hb);(try clear hb2);(try clear hk);(try clear hi)))
       go_ret2
       exact ⟨by first|rfl|(simp [errW_none,errW_some] <;> rfl)|(simp [*,errW_none,errW_some] <;> rfl),by repeat (first|(with_reducible first|exact HB.out|apply below_alloc|apply pw_below_drewN|apply below_drew1)|exact HB.out)⟩
     ·rw [if_neg c7] at H
      exact absurd H (by simp)
    ·rw [if_neg c6] at H
     exact absurd H (by simp)
   ·rw [if_neg c5] at H
    have c5b0:decide (x14_1 < (t370.length:Int))=false:=decide_eq_false c5
    clear c5
    simp only [Option.some.injEq,Prod.mk.injEq] at H
    obtain ⟨rfl,rfl⟩:=H
    go_wp2
    go_ret2
    exact ⟨by first|rfl|(simp [errW_none,errW_some] <;> rfl)|(simp [*,errW_none,errW_some] <;> rfl),by repeat (first|(with_reducible first|exact HB.out|apply below_alloc|apply pw_below_drewN|apply below_drew1)|exact HB.out)⟩
def frame_there.f (k:Nat) (l0:List (S41)) (a1:ByteArray):Option (Bool):=(field_Get.f k l0 a1).bind fun t367=>(some (decide ((t367.length:Int) > 0)))
set_option maxHeartbeats 8000000 in
set_option maxRecDepth 100000 in
theorem frame_there.calls (k:Nat) (A0:Option Addr) (c0:Nat) (l0:List (S41)) (a1:ByteArray) (r:Bool) (w:World) (hr0:Kd.C k41 w A0 l0.length l0) (hc0:l0.length ≤ c0) (h:frame_there.f k l0 a1=some r) :
  Calls Tryd.prog 76 #[.slice A0 l0.length c0,.string a1] w fun e w' => e = .returned (.bool r)∧Below w.heap.size w w' := by
 have HR0:=Aside0.mk hr0
 have HC0:=Aside0.mk hc0
 clear hr0 hc0
 have HB:=Aside0.mk (Below.refl w.heap.size w)
 have H:((field_Get.f k l0 a1).bind fun t367=>(some (decide ((t367.length:Int) > 0))))=some r:=h
 clear h
 replace H:=Option.bind_eq_some_iff.mp H
 obtain ⟨t367,A30,H⟩:=H
 replace H:(some (decide ((t367.length:Int) > 0)))=some r:=H
 have A3:=Aside0.mk A30
 clear A30
 obtain rfl:=Option.some.inj H
 go_enter Tryd.func76,Tryd.ntmps76
 go_wp2_with (first|((with_reducible refine gate_callee (f:=90) rfl ?_);refine goesL_ (some 7) rfl rfl Tryd.func90 (by kernel_rfl) rfl #[.slice A0 l0.length c0,.string a1] rfl (by (try simp only [List.map_toArray,List.map_cons,List.map_nil]);first|done|rfl|(simp only [List.length_drop,List.length_take];rfl)) ?_;(with_reducible refine (field_Get.calls k _ _ l0 a1 t367 _ ?side1 ?side2 A3.out).mono ?_);(case side1=>repeat (first|exact HR0.out|(with_reducible refine Kd.C_alloc ?_ _)|(with_reducible refine Kd.C_drewN ?_ _)|(with_reducible refine Kd.C_drew ?_)));(case side2=>exact HC0.out);rintro e w4 ⟨v368,rfl,ho0,hb⟩;(try clear A3);refine ⟨_,rfl,?_⟩;have n0_:=Aside0.mk (Kd.R_lower ho0 (below_size (by repeat (first|(with_reducible first|exact HB.out|apply below_alloc|apply pw_below_drewN|apply below_drew1)|exact HB.out))));have n1_:=Aside0.mk (below_step (by repeat (first|(with_reducible first|exact HB.out|apply below_alloc|apply pw_below_drewN|apply below_drew1)|exact HB.out)) hb);clear HB;have HO369:=n0_;have HB:=n1_;clear n0_ n1_;(try clear hb);(try clear hb2);(try clear hk);(try clear hi);(try clear ho0);obtain ⟨Ao5,co5,eo5⟩:=Kd.R_slice HO369.out;subst eo5))
 go_ret
 exact ⟨by first|rfl|(simp [errW_none,errW_some] <;> rfl)|(simp [*,errW_none,errW_some] <;> rfl),by repeat (first|(with_reducible first|exact HB.out|apply below_alloc|apply pw_below_drewN|apply below_drew1)|exact HB.out)⟩
mutual
def frame_Request.j0:Nat → List (S41) → Bool → Bool → Int → Bool → Bool → Option (Int × Bool × Int)
 | 0,_,_,_,_,_,_=>none
 | k + 1,x0,x7,x8,x9,x10,x20=>if x20=true then (some (0,false,400)) else (if x8=true then ((frame_chunked.f k x0).bind fun t385=>(frame_Request.j1 k x7 x8 x9 x10 (!t385))) else (frame_Request.j1 k x7 x8 x9 x10 false))
def frame_Request.j1:Nat → Bool → Bool → Int → Bool → Bool → Option (Int × Bool × Int)
 | 0,_,_,_,_,_=>none
 | k + 1,x7,x8,x9,x10,x29=>if x29=true then (some (0,false,501)) else (if x8=true then (some (0,true,0)) else (if x7=true then (if x10=true then (if x9 > 4096 then (some (0,false,413)) else (some (x9,false,0))) else (some (0,false,400))) else (some (0,false,0))))
end
def frame_Request.f (k:Nat) (l0:List (S41)) (a1:Int):Option (Int × Bool × Int):=(frame_there.f k l0 (⟨#[67,111,110,116,101,110,116,45,76,101,110,103,116,104]⟩:ByteArray)).bind fun t381=>((frame_there.f k l0 (⟨#[84,114,97,110,115,102,101,114,45,69,110,99,111,100,105,110,103]⟩:ByteArray)).bind fun t382=>((frame_length.f k l0).bind fun bt383=>(if t382=true then (if t381=true then (frame_Request.j0 k l0 t381 t382 bt383.1 bt383.2 true) else (frame_Request.j0 k l0 t381 t382 bt383.1 bt383.2 (a1 == 0))) else (frame_Request.j0 k l0 t381 t382 bt383.1 bt383.2 false))))
set_option maxHeartbeats 8000000 in
set_option maxRecDepth 100000 in
theorem frame_Request.calls (k:Nat) (A0:Option Addr) (c0:Nat) (l0:List (S41)) (a1:Int) (r1:Int) (r2:Bool) (r3:Int) (w:World) (hr0:Kd.C k41 w A0 l0.length l0) (hc0:l0.length ≤ c0) (h:frame_Request.f k l0 a1=some (r1,r2,r3)) :
  Calls Tryd.prog 75 #[.slice A0 l0.length c0,.int .i64 a1] w fun e w' => e = .returned (.tuple #[.int .i64 r1,.bool r2,.int .i64 r3])∧Below w.heap.size w w' := by
 have HR0:=Aside0.mk hr0
 have HC0:=Aside0.mk hc0
 clear hr0 hc0
 have HB:=Aside0.mk (Below.refl w.heap.size w)
 have H:((frame_there.f k l0 (⟨#[67,111,110,116,101,110,116,45,76,101,110,103,116,104]⟩:ByteArray)).bind fun t381=>((frame_there.f k l0 (⟨#[84,114,97,110,115,102,101,114,45,69,110,99,111,100,105,110,103]⟩:ByteArray)).bind fun t382=>((frame_length.f k l0).bind fun bt383=>(if t382=true then (if t381=true then (frame_Request.j0 k l0 t381 t382 bt383.1 bt383.2 true) else (frame_Request.j0 k l0 t381 t382 bt383.1 bt383.2 (a1 == 0))) else (frame_Request.j0 k l0 t381 t382 bt383.1 bt383.2 false)))))=some (r1,r2,r3):=h
 clear h
 replace H:=Option.bind_eq_some_iff.mp H
 obtain ⟨t381,A30,H⟩:=H
 replace H:((frame_there.f k l0 (⟨#[84,114,97,110,115,102,101,114,45,69,110,99,111,100,105,110,103]⟩:ByteArray)).bind fun t382=>((frame_length.f k l0).bind fun bt383=>(if t382=true then (if t381=true then (frame_Request.j0 k l0 t381 t382 bt383.1 bt383.2 true) else (frame_Request.j0 k l0 t381 t382 bt383.1 bt383.2 (a1 == 0))) else (frame_Request.j0 k l0 t381 t382 bt383.1 bt383.2 false))))=some (r1,r2,r3):=H
 have A3:=Aside0.mk A30
 clear A30
 replace H:=Option.bind_eq_some_iff.mp H
 obtain ⟨t382,A40,H⟩:=H
 replace H:((frame_length.f k l0).bind fun bt383=>(if t382=true then (if t381=true then (frame_Request.j0 k l0 t381 t382 bt383.1 bt383.2 true) else (frame_Request.j0 k l0 t381 t382 bt383.1 bt383.2 (a1 == 0))) else (frame_Request.j0 k l0 t381 t382 bt383.1 bt383.2 false)))=some (r1,r2,r3):=H
 have A4:=Aside0.mk A40
 clear A40
 replace H:=Option.bind_eq_some_iff.mp H
 obtain ⟨⟨t383,t384⟩,A50,H⟩:=H
 replace H:(if t382=true then (if t381=true then (frame_Request.j0 k l0 t381 t382 t383 t384 true) else (frame_Request.j0 k l0 t381 t382 t383 t384 (a1 == 0))) else (frame_Request.j0 k l0 t381 t382 t383 t384 false))=some (r1,r2,r3):=H
 have A5:=Aside0.mk A50
 clear A50
 have HC6:=Aside0.mk H
 clear H
 go_enter Tryd.func75,Tryd.ntmps75
 go_upto_region 3 with (first|((with_reducible refine gate_callee (f:=76) rfl ?_);refine goesL_ (some 12) rfl rfl Tryd.func76 (by kernel_rfl) rfl #[.slice A0 l0.length c0,.string (⟨#[67,111,110,116,101,110,116,45,76,101,110,103,116,104]⟩:ByteArray)] rfl (by (try simp only [List.map_toArray,List.map_cons,List.map_nil]);first|done|rfl|(simp only [List.length_drop,List.length_take];rfl)) ?_;(with_reducible refine (frame_there.calls k _ _ l0 (⟨#[67,111,110,116,101,110,116,45,76,101,110,103,116,104]⟩:ByteArray) t381 _ ?side1 ?side2 A3.out).mono ?_);(case side1=>repeat (first|exact HR0.out|(with_reducible refine Kd.C_alloc ?_ _)|(with_reducible refine Kd.C_drewN ?_ _)|(with_reducible refine Kd.C_drew ?_)));(case side2=>exact HC0.out);rintro e w7 ⟨rfl,hb⟩;refine ⟨_,rfl,?_⟩;have n0_:=Aside0.mk (below_step (by repeat (first|(with_reducible first|exact HB.out|apply below_alloc|apply pw_below_drewN|apply below_drew1)|exact HB.out)) hb);clear HB;have HB:=n0_;clear n0_;(try clear hb);(try clear hb2);(try clear hk);(try clear hi))|((with_reducible refine gate_callee (f:=76) rfl ?_);refine goesL_ (some 14) rfl rfl Tryd.func76 (by kernel_rfl) rfl #[.slice A0 l0.length c0,.string (⟨#[84,114,97,110,115,102,101,114,45,69,110,99,111,100,105,110,103]⟩:ByteArray)] rfl (by (try simp only [List.map_toArray,List.map_cons,List.map_nil]);first|done|rfl|(simp only [List.length_drop,List.length_take];rfl)) ?_;(with_reducible refine (frame_there.calls k _ _ l0 (⟨#[84,114,97,110,115,102,101,114,45,69,110,99,111,100,105,110,103]⟩:ByteArray) t382 _ ?side1 ?side2 A4.out).mono ?_);(case side1=>repeat (first|exact (Kd.C_below HR0.out HB.out)|(with_reducible refine Kd.C_alloc ?_ _)|(with_reducible refine Kd.C_drewN ?_ _)|(with_reducible refine Kd.C_drew ?_)));(case side2=>exact HC0.out);rintro e w8 ⟨rfl,hb⟩;refine ⟨_,rfl,?_⟩;have n0_:=Aside0.mk (below_step (by repeat (first|(with_reducible first|exact HB.out|apply below_alloc|apply pw_below_drewN|apply below_drew1)|exact HB.out)) hb);clear HB;have HB:=n0_;clear n0_;(try clear hb);(try clear hb2);(try clear hk);(try clear hi))|((with_reducible refine gate_callee (f:=95) rfl ?_);refine goesL_ (some 17) rfl rfl Tryd.func95 (by kernel_rfl) rfl #[.slice A0 l0.length c0] rfl (by (try simp only [List.map_toArray,List.map_cons,List.map_nil]);first|done|rfl|(simp only [List.length_drop,List.length_take];rfl)) ?_;(with_reducible refine (frame_length.calls k _ _ l0 t383 t384 _ ?side1 ?side2 A5.out).mono ?_);(case side1=>repeat (first|exact (Kd.C_below HR0.out HB.out)|(with_reducible refine Kd.C_alloc ?_ _)|(with_reducible refine Kd.C_drewN ?_ _)|(with_reducible refine Kd.C_drew ?_)));(case side2=>exact HC0.out);rintro e w9 ⟨rfl,hb⟩;refine ⟨_,rfl,?_⟩;have n0_:=Aside0.mk (below_step (by repeat (first|(with_reducible first|exact HB.out|apply below_alloc|apply pw_below_drewN|apply below_drew1)|exact HB.out)) hb);clear HB;have HB:=n0_;clear n0_;(try clear hb);(try clear hb2);(try clear hk);(try clear hi)))
 (try simp only [Act.put,zqA,zqB,zqC])
 go_cut [20] (fun v20 wc => ∃ (kq:Nat) (x20_5:Bool),v20 = .bool x20_5∧Aside0 (frame_Request.j0 kq l0 t381 t382 t383 t384 x20_5=some (r1,r2,r3))∧Aside0 (kq ≤ k)∧Aside0 (Below w.heap.size w wc))
 case first =>
  have H:=HC6.out
  clear HC6
  by_cases c10:t382=true
  ·subst c10
   have H1:(if t381=true then (frame_Request.j0 k l0 t381 true t383 t384 true) else (frame_Request.j0 k l0 t381 true t383 t384 (a1 == 0)))=some (r1,r2,r3):=by rw [if_pos rfl] at H;exact H
   clear H
   have H:=H1
   clear H1
   by_cases c11:t381=true
   ·subst c11
    have H1:(frame_Request.j0 k l0 true true t383 t384 true)=some (r1,r2,r3):=by rw [if_pos rfl] at H;exact H
    clear H
    have H:=H1
    clear H1
    have H' := Aside0.mk H
    clear H
    go_wp2
    go_meet
    case rel=>exact ⟨_,(true),(by first|rfl|(simp;done)|(simp [*];done)),H',⟨by first|omega|exact Nat.le_refl _⟩,⟨by repeat (first|(with_reducible first|exact HB.out|apply below_alloc|apply pw_below_drewN|apply below_drew1)|exact HB.out)⟩⟩
   ·replace c11:=Bool.eq_false_iff.mpr c11
    subst c11
    have H1:(frame_Request.j0 k l0 false true t383 t384 (a1 == 0))=some (r1,r2,r3):=by rw [if_neg (show ¬ (false=true) by decide)] at H;exact H
    clear H
    have H:=H1
    clear H1
    have H' := Aside0.mk H
    clear H
    go_wp2
    go_meet
    case rel=>exact ⟨_,((a1 == 0)),(by first|rfl|(simp;done)|(simp [*];done)),H',⟨by first|omega|exact Nat.le_refl _⟩,⟨by repeat (first|(with_reducible first|exact HB.out|apply below_alloc|apply pw_below_drewN|apply below_drew1)|exact HB.out)⟩⟩
  ·replace c10:=Bool.eq_false_iff.mpr c10
   subst c10
   have H1:(frame_Request.j0 k l0 t381 false t383 t384 false)=some (r1,r2,r3):=by rw [if_neg (show ¬ (false=true) by decide)] at H;exact H
   clear H
   have H:=H1
   clear H1
   have H' := Aside0.mk H
   clear H
   go_wp2
   go_meet
   case rel=>exact ⟨_,(false),(by first|rfl|(simp;done)|(simp [*];done)),H',⟨by first|omega|exact Nat.le_refl _⟩,⟨by repeat (first|(with_reducible first|exact HB.out|apply below_alloc|apply pw_below_drewN|apply below_drew1)|exact HB.out)⟩⟩
 case rest =>
  clear HC6
  try clear c1
  try clear p2
  try clear c7
  try clear c9
  try clear c10
  try clear c11
  obtain ⟨kq,x20_5,rfl,HA,HJ5,HB⟩:=hcut
  cases kq with
  | zero=>exact absurd HA.out (by simp [frame_Request.j0])
  | succ kj5 =>
   have H:=HA.out
   clear HA
   simp only [frame_Request.j0] at H
   by_cases c12:x20_5=true
   ·subst c12
    have H1:(some (0,false,400))=some (r1,r2,r3):=by rw [if_pos rfl] at H;exact H
    clear H
    have H:=H1
    clear H1
    simp only [Option.some.injEq,Prod.mk.injEq] at H
    obtain ⟨rfl,rfl,rfl⟩:=H
    go_wp2
    go_ret3
    exact ⟨by first|rfl|(simp [errW_none,errW_some] <;> rfl)|(simp [*,errW_none,errW_some] <;> rfl),by repeat (first|(with_reducible first|exact HB.out|apply below_alloc|apply pw_below_drewN|apply below_drew1)|exact HB.out)⟩
   ·replace c12:=Bool.eq_false_iff.mpr c12
    subst c12
    have H1:(if t382=true then ((frame_chunked.f kj5 l0).bind fun t385=>(frame_Request.j1 kj5 t381 t382 t383 t384 (!t385))) else (frame_Request.j1 kj5 t381 t382 t383 t384 false))=some (r1,r2,r3):=by rw [if_neg (show ¬ (false=true) by decide)] at H;exact H
    clear H
    have H:=H1
    clear H1
    have HC13:=Aside0.mk H
    clear H
    go_upto_region 5 with (fail)
    go_cut [29] (fun v29 wc => ∃ (kq:Nat) (x29_12:Bool),v29 = .bool x29_12∧Aside0 (frame_Request.j1 kq t381 t382 t383 t384 x29_12=some (r1,r2,r3))∧Aside0 (kq ≤ kj5)∧Aside0 (Below w.heap.size w wc))
    case first =>
     have H:=HC13.out
     clear HC13
     by_cases c14:t382=true
     ·subst c14
      have H1:((frame_chunked.f kj5 l0).bind fun t385=>(frame_Request.j1 kj5 t381 true t383 t384 (!t385)))=some (r1,r2,r3):=by rw [if_pos rfl] at H;exact H
      clear H
      have H:=H1
      clear H1
      replace H:=Option.bind_eq_some_iff.mp H
      obtain ⟨t385,A150,H⟩:=H
      replace H:(frame_Request.j1 kj5 t381 true t383 t384 (!t385))=some (r1,r2,r3):=H
      have A15:=Aside0.mk A150
      clear A150
      have H' := Aside0.mk H
      clear H
      go_wp2_with (first|(go_at_call 96;(with_reducible refine (frame_chunked.calls kj5 _ _ l0 t385 _ ?side1 ?side2 A15.out).mono ?_);(case side1=>repeat (first|exact (Kd.C_below HR0.out HB.out)|(with_reducible refine Kd.C_alloc ?_ _)|(with_reducible refine Kd.C_drewN ?_ _)|(with_reducible refine Kd.C_drew ?_)));(case side2=>exact HC0.out);rintro e w16 ⟨rfl,hb⟩;(try clear A15);have n0_:=Aside0.mk (below_step (by repeat (first|(with_reducible first|exact HB.out|apply below_alloc|apply pw_below_drewN|apply below_drew1)|exact HB.out)) hb);clear HB;have HB:=n0_;clear n0_;(try clear hb);(try clear hb2);(try clear hk);(try clear hi)))
      go_meet
      case rel=>exact ⟨_,(!t385),(by first|rfl|(simp;done)|(simp [*];done)),H',⟨by have:=HJ5.out;first|omega|exact Nat.le_refl _⟩,⟨by repeat (first|(with_reducible first|exact HB.out|apply below_alloc|apply pw_below_drewN|apply below_drew1)|exact HB.out)⟩⟩
     ·replace c14:=Bool.eq_false_iff.mpr c14
      subst c14
      have H1:(frame_Request.j1 kj5 t381 false t383 t384 false)=some (r1,r2,r3):=by rw [if_neg (show ¬ (false=true) by decide)] at H;exact H
      clear H
      have H:=H1
      clear H1
      have H' := Aside0.mk H
      clear H
      go_wp2
      go_meet
      case rel=>exact ⟨_,(false),(by first|rfl|(simp;done)|(simp [*];done)),H',⟨by have:=HJ5.out;first|omega|exact Nat.le_refl _⟩,⟨by repeat (first|(with_reducible first|exact HB.out|apply below_alloc|apply pw_below_drewN|apply below_drew1)|exact HB.out)⟩⟩
    case rest =>
     clear HC13
     try clear c1
     try clear p2
     try clear c7
     try clear c9
     try clear c10
     try clear c11
     try clear c12
     try clear c14
     try clear p2
     obtain ⟨kq,x29_12,rfl,HA,HJ12,HB⟩:=hcut
     cases kq with
     | zero=>exact absurd HA.out (by simp [frame_Request.j1])
     | succ kj12 =>
      have H:=HA.out
      clear HA
      simp only [frame_Request.j1] at H
      by_cases c17:x29_12=true
      ·subst c17
       have H1:(some (0,false,501))=some (r1,r2,r3):=by rw [if_pos rfl] at H;exact H
       clear H
       have H:=H1
       clear H1
       simp only [Option.some.injEq,Prod.mk.injEq] at H
       obtain ⟨rfl,rfl,rfl⟩:=H
       go_wp2
       go_ret3
       exact ⟨by first|rfl|(simp [errW_none,errW_some] <;> rfl)|(simp [*,errW_none,errW_some] <;> rfl),by repeat (first|(with_reducible first|exact HB.out|apply below_alloc|apply pw_below_drewN|apply below_drew1)|exact HB.out)⟩
      ·replace c17:=Bool.eq_false_iff.mpr c17
       subst c17
       have H1:(if t382=true then (some (0,true,0)) else (if t381=true then (if t384=true then (if t383 > 4096 then (some (0,false,413)) else (some (t383,false,0))) else (some (0,false,400))) else (some (0,false,0))))=some (r1,r2,r3):=by rw [if_neg (show ¬ (false=true) by decide)] at H;exact H
       clear H
       have H:=H1
       clear H1
       by_cases c18:t382=true
       ·subst c18
        have H1:(some (0,true,0))=some (r1,r2,r3):=by rw [if_pos rfl] at H;exact H
        clear H
        have H:=H1
        clear H1
        simp only [Option.some.injEq,Prod.mk.injEq] at H
        obtain ⟨rfl,rfl,rfl⟩:=H
        go_wp2
        go_ret3
        exact ⟨by first|rfl|(simp [errW_none,errW_some] <;> rfl)|(simp [*,errW_none,errW_some] <;> rfl),by repeat (first|(with_reducible first|exact HB.out|apply below_alloc|apply pw_below_drewN|apply below_drew1)|exact HB.out)⟩
       ·replace c18:=Bool.eq_false_iff.mpr c18
        subst c18
        have H1:(if t381=true then (if t384=true then (if t383 > 4096 then (some (0,false,413)) else (some (t383,false,0))) else (some (0,false,400))) else (some (0,false,0)))=some (r1,r2,r3):=by rw [if_neg (show ¬ (false=true) by decide)] at H;exact H
        clear H
        have H:=H1
        clear H1
        by_cases c19:t381=true
        ·subst c19
         have H1:(if t384=true then (if t383 > 4096 then (some (0,false,413)) else (some (t383,false,0))) else (some (0,false,400)))=some (r1,r2,r3):=by rw [if_pos rfl] at H;exact H
         clear H
         have H:=H1
         clear H1
         by_cases c20:t384=true
         ·subst c20
          have H1:(if t383 > 4096 then (some (0,false,413)) else (some (t383,false,0)))=some (r1,r2,r3):=by rw [if_pos rfl] at H;exact H
          clear H
          have H:=H1
          clear H1
          by_cases c21:t383 > 4096
          ·rw [if_pos c21] at H
           have c21b0:decide (4096 < t383)=true:=decide_eq_true c21
           clear c21
           simp only [Option.some.injEq,Prod.mk.injEq] at H
           obtain ⟨rfl,rfl,rfl⟩:=H
           go_wp2
           go_ret3
           exact ⟨by first|rfl|(simp [errW_none,errW_some] <;> rfl)|(simp [*,errW_none,errW_some] <;> rfl),by repeat (first|(with_reducible first|exact HB.out|apply below_alloc|apply pw_below_drewN|apply below_drew1)|exact HB.out)⟩
          ·rw [if_neg c21] at H
           have c21b0:decide (4096 < t383)=false:=decide_eq_false c21
           clear c21
           simp only [Option.some.injEq,Prod.mk.injEq] at H
           obtain ⟨rfl,rfl,rfl⟩:=H
           go_wp2
           go_ret3
           exact ⟨by first|rfl|(simp [errW_none,errW_some] <;> rfl)|(simp [*,errW_none,errW_some] <;> rfl),by repeat (first|(with_reducible first|exact HB.out|apply below_alloc|apply pw_below_drewN|apply below_drew1)|exact HB.out)⟩
         ·replace c20:=Bool.eq_false_iff.mpr c20
          subst c20
          have H1:(some (0,false,400))=some (r1,r2,r3):=by rw [if_neg (show ¬ (false=true) by decide)] at H;exact H
          clear H
          have H:=H1
          clear H1
          simp only [Option.some.injEq,Prod.mk.injEq] at H
          obtain ⟨rfl,rfl,rfl⟩:=H
          go_wp2
          go_ret3
          exact ⟨by first|rfl|(simp [errW_none,errW_some] <;> rfl)|(simp [*,errW_none,errW_some] <;> rfl),by repeat (first|(with_reducible first|exact HB.out|apply below_alloc|apply pw_below_drewN|apply below_drew1)|exact HB.out)⟩
        ·replace c19:=Bool.eq_false_iff.mpr c19
         subst c19
         have H1:(some (0,false,0))=some (r1,r2,r3):=by rw [if_neg (show ¬ (false=true) by decide)] at H;exact H
         clear H
         have H:=H1
         clear H1
         simp only [Option.some.injEq,Prod.mk.injEq] at H
         obtain ⟨rfl,rfl,rfl⟩:=H
         go_wp2
         go_ret3
         exact ⟨by first|rfl|(simp [errW_none,errW_some] <;> rfl)|(simp [*,errW_none,errW_some] <;> rfl),by repeat (first|(with_reducible first|exact HB.out|apply below_alloc|apply pw_below_drewN|apply below_drew1)|exact HB.out)⟩
def frame_Response.j0:Nat → Bool → Int → ByteArray → Int → List (S41) → List Int → Option (Int × Int × Bool)
 | 0,_,_,_,_,_,_=>none
 | k + 1,x26,x387000,x387001,x387002,x387003,x387004=>if x26=true then (some (0,0,true)) else ((frame_Request.f k x387003 x387002).bind fun bt387=>(if bt387.2.2=0 then (if bt387.2.1=true then (some (2,0,true)) else ((frame_there.f k x387003 (⟨#[67,111,110,116,101,110,116,45,76,101,110,103,116,104]⟩:ByteArray)).bind fun t390=>(if t390=true then (some (1,bt387.1,true)) else (some (3,0,true))))) else (some (0,0,false))))
def frame_Response.f (k:Nat) (a0:ByteArray) (a1_0:Int) (a1_1:ByteArray) (a1_2:Int) (l1_3:List (S41)) (l1_4:List Int):Option (Int × Int × Bool):=if a0.toList=([72,69,65,68]:List UInt8) then (frame_Response.j0 k true a1_0 a1_1 a1_2 l1_3 l1_4) else (if a1_0 < 200 then (frame_Response.j0 k true a1_0 a1_1 a1_2 l1_3 l1_4) else (if a1_0=204 then (frame_Response.j0 k true a1_0 a1_1 a1_2 l1_3 l1_4) else (frame_Response.j0 k (a1_0 == 304) a1_0 a1_1 a1_2 l1_3 l1_4)))
set_option maxHeartbeats 8000000 in
set_option maxRecDepth 100000 in
theorem frame_Response.calls (k:Nat) (a0:ByteArray) (a1_0:Int) (a1_1:ByteArray) (a1_2:Int) (A1_3:Option Addr) (c1_3:Nat) (l1_3:List (S41)) (A1_4:Option Addr) (c1_4:Nat) (l1_4:List Int) (r1:Int) (r2:Int) (r3:Bool) (w:World) (hr1_3:Kd.C k41 w A1_3 l1_3.length l1_3) (hc1_3:l1_3.length ≤ c1_3) (hr1_4:Kd.C (Kd.int .u8) w A1_4 l1_4.length l1_4) (hc1_4:l1_4.length ≤ c1_4) (h:frame_Response.f k a0 a1_0 a1_1 a1_2 l1_3 l1_4=some (r1,r2,r3)) :
  Calls Tryd.prog 47 #[.string a0,.agg #[.int .i64 a1_0,.string a1_1,.int .i64 a1_2,.slice A1_3 l1_3.length c1_3,.slice A1_4 l1_4.length c1_4]] w fun e w' => e = .returned (.tuple #[.int .i64 r1,.int .i64 r2,.bool r3])∧Below w.heap.size w w' := by
 have hu48:=Tryd.underlying48
 have HR1_3:=Aside0.mk hr1_3
 have HC1_3:=Aside0.mk hc1_3
 clear hr1_3 hc1_3
 have HR1_4:=Aside0.mk hr1_4
 have HC1_4:=Aside0.mk hc1_4
 clear hr1_4 hc1_4
 have HB:=Aside0.mk (Below.refl w.heap.size w)
 have H:(if a0.toList=([72,69,65,68]:List UInt8) then (frame_Response.j0 k true a1_0 a1_1 a1_2 l1_3 l1_4) else (if a1_0 < 200 then (frame_Response.j0 k true a1_0 a1_1 a1_2 l1_3 l1_4) else (if a1_0=204 then (frame_Response.j0 k true a1_0 a1_1 a1_2 l1_3 l1_4) else (frame_Response.j0 k (a1_0 == 304) a1_0 a1_1 a1_2 l1_3 l1_4))))=some (r1,r2,r3):=h
 clear h
 have HC3:=Aside0.mk H
 clear H
 go_enter Tryd.func47,Tryd.ntmps47
 go_upto_region 1 with (first|((with_reducible refine gate_dst (N:=3) rfl ?_);refine box_event ?hg (N:=3) ?hd (cs:=#[.int .i64 a1_0,.string a1_1,.int .i64 a1_2,.slice A1_3 l1_3.length c1_3,.slice A1_4 l1_4.length c1_4]) (t:=48) ?hr ?_;(case hd=>rfl);(case hg=>rfl);(case hr=>first|(go_simp;done)|(go_simp;rfl));intro gb29 hg w4 hbox hb;have n0_:=Aside0.mk (below_step (by repeat (first|(with_reducible first|exact HB.out|apply below_alloc|apply pw_below_drewN|apply below_drew1)|exact HB.out)) hb);have n1_:=Aside0.mk (hbox);have n2_:=Aside0.mk ((by rw [hg];exact (below_size (by repeat (first|(with_reducible first|exact HB.out|apply below_alloc|apply pw_below_drewN|apply below_drew1)|exact HB.out))):w.heap.size ≤ gb29));have n3_:=Aside0.mk ((by rw [hg];exact (below_size (by repeat (first|(with_reducible first|exact HB.out|apply below_alloc|apply pw_below_drewN|apply below_drew1)|exact HB.out))):w.heap.size ≤ gb29));clear HB;have HB:=n0_;have BK29:=n1_;have GW29:=n2_;have GE29:=n3_;clear n0_ n1_ n2_ n3_;clear hb hbox hg))
 (try simp only [Act.put,zqA,zqB,zqC])
 go_cut [26] (fun v26 wc => ∃ (kq:Nat) (x26_2:Bool),v26 = .bool x26_2∧Aside0 (frame_Response.j0 kq x26_2 a1_0 a1_1 a1_2 l1_3 l1_4=some (r1,r2,r3))∧Aside0 (kq ≤ k)∧Aside0 (wc.heap[gb29]? = some (.cells #[.int .i64 a1_0,.string a1_1,.int .i64 a1_2,(.slice A1_3 l1_3.length c1_3),(.slice A1_4 l1_4.length c1_4)] 48 (0,0)))∧Aside0 (Below w.heap.size w wc))
 case first =>
  have H:=HC3.out
  clear HC3
  by_cases c5:a0.toList=([72,69,65,68]:List UInt8)
  ·rw [if_pos c5] at H
   have c5b0:(a0.toList == ([72,69,65,68]:List UInt8))=true:=beq_iff_eq.mpr c5
   have c5b1:(a0.toList != ([72,69,65,68]:List UInt8))=false:=bne_eq_false_iff_eq.mpr c5
   clear c5
   (first|rw [c5b0]|(simp only [i64_w,i32_w];rw [c5b0])|rw [c5b1]|skip)
   have H' := Aside0.mk H
   clear H
   go_wp2
   go_meet
   case rel=>exact ⟨_,(true),(by first|rfl|(simp;done)|(simp [*];done)),H',⟨by first|omega|exact Nat.le_refl _⟩,⟨by (with_reducible repeat (first|refine blk_drewN ?_ _|refine blk_drew ?_|refine blk_alloc ?_ _));exact BK29.out⟩,⟨by repeat (first|(with_reducible first|exact HB.out|apply below_alloc|apply pw_below_drewN|apply below_drew1|refine below_set ?_ GE29.out)|exact HB.out)⟩⟩
  ·rw [if_neg c5] at H
   have c5b0:(a0.toList == ([72,69,65,68]:List UInt8))=false:=beq_eq_false_iff_ne.mpr c5
   have c5b1:(a0.toList != ([72,69,65,68]:List UInt8))=true:=bne_iff_ne.mpr c5
   (first|rw [c5b0]|(simp only [i64_w,i32_w];rw [c5b0])|rw [c5b1]|skip)
   by_cases c6:a1_0 < 200
   ·rw [if_pos c6] at H
    have c6b0:decide (a1_0 < 200)=true:=decide_eq_true c6
    clear c6
    have H' := Aside0.mk H
    clear H
    have hcz7_0:w4.cell? ⟨gb29,0,none⟩=some (.int .i64 a1_0):=(blk_cell BK29.out 0).trans rfl
    have hcz7_1:w4.cell? ⟨gb29,1,none⟩=some (.string a1_1):=(blk_cell BK29.out 1).trans rfl
    have hcz7_2:w4.cell? ⟨gb29,2,none⟩=some (.int .i64 a1_2):=(blk_cell BK29.out 2).trans rfl
    have hcz7_3:w4.cell? ⟨gb29,3,none⟩=some (.slice A1_3 l1_3.length c1_3):=(blk_cell BK29.out 3).trans rfl
    have hcz7_4:w4.cell? ⟨gb29,4,none⟩=some (.slice A1_4 l1_4.length c1_4):=(blk_cell BK29.out 4).trans rfl
    have hfz7_0:=blk_frozen BK29.out 0
    have hfz7_1:=blk_frozen BK29.out 1
    have hfz7_2:=blk_frozen BK29.out 2
    have hfz7_3:=blk_frozen BK29.out 3
    have hfz7_4:=blk_frozen BK29.out 4
    go_wp2
    go_meet
    case rel=>exact ⟨_,(true),(by first|rfl|(simp;done)|(simp [*];done)),H',⟨by first|omega|exact Nat.le_refl _⟩,⟨by (with_reducible repeat (first|refine blk_drewN ?_ _|refine blk_drew ?_|refine blk_alloc ?_ _));exact BK29.out⟩,⟨by repeat (first|(with_reducible first|exact HB.out|apply below_alloc|apply pw_below_drewN|apply below_drew1|refine below_set ?_ GE29.out)|exact HB.out)⟩⟩
   ·rw [if_neg c6] at H
    have c6b0:decide (a1_0 < 200)=false:=decide_eq_false c6
    clear c6
    by_cases c8:a1_0=204
    ·rw [if_pos c8] at H
     have c8b0:(a1_0 == 204)=true:=beq_iff_eq.mpr c8
     have c8b1:(a1_0 != 204)=false:=bne_eq_false_iff_eq.mpr c8
     clear c8
     have H' := Aside0.mk H
     clear H
     have hcz9_0:w4.cell? ⟨gb29,0,none⟩=some (.int .i64 a1_0):=(blk_cell BK29.out 0).trans rfl
     have hcz9_1:w4.cell? ⟨gb29,1,none⟩=some (.string a1_1):=(blk_cell BK29.out 1).trans rfl
     have hcz9_2:w4.cell? ⟨gb29,2,none⟩=some (.int .i64 a1_2):=(blk_cell BK29.out 2).trans rfl
     have hcz9_3:w4.cell? ⟨gb29,3,none⟩=some (.slice A1_3 l1_3.length c1_3):=(blk_cell BK29.out 3).trans rfl
     have hcz9_4:w4.cell? ⟨gb29,4,none⟩=some (.slice A1_4 l1_4.length c1_4):=(blk_cell BK29.out 4).trans rfl
     have hfz9_0:=blk_frozen BK29.out 0
     have hfz9_1:=blk_frozen BK29.out 1
     have hfz9_2:=blk_frozen BK29.out 2
     have hfz9_3:=blk_frozen BK29.out 3
     have hfz9_4:=blk_frozen BK29.out 4
     go_wp2
     go_meet
     case rel=>exact ⟨_,(true),(by first|rfl|(simp;done)|(simp [*];done)),H',⟨by first|omega|exact Nat.le_refl _⟩,⟨by (with_reducible repeat (first|refine blk_drewN ?_ _|refine blk_drew ?_|refine blk_alloc ?_ _));exact BK29.out⟩,⟨by repeat (first|(with_reducible first|exact HB.out|apply below_alloc|apply pw_below_drewN|apply below_drew1|refine below_set ?_ GE29.out)|exact HB.out)⟩⟩
    ·rw [if_neg c8] at H
     have c8b0:(a1_0 == 204)=false:=beq_eq_false_iff_ne.mpr c8
     have c8b1:(a1_0 != 204)=true:=bne_iff_ne.mpr c8
     have H' := Aside0.mk H
     clear H
     have hcz10_0:w4.cell? ⟨gb29,0,none⟩=some (.int .i64 a1_0):=(blk_cell BK29.out 0).trans rfl
     have hcz10_1:w4.cell? ⟨gb29,1,none⟩=some (.string a1_1):=(blk_cell BK29.out 1).trans rfl
     have hcz10_2:w4.cell? ⟨gb29,2,none⟩=some (.int .i64 a1_2):=(blk_cell BK29.out 2).trans rfl
     have hcz10_3:w4.cell? ⟨gb29,3,none⟩=some (.slice A1_3 l1_3.length c1_3):=(blk_cell BK29.out 3).trans rfl
     have hcz10_4:w4.cell? ⟨gb29,4,none⟩=some (.slice A1_4 l1_4.length c1_4):=(blk_cell BK29.out 4).trans rfl
     have hfz10_0:=blk_frozen BK29.out 0
     have hfz10_1:=blk_frozen BK29.out 1
     have hfz10_2:=blk_frozen BK29.out 2
     have hfz10_3:=blk_frozen BK29.out 3
     have hfz10_4:=blk_frozen BK29.out 4
     go_wp2
     go_meet
     case rel=>exact ⟨_,((a1_0 == 304)),(by first|rfl|(simp;done)|(simp [*];done)),H',⟨by first|omega|exact Nat.le_refl _⟩,⟨by (with_reducible repeat (first|refine blk_drewN ?_ _|refine blk_drew ?_|refine blk_alloc ?_ _));exact BK29.out⟩,⟨by repeat (first|(with_reducible first|exact HB.out|apply below_alloc|apply pw_below_drewN|apply below_drew1|refine below_set ?_ GE29.out)|exact HB.out)⟩⟩
 case rest =>
  clear HC3
  try clear c1
  try clear p2
  try clear c4
  try clear c5
  try clear c5b0
  try clear c5b1
  try clear c6
  try clear c6b0
  try clear c8
  try clear c8b0
  try clear c8b1
  try clear hcz10_0
  try clear hcz10_1
  try clear hcz10_2
  try clear hcz10_3
  try clear hcz10_4
  try clear hcz7_0
  try clear hcz7_1
  try clear hcz7_2
  try clear hcz7_3
  try clear hcz7_4
  try clear hcz9_0
  try clear hcz9_1
  try clear hcz9_2
  try clear hcz9_3
  try clear hcz9_4
  try clear hfz10_0
  try clear hfz10_1
  try clear hfz10_2
  try clear hfz10_3
  try clear hfz10_4
  try clear hfz7_0
  try clear hfz7_1
  try clear hfz7_2
  try clear hfz7_3
  try clear hfz7_4
  try clear hfz9_0
  try clear hfz9_1
  try clear hfz9_2
  try clear hfz9_3
  try clear hfz9_4
  obtain ⟨kq,x26_2,rfl,HA,HJ2,BK29,HB⟩:=hcut
  cases kq with
  | zero=>exact absurd HA.out (by simp [frame_Response.j0])
  | succ kj2 =>
   have H:=HA.out
   clear HA
   simp only [frame_Response.j0] at H
   by_cases c11:x26_2=true
   ·subst c11
    have H1:(some (0,0,true))=some (r1,r2,r3):=by rw [if_pos rfl] at H;exact H
    clear H
    have H:=H1
    clear H1
    simp only [Option.some.injEq,Prod.mk.injEq] at H
    obtain ⟨rfl,rfl,rfl⟩:=H
    go_wp2
    go_ret3
    exact ⟨by first|rfl|(simp [errW_none,errW_some] <;> rfl)|(simp [*,errW_none,errW_some] <;> rfl),by repeat (first|(with_reducible first|exact HB.out|apply below_alloc|apply pw_below_drewN|apply below_drew1|refine below_set ?_ GE29.out)|exact HB.out)⟩
   ·replace c11:=Bool.eq_false_iff.mpr c11
    subst c11
    have H1:((frame_Request.f kj2 l1_3 a1_2).bind fun bt30=>(if bt30.2.2=0 then (if bt30.2.1=true then (some (2,0,true)) else ((frame_there.f kj2 l1_3 (⟨#[67,111,110,116,101,110,116,45,76,101,110,103,116,104]⟩:ByteArray)).bind fun t33=>(if t33=true then (some (1,bt30.1,true)) else (some (3,0,true))))) else (some (0,0,false))))=some (r1,r2,r3):=by rw [if_neg (show ¬ (false=true) by decide)] at H;exact H
    clear H
    have H:=H1
    clear H1
    replace H:=Option.bind_eq_some_iff.mp H
    obtain ⟨⟨t30,t34,t31⟩,A35,H⟩:=H
    replace H:(if t31=0 then (if t34=true then (some (2,0,true)) else ((frame_there.f kj2 l1_3 (⟨#[67,111,110,116,101,110,116,45,76,101,110,103,116,104]⟩:ByteArray)).bind fun t33=>(if t33=true then (some (1,t30,true)) else (some (3,0,true))))) else (some (0,0,false)))=some (r1,r2,r3):=H
    have A12:=Aside0.mk A35
    clear A35
    by_cases c13:t31=0
    ·rw [if_pos c13] at H
     have c13b0:(t31 == 0)=true:=beq_iff_eq.mpr c13
     have c13b1:(t31 != 0)=false:=bne_eq_false_iff_eq.mpr c13
     clear c13
     by_cases c14:t34=true
     ·subst c14
      have H1:(some (2,0,true))=some (r1,r2,r3):=by rw [if_pos rfl] at H;exact H
      clear H
      have H:=H1
      clear H1
      simp only [Option.some.injEq,Prod.mk.injEq] at H
      obtain ⟨rfl,rfl,rfl⟩:=H
      have hcz15_0:wc.cell? ⟨gb29,0,none⟩=some (.int .i64 a1_0):=(blk_cell BK29.out 0).trans rfl
      have hcz15_1:wc.cell? ⟨gb29,1,none⟩=some (.string a1_1):=(blk_cell BK29.out 1).trans rfl
      have hcz15_2:wc.cell? ⟨gb29,2,none⟩=some (.int .i64 a1_2):=(blk_cell BK29.out 2).trans rfl
      have hcz15_3:wc.cell? ⟨gb29,3,none⟩=some (.slice A1_3 l1_3.length c1_3):=(blk_cell BK29.out 3).trans rfl
      have hcz15_4:wc.cell? ⟨gb29,4,none⟩=some (.slice A1_4 l1_4.length c1_4):=(blk_cell BK29.out 4).trans rfl
      have hfz15_0:=blk_frozen BK29.out 0
      have hfz15_1:=blk_frozen BK29.out 1
      have hfz15_2:=blk_frozen BK29.out 2
      have hfz15_3:=blk_frozen BK29.out 3
      have hfz15_4:=blk_frozen BK29.out 4
      go_wp2_with (first|((with_reducible refine gate_callee (f:=75) rfl ?_);refine goesL_ (some 32) rfl rfl Tryd.func75 (by kernel_rfl) rfl #[.slice A1_3 l1_3.length c1_3,.int .i64 a1_2] rfl (by (try simp only [List.map_toArray,List.map_cons,List.map_nil]);first|done|rfl|(simp only [List.length_drop,List.length_take];rfl)) ?_;(with_reducible refine (frame_Request.calls kj2 _ _ l1_3 a1_2 t30 true t31 _ ?side1 ?side2 A12.out).mono ?_);(case side1=>repeat (first|exact (Kd.C_below HR1_3.out HB.out)|(with_reducible refine Kd.C_alloc ?_ _)|(with_reducible refine Kd.C_drewN ?_ _)|(with_reducible refine Kd.C_drew ?_)));(case side2=>exact HC1_3.out);rintro e w16 ⟨rfl,hb⟩;(try clear A12);refine ⟨_,rfl,?_⟩;have n0_:=Aside0.mk (blk_below (g:=gb29) (o:=.cells #[.int .i64 a1_0,.string a1_1,.int .i64 a1_2,.slice A1_3 l1_3.length c1_3,.slice A1_4 l1_4.length c1_4] 48 (0,0)) (by (with_reducible repeat (first|refine blk_drewN ?_ _|refine blk_drew ?_|refine blk_alloc ?_ _));exact BK29.out) hb);have n1_:=Aside0.mk (below_step (by repeat (first|(with_reducible first|exact HB.out|apply below_alloc|apply pw_below_drewN|apply below_drew1|refine below_set ?_ GE29.out)|exact HB.out)) hb);clear BK29;clear HB;have BK29:=n0_;have HB:=n1_;clear n0_ n1_;(try clear hb);(try clear hb2);(try clear hk);(try clear hi)))
      go_ret3
      exact ⟨by first|rfl|(simp [errW_none,errW_some] <;> rfl)|(simp [*,errW_none,errW_some] <;> rfl),by repeat (first|(with_reducible first|exact HB.out|apply below_alloc|apply pw_below_drewN|apply below_drew1|refine below_set ?_ GE29.out)|exact HB.out)⟩
     ·replace c14:=Bool.eq_false_iff.mpr c14
      subst c14
      have H1:((frame_there.f kj2 l1_3 (⟨#[67,111,110,116,101,110,116,45,76,101,110,103,116,104]⟩:ByteArray)).bind fun t33=>(if t33=true then (some (1,t30,true)) else (some (3,0,true))))=some (r1,r2,r3):=by rw [if_neg (show ¬ (false=true) by decide)] at H;exact H
      clear H
      have H:=H1
      clear H1
      replace H:=Option.bind_eq_some_iff.mp H
      obtain ⟨t33,A36,H⟩:=H
      replace H:(if t33=true then (some (1,t30,true)) else (some (3,0,true)))=some (r1,r2,r3):=H
      have A17:=Aside0.mk A36
      clear A36
      by_cases c18:t33=true
      ·subst c18
       have H1:(some (1,t30,true))=some (r1,r2,r3):=by rw [if_pos rfl] at H;exact H
       clear H
       have H:=H1
       clear H1
       simp only [Option.some.injEq,Prod.mk.injEq] at H
       obtain ⟨rfl,rfl,rfl⟩:=H
       have hcz19_0:wc.cell? ⟨gb29,0,none⟩=some (.int .i64 a1_0):=(blk_cell BK29.out 0).trans rfl
       have hcz19_1:wc.cell? ⟨gb29,1,none⟩=some (.string a1_1):=(blk_cell BK29.out 1).trans rfl
       have hcz19_2:wc.cell? ⟨gb29,2,none⟩=some (.int .i64 a1_2):=(blk_cell BK29.out 2).trans rfl
       have hcz19_3:wc.cell? ⟨gb29,3,none⟩=some (.slice A1_3 l1_3.length c1_3):=(blk_cell BK29.out 3).trans rfl
       have hcz19_4:wc.cell? ⟨gb29,4,none⟩=some (.slice A1_4 l1_4.length c1_4):=(blk_cell BK29.out 4).trans rfl
       have hfz19_0:=blk_frozen BK29.out 0
       have hfz19_1:=blk_frozen BK29.out 1
       have hfz19_2:=blk_frozen BK29.out 2
       have hfz19_3:=blk_frozen BK29.out 3
       have hfz19_4:=blk_frozen BK29.out 4
       go_wp2_with (first|((with_reducible refine gate_callee (f:=75) rfl ?_);refine goesL_ (some 32) rfl rfl Tryd.func75 (by kernel_rfl) rfl #[.slice A1_3 l1_3.length c1_3,.int .i64 a1_2] rfl (by (try simp only [List.map_toArray,List.map_cons,List.map_nil]);first|done|rfl|(simp only [List.length_drop,List.length_take];rfl)) ?_;(with_reducible refine (frame_Request.calls kj2 _ _ l1_3 a1_2 t30 false t31 _ ?side1 ?side2 A12.out).mono ?_);(case side1=>repeat (first|exact (Kd.C_below HR1_3.out HB.out)|(with_reducible refine Kd.C_alloc ?_ _)|(with_reducible refine Kd.C_drewN ?_ _)|(with_reducible refine Kd.C_drew ?_)));(case side2=>exact HC1_3.out);rintro e w20 ⟨rfl,hb⟩;(try clear A12);refine ⟨_,rfl,?_⟩;have n0_:=Aside0.mk (blk_below (g:=gb29) (o:=.cells #[.int .i64 a1_0,.string a1_1,.int .i64 a1_2,.slice A1_3 l1_3.length c1_3,.slice A1_4 l1_4.length c1_4] 48 (0,0)) (by (with_reducible repeat (first|refine blk_drewN ?_ _|refine blk_drew ?_|refine blk_alloc ?_ _));exact BK29.out) hb);have n1_:=Aside0.mk (below_step (by repeat (first|(with_reducible first|exact HB.out|apply below_alloc|apply pw_below_drewN|apply below_drew1|refine below_set ?_ GE29.out)|exact HB.out)) hb);clear BK29;clear HB;have BK29:=n0_;have HB:=n1_;clear n0_ n1_;(try clear hb);(try clear hb2);(try clear hk);(try clear hi);have hcz21_0:w20.cell? ⟨gb29,0,none⟩=some (.int .i64 a1_0):=(blk_cell BK29.out 0).trans rfl;have hcz21_1:w20.cell? ⟨gb29,1,none⟩=some (.string a1_1):=(blk_cell BK29.out 1).trans rfl;have hcz21_2:w20.cell? ⟨gb29,2,none⟩=some (.int .i64 a1_2):=(blk_cell BK29.out 2).trans rfl;have hcz21_3:w20.cell? ⟨gb29,3,none⟩=some (.slice A1_3 l1_3.length c1_3):=(blk_cell BK29.out 3).trans rfl;have hcz21_4:w20.cell? ⟨gb29,4,none⟩=some (.slice A1_4 l1_4.length c1_4):=(blk_cell BK29.out 4).trans rfl;have hfz21_0:=blk_frozen BK29.out 0;have hfz21_1:=blk_frozen BK29.out 1;have hfz21_2:=blk_frozen BK29.out 2;have hfz21_3:=blk_frozen BK29.out 3;have hfz21_4:=blk_frozen BK29.out 4)|((with_reducible refine gate_callee (f:=76) rfl ?_);refine goesL_ (some 44) rfl rfl Tryd.func76 (by kernel_rfl) rfl #[.slice A1_3 l1_3.length c1_3,.string (⟨#[67,111,110,116,101,110,116,45,76,101,110,103,116,104]⟩:ByteArray)] rfl (by (try simp only [List.map_toArray,List.map_cons,List.map_nil]);first|done|rfl|(simp only [List.length_drop,List.length_take];rfl)) ?_;(with_reducible refine (frame_there.calls kj2 _ _ l1_3 (⟨#[67,111,110,116,101,110,116,45,76,101,110,103,116,104]⟩:ByteArray) true _ ?side1 ?side2 A17.out).mono ?_);(case side1=>repeat (first|exact (Kd.C_below HR1_3.out HB.out)|(with_reducible refine Kd.C_alloc ?_ _)|(with_reducible refine Kd.C_drewN ?_ _)|(with_reducible refine Kd.C_drew ?_)));(case side2=>exact HC1_3.out);rintro e w22 ⟨rfl,hb⟩;(try clear A17);refine ⟨_,rfl,?_⟩;have n0_:=Aside0.mk (blk_below (g:=gb29) (o:=.cells #[.int .i64 a1_0,.string a1_1,.int .i64 a1_2,.slice A1_3 l1_3.length c1_3,.slice A1_4 l1_4.length c1_4] 48 (0,0)) (by (with_reducible repeat (first|refine blk_drewN ?_ _|refine blk_drew ?_|refine blk_alloc ?_ _));exact BK29.out) hb);have n1_:=Aside0.mk (below_step (by repeat (first|(with_reducible first|exact HB.out|apply below_alloc|apply pw_below_drewN|apply below_drew1|refine below_set ?_ GE29.out)|exact HB.out)) hb);clear BK29;clear HB;have BK29:=n0_;have HB:=n1_;clear n0_ n1_;(try clear hb);(try clear hb2);(try clear hk);(try clear hi)))
       go_ret3
       exact ⟨by first|rfl|(simp [errW_none,errW_some] <;> rfl)|(simp [*,errW_none,errW_some] <;> rfl),by repeat (first|(with_reducible first|exact HB.out|apply below_alloc|apply pw_below_drewN|apply below_drew1|refine below_set ?_ GE29.out)|exact HB.out)⟩
      ·replace c18:=Bool.eq_false_iff.mpr c18
       subst c18
       have H1:(some (3,0,true))=some (r1,r2,r3):=by rw [if_neg (show ¬ (false=true) by decide)] at H;exact H
       clear H
       have H:=H1
       clear H1
       simp only [Option.some.injEq,Prod.mk.injEq] at H
       obtain ⟨rfl,rfl,rfl⟩:=H
       have hcz23_0:wc.cell? ⟨gb29,0,none⟩=some (.int .i64 a1_0):=(blk_cell BK29.out 0).trans rfl
       have hcz23_1:wc.cell? ⟨gb29,1,none⟩=some (.string a1_1):=(blk_cell BK29.out 1).trans rfl
       have hcz23_2:wc.cell? ⟨gb29,2,none⟩=some (.int .i64 a1_2):=(blk_cell BK29.out 2).trans rfl
       have hcz23_3:wc.cell? ⟨gb29,3,none⟩=some (.slice A1_3 l1_3.length c1_3):=(blk_cell BK29.out 3).trans rfl
       have hcz23_4:wc.cell? ⟨gb29,4,none⟩=some (.slice A1_4 l1_4.length c1_4):=(blk_cell BK29.out 4).trans rfl
       have hfz23_0:=blk_frozen BK29.out 0
       have hfz23_1:=blk_frozen BK29.out 1
       have hfz23_2:=blk_frozen BK29.out 2
       have hfz23_3:=blk_frozen BK29.out 3
       have hfz23_4:=blk_frozen BK29.out 4
       go_wp2_with (first|((with_reducible refine gate_callee (f:=75) rfl ?_);refine goesL_ (some 32) rfl rfl Tryd.func75 (by kernel_rfl) rfl #[.slice A1_3 l1_3.length c1_3,.int .i64 a1_2] rfl (by (try simp only [List.map_toArray,List.map_cons,List.map_nil]);first|done|rfl|(simp only [List.length_drop,List.length_take];rfl)) ?_;(with_reducible refine (frame_Request.calls kj2 _ _ l1_3 a1_2 t30 false t31 _ ?side1 ?side2 A12.out).mono ?_);(case side1=>repeat (first|exact (Kd.C_below HR1_3.out HB.out)|(with_reducible refine Kd.C_alloc ?_ _)|(with_reducible refine Kd.C_drewN ?_ _)|(with_reducible refine Kd.C_drew ?_)));(case side2=>exact HC1_3.out);rintro e w24 ⟨rfl,hb⟩;(try clear A12);refine ⟨_,rfl,?_⟩;have n0_:=Aside0.mk (blk_below (g:=gb29) (o:=.cells #[.int .i64 a1_0,.string a1_1,.int .i64 a1_2,.slice A1_3 l1_3.length c1_3,.slice A1_4 l1_4.length c1_4] 48 (0,0)) (by (with_reducible repeat (first|refine blk_drewN ?_ _|refine blk_drew ?_|refine blk_alloc ?_ _));exact BK29.out) hb);have n1_:=Aside0.mk (below_step (by repeat (first|(with_reducible first|exact HB.out|apply below_alloc|apply pw_below_drewN|apply below_drew1|refine below_set ?_ GE29.out)|exact HB.out)) hb);clear BK29;clear HB;have BK29:=n0_;have HB:=n1_;clear n0_ n1_;(try clear hb);(try clear hb2);(try clear hk);(try clear hi);have hcz25_0:w24.cell? ⟨gb29,0,none⟩=some (.int .i64 a1_0):=(blk_cell BK29.out 0).trans rfl;have hcz25_1:w24.cell? ⟨gb29,1,none⟩=some (.string a1_1):=(blk_cell BK29.out 1).trans rfl;have hcz25_2:w24.cell? ⟨gb29,2,none⟩=some (.int .i64 a1_2):=(blk_cell BK29.out 2).trans rfl;have hcz25_3:w24.cell? ⟨gb29,3,none⟩=some (.slice A1_3 l1_3.length c1_3):=(blk_cell BK29.out 3).trans rfl;have hcz25_4:w24.cell? ⟨gb29,4,none⟩=some (.slice A1_4 l1_4.length c1_4):=(blk_cell BK29.out 4).trans rfl;have hfz25_0:=blk_frozen BK29.out 0;have hfz25_1:=blk_frozen BK29.out 1;have hfz25_2:=blk_frozen BK29.out 2;have hfz25_3:=blk_frozen BK29.out 3;have hfz25_4:=blk_frozen BK29.out 4)|((with_reducible refine gate_callee (f:=76) rfl ?_);refine goesL_ (some 44) rfl rfl Tryd.func76 (by kernel_rfl) rfl #[.slice A1_3 l1_3.length c1_3,.string (⟨#[67,111,110,116,101,110,116,45,76,101,110,103,116,104]⟩:ByteArray)] rfl (by (try simp only [List.map_toArray,List.map_cons,List.map_nil]);first|done|rfl|(simp only [List.length_drop,List.length_take];rfl)) ?_;(with_reducible refine (frame_there.calls kj2 _ _ l1_3 (⟨#[67,111,110,116,101,110,116,45,76,101,110,103,116,104]⟩:ByteArray) false _ ?side1 ?side2 A17.out).mono ?_);(case side1=>repeat (first|exact (Kd.C_below HR1_3.out HB.out)|(with_reducible refine Kd.C_alloc ?_ _)|(with_reducible refine Kd.C_drewN ?_ _)|(with_reducible refine Kd.C_drew ?_)));(case side2=>exact HC1_3.out);rintro e w26 ⟨rfl,hb⟩;(try clear A17);refine ⟨_,rfl,?_⟩;have n0_:=Aside0.mk (blk_below (g:=gb29) (o:=.cells #[.int .i64 a1_0,.string a1_1,.int .i64 a1_2,.slice A1_3 l1_3.length c1_3,.slice A1_4 l1_4.length c1_4] 48 (0,0)) (by (with_reducible repeat (first|refine blk_drewN ?_ _|refine blk_drew ?_|refine blk_alloc ?_ _));exact BK29.out) hb);have n1_:=Aside0.mk (below_step (by repeat (first|(with_reducible first|exact HB.out|apply below_alloc|apply pw_below_drewN|apply below_drew1|refine below_set ?_ GE29.out)|exact HB.out)) hb);clear BK29;clear HB;have BK29:=n0_;have HB:=n1_;clear n0_ n1_;(try clear hb);(try clear hb2);(try clear hk);(try clear hi)))
       go_ret3
       exact ⟨by first|rfl|(simp [errW_none,errW_some] <;> rfl)|(simp [*,errW_none,errW_some] <;> rfl),by repeat (first|(with_reducible first|exact HB.out|apply below_alloc|apply pw_below_drewN|apply below_drew1|refine below_set ?_ GE29.out)|exact HB.out)⟩
    ·rw [if_neg c13] at H
     have c13b0:(t31 == 0)=false:=beq_eq_false_iff_ne.mpr c13
     have c13b1:(t31 != 0)=true:=bne_iff_ne.mpr c13
     simp only [Option.some.injEq,Prod.mk.injEq] at H
     obtain ⟨rfl,rfl,rfl⟩:=H
     have hcz27_0:wc.cell? ⟨gb29,0,none⟩=some (.int .i64 a1_0):=(blk_cell BK29.out 0).trans rfl
     have hcz27_1:wc.cell? ⟨gb29,1,none⟩=some (.string a1_1):=(blk_cell BK29.out 1).trans rfl
     have hcz27_2:wc.cell? ⟨gb29,2,none⟩=some (.int .i64 a1_2):=(blk_cell BK29.out 2).trans rfl
     have hcz27_3:wc.cell? ⟨gb29,3,none⟩=some (.slice A1_3 l1_3.length c1_3):=(blk_cell BK29.out 3).trans rfl
     have hcz27_4:wc.cell? ⟨gb29,4,none⟩=some (.slice A1_4 l1_4.length c1_4):=(blk_cell BK29.out 4).trans rfl
     have hfz27_0:=blk_frozen BK29.out 0
     have hfz27_1:=blk_frozen BK29.out 1
     have hfz27_2:=blk_frozen BK29.out 2
     have hfz27_3:=blk_frozen BK29.out 3
     have hfz27_4:=blk_frozen BK29.out 4
     go_wp2_with (first|((with_reducible refine gate_callee (f:=75) rfl ?_);refine goesL_ (some 32) rfl rfl Tryd.func75 (by kernel_rfl) rfl #[.slice A1_3 l1_3.length c1_3,.int .i64 a1_2] rfl (by (try simp only [List.map_toArray,List.map_cons,List.map_nil]);first|done|rfl|(simp only [List.length_drop,List.length_take];rfl)) ?_;(with_reducible refine (frame_Request.calls kj2 _ _ l1_3 a1_2 t30 t34 t31 _ ?side1 ?side2 A12.out).mono ?_);(case side1=>repeat (first|exact (Kd.C_below HR1_3.out HB.out)|(with_reducible refine Kd.C_alloc ?_ _)|(with_reducible refine Kd.C_drewN ?_ _)|(with_reducible refine Kd.C_drew ?_)));(case side2=>exact HC1_3.out);rintro e w28 ⟨rfl,hb⟩;(try clear A12);refine ⟨_,rfl,?_⟩;have n0_:=Aside0.mk (blk_below (g:=gb29) (o:=.cells #[.int .i64 a1_0,.string a1_1,.int .i64 a1_2,.slice A1_3 l1_3.length c1_3,.slice A1_4 l1_4.length c1_4] 48 (0,0)) (by (with_reducible repeat (first|refine blk_drewN ?_ _|refine blk_drew ?_|refine blk_alloc ?_ _));exact BK29.out) hb);have n1_:=Aside0.mk (below_step (by repeat (first|(with_reducible first|exact HB.out|apply below_alloc|apply pw_below_drewN|apply below_drew1|refine below_set ?_ GE29.out)|exact HB.out)) hb);clear BK29;clear HB;have BK29:=n0_;have HB:=n1_;clear n0_ n1_;(try clear hb);(try clear hb2);(try clear hk);(try clear hi)))
     go_ret3
     exact ⟨by first|rfl|(simp [errW_none,errW_some] <;> rfl)|(simp [*,errW_none,errW_some] <;> rfl),by repeat (first|(with_reducible first|exact HB.out|apply below_alloc|apply pw_below_drewN|apply below_drew1|refine below_set ?_ GE29.out)|exact HB.out)⟩
end Go.Proofs.YtfjeinnemimjoaaDoor.P
