/- Each function below answers as its Lean twin says; plain lemmas; a row where its theorem stands. No further condition. (Laid by this repo's pack.py out of its texts and of the print's words.) -/
import Derived.Test.YtfjeinnemimjoaaDoorZd8102f62
import Derived.Test.YtfjeinnemimjoaaDoorZ3d4fcada
import Derived.Test.YtfjeinnemimjoaaDoorZ654de3b0
namespace Go.Proofs.YtfjeinnemimjoaaDoor.P
open Go.RowKit Go.Proofs.YtfjeinnemimjoaaDoorW.PrintWords Go.Proofs.YtfjeinnemimjoaaDoorW.PrintLast Go.Proofs.YtfjeinnemimjoaaDoorW.PrintMore
attribute [local go_sem] max2_int min2_int max_two min_two max_three min_three max_four min_four
set_option linter.unusedVariables false
set_option linter.unusedSimpArgs false
mutual
def tollbarref12_Request.l0:Nat → List (S41) → List ByteArray → Int → ByteArray → ByteArray → Int → List (S41) → List Int → List (S175) → List (S177) → List (S41) → List ByteArray → Int → Int → Int → Int → ByteArray → ByteArray → Int → List (S41) → List Int → Option (ByteArray × ByteArray × Int × (List (S41)) × List Int)
 | 0,_,_,_,_,_,_,_,_,_,_,_,_,_,_,_,_,_,_,_,_,_=>none
 | k + 1,x10,x11,x12,x514000,x514001,x514002,x514003,x514004,x515000,x515001,x515002,x515003,x515004,x515005,x515006,x515007,x523000,x523001,x523002,x523003,x523004=>if x12 < (x515002.length:Int) then (if 0 ≤ x12 then (if x11.length < 8796093022208 then (tollbarref12_Request.l0 k x10 (x11 ++ [(rd_T41 x515002 x12).f0]) (wrap64 (x12 + 1)) x514000 x514001 x514002 x514003 x514004 x515000 x515001 x515002 x515003 x515004 x515005 x515006 x515007 x523000 x523001 x523002 x523003 x523004) else (none)) else (none)) else (tollbarref12_Request.l1 k x10 x11 0 x514000 x514001 x514002 x514003 x514004 x515000 x515001 x515002 x515003 x515004 x515005 x515006 x515007 x523000 x523001 x523002 x523003 x523004)
def tollbarref12_Request.l1:Nat → List (S41) → List ByteArray → Int → ByteArray → ByteArray → Int → List (S41) → List Int → List (S175) → List (S177) → List (S41) → List ByteArray → Int → Int → Int → Int → ByteArray → ByteArray → Int → List (S41) → List Int → Option (ByteArray × ByteArray × Int × (List (S41)) × List Int)
 | 0,_,_,_,_,_,_,_,_,_,_,_,_,_,_,_,_,_,_,_,_,_=>none
 | k + 1,x10,x11,x13,x514000,x514001,x514002,x514003,x514004,x515000,x515001,x515002,x515003,x515004,x515005,x515006,x515007,x523000,x523001,x523002,x523003,x523004=>if x13 < (x10.length:Int) then (if 0 ≤ x13 then ((tollbarref04_In.f k x515003 ((rd_T41 x10 x13).f0)).bind fun t537=>(if t537=true then (tollbarref12_Request.l1 k x10 x11 (wrap64 (x13 + 1)) x514000 x514001 x514002 x514003 x514004 x515000 x515001 x515002 x515003 x515004 x515005 x515006 x515007 x523000 x523001 x523002 x523003 x523004) else ((tollbarref04_In.f k x11 ((rd_T41 x10 x13).f0)).bind fun t539=>(if t539=true then (tollbarref12_Request.l1 k x10 x11 (wrap64 (x13 + 1)) x514000 x514001 x514002 x514003 x514004 x515000 x515001 x515002 x515003 x515004 x515005 x515006 x515007 x523000 x523001 x523002 x523003 x523004) else (if x523003.length < 4398046511104 then (tollbarref12_Request.l1 k x10 x11 (wrap64 (x13 + 1)) x514000 x514001 x514002 x514003 x514004 x515000 x515001 x515002 x515003 x515004 x515005 x515006 x515007 x523000 x523001 x523002 (x523003 ++ [(⟨(rd_T41 x10 x13).f0,(rd_T41 x10 x13).f1⟩:S41)]) x523004) else (none)))))) else (none)) else (tollbarref12_Request.l2 k 0 x514000 x514001 x514002 x514003 x514004 x515000 x515001 x515002 x515003 x515004 x515005 x515006 x515007 x523000 x523001 x523002 x523003 x523004)
def tollbarref12_Request.l2:Nat → Int → ByteArray → ByteArray → Int → List (S41) → List Int → List (S175) → List (S177) → List (S41) → List ByteArray → Int → Int → Int → Int → ByteArray → ByteArray → Int → List (S41) → List Int → Option (ByteArray × ByteArray × Int × (List (S41)) × List Int)
 | 0,_,_,_,_,_,_,_,_,_,_,_,_,_,_,_,_,_,_,_=>none
 | k + 1,x14,x514000,x514001,x514002,x514003,x514004,x515000,x515001,x515002,x515003,x515004,x515005,x515006,x515007,x523000,x523001,x523002,x523003,x523004=>if x14 < (x515002.length:Int) then (if 0 ≤ x14 then (if x523003.length < 4398046511104 then (tollbarref12_Request.l2 k (wrap64 (x14 + 1)) x514000 x514001 x514002 x514003 x514004 x515000 x515001 x515002 x515003 x515004 x515005 x515006 x515007 x523000 x523001 x523002 (x523003 ++ [(⟨(rd_T41 x515002 x14).f0,(rd_T41 x515002 x14).f1⟩:S41)]) x523004) else (none)) else (none)) else (if (x514004.length:Int) > 0 then ((tollbarref12_length.f k (x514004.length:Int)).bind fun bt548=>(if x523003.length < 4398046511104 then (some (x523000,x523001,x523002,(x523003 ++ [(⟨bt548.1,bt548.2⟩:S41)]),x523004)) else (none))) else (if x514000.toList=([80,79,83,84]:List UInt8) then ((tollbarref12_length.f k (x514004.length:Int)).bind fun bt553=>(if x523003.length < 4398046511104 then (some (x523000,x523001,x523002,(x523003 ++ [(⟨bt553.1,bt553.2⟩:S41)]),x523004)) else (none))) else (if x514000.toList=([80,85,84]:List UInt8) then ((tollbarref12_length.f k (x514004.length:Int)).bind fun bt558=>(if x523003.length < 4398046511104 then (some (x523000,x523001,x523002,(x523003 ++ [(⟨bt558.1,bt558.2⟩:S41)]),x523004)) else (none))) else (if x514000.toList=([80,65,84,67,72]:List UInt8) then ((tollbarref12_length.f k (x514004.length:Int)).bind fun bt563=>(if x523003.length < 4398046511104 then (some (x523000,x523001,x523002,(x523003 ++ [(⟨bt563.1,bt563.2⟩:S41)]),x523004)) else (none))) else (some (x523000,x523001,x523002,x523003,x523004))))))
end
def tollbarref12_Request.f (k:Nat) (a0_0:ByteArray) (a0_1:ByteArray) (a0_2:Int) (l0_3:List (S41)) (l0_4:List Int) (l1_0:List (S175)) (l1_1:List (S177)) (l1_2:List (S41)) (l1_3:List ByteArray) (a1_4:Int) (a1_5:Int) (a1_6:Int) (a1_7:Int) (a2:ByteArray) (a3:ByteArray):Option (ByteArray × ByteArray × Int × (List (S41)) × List Int):=(tollbarref01_Join.f k l0_4 (([]:List Int))).bind fun t519=>((tollbarref12_onward.f k l0_3).bind fun t526=>(tollbarref12_Request.l0 k t526 (([]:List ByteArray)) 0 a0_0 a0_1 a0_2 l0_3 l0_4 l1_0 l1_1 l1_2 l1_3 a1_4 a1_5 a1_6 a1_7 a0_0 a3 1 (([(⟨(⟨#[72,111,115,116]⟩:ByteArray),a2⟩:S41)]:List (S41))) t519))
def tollbarref12_Request.T1:Bool × List (List Nat × List Nat):=(true,[([],[]),([0],[0]),([],[]),([],[]),([3],[3]),([],[]),([4,5],[4,5]),([1,2,6],[1,2,6]),([],[]),([8,7,6,0,1,2,3,4,5,6,7,8],[7,8])])
def tollbarref12_Request.B1:List Nat:=[0,1,0,0,8,0,56,127,0,511]
theorem tollbarref12_Request.tab1:rtab .any (opsOf Tryd.f16 1)=tollbarref12_Request.T1:=by kernel_rfl
theorem tollbarref12_Request.bits1:waitsOk tollbarref12_Request.T1.2 tollbarref12_Request.B1=true:=by kernel_rfl
def tollbarref12_Request.T12:Bool × List (List Nat × List Nat):=(true,[([],[]),([0],[0]),([],[]),([],[]),([2,3],[2,3]),([4],[4]),([5],[5]),([1,6],[1,6]),([7],[7]),([8,7],[8]),([9],[9]),([9],[9]),([9],[9]),([11,12,9],[9,11,12]),([13,9],[9,13]),([14,9],[9,14]),([10,15,9,9],[9,10,15]),([16,9],[9,16]),([9,17],[9,17])])
def tollbarref12_Request.B12:List Nat:=[0,1,0,0,12,28,60,127,255,511,1023,1023,1023,7167,15359,31743,65535,131071,262143]
theorem tollbarref12_Request.tab12:rtab .any (opsOf Tryd.f16 12)=tollbarref12_Request.T12:=by kernel_rfl
theorem tollbarref12_Request.bits12:waitsOk tollbarref12_Request.T12.2 tollbarref12_Request.B12=true:=by kernel_rfl
def tollbarref12_Request.T13:Bool × List (List Nat × List Nat):=(true,[([],[]),([0],[0]),([],[]),([],[]),([2,3],[2,3]),([4],[4]),([5],[5]),([1,6],[1,6]),([0,1,2,3,4,5,6,7],[]),([8,7,7,0,1,2,3,4,5,6,7],[7,8])])
def tollbarref12_Request.B13:List Nat:=[0,1,0,0,12,28,60,127,255,511]
theorem tollbarref12_Request.tab13:rtab .any (opsOf Tryd.f16 13)=tollbarref12_Request.T13:=by kernel_rfl
theorem tollbarref12_Request.bits13:waitsOk tollbarref12_Request.T13.2 tollbarref12_Request.B13=true:=by kernel_rfl
def tollbarref12_Request.T17:Bool × List (List Nat × List Nat):=(true,[([],[]),([0],[0]),([],[]),([2],[2]),([],[]),([3,4],[3,4]),([5],[5]),([6],[6]),([1,7],[1,7]),([0,1,2,3,4,5,6,7,8],[]),([9,8,8,0,1,2,3,4,5,6,7,8],[8,9])])
def tollbarref12_Request.B17:List Nat:=[0,1,0,4,0,28,60,124,255,511,1023]
theorem tollbarref12_Request.tab17:rtab .any (opsOf Tryd.f16 17)=tollbarref12_Request.T17:=by kernel_rfl
theorem tollbarref12_Request.bits17:waitsOk tollbarref12_Request.T17.2 tollbarref12_Request.B17=true:=by kernel_rfl
def tollbarref12_Request.T19:Bool × List (List Nat × List Nat):=(true,[([],[]),([0],[0]),([],[]),([2],[2]),([3],[3]),([4],[4]),([5],[5]),([1,6,5],[1,6]),([0,1,2,3,4,5,6,7],[]),([8,7,7,0,1,2,3,4,5,6,7],[7,8])])
def tollbarref12_Request.B19:List Nat:=[0,1,0,4,12,28,60,127,255,511]
theorem tollbarref12_Request.tab19:rtab .any (opsOf Tryd.f16 19)=tollbarref12_Request.T19:=by kernel_rfl
theorem tollbarref12_Request.bits19:waitsOk tollbarref12_Request.T19.2 tollbarref12_Request.B19=true:=by kernel_rfl
set_option maxHeartbeats 8000000 in
set_option maxRecDepth 100000 in
theorem tollbarref12_Request.calls (k:Nat) (a0_0:ByteArray) (a0_1:ByteArray) (a0_2:Int) (A0_3:Option Addr) (c0_3:Nat) (l0_3:List (S41)) (A0_4:Option Addr) (c0_4:Nat) (l0_4:List Int) (A1_0:Option Addr) (c1_0:Nat) (l1_0:List (S175)) (A1_1:Option Addr) (c1_1:Nat) (l1_1:List (S177)) (A1_2:Option Addr) (c1_2:Nat) (l1_2:List (S41)) (A1_3:Option Addr) (c1_3:Nat) (l1_3:List ByteArray) (a1_4:Int) (a1_5:Int) (a1_6:Int) (a1_7:Int) (a2:ByteArray) (a3:ByteArray) (r1:ByteArray) (r2:ByteArray) (r3:Int) (r4:List (S41)) (r5:List Int) (w:World) (hr0_3:Kd.C k41 w A0_3 l0_3.length l0_3) (hc0_3:l0_3.length ≤ c0_3) (hr0_4:Kd.C (Kd.int .u8) w A0_4 l0_4.length l0_4) (hc0_4:l0_4.length ≤ c0_4) (hr1_0:Kd.C k175 w A1_0 l1_0.length l1_0) (hc1_0:l1_0.length ≤ c1_0) (hr1_1:Kd.C k177 w A1_1 l1_1.length l1_1) (hc1_1:l1_1.length ≤ c1_1) (hr1_2:Kd.C k41 w A1_2 l1_2.length l1_2) (hc1_2:l1_2.length ≤ c1_2) (hr1_3:Kd.C Kd.string w A1_3 l1_3.length l1_3) (hc1_3:l1_3.length ≤ c1_3) (h:tollbarref12_Request.f k a0_0 a0_1 a0_2 l0_3 l0_4 l1_0 l1_1 l1_2 l1_3 a1_4 a1_5 a1_6 a1_7 a2 a3=some (r1,r2,r3,r4,r5)) :
  Calls Tryd.prog 16 #[.agg #[.string a0_0,.string a0_1,.int .i64 a0_2,.slice A0_3 l0_3.length c0_3,.slice A0_4 l0_4.length c0_4],.agg #[.slice A1_0 l1_0.length c1_0,.slice A1_1 l1_1.length c1_1,.slice A1_2 l1_2.length c1_2,.slice A1_3 l1_3.length c1_3,.int .i64 a1_4,.int .i64 a1_5,.int .i64 a1_6,.int .i64 a1_7],.string a2,.string a3] w fun e w' => ∃ v3_ v4_:Value,e = .returned (.agg #[.string r1,.string r2,.int .i64 r3,v3_,v4_])∧Kd.R k41 41 w' w.heap.size (fun _=>True) v3_ r4∧Kd.R (Kd.int .u8) 5 w' w.heap.size (fun _=>True) v4_ r5∧Below w.heap.size w w' := by
 have hu33:=Tryd.underlying33
 have hu38:=Tryd.underlying38
 have hu41:=Tryd.underlying41
 have HR0_3:=Aside0.mk hr0_3
 have HC0_3:=Aside0.mk hc0_3
 clear hr0_3 hc0_3
 have HR0_4:=Aside0.mk hr0_4
 have HC0_4:=Aside0.mk hc0_4
 clear hr0_4 hc0_4
 have HR1_0:=Aside0.mk hr1_0
 have HC1_0:=Aside0.mk hc1_0
 clear hr1_0 hc1_0
 have HR1_1:=Aside0.mk hr1_1
 have HC1_1:=Aside0.mk hc1_1
 clear hr1_1 hc1_1
 have HR1_2:=Aside0.mk hr1_2
 have HC1_2:=Aside0.mk hc1_2
 clear hr1_2 hc1_2
 have HR1_3:=Aside0.mk hr1_3
 have HC1_3:=Aside0.mk hc1_3
 clear hr1_3 hc1_3
 have HB:=Aside0.mk (Below.refl w.heap.size w)
 have H:((tollbarref01_Join.f k l0_4 (([]:List Int))).bind fun t519=>((tollbarref12_onward.f k l0_3).bind fun t526=>(tollbarref12_Request.l0 k t526 (([]:List ByteArray)) 0 a0_0 a0_1 a0_2 l0_3 l0_4 l1_0 l1_1 l1_2 l1_3 a1_4 a1_5 a1_6 a1_7 a0_0 a3 1 (([(⟨(⟨#[72,111,115,116]⟩:ByteArray),a2⟩:S41)]:List (S41))) t519)))=some (r1,r2,r3,r4,r5):=h
 clear h
 obtain ⟨y516,hy516⟩ : ∃ y_:List Int,y_=(([]:List Int)):=⟨_,rfl⟩
 replace H:((tollbarref01_Join.f k l0_4 y516).bind fun t519=>((tollbarref12_onward.f k l0_3).bind fun t526=>(tollbarref12_Request.l0 k t526 (([]:List ByteArray)) 0 a0_0 a0_1 a0_2 l0_3 l0_4 l1_0 l1_1 l1_2 l1_3 a1_4 a1_5 a1_6 a1_7 a0_0 a3 1 (([(⟨(⟨#[72,111,115,116]⟩:ByteArray),a2⟩:S41)]:List (S41))) t519)))=some (r1,r2,r3,r4,r5):=by first|(rw [hy516];with_reducible exact H)|(have H2_:=(Option.bind_some _ _).symm.trans H;rw [hy516];with_reducible exact H2_)|(have H2_:=(Option.bind_some _ _).symm.trans H;with_reducible exact H2_)|with_reducible exact H|(rw [hy516];exact H)|exact H
 have Ny516:=Aside0.mk hy516
 clear hy516
 replace H:=Option.bind_eq_some_iff.mp H
 obtain ⟨t519,A50,H⟩:=H
 replace H:((tollbarref12_onward.f k l0_3).bind fun t526=>(tollbarref12_Request.l0 k t526 (([]:List ByteArray)) 0 a0_0 a0_1 a0_2 l0_3 l0_4 l1_0 l1_1 l1_2 l1_3 a1_4 a1_5 a1_6 a1_7 a0_0 a3 1 (([(⟨(⟨#[72,111,115,116]⟩:ByteArray),a2⟩:S41)]:List (S41))) t519))=some (r1,r2,r3,r4,r5):=H
 have A5:=Aside0.mk A50
 clear A50
 obtain ⟨y523,hy523⟩ : ∃ y_:List (S41),y_=(([(⟨(⟨#[72,111,115,116]⟩:ByteArray),a2⟩:S41)]:List (S41))):=⟨_,rfl⟩
 replace H:((tollbarref12_onward.f k l0_3).bind fun t526=>(tollbarref12_Request.l0 k t526 (([]:List ByteArray)) 0 a0_0 a0_1 a0_2 l0_3 l0_4 l1_0 l1_1 l1_2 l1_3 a1_4 a1_5 a1_6 a1_7 a0_0 a3 1 y523 t519))=some (r1,r2,r3,r4,r5):=by first|(rw [hy523];with_reducible exact H)|(have H2_:=(Option.bind_some _ _).symm.trans H;rw [hy523];with_reducible exact H2_)|(have H2_:=(Option.bind_some _ _).symm.trans H;with_reducible exact H2_)|with_reducible exact H|(rw [hy523];exact H)|exact H
 have Ny523:=Aside0.mk hy523
 clear hy523
 replace H:=Option.bind_eq_some_iff.mp H
 obtain ⟨t526,A60,H⟩:=H
 replace H:(tollbarref12_Request.l0 k t526 (([]:List ByteArray)) 0 a0_0 a0_1 a0_2 l0_3 l0_4 l1_0 l1_1 l1_2 l1_3 a1_4 a1_5 a1_6 a1_7 a0_0 a3 1 y523 t519)=some (r1,r2,r3,r4,r5):=H
 have A6:=Aside0.mk A60
 clear A60
 obtain ⟨y529,hy529⟩ : ∃ y_:List ByteArray,y_=(([]:List ByteArray)):=⟨_,rfl⟩
 replace H:(tollbarref12_Request.l0 k t526 y529 0 a0_0 a0_1 a0_2 l0_3 l0_4 l1_0 l1_1 l1_2 l1_3 a1_4 a1_5 a1_6 a1_7 a0_0 a3 1 y523 t519)=some (r1,r2,r3,r4,r5):=by first|(rw [hy529];with_reducible exact H)|(have H2_:=(Option.bind_some _ _).symm.trans H;rw [hy529];with_reducible exact H2_)|(have H2_:=(Option.bind_some _ _).symm.trans H;with_reducible exact H2_)|with_reducible exact H|(rw [hy529];exact H)|exact H
 have Ny529:=Aside0.mk hy529
 clear hy529
 have H' := Aside0.mk H
 clear H
 go_enter Tryd.func16,Tryd.ntmps16
 try go_wp2_with (first|((with_reducible refine gate_dst (N:=4) rfl ?_);refine box_event ?hg (N:=4) ?hd (cs:=#[.string a0_0,.string a0_1,.int .i64 a0_2,.slice A0_3 l0_3.length c0_3,.slice A0_4 l0_4.length c0_4]) (t:=33) ?hr ?_;(case hd=>rfl);(case hg=>rfl);(case hr=>first|(go_simp;done)|(go_simp;rfl));intro gb513 hg w7 hbox hb;have n0_:=Aside0.mk (below_step (by repeat (first|(with_reducible first|exact HB.out|apply below_alloc|apply pw_below_drewN|apply below_drew1)|exact HB.out)) hb);have n1_:=Aside0.mk (hbox);have n2_:=Aside0.mk ((by rw [hg];exact (below_size (by repeat (first|(with_reducible first|exact HB.out|apply below_alloc|apply pw_below_drewN|apply below_drew1)|exact HB.out))):w.heap.size ≤ gb513));have n3_:=Aside0.mk ((by rw [hg];exact (below_size (by repeat (first|(with_reducible first|exact HB.out|apply below_alloc|apply pw_below_drewN|apply below_drew1)|exact HB.out))):w.heap.size ≤ gb513));clear HB;have HB:=n0_;have BK513:=n1_;have GW513:=n2_;have GE513:=n3_;clear n0_ n1_ n2_ n3_;clear hb hbox hg)|((with_reducible refine gate_dst (N:=5) rfl ?_);refine box_event ?hg (N:=5) ?hd (cs:=#[.slice A1_0 l1_0.length c1_0,.slice A1_1 l1_1.length c1_1,.slice A1_2 l1_2.length c1_2,.slice A1_3 l1_3.length c1_3,.int .i64 a1_4,.int .i64 a1_5,.int .i64 a1_6,.int .i64 a1_7]) (t:=38) ?hr ?_;(case hd=>rfl);(case hg=>rfl);(case hr=>first|(go_simp;done)|(go_simp;rfl));intro gb514 hg w8 hbox hb;have n0_:=Aside0.mk (blk_below (g:=gb513) (o:=.cells #[.string a0_0,.string a0_1,.int .i64 a0_2,.slice A0_3 l0_3.length c0_3,.slice A0_4 l0_4.length c0_4] 33 (0,0)) (by (with_reducible repeat (first|refine blk_drewN ?_ _|refine blk_drew ?_|refine blk_alloc ?_ _));exact BK513.out) hb);have n1_:=Aside0.mk (below_step (by repeat (first|(with_reducible first|exact HB.out|apply below_alloc|apply pw_below_drewN|apply below_drew1|refine below_set ?_ GE513.out)|exact HB.out)) hb);have n2_:=Aside0.mk (hbox);have n3_:=Aside0.mk ((by rw [hg];exact (below_size (by repeat (first|(with_reducible first|exact HB.out|apply below_alloc|apply pw_below_drewN|apply below_drew1|refine below_set ?_ GE513.out)|exact HB.out))):w.heap.size ≤ gb514));have n4_:=Aside0.mk ((by rw [hg];exact (below_size (by repeat (first|(with_reducible first|exact HB.out|apply below_alloc|apply pw_below_drewN|apply below_drew1|refine below_set ?_ GE513.out)|exact HB.out))):w.heap.size ≤ gb514));have n5_:=Aside0.mk ((by rw [hg];exact Nat.ne_of_lt (blk_lt (g:=gb513) (o:=.cells #[.string a0_0,.string a0_1,.int .i64 a0_2,.slice A0_3 l0_3.length c0_3,.slice A0_4 l0_4.length c0_4] 33 (0,0)) (by (with_reducible repeat (first|refine blk_drewN ?_ _|refine blk_drew ?_|refine blk_alloc ?_ _));exact BK513.out)):gb513 ≠ gb514));have n6_:=Aside0.mk ((by rw [hg];exact Nat.ne_of_gt (blk_lt (g:=gb513) (o:=.cells #[.string a0_0,.string a0_1,.int .i64 a0_2,.slice A0_3 l0_3.length c0_3,.slice A0_4 l0_4.length c0_4] 33 (0,0)) (by (with_reducible repeat (first|refine blk_drewN ?_ _|refine blk_drew ?_|refine blk_alloc ?_ _));exact BK513.out)):gb514 ≠ gb513));clear BK513;clear HB;have BK513:=n0_;have HB:=n1_;have BK514:=n2_;have GW514:=n3_;have GE514:=n4_;have NB513_514:=n5_;have NB514_513:=n6_;clear n0_ n1_ n2_ n3_ n4_ n5_ n6_;clear hb hbox hg)|((with_reducible refine gate_dst (N:=8) rfl ?_);refine box_event ?hg (N:=8) ?hd (cs:=#[.string (⟨#[]⟩:ByteArray),.string (⟨#[]⟩:ByteArray),.int .i64 0,.slice none 0 0,.slice none 0 0]) (t:=33) ?hr ?_;(case hd=>rfl);(case hg=>rfl);(case hr=>first|(go_simp;done)|(go_simp;rfl));intro gb515 hg w9 hbox hb;have n0_:=Aside0.mk (blk_below (g:=gb513) (o:=.cells #[.string a0_0,.string a0_1,.int .i64 a0_2,.slice A0_3 l0_3.length c0_3,.slice A0_4 l0_4.length c0_4] 33 (0,0)) (by (with_reducible repeat (first|refine blk_drewN ?_ _|refine blk_drew ?_|refine blk_alloc ?_ _));exact BK513.out) hb);have n1_:=Aside0.mk (blk_below (g:=gb514) (o:=.cells #[.slice A1_0 l1_0.length c1_0,.slice A1_1 l1_1.length c1_1,.slice A1_2 l1_2.length c1_2,.slice A1_3 l1_3.length c1_3,.int .i64 a1_4,.int .i64 a1_5,.int .i64 a1_6,.int .i64 a1_7] 38 (0,0)) (by (with_reducible repeat (first|refine blk_drewN ?_ _|refine blk_drew ?_|refine blk_alloc ?_ _));exact BK514.out) hb);have n2_:=Aside0.mk (below_step (by repeat (first|(with_reducible first|exact HB.out|apply below_alloc|apply pw_below_drewN|apply below_drew1|refine below_set ?_ GE513.out|refine below_set ?_ GE514.out)|exact HB.out)) hb);have n3_:=Aside0.mk (hbox);have n4_:=Aside0.mk ((by rw [hg];exact (below_size (by repeat (first|(with_reducible first|exact HB.out|apply below_alloc|apply pw_below_drewN|apply below_drew1|refine below_set ?_ GE513.out|refine below_set ?_ GE514.out)|exact HB.out))):w.heap.size ≤ gb515));have n5_:=Aside0.mk ((by rw [hg];exact (below_size (by repeat (first|(with_reducible first|exact HB.out|apply below_alloc|apply pw_below_drewN|apply below_drew1|refine below_set ?_ GE513.out|refine below_set ?_ GE514.out)|exact HB.out))):w.heap.size ≤ gb515));have n6_:=Aside0.mk ((by rw [hg];exact Nat.ne_of_lt (blk_lt (g:=gb513) (o:=.cells #[.string a0_0,.string a0_1,.int .i64 a0_2,.slice A0_3 l0_3.length c0_3,.slice A0_4 l0_4.length c0_4] 33 (0,0)) (by (with_reducible repeat (first|refine blk_drewN ?_ _|refine blk_drew ?_|refine blk_alloc ?_ _));exact BK513.out)):gb513 ≠ gb515));have n7_:=Aside0.mk ((by rw [hg];exact Nat.ne_of_gt (blk_lt (g:=gb513) (o:=.cells #[.string a0_0,.string a0_1,.int .i64 a0_2,.slice A0_3 l0_3.length c0_3,.slice A0_4 l0_4.length c0_4] 33 (0,0)) (by (with_reducible repeat (first|refine blk_drewN ?_ _|refine blk_drew ?_|refine blk_alloc ?_ _));exact BK513.out)):gb515 ≠ gb513));have n8_:=Aside0.mk ((by rw [hg];exact Nat.ne_of_lt (blk_lt (g:=gb514) (o:=.cells #[.slice A1_0 l1_0.length c1_0,.slice A1_1 l1_1.length c1_1,.slice A1_2 l1_2.length c1_2,.slice A1_3 l1_3.length c1_3,.int .i64 a1_4,.int .i64 a1_5,.int .i64 a1_6,.int .i64 a1_7] 38 (0,0)) (by (with_reducible repeat (first|refine blk_drewN ?_ _|refine blk_drew ?_|refine blk_alloc ?_ _));exact BK514.out)):gb514 ≠ gb515));have n9_:=Aside0.mk ((by rw [hg];exact Nat.ne_of_gt (blk_lt (g:=gb514) (o:=.cells #[.slice A1_0 l1_0.length c1_0,.slice A1_1 l1_1.length c1_1,.slice A1_2 l1_2.length c1_2,.slice A1_3 l1_3.length c1_3,.int .i64 a1_4,.int .i64 a1_5,.int .i64 a1_6,.int .i64 a1_7] 38 (0,0)) (by (with_reducible repeat (first|refine blk_drewN ?_ _|refine blk_drew ?_|refine blk_alloc ?_ _));exact BK514.out)):gb515 ≠ gb514));clear BK513;clear BK514;clear HB;have BK513:=n0_;have BK514:=n1_;have HB:=n2_;have BK515:=n3_;have GW515:=n4_;have GE515:=n5_;have NB513_515:=n6_;have NB515_513:=n7_;have NB514_515:=n8_;have NB515_514:=n9_;clear n0_ n1_ n2_ n3_ n4_ n5_ n6_ n7_ n8_ n9_;clear hb hbox hg))
 replace BK513:=Aside0.mk (blk_drew BK513.out)
 replace BK514:=Aside0.mk (blk_drew BK514.out)
 replace BK515:=Aside0.mk (blk_drew BK515.out)
 replace HB:=Aside0.mk (below_drew1 HB.out)
 refine start_ (n:=10) (S:=fun w' => w'.cell? ⟨gb513,0,none⟩=some (.string a0_0)∧w'.cell? ⟨gb513,1,none⟩=some (.string a0_1)∧w'.cell? ⟨gb513,2,none⟩=some (.int .i64 a0_2)∧w'.cell? ⟨gb513,3,none⟩=some (.slice A0_3 l0_3.length c0_3)∧w'.cell? ⟨gb513,4,none⟩=some (.slice A0_4 l0_4.length c0_4)) (ds:=[]) #[false,false,false,false,false,false,false,false,false,false] (by kernel_rfl) rfl rfl ⟨(blk_cell BK513.out 0).trans rfl,(blk_cell BK513.out 1).trans rfl,(blk_cell BK513.out 2).trans rfl,(blk_cell BK513.out 3).trans rfl,(blk_cell BK513.out 4).trans rfl⟩ (fun hHeld=>?_);refine with_tabW tollbarref12_Request.tab1 tollbarref12_Request.bits1 (fun HT_ HW_=>?_)
 generalize w9.drew=w10 at BK513 BK514 BK515 HB hHeld ⊢
 refine pure_ (i:=0) (N:=some 15) (v:=?_) (a' := ?_) #[true,false,false,false,false,false,false,false,false,false] rfl rfl (any_of HT_.out (by kernel_rfl)) (fun _ _ _ h=>h) (Or.inl ⟨by rfl,?_⟩) ?_ ?_
 rotate_left
 ·intro w';go_simp;with_reducible rfl
 rotate_left
 ·simp only [Act.put,zqA,zqB,zqC,i64_w,i32_w];rfl
 refine pure_ (i:=2) (N:=some 17) (v:=?_) (a' := ?_) #[true,false,true,false,false,false,false,false,false,false] rfl rfl (any_of HT_.out (by kernel_rfl)) (fun _ _ _ h=>h) (Or.inl ⟨by rfl,?_⟩) ?_ ?_
 rotate_left
 ·intro w';go_simp;with_reducible rfl
 rotate_left
 ·simp only [Act.put,zqA,zqB,zqC,i64_w,i32_w];rfl
 refine pure_ (i:=3) (N:=some 18) (v:=?_) (a' := ?_) #[true,false,true,true,false,false,false,false,false,false] rfl rfl (any_of HT_.out (by kernel_rfl)) (fun _ _ _ h=>h) (Or.inl ⟨by rfl,?_⟩) ?_ ?_
 rotate_left
 ·intro w';go_simp;with_reducible rfl
 rotate_left
 ·simp only [Act.put,zqA,zqB,zqC,i64_w,i32_w];rfl
 refine take_ (i:=1) (N:=some 16) (v:=?_) (a' := ?_) #[true,true,true,true,false,false,false,false,false,false] rfl rfl (take_ofW HT_.out HW_.out (by kernel_rfl)) (fun _ _ _ h=>h) (Or.inl ⟨by rfl,?_⟩) hHeld ?_ ?_
 rotate_left
 ·rintro w' ⟨s0,s1,s2,s3,s4⟩;go_simp;with_reducible rfl
 rotate_left
 ·simp only [Act.put,zqA,zqB,zqC,i64_w,i32_w];rfl
 refine take_ (i:=4) (N:=some 19) (v:=?_) (a' := ?_) #[true,true,true,true,true,false,false,false,false,false] rfl rfl (take_ofW HT_.out HW_.out (by kernel_rfl)) (fun _ _ _ h=>h) (Or.inl ⟨by rfl,?_⟩) hHeld ?_ ?_
 rotate_left
 ·rintro w' ⟨s0,s1,s2,s3,s4⟩;go_simp;with_reducible rfl
 rotate_left
 ·simp only [Act.put,zqA,zqB,zqC,i64_w,i32_w];rfl
 refine join_ (σ:=Value × Value × Nat) 1 #[true,true,true,true,true,true,true,true,true,false] (fun s_=>[(20,s_.1),(21,s_.2.1),(9,.pointer (some ⟨s_.2.2,0,none⟩)),(22,.agg #[.string a0_0,.string a3,.int .i64 1,.slice none 0 0,s_.2.1])]) (fun s_ w' => (w'.cell? ⟨gb513,0,none⟩=some (.string a0_0)∧w'.cell? ⟨gb513,1,none⟩=some (.string a0_1)∧w'.cell? ⟨gb513,2,none⟩=some (.int .i64 a0_2)∧w'.cell? ⟨gb513,3,none⟩=some (.slice A0_3 l0_3.length c0_3)∧w'.cell? ⟨gb513,4,none⟩=some (.slice A0_4 l0_4.length c0_4))∧(Kd.R (Kd.int .u8) 5 w' w.heap.size (fun k_=>some k_ ≠ (s_.2.1:Value).ownBlock) s_.1 y516)∧(Kd.R (Kd.int .u8) 5 w' w.heap.size (fun k_=>some k_ ≠ (s_.1:Value).ownBlock) s_.2.1 t519)∧(w'.heap[gb513]? = some (.cells #[.string a0_0,.string a0_1,.int .i64 a0_2,.slice A0_3 l0_3.length c0_3,.slice A0_4 l0_4.length c0_4] 33 (0,0)))∧(w'.heap[gb514]? = some (.cells #[.slice A1_0 l1_0.length c1_0,.slice A1_1 l1_1.length c1_1,.slice A1_2 l1_2.length c1_2,.slice A1_3 l1_3.length c1_3,.int .i64 a1_4,.int .i64 a1_5,.int .i64 a1_6,.int .i64 a1_7] 38 (0,0)))∧(w'.heap[gb515]? = some (.cells #[.string (⟨#[]⟩:ByteArray),.string (⟨#[]⟩:ByteArray),.int .i64 0,.slice none 0 0,.slice none 0 0] 33 (0,0)))∧(w'.heap[s_.2.2]? = some (.cells #[.string (⟨#[]⟩:ByteArray),.string (⟨#[]⟩:ByteArray),.int .i64 0,.slice none 0 0,.slice none 0 0] 33 (0,0)))∧(w.heap.size ≤ s_.2.2)∧(w.heap.size ≤ s_.2.2)∧(gb513 ≠ s_.2.2)∧(s_.2.2 ≠ gb513)∧(gb514 ≠ s_.2.2)∧(s_.2.2 ≠ gb514)∧(gb515 ≠ s_.2.2)∧(s_.2.2 ≠ gb515)∧(Below w.heap.size w w')) ?_ ?_
 rotate_left
 ·intro hCont
  refine two_ (i:=5) (j:=8) (Ni:=some 20) (Nj:=some 9) #[true,true,true,true,true,true,false,false,false,false] #[true,true,true,true,true,false,false,false,true,false] rfl rfl rfl rfl (two_of HT_.out (by kernel_rfl)) (by decide) (by decide) (fun K hK=>?_) (fun K hK=>?_)
  ·skip
   refine Kd.R_lit_step (Kd.int .u8) _ 5 ?hg (N:=20) ?hd (xs:=([]:List Int)) (inner:=[]) (ok:=fun _=>True) (okp:=fun _=>True) ?hr ?hp (fun _ hk=>hk) trivial (Below.refl _ _) (Nat.le_refl _) (by simp) ?_;(case hd=>rfl);(case hg=>rfl);(case hr=>first|(go_simp;done)|(go_simp;rfl));(case hp=>exact (Reps.none _ _))
   intro v517 w11 ho12 hb hg_ hnew_
   clear hg_ hnew_
   (first|rw [← Ny516.out] at ho12|(simp only [Int.reduceToNat] at ho12;rw [← Ny516.out] at ho12))
   have n0_:=Aside0.mk (Kd.R_lower ho12 (below_size (by repeat (first|(with_reducible first|exact HB.out|apply below_alloc|apply pw_below_drewN|apply below_drew1|refine below_set ?_ GE513.out|refine below_set ?_ GE514.out|refine below_set ?_ GE515.out)|exact HB.out))))
   have n1_:=Aside0.mk (blk_below (g:=gb513) (o:=.cells #[.string a0_0,.string a0_1,.int .i64 a0_2,.slice A0_3 l0_3.length c0_3,.slice A0_4 l0_4.length c0_4] 33 (0,0)) (by (with_reducible repeat (first|refine blk_drewN ?_ _|refine blk_drew ?_|refine blk_alloc ?_ _));exact BK513.out) hb)
   have n2_:=Aside0.mk (blk_below (g:=gb514) (o:=.cells #[.slice A1_0 l1_0.length c1_0,.slice A1_1 l1_1.length c1_1,.slice A1_2 l1_2.length c1_2,.slice A1_3 l1_3.length c1_3,.int .i64 a1_4,.int .i64 a1_5,.int .i64 a1_6,.int .i64 a1_7] 38 (0,0)) (by (with_reducible repeat (first|refine blk_drewN ?_ _|refine blk_drew ?_|refine blk_alloc ?_ _));exact BK514.out) hb)
   have n3_:=Aside0.mk (blk_below (g:=gb515) (o:=.cells #[.string (⟨#[]⟩:ByteArray),.string (⟨#[]⟩:ByteArray),.int .i64 0,.slice none 0 0,.slice none 0 0] 33 (0,0)) (by (with_reducible repeat (first|refine blk_drewN ?_ _|refine blk_drew ?_|refine blk_alloc ?_ _));exact BK515.out) hb)
   have n4_:=Aside0.mk (below_step (by repeat (first|(with_reducible first|exact HB.out|apply below_alloc|apply pw_below_drewN|apply below_drew1|refine below_set ?_ GE513.out|refine below_set ?_ GE514.out|refine below_set ?_ GE515.out)|exact HB.out)) hb)
   clear BK513 BK514 BK515 HB
   have HO518:=n0_
   have BK513:=n1_
   have BK514:=n2_
   have BK515:=n3_
   have HB:=n4_
   clear n0_ n1_ n2_ n3_ n4_ hb ho12
   obtain ⟨Ao13,co13,eo13⟩:=Kd.R_slice HO518.out
   (first|subst eo13|(injection eo13 with f1_ f2_ f3_;have f4_:=f1_.symm;have f5_:=f3_.symm;clear f1_ f2_ f3_;subst f4_;subst f5_))
   refine hK.out _ _ ⟨(blk_cell BK513.out 0).trans rfl,(blk_cell BK513.out 1).trans rfl,(blk_cell BK513.out 2).trans rfl,(blk_cell BK513.out 3).trans rfl,(blk_cell BK513.out 4).trans rfl⟩ (fun hHeld=>?_)
   clear hK K
   refine norm_ (a' := ?_) ?_ ?_
   rotate_left
   ·show Act.put _ (some 20) _=_
    simp only [Act.put,zqA,zqB,zqC,i64_w,i32_w]
    rfl
   refine two_ (i:=6) (j:=8) (Ni:=some 21) (Nj:=some 9) #[true,true,true,true,true,true,true,false,false,false] #[true,true,true,true,true,true,false,false,true,false] rfl rfl rfl rfl (two_of HT_.out (by kernel_rfl)) (by decide) (by decide) (fun K hK=>?_) (fun K hK=>?_)
   ·skip
    refine goes_ Tryd.func40 (by kernel_rfl) rfl #[.slice A0_4 l0_4.length c0_4,.slice Ao13 y516.length co13] (by rfl) rfl rfl (by (try simp only [List.map_toArray,List.map_cons,List.map_nil]);first|done|rfl|(simp only [List.length_drop,List.length_take];rfl)) ?_
    with_reducible refine (tollbarref01_Join.calls k _ _ l0_4 _ _ y516 t519 _ ?side1 ?side2 ?side3 ?side4 A5.out).mono ?_
    (case side1=>repeat (first|exact (Kd.C_below HR0_4.out HB.out)|(with_reducible refine Kd.C_alloc ?_ _)|(with_reducible refine Kd.C_drewN ?_ _)|(with_reducible refine Kd.C_drew ?_)))
    (case side2=>exact HC0_4.out)
    (case side3=>repeat (first|exact (Kd.R_reads' HO518.out).2.2|(with_reducible refine Kd.C_alloc ?_ _)|(with_reducible refine Kd.C_drewN ?_ _)|(with_reducible refine Kd.C_drew ?_)))
    (case side4=>exact (Kd.R_reads' HO518.out).2.1)
    rintro e w14 ⟨v520,rfl,ho0,hb⟩
    refine ⟨_,rfl,?_⟩
    have n0_:=Aside0.mk (Kd.R_elder' (by (with_reducible repeat (first|apply Kd.R_alloc|apply Kd.R_drewN|apply Kd.R_drew));exact HO518.out) (Kd.R_base ho0) hb)
    have n1_:=Aside0.mk (Kd.R_lower (Kd.R_new' ho0 (Kd.R_lt (by (with_reducible repeat (first|apply Kd.R_alloc|apply Kd.R_drewN|apply Kd.R_drew));exact HO518.out))) (below_size (by repeat (first|(with_reducible first|exact HB.out|apply below_alloc|apply pw_below_drewN|apply below_drew1|refine below_set ?_ GE513.out|refine below_set ?_ GE514.out|refine below_set ?_ GE515.out)|exact HB.out))))
    have n2_:=Aside0.mk (blk_below (g:=gb513) (o:=.cells #[.string a0_0,.string a0_1,.int .i64 a0_2,.slice A0_3 l0_3.length c0_3,.slice A0_4 l0_4.length c0_4] 33 (0,0)) (by (with_reducible repeat (first|refine blk_drewN ?_ _|refine blk_drew ?_|refine blk_alloc ?_ _));exact BK513.out) hb)
    have n3_:=Aside0.mk (blk_below (g:=gb514) (o:=.cells #[.slice A1_0 l1_0.length c1_0,.slice A1_1 l1_1.length c1_1,.slice A1_2 l1_2.length c1_2,.slice A1_3 l1_3.length c1_3,.int .i64 a1_4,.int .i64 a1_5,.int .i64 a1_6,.int .i64 a1_7] 38 (0,0)) (by (with_reducible repeat (first|refine blk_drewN ?_ _|refine blk_drew ?_|refine blk_alloc ?_ _));exact BK514.out) hb)
    have n4_:=Aside0.mk (blk_below (g:=gb515) (o:=.cells #[.string (⟨#[]⟩:ByteArray),.string (⟨#[]⟩:ByteArray),.int .i64 0,.slice none 0 0,.slice none 0 0] 33 (0,0)) (by (with_reducible repeat (first|refine blk_drewN ?_ _|refine blk_drew ?_|refine blk_alloc ?_ _));exact BK515.out) hb)
    have n5_:=Aside0.mk (below_step (by repeat (first|(with_reducible first|exact HB.out|apply below_alloc|apply pw_below_drewN|apply below_drew1|refine below_set ?_ GE513.out|refine below_set ?_ GE514.out|refine below_set ?_ GE515.out)|exact HB.out)) hb)
    clear HO518 BK513 BK514 BK515 HB
    have HO518:=n0_
    have HO521:=n1_
    have BK513:=n2_
    have BK514:=n3_
    have BK515:=n4_
    have HB:=n5_
    clear n0_ n1_ n2_ n3_ n4_ n5_
    (try clear hb)
    (try clear hb2)
    (try clear hk)
    (try clear hi)
    (try clear ho0)
    obtain ⟨Ao15,co15,eo15⟩:=Kd.R_slice HO521.out
    (first|subst eo15|(injection eo15 with f1_ f2_ f3_;have f4_:=f1_.symm;have f5_:=f3_.symm;clear f1_ f2_ f3_;subst f4_;subst f5_))
    refine hK.out _ _ ⟨(blk_cell BK513.out 0).trans rfl,(blk_cell BK513.out 1).trans rfl,(blk_cell BK513.out 2).trans rfl,(blk_cell BK513.out 3).trans rfl,(blk_cell BK513.out 4).trans rfl⟩ (fun hHeld=>?_)
    clear hK K
    refine norm_ (a' := ?_) ?_ ?_
    rotate_left
    ·show Act.put _ (some 21) _=_
     simp only [Act.put,zqA,zqB,zqC,i64_w,i32_w]
     rfl
    refine pure_ (i:=7) (N:=some 22) (v:=?_) (a' := ?_) #[true,true,true,true,true,true,true,true,false,false] rfl rfl (any_of HT_.out (by kernel_rfl)) (fun _ _ _ h=>h) (Or.inl ⟨by rfl,?_⟩) ?_ ?_
    rotate_left
    ·intro w';go_simp;with_reducible rfl
    rotate_left
    ·simp only [Act.put,zqA,zqB,zqC,i64_w,i32_w];rfl
    refine one_ (i:=8) (N:=some 9) #[true,true,true,true,true,true,true,true,true,false] rfl rfl (one_of HT_.out (by kernel_rfl)) (by decide) (fun K hK=>?_)
    refine box_step ?hg (N:=9) ?hd (cs:=#[.string (⟨#[]⟩:ByteArray),.string (⟨#[]⟩:ByteArray),.int .i64 0,.slice none 0 0,.slice none 0 0]) (t:=33) ?hr ?_;(case hd=>rfl);(case hg=>rfl);(case hr=>first|(go_simp;done)|(go_simp;rfl))
    intro gb522 hg w16 hbox hb
    have n0_:=Aside0.mk (Kd.R_below (by (with_reducible repeat (first|apply Kd.R_alloc|apply Kd.R_drewN|apply Kd.R_drew));exact HO518.out) hb)
    have n1_:=Aside0.mk (Kd.R_below (by (with_reducible repeat (first|apply Kd.R_alloc|apply Kd.R_drewN|apply Kd.R_drew));exact HO521.out) hb)
    have n2_:=Aside0.mk (blk_below (g:=gb513) (o:=.cells #[.string a0_0,.string a0_1,.int .i64 a0_2,.slice A0_3 l0_3.length c0_3,.slice A0_4 l0_4.length c0_4] 33 (0,0)) (by (with_reducible repeat (first|refine blk_drewN ?_ _|refine blk_drew ?_|refine blk_alloc ?_ _));exact BK513.out) hb)
    have n3_:=Aside0.mk (blk_below (g:=gb514) (o:=.cells #[.slice A1_0 l1_0.length c1_0,.slice A1_1 l1_1.length c1_1,.slice A1_2 l1_2.length c1_2,.slice A1_3 l1_3.length c1_3,.int .i64 a1_4,.int .i64 a1_5,.int .i64 a1_6,.int .i64 a1_7] 38 (0,0)) (by (with_reducible repeat (first|refine blk_drewN ?_ _|refine blk_drew ?_|refine blk_alloc ?_ _));exact BK514.out) hb)
    have n4_:=Aside0.mk (blk_below (g:=gb515) (o:=.cells #[.string (⟨#[]⟩:ByteArray),.string (⟨#[]⟩:ByteArray),.int .i64 0,.slice none 0 0,.slice none 0 0] 33 (0,0)) (by (with_reducible repeat (first|refine blk_drewN ?_ _|refine blk_drew ?_|refine blk_alloc ?_ _));exact BK515.out) hb)
    have n5_:=Aside0.mk (below_step (by repeat (first|(with_reducible first|exact HB.out|apply below_alloc|apply pw_below_drewN|apply below_drew1|refine below_set ?_ GE513.out|refine below_set ?_ GE514.out|refine below_set ?_ GE515.out)|exact HB.out)) hb)
    have n6_:=Aside0.mk (hbox)
    have n7_:=Aside0.mk ((by rw [hg];exact (below_size (by repeat (first|(with_reducible first|exact HB.out|apply below_alloc|apply pw_below_drewN|apply below_drew1|refine below_set ?_ GE513.out|refine below_set ?_ GE514.out|refine below_set ?_ GE515.out)|exact HB.out))):w.heap.size ≤ gb522))
    have n8_:=Aside0.mk ((by rw [hg];exact (below_size (by repeat (first|(with_reducible first|exact HB.out|apply below_alloc|apply pw_below_drewN|apply below_drew1|refine below_set ?_ GE513.out|refine below_set ?_ GE514.out|refine below_set ?_ GE515.out)|exact HB.out))):w.heap.size ≤ gb522))
    have n9_:=Aside0.mk ((by rw [hg];exact Nat.ne_of_lt (blk_lt (g:=gb513) (o:=.cells #[.string a0_0,.string a0_1,.int .i64 a0_2,.slice A0_3 l0_3.length c0_3,.slice A0_4 l0_4.length c0_4] 33 (0,0)) (by (with_reducible repeat (first|refine blk_drewN ?_ _|refine blk_drew ?_|refine blk_alloc ?_ _));exact BK513.out)):gb513 ≠ gb522))
    have n10_:=Aside0.mk ((by rw [hg];exact Nat.ne_of_gt (blk_lt (g:=gb513) (o:=.cells #[.string a0_0,.string a0_1,.int .i64 a0_2,.slice A0_3 l0_3.length c0_3,.slice A0_4 l0_4.length c0_4] 33 (0,0)) (by (with_reducible repeat (first|refine blk_drewN ?_ _|refine blk_drew ?_|refine blk_alloc ?_ _));exact BK513.out)):gb522 ≠ gb513))
    have n11_:=Aside0.mk ((by rw [hg];exact Nat.ne_of_lt (blk_lt (g:=gb514) (o:=.cells #[.slice A1_0 l1_0.length c1_0,.slice A1_1 l1_1.length c1_1,.slice A1_2 l1_2.length c1_2,.slice A1_3 l1_3.length c1_3,.int .i64 a1_4,.int .i64 a1_5,.int .i64 a1_6,.int .i64 a1_7] 38 (0,0)) (by (with_reducible repeat (first|refine blk_drewN ?_ _|refine blk_drew ?_|refine blk_alloc ?_ _));exact BK514.out)):gb514 ≠ gb522))
    have n12_:=Aside0.mk ((by rw [hg];exact Nat.ne_of_gt (blk_lt (g:=gb514) (o:=.cells #[.slice A1_0 l1_0.length c1_0,.slice A1_1 l1_1.length c1_1,.slice A1_2 l1_2.length c1_2,.slice A1_3 l1_3.length c1_3,.int .i64 a1_4,.int .i64 a1_5,.int .i64 a1_6,.int .i64 a1_7] 38 (0,0)) (by (with_reducible repeat (first|refine blk_drewN ?_ _|refine blk_drew ?_|refine blk_alloc ?_ _));exact BK514.out)):gb522 ≠ gb514))
    have n13_:=Aside0.mk ((by rw [hg];exact Nat.ne_of_lt (blk_lt (g:=gb515) (o:=.cells #[.string (⟨#[]⟩:ByteArray),.string (⟨#[]⟩:ByteArray),.int .i64 0,.slice none 0 0,.slice none 0 0] 33 (0,0)) (by (with_reducible repeat (first|refine blk_drewN ?_ _|refine blk_drew ?_|refine blk_alloc ?_ _));exact BK515.out)):gb515 ≠ gb522))
    have n14_:=Aside0.mk ((by rw [hg];exact Nat.ne_of_gt (blk_lt (g:=gb515) (o:=.cells #[.string (⟨#[]⟩:ByteArray),.string (⟨#[]⟩:ByteArray),.int .i64 0,.slice none 0 0,.slice none 0 0] 33 (0,0)) (by (with_reducible repeat (first|refine blk_drewN ?_ _|refine blk_drew ?_|refine blk_alloc ?_ _));exact BK515.out)):gb522 ≠ gb515))
    clear HO518 HO521 BK513 BK514 BK515 HB
    have HO518:=n0_
    have HO521:=n1_
    have BK513:=n2_
    have BK514:=n3_
    have BK515:=n4_
    have HB:=n5_
    have BK522:=n6_
    have GW522:=n7_
    have GE522:=n8_
    have NB513_522:=n9_
    have NB522_513:=n10_
    have NB514_522:=n11_
    have NB522_514:=n12_
    have NB515_522:=n13_
    have NB522_515:=n14_
    clear n0_ n1_ n2_ n3_ n4_ n5_ n6_ n7_ n8_ n9_ n10_ n11_ n12_ n13_ n14_ hb hbox hg
    refine hK.out _ _ ⟨(blk_cell BK513.out 0).trans rfl,(blk_cell BK513.out 1).trans rfl,(blk_cell BK513.out 2).trans rfl,(blk_cell BK513.out 3).trans rfl,(blk_cell BK513.out 4).trans rfl⟩ (fun hHeld=>?_)
    clear hK K
    refine norm_ (a' := ?_) ?_ ?_
    rotate_left
    ·show Act.put _ (some 9) _=_
     simp only [Act.put,zqA,zqB,zqC,i64_w,i32_w]
     rfl
    exact norm_ (by simp only [putAll,Act.put,zqA,zqB,zqC]) (hCont (.slice Ao13 y516.length co13,.slice Ao15 t519.length co15,gb522) _ ⟨hHeld,(by (with_reducible repeat (first|apply Kd.R_alloc|apply Kd.R_drewN|apply Kd.R_drew));exact Kd.R_mono HO518.out (fun _ hk=>hk.2)),(by (with_reducible repeat (first|apply Kd.R_alloc|apply Kd.R_drewN|apply Kd.R_drew));exact Kd.R_mono HO521.out (fun _ hk=>hk.2)),(by (with_reducible repeat (first|refine blk_drewN ?_ _|refine blk_drew ?_|refine blk_alloc ?_ _));exact BK513.out),(by (with_reducible repeat (first|refine blk_drewN ?_ _|refine blk_drew ?_|refine blk_alloc ?_ _));exact BK514.out),(by (with_reducible repeat (first|refine blk_drewN ?_ _|refine blk_drew ?_|refine blk_alloc ?_ _));exact BK515.out),(by (with_reducible repeat (first|refine blk_drewN ?_ _|refine blk_drew ?_|refine blk_alloc ?_ _));exact BK522.out),GW522.out,GE522.out,NB513_522.out,NB522_513.out,NB514_522.out,NB522_514.out,NB515_522.out,NB522_515.out,(by repeat (first|(with_reducible first|exact HB.out|apply below_alloc|apply pw_below_drewN|apply below_drew1|refine below_set ?_ GE513.out|refine below_set ?_ GE514.out|refine below_set ?_ GE515.out|refine below_set ?_ GE522.out)|exact HB.out))⟩)
   ·skip
    refine box_step ?hg (N:=9) ?hd (cs:=#[.string (⟨#[]⟩:ByteArray),.string (⟨#[]⟩:ByteArray),.int .i64 0,.slice none 0 0,.slice none 0 0]) (t:=33) ?hr ?_;(case hd=>rfl);(case hg=>rfl);(case hr=>first|(go_simp;done)|(go_simp;rfl))
    intro gb522 hg w13 hbox hb
    have n0_:=Aside0.mk (Kd.R_below (by (with_reducible repeat (first|apply Kd.R_alloc|apply Kd.R_drewN|apply Kd.R_drew));exact HO518.out) hb)
    have n1_:=Aside0.mk (blk_below (g:=gb513) (o:=.cells #[.string a0_0,.string a0_1,.int .i64 a0_2,.slice A0_3 l0_3.length c0_3,.slice A0_4 l0_4.length c0_4] 33 (0,0)) (by (with_reducible repeat (first|refine blk_drewN ?_ _|refine blk_drew ?_|refine blk_alloc ?_ _));exact BK513.out) hb)
    have n2_:=Aside0.mk (blk_below (g:=gb514) (o:=.cells #[.slice A1_0 l1_0.length c1_0,.slice A1_1 l1_1.length c1_1,.slice A1_2 l1_2.length c1_2,.slice A1_3 l1_3.length c1_3,.int .i64 a1_4,.int .i64 a1_5,.int .i64 a1_6,.int .i64 a1_7] 38 (0,0)) (by (with_reducible repeat (first|refine blk_drewN ?_ _|refine blk_drew ?_|refine blk_alloc ?_ _));exact BK514.out) hb)
    have n3_:=Aside0.mk (blk_below (g:=gb515) (o:=.cells #[.string (⟨#[]⟩:ByteArray),.string (⟨#[]⟩:ByteArray),.int .i64 0,.slice none 0 0,.slice none 0 0] 33 (0,0)) (by (with_reducible repeat (first|refine blk_drewN ?_ _|refine blk_drew ?_|refine blk_alloc ?_ _));exact BK515.out) hb)
    have n4_:=Aside0.mk (below_step (by repeat (first|(with_reducible first|exact HB.out|apply below_alloc|apply pw_below_drewN|apply below_drew1|refine below_set ?_ GE513.out|refine below_set ?_ GE514.out|refine below_set ?_ GE515.out)|exact HB.out)) hb)
    have n5_:=Aside0.mk (hbox)
    have n6_:=Aside0.mk ((by rw [hg];exact (below_size (by repeat (first|(with_reducible first|exact HB.out|apply below_alloc|apply pw_below_drewN|apply below_drew1|refine below_set ?_ GE513.out|refine below_set ?_ GE514.out|refine below_set ?_ GE515.out)|exact HB.out))):w.heap.size ≤ gb522))
    have n7_:=Aside0.mk ((by rw [hg];exact (below_size (by repeat (first|(with_reducible first|exact HB.out|apply below_alloc|apply pw_below_drewN|apply below_drew1|refine below_set ?_ GE513.out|refine below_set ?_ GE514.out|refine below_set ?_ GE515.out)|exact HB.out))):w.heap.size ≤ gb522))
    have n8_:=Aside0.mk ((by rw [hg];exact Nat.ne_of_lt (blk_lt (g:=gb513) (o:=.cells #[.string a0_0,.string a0_1,.int .i64 a0_2,.slice A0_3 l0_3.length c0_3,.slice A0_4 l0_4.length c0_4] 33 (0,0)) (by (with_reducible repeat (first|refine blk_drewN ?_ _|refine blk_drew ?_|refine blk_alloc ?_ _));exact BK513.out)):gb513 ≠ gb522))
    have n9_:=Aside0.mk ((by rw [hg];exact Nat.ne_of_gt (blk_lt (g:=gb513) (o:=.cells #[.string a0_0,.string a0_1,.int .i64 a0_2,.slice A0_3 l0_3.length c0_3,.slice A0_4 l0_4.length c0_4] 33 (0,0)) (by (with_reducible repeat (first|refine blk_drewN ?_ _|refine blk_drew ?_|refine blk_alloc ?_ _));exact BK513.out)):gb522 ≠ gb513))
    have n10_:=Aside0.mk ((by rw [hg];exact Nat.ne_of_lt (blk_lt (g:=gb514) (o:=.cells #[.slice A1_0 l1_0.length c1_0,.slice A1_1 l1_1.length c1_1,.slice A1_2 l1_2.length c1_2,.slice A1_3 l1_3.length c1_3,.int .i64 a1_4,.int .i64 a1_5,.int .i64 a1_6,.int .i64 a1_7] 38 (0,0)) (by (with_reducible repeat (first|refine blk_drewN ?_ _|refine blk_drew ?_|refine blk_alloc ?_ _));exact BK514.out)):gb514 ≠ gb522))
    have n11_:=Aside0.mk ((by rw [hg];exact Nat.ne_of_gt (blk_lt (g:=gb514) (o:=.cells #[.slice A1_0 l1_0.length c1_0,.slice A1_1 l1_1.length c1_1,.slice A1_2 l1_2.length c1_2,.slice A1_3 l1_3.length c1_3,.int .i64 a1_4,.int .i64 a1_5,.int .i64 a1_6,.int .i64 a1_7] 38 (0,0)) (by (with_reducible repeat (first|refine blk_drewN ?_ _|refine blk_drew ?_|refine blk_alloc ?_ _));exact BK514.out)):gb522 ≠ gb514))
    have n12_:=Aside0.mk ((by rw [hg];exact Nat.ne_of_lt (blk_lt (g:=gb515) (o:=.cells #[.string (⟨#[]⟩:ByteArray),.string (⟨#[]⟩:ByteArray),.int .i64 0,.slice none 0 0,.slice none 0 0] 33 (0,0)) (by (with_reducible repeat (first|refine blk_drewN ?_ _|refine blk_drew ?_|refine blk_alloc ?_ _));exact BK515.out)):gb515 ≠ gb522))
    have n13_:=Aside0.mk ((by rw [hg];exact Nat.ne_of_gt (blk_lt (g:=gb515) (o:=.cells #[.string (⟨#[]⟩:ByteArray),.string (⟨#[]⟩:ByteArray),.int .i64 0,.slice none 0 0,.slice none 0 0] 33 (0,0)) (by (with_reducible repeat (first|refine blk_drewN ?_ _|refine blk_drew ?_|refine blk_alloc ?_ _));exact BK515.out)):gb522 ≠ gb515))
    clear HO518 BK513 BK514 BK515 HB
    have HO518:=n0_
    have BK513:=n1_
    have BK514:=n2_
    have BK515:=n3_
    have HB:=n4_
    have BK522:=n5_
    have GW522:=n6_
    have GE522:=n7_
    have NB513_522:=n8_
    have NB522_513:=n9_
    have NB514_522:=n10_
    have NB522_514:=n11_
    have NB515_522:=n12_
    have NB522_515:=n13_
    clear n0_ n1_ n2_ n3_ n4_ n5_ n6_ n7_ n8_ n9_ n10_ n11_ n12_ n13_ hb hbox hg
    obtain ⟨Ao14,co14,eo14⟩:=Kd.R_slice HO518.out
    (first|subst eo14|(injection eo14 with f1_ f2_ f3_;have f4_:=f1_.symm;have f5_:=f3_.symm;clear f1_ f2_ f3_;subst f4_;subst f5_))
    refine hK.out _ _ ⟨(blk_cell BK513.out 0).trans rfl,(blk_cell BK513.out 1).trans rfl,(blk_cell BK513.out 2).trans rfl,(blk_cell BK513.out 3).trans rfl,(blk_cell BK513.out 4).trans rfl⟩ (fun hHeld=>?_)
    clear hK K
    refine norm_ (a' := ?_) ?_ ?_
    rotate_left
    ·show Act.put _ (some 9) _=_
     simp only [Act.put,zqA,zqB,zqC,i64_w,i32_w]
     rfl
    refine one_ (i:=6) (N:=some 21) #[true,true,true,true,true,true,true,false,true,false] rfl rfl (one_of HT_.out (by kernel_rfl)) (by decide) (fun K hK=>?_)
    refine goes_ Tryd.func40 (by kernel_rfl) rfl #[.slice A0_4 l0_4.length c0_4,.slice Ao14 y516.length co14] (by rfl) rfl rfl (by (try simp only [List.map_toArray,List.map_cons,List.map_nil]);first|done|rfl|(simp only [List.length_drop,List.length_take];rfl)) ?_
    with_reducible refine (tollbarref01_Join.calls k _ _ l0_4 _ _ y516 t519 _ ?side1 ?side2 ?side3 ?side4 A5.out).mono ?_
    (case side1=>repeat (first|exact (Kd.C_below HR0_4.out HB.out)|(with_reducible refine Kd.C_alloc ?_ _)|(with_reducible refine Kd.C_drewN ?_ _)|(with_reducible refine Kd.C_drew ?_)))
    (case side2=>exact HC0_4.out)
    (case side3=>repeat (first|exact (Kd.R_reads' HO518.out).2.2|(with_reducible refine Kd.C_alloc ?_ _)|(with_reducible refine Kd.C_drewN ?_ _)|(with_reducible refine Kd.C_drew ?_)))
    (case side4=>exact (Kd.R_reads' HO518.out).2.1)
    rintro e w15 ⟨v520,rfl,ho0,hb⟩
    refine ⟨_,rfl,?_⟩
    have n0_:=Aside0.mk (Kd.R_elder' (by (with_reducible repeat (first|apply Kd.R_alloc|apply Kd.R_drewN|apply Kd.R_drew));exact HO518.out) (Kd.R_base ho0) hb)
    have n1_:=Aside0.mk (Kd.R_lower (Kd.R_new' ho0 (Kd.R_lt (by (with_reducible repeat (first|apply Kd.R_alloc|apply Kd.R_drewN|apply Kd.R_drew));exact HO518.out))) (below_size (by repeat (first|(with_reducible first|exact HB.out|apply below_alloc|apply pw_below_drewN|apply below_drew1|refine below_set ?_ GE513.out|refine below_set ?_ GE514.out|refine below_set ?_ GE515.out|refine below_set ?_ GE522.out)|exact HB.out))))
    have n2_:=Aside0.mk (blk_below (g:=gb513) (o:=.cells #[.string a0_0,.string a0_1,.int .i64 a0_2,.slice A0_3 l0_3.length c0_3,.slice A0_4 l0_4.length c0_4] 33 (0,0)) (by (with_reducible repeat (first|refine blk_drewN ?_ _|refine blk_drew ?_|refine blk_alloc ?_ _));exact BK513.out) hb)
    have n3_:=Aside0.mk (blk_below (g:=gb514) (o:=.cells #[.slice A1_0 l1_0.length c1_0,.slice A1_1 l1_1.length c1_1,.slice A1_2 l1_2.length c1_2,.slice A1_3 l1_3.length c1_3,.int .i64 a1_4,.int .i64 a1_5,.int .i64 a1_6,.int .i64 a1_7] 38 (0,0)) (by (with_reducible repeat (first|refine blk_drewN ?_ _|refine blk_drew ?_|refine blk_alloc ?_ _));exact BK514.out) hb)
    have n4_:=Aside0.mk (blk_below (g:=gb515) (o:=.cells #[.string (⟨#[]⟩:ByteArray),.string (⟨#[]⟩:ByteArray),.int .i64 0,.slice none 0 0,.slice none 0 0] 33 (0,0)) (by (with_reducible repeat (first|refine blk_drewN ?_ _|refine blk_drew ?_|refine blk_alloc ?_ _));exact BK515.out) hb)
    have n5_:=Aside0.mk (blk_below (g:=gb522) (o:=.cells #[.string (⟨#[]⟩:ByteArray),.string (⟨#[]⟩:ByteArray),.int .i64 0,.slice none 0 0,.slice none 0 0] 33 (0,0)) (by (with_reducible repeat (first|refine blk_drewN ?_ _|refine blk_drew ?_|refine blk_alloc ?_ _));exact BK522.out) hb)
    have n6_:=Aside0.mk (below_step (by repeat (first|(with_reducible first|exact HB.out|apply below_alloc|apply pw_below_drewN|apply below_drew1|refine below_set ?_ GE513.out|refine below_set ?_ GE514.out|refine below_set ?_ GE515.out|refine below_set ?_ GE522.out)|exact HB.out)) hb)
    clear HO518 BK513 BK514 BK515 BK522 HB
    have HO518:=n0_
    have HO521:=n1_
    have BK513:=n2_
    have BK514:=n3_
    have BK515:=n4_
    have BK522:=n5_
    have HB:=n6_
    clear n0_ n1_ n2_ n3_ n4_ n5_ n6_
    (try clear hb)
    (try clear hb2)
    (try clear hk)
    (try clear hi)
    (try clear ho0)
    obtain ⟨Ao16,co16,eo16⟩:=Kd.R_slice HO521.out
    (first|subst eo16|(injection eo16 with f1_ f2_ f3_;have f4_:=f1_.symm;have f5_:=f3_.symm;clear f1_ f2_ f3_;subst f4_;subst f5_))
    refine hK.out _ _ ⟨(blk_cell BK513.out 0).trans rfl,(blk_cell BK513.out 1).trans rfl,(blk_cell BK513.out 2).trans rfl,(blk_cell BK513.out 3).trans rfl,(blk_cell BK513.out 4).trans rfl⟩ (fun hHeld=>?_)
    clear hK K
    refine norm_ (a' := ?_) ?_ ?_
    rotate_left
    ·show Act.put _ (some 21) _=_
     simp only [Act.put,zqA,zqB,zqC,i64_w,i32_w]
     rfl
    refine pure_ (i:=7) (N:=some 22) (v:=?_) (a' := ?_) #[true,true,true,true,true,true,true,true,true,false] rfl rfl (any_of HT_.out (by kernel_rfl)) (fun _ _ _ h=>h) (Or.inl ⟨by rfl,?_⟩) ?_ ?_
    rotate_left
    ·intro w';go_simp;with_reducible rfl
    rotate_left
    ·simp only [Act.put,zqA,zqB,zqC,i64_w,i32_w];rfl
    exact norm_ (by simp only [putAll,Act.put,zqA,zqB,zqC]) (hCont (.slice Ao14 y516.length co14,.slice Ao16 t519.length co16,gb522) _ ⟨hHeld,(by (with_reducible repeat (first|apply Kd.R_alloc|apply Kd.R_drewN|apply Kd.R_drew));exact Kd.R_mono HO518.out (fun _ hk=>hk.2)),(by (with_reducible repeat (first|apply Kd.R_alloc|apply Kd.R_drewN|apply Kd.R_drew));exact Kd.R_mono HO521.out (fun _ hk=>hk.2)),(by (with_reducible repeat (first|refine blk_drewN ?_ _|refine blk_drew ?_|refine blk_alloc ?_ _));exact BK513.out),(by (with_reducible repeat (first|refine blk_drewN ?_ _|refine blk_drew ?_|refine blk_alloc ?_ _));exact BK514.out),(by (with_reducible repeat (first|refine blk_drewN ?_ _|refine blk_drew ?_|refine blk_alloc ?_ _));exact BK515.out),(by (with_reducible repeat (first|refine blk_drewN ?_ _|refine blk_drew ?_|refine blk_alloc ?_ _));exact BK522.out),GW522.out,GE522.out,NB513_522.out,NB522_513.out,NB514_522.out,NB522_514.out,NB515_522.out,NB522_515.out,(by repeat (first|(with_reducible first|exact HB.out|apply below_alloc|apply pw_below_drewN|apply below_drew1|refine below_set ?_ GE513.out|refine below_set ?_ GE514.out|refine below_set ?_ GE515.out|refine below_set ?_ GE522.out)|exact HB.out))⟩)
  ·skip
   refine box_step ?hg (N:=9) ?hd (cs:=#[.string (⟨#[]⟩:ByteArray),.string (⟨#[]⟩:ByteArray),.int .i64 0,.slice none 0 0,.slice none 0 0]) (t:=33) ?hr ?_;(case hd=>rfl);(case hg=>rfl);(case hr=>first|(go_simp;done)|(go_simp;rfl))
   intro gb522 hg w11 hbox hb
   have n0_:=Aside0.mk (blk_below (g:=gb513) (o:=.cells #[.string a0_0,.string a0_1,.int .i64 a0_2,.slice A0_3 l0_3.length c0_3,.slice A0_4 l0_4.length c0_4] 33 (0,0)) (by (with_reducible repeat (first|refine blk_drewN ?_ _|refine blk_drew ?_|refine blk_alloc ?_ _));exact BK513.out) hb)
   have n1_:=Aside0.mk (blk_below (g:=gb514) (o:=.cells #[.slice A1_0 l1_0.length c1_0,.slice A1_1 l1_1.length c1_1,.slice A1_2 l1_2.length c1_2,.slice A1_3 l1_3.length c1_3,.int .i64 a1_4,.int .i64 a1_5,.int .i64 a1_6,.int .i64 a1_7] 38 (0,0)) (by (with_reducible repeat (first|refine blk_drewN ?_ _|refine blk_drew ?_|refine blk_alloc ?_ _));exact BK514.out) hb)
   have n2_:=Aside0.mk (blk_below (g:=gb515) (o:=.cells #[.string (⟨#[]⟩:ByteArray),.string (⟨#[]⟩:ByteArray),.int .i64 0,.slice none 0 0,.slice none 0 0] 33 (0,0)) (by (with_reducible repeat (first|refine blk_drewN ?_ _|refine blk_drew ?_|refine blk_alloc ?_ _));exact BK515.out) hb)
   have n3_:=Aside0.mk (below_step (by repeat (first|(with_reducible first|exact HB.out|apply below_alloc|apply pw_below_drewN|apply below_drew1|refine below_set ?_ GE513.out|refine below_set ?_ GE514.out|refine below_set ?_ GE515.out)|exact HB.out)) hb)
   have n4_:=Aside0.mk (hbox)
   have n5_:=Aside0.mk ((by rw [hg];exact (below_size (by repeat (first|(with_reducible first|exact HB.out|apply below_alloc|apply pw_below_drewN|apply below_drew1|refine below_set ?_ GE513.out|refine below_set ?_ GE514.out|refine below_set ?_ GE515.out)|exact HB.out))):w.heap.size ≤ gb522))
   have n6_:=Aside0.mk ((by rw [hg];exact (below_size (by repeat (first|(with_reducible first|exact HB.out|apply below_alloc|apply pw_below_drewN|apply below_drew1|refine below_set ?_ GE513.out|refine below_set ?_ GE514.out|refine below_set ?_ GE515.out)|exact HB.out))):w.heap.size ≤ gb522))
   have n7_:=Aside0.mk ((by rw [hg];exact Nat.ne_of_lt (blk_lt (g:=gb513) (o:=.cells #[.string a0_0,.string a0_1,.int .i64 a0_2,.slice A0_3 l0_3.length c0_3,.slice A0_4 l0_4.length c0_4] 33 (0,0)) (by (with_reducible repeat (first|refine blk_drewN ?_ _|refine blk_drew ?_|refine blk_alloc ?_ _));exact BK513.out)):gb513 ≠ gb522))
   have n8_:=Aside0.mk ((by rw [hg];exact Nat.ne_of_gt (blk_lt (g:=gb513) (o:=.cells #[.string a0_0,.string a0_1,.int .i64 a0_2,.slice A0_3 l0_3.length c0_3,.slice A0_4 l0_4.length c0_4] 33 (0,0)) (by (with_reducible repeat (first|refine blk_drewN ?_ _|refine blk_drew ?_|refine blk_alloc ?_ _));exact BK513.out)):gb522 ≠ gb513))
   have n9_:=Aside0.mk ((by rw [hg];exact Nat.ne_of_lt (blk_lt (g:=gb514) (o:=.cells #[.slice A1_0 l1_0.length c1_0,.slice A1_1 l1_1.length c1_1,.slice A1_2 l1_2.length c1_2,.slice A1_3 l1_3.length c1_3,.int .i64 a1_4,.int .i64 a1_5,.int .i64 a1_6,.int .i64 a1_7] 38 (0,0)) (by (with_reducible repeat (first|refine blk_drewN ?_ _|refine blk_drew ?_|refine blk_alloc ?_ _));exact BK514.out)):gb514 ≠ gb522))
   have n10_:=Aside0.mk ((by rw [hg];exact Nat.ne_of_gt (blk_lt (g:=gb514) (o:=.cells #[.slice A1_0 l1_0.length c1_0,.slice A1_1 l1_1.length c1_1,.slice A1_2 l1_2.length c1_2,.slice A1_3 l1_3.length c1_3,.int .i64 a1_4,.int .i64 a1_5,.int .i64 a1_6,.int .i64 a1_7] 38 (0,0)) (by (with_reducible repeat (first|refine blk_drewN ?_ _|refine blk_drew ?_|refine blk_alloc ?_ _));exact BK514.out)):gb522 ≠ gb514))
   have n11_:=Aside0.mk ((by rw [hg];exact Nat.ne_of_lt (blk_lt (g:=gb515) (o:=.cells #[.string (⟨#[]⟩:ByteArray),.string (⟨#[]⟩:ByteArray),.int .i64 0,.slice none 0 0,.slice none 0 0] 33 (0,0)) (by (with_reducible repeat (first|refine blk_drewN ?_ _|refine blk_drew ?_|refine blk_alloc ?_ _));exact BK515.out)):gb515 ≠ gb522))
   have n12_:=Aside0.mk ((by rw [hg];exact Nat.ne_of_gt (blk_lt (g:=gb515) (o:=.cells #[.string (⟨#[]⟩:ByteArray),.string (⟨#[]⟩:ByteArray),.int .i64 0,.slice none 0 0,.slice none 0 0] 33 (0,0)) (by (with_reducible repeat (first|refine blk_drewN ?_ _|refine blk_drew ?_|refine blk_alloc ?_ _));exact BK515.out)):gb522 ≠ gb515))
   clear BK513 BK514 BK515 HB
   have BK513:=n0_
   have BK514:=n1_
   have BK515:=n2_
   have HB:=n3_
   have BK522:=n4_
   have GW522:=n5_
   have GE522:=n6_
   have NB513_522:=n7_
   have NB522_513:=n8_
   have NB514_522:=n9_
   have NB522_514:=n10_
   have NB515_522:=n11_
   have NB522_515:=n12_
   clear n0_ n1_ n2_ n3_ n4_ n5_ n6_ n7_ n8_ n9_ n10_ n11_ n12_ hb hbox hg
   refine hK.out _ _ ⟨(blk_cell BK513.out 0).trans rfl,(blk_cell BK513.out 1).trans rfl,(blk_cell BK513.out 2).trans rfl,(blk_cell BK513.out 3).trans rfl,(blk_cell BK513.out 4).trans rfl⟩ (fun hHeld=>?_)
   clear hK K
   refine norm_ (a' := ?_) ?_ ?_
   rotate_left
   ·show Act.put _ (some 9) _=_
    simp only [Act.put,zqA,zqB,zqC,i64_w,i32_w]
    rfl
   refine one_ (i:=5) (N:=some 20) #[true,true,true,true,true,true,false,false,true,false] rfl rfl (one_of HT_.out (by kernel_rfl)) (by decide) (fun K hK=>?_)
   refine Kd.R_lit_step (Kd.int .u8) _ 5 ?hg (N:=20) ?hd (xs:=([]:List Int)) (inner:=[]) (ok:=fun _=>True) (okp:=fun _=>True) ?hr ?hp (fun _ hk=>hk) trivial (Below.refl _ _) (Nat.le_refl _) (by simp) ?_;(case hd=>rfl);(case hg=>rfl);(case hr=>first|(go_simp;done)|(go_simp;rfl));(case hp=>exact (Reps.none _ _))
   intro v517 w12 ho13 hb hg_ hnew_
   clear hg_ hnew_
   (first|rw [← Ny516.out] at ho13|(simp only [Int.reduceToNat] at ho13;rw [← Ny516.out] at ho13))
   have n0_:=Aside0.mk (Kd.R_lower ho13 (below_size (by repeat (first|(with_reducible first|exact HB.out|apply below_alloc|apply pw_below_drewN|apply below_drew1|refine below_set ?_ GE513.out|refine below_set ?_ GE514.out|refine below_set ?_ GE515.out|refine below_set ?_ GE522.out)|exact HB.out))))
   have n1_:=Aside0.mk (blk_below (g:=gb513) (o:=.cells #[.string a0_0,.string a0_1,.int .i64 a0_2,.slice A0_3 l0_3.length c0_3,.slice A0_4 l0_4.length c0_4] 33 (0,0)) (by (with_reducible repeat (first|refine blk_drewN ?_ _|refine blk_drew ?_|refine blk_alloc ?_ _));exact BK513.out) hb)
   have n2_:=Aside0.mk (blk_below (g:=gb514) (o:=.cells #[.slice A1_0 l1_0.length c1_0,.slice A1_1 l1_1.length c1_1,.slice A1_2 l1_2.length c1_2,.slice A1_3 l1_3.length c1_3,.int .i64 a1_4,.int .i64 a1_5,.int .i64 a1_6,.int .i64 a1_7] 38 (0,0)) (by (with_reducible repeat (first|refine blk_drewN ?_ _|refine blk_drew ?_|refine blk_alloc ?_ _));exact BK514.out) hb)
   have n3_:=Aside0.mk (blk_below (g:=gb515) (o:=.cells #[.string (⟨#[]⟩:ByteArray),.string (⟨#[]⟩:ByteArray),.int .i64 0,.slice none 0 0,.slice none 0 0] 33 (0,0)) (by (with_reducible repeat (first|refine blk_drewN ?_ _|refine blk_drew ?_|refine blk_alloc ?_ _));exact BK515.out) hb)
   have n4_:=Aside0.mk (blk_below (g:=gb522) (o:=.cells #[.string (⟨#[]⟩:ByteArray),.string (⟨#[]⟩:ByteArray),.int .i64 0,.slice none 0 0,.slice none 0 0] 33 (0,0)) (by (with_reducible repeat (first|refine blk_drewN ?_ _|refine blk_drew ?_|refine blk_alloc ?_ _));exact BK522.out) hb)
   have n5_:=Aside0.mk (below_step (by repeat (first|(with_reducible first|exact HB.out|apply below_alloc|apply pw_below_drewN|apply below_drew1|refine below_set ?_ GE513.out|refine below_set ?_ GE514.out|refine below_set ?_ GE515.out|refine below_set ?_ GE522.out)|exact HB.out)) hb)
   clear BK513 BK514 BK515 BK522 HB
   have HO518:=n0_
   have BK513:=n1_
   have BK514:=n2_
   have BK515:=n3_
   have BK522:=n4_
   have HB:=n5_
   clear n0_ n1_ n2_ n3_ n4_ n5_ hb ho13
   obtain ⟨Ao14,co14,eo14⟩:=Kd.R_slice HO518.out
   (first|subst eo14|(injection eo14 with f1_ f2_ f3_;have f4_:=f1_.symm;have f5_:=f3_.symm;clear f1_ f2_ f3_;subst f4_;subst f5_))
   refine hK.out _ _ ⟨(blk_cell BK513.out 0).trans rfl,(blk_cell BK513.out 1).trans rfl,(blk_cell BK513.out 2).trans rfl,(blk_cell BK513.out 3).trans rfl,(blk_cell BK513.out 4).trans rfl⟩ (fun hHeld=>?_)
   clear hK K
   refine norm_ (a' := ?_) ?_ ?_
   rotate_left
   ·show Act.put _ (some 20) _=_
    simp only [Act.put,zqA,zqB,zqC,i64_w,i32_w]
    rfl
   refine one_ (i:=6) (N:=some 21) #[true,true,true,true,true,true,true,false,true,false] rfl rfl (one_of HT_.out (by kernel_rfl)) (by decide) (fun K hK=>?_)
   refine goes_ Tryd.func40 (by kernel_rfl) rfl #[.slice A0_4 l0_4.length c0_4,.slice Ao14 y516.length co14] (by rfl) rfl rfl (by (try simp only [List.map_toArray,List.map_cons,List.map_nil]);first|done|rfl|(simp only [List.length_drop,List.length_take];rfl)) ?_
   with_reducible refine (tollbarref01_Join.calls k _ _ l0_4 _ _ y516 t519 _ ?side1 ?side2 ?side3 ?side4 A5.out).mono ?_
   (case side1=>repeat (first|exact (Kd.C_below HR0_4.out HB.out)|(with_reducible refine Kd.C_alloc ?_ _)|(with_reducible refine Kd.C_drewN ?_ _)|(with_reducible refine Kd.C_drew ?_)))
   (case side2=>exact HC0_4.out)
   (case side3=>repeat (first|exact (Kd.R_reads' HO518.out).2.2|(with_reducible refine Kd.C_alloc ?_ _)|(with_reducible refine Kd.C_drewN ?_ _)|(with_reducible refine Kd.C_drew ?_)))
   (case side4=>exact (Kd.R_reads' HO518.out).2.1)
   rintro e w15 ⟨v520,rfl,ho0,hb⟩
   refine ⟨_,rfl,?_⟩
   have n0_:=Aside0.mk (Kd.R_elder' (by (with_reducible repeat (first|apply Kd.R_alloc|apply Kd.R_drewN|apply Kd.R_drew));exact HO518.out) (Kd.R_base ho0) hb)
   have n1_:=Aside0.mk (Kd.R_lower (Kd.R_new' ho0 (Kd.R_lt (by (with_reducible repeat (first|apply Kd.R_alloc|apply Kd.R_drewN|apply Kd.R_drew));exact HO518.out))) (below_size (by repeat (first|(with_reducible first|exact HB.out|apply below_alloc|apply pw_below_drewN|apply below_drew1|refine below_set ?_ GE513.out|refine below_set ?_ GE514.out|refine below_set ?_ GE515.out|refine below_set ?_ GE522.out)|exact HB.out))))
   have n2_:=Aside0.mk (blk_below (g:=gb513) (o:=.cells #[.string a0_0,.string a0_1,.int .i64 a0_2,.slice A0_3 l0_3.length c0_3,.slice A0_4 l0_4.length c0_4] 33 (0,0)) (by (with_reducible repeat (first|refine blk_drewN ?_ _|refine blk_drew ?_|refine blk_alloc ?_ _));exact BK513.out) hb)
   have n3_:=Aside0.mk (blk_below (g:=gb514) (o:=.cells #[.slice A1_0 l1_0.length c1_0,.slice A1_1 l1_1.length c1_1,.slice A1_2 l1_2.length c1_2,.slice A1_3 l1_3.length c1_3,.int .i64 a1_4,.int .i64 a1_5,.int .i64 a1_6,.int .i64 a1_7] 38 (0,0)) (by (with_reducible repeat (first|refine blk_drewN ?_ _|refine blk_drew ?_|refine blk_alloc ?_ _));exact BK514.out) hb)
   have n4_:=Aside0.mk (blk_below (g:=gb515) (o:=.cells #[.string (⟨#[]⟩:ByteArray),.string (⟨#[]⟩:ByteArray),.int .i64 0,.slice none 0 0,.slice none 0 0] 33 (0,0)) (by (with_reducible repeat (first|refine blk_drewN ?_ _|refine blk_drew ?_|refine blk_alloc ?_ _));exact BK515.out) hb)
   have n5_:=Aside0.mk (blk_below (g:=gb522) (o:=.cells #[.string (⟨#[]⟩:ByteArray),.string (⟨#[]⟩:ByteArray),.int .i64 0,.slice none 0 0,.slice none 0 0] 33 (0,0)) (by (with_reducible repeat (first|refine blk_drewN ?_ _|refine blk_drew ?_|refine blk_alloc ?_ _));exact BK522.out) hb)
   have n6_:=Aside0.mk (below_step (by repeat (first|(with_reducible first|exact HB.out|apply below_alloc|apply pw_below_drewN|apply below_drew1|refine below_set ?_ GE513.out|refine below_set ?_ GE514.out|refine below_set ?_ GE515.out|refine below_set ?_ GE522.out)|exact HB.out)) hb)
   clear HO518 BK513 BK514 BK515 BK522 HB
   have HO518:=n0_
   have HO521:=n1_
   have BK513:=n2_
   have BK514:=n3_
   have BK515:=n4_
   have BK522:=n5_
   have HB:=n6_
   clear n0_ n1_ n2_ n3_ n4_ n5_ n6_
   (try clear hb)
   (try clear hb2)
   (try clear hk)
   (try clear hi)
   (try clear ho0)
   obtain ⟨Ao16,co16,eo16⟩:=Kd.R_slice HO521.out
   (first|subst eo16|(injection eo16 with f1_ f2_ f3_;have f4_:=f1_.symm;have f5_:=f3_.symm;clear f1_ f2_ f3_;subst f4_;subst f5_))
   refine hK.out _ _ ⟨(blk_cell BK513.out 0).trans rfl,(blk_cell BK513.out 1).trans rfl,(blk_cell BK513.out 2).trans rfl,(blk_cell BK513.out 3).trans rfl,(blk_cell BK513.out 4).trans rfl⟩ (fun hHeld=>?_)
   clear hK K
   refine norm_ (a' := ?_) ?_ ?_
   rotate_left
   ·show Act.put _ (some 21) _=_
    simp only [Act.put,zqA,zqB,zqC,i64_w,i32_w]
    rfl
   refine pure_ (i:=7) (N:=some 22) (v:=?_) (a' := ?_) #[true,true,true,true,true,true,true,true,true,false] rfl rfl (any_of HT_.out (by kernel_rfl)) (fun _ _ _ h=>h) (Or.inl ⟨by rfl,?_⟩) ?_ ?_
   rotate_left
   ·intro w';go_simp;with_reducible rfl
   rotate_left
   ·simp only [Act.put,zqA,zqB,zqC,i64_w,i32_w];rfl
   exact norm_ (by simp only [putAll,Act.put,zqA,zqB,zqC]) (hCont (.slice Ao14 y516.length co14,.slice Ao16 t519.length co16,gb522) _ ⟨hHeld,(by (with_reducible repeat (first|apply Kd.R_alloc|apply Kd.R_drewN|apply Kd.R_drew));exact Kd.R_mono HO518.out (fun _ hk=>hk.2)),(by (with_reducible repeat (first|apply Kd.R_alloc|apply Kd.R_drewN|apply Kd.R_drew));exact Kd.R_mono HO521.out (fun _ hk=>hk.2)),(by (with_reducible repeat (first|refine blk_drewN ?_ _|refine blk_drew ?_|refine blk_alloc ?_ _));exact BK513.out),(by (with_reducible repeat (first|refine blk_drewN ?_ _|refine blk_drew ?_|refine blk_alloc ?_ _));exact BK514.out),(by (with_reducible repeat (first|refine blk_drewN ?_ _|refine blk_drew ?_|refine blk_alloc ?_ _));exact BK515.out),(by (with_reducible repeat (first|refine blk_drewN ?_ _|refine blk_drew ?_|refine blk_alloc ?_ _));exact BK522.out),GW522.out,GE522.out,NB513_522.out,NB522_513.out,NB514_522.out,NB522_514.out,NB515_522.out,NB522_515.out,(by repeat (first|(with_reducible first|exact HB.out|apply below_alloc|apply pw_below_drewN|apply below_drew1|refine below_set ?_ GE513.out|refine below_set ?_ GE514.out|refine below_set ?_ GE515.out|refine below_set ?_ GE522.out)|exact HB.out))⟩)
 rintro ⟨v517,v520,gb522⟩ w17 ⟨hS_,h0_,h1_,h2_,h3_,h4_,h5_,h6_,h7_,h8_,h9_,h10_,h11_,h12_,h13_,h14_⟩
 have n0_:Aside0 (Kd.R (Kd.int .u8) 5 w17 w.heap.size (fun k_=>some k_ ≠ (v520:Value).ownBlock) v517 y516):=⟨h0_⟩
 have n1_:Aside0 (Kd.R (Kd.int .u8) 5 w17 w.heap.size (fun k_=>some k_ ≠ (v517:Value).ownBlock) v520 t519):=⟨h1_⟩
 have n2_:Aside0 (w17.heap[gb513]? = some (.cells #[.string a0_0,.string a0_1,.int .i64 a0_2,.slice A0_3 l0_3.length c0_3,.slice A0_4 l0_4.length c0_4] 33 (0,0))):=⟨h2_⟩
 have n3_:Aside0 (w17.heap[gb514]? = some (.cells #[.slice A1_0 l1_0.length c1_0,.slice A1_1 l1_1.length c1_1,.slice A1_2 l1_2.length c1_2,.slice A1_3 l1_3.length c1_3,.int .i64 a1_4,.int .i64 a1_5,.int .i64 a1_6,.int .i64 a1_7] 38 (0,0))):=⟨h3_⟩
 have n4_:Aside0 (w17.heap[gb515]? = some (.cells #[.string (⟨#[]⟩:ByteArray),.string (⟨#[]⟩:ByteArray),.int .i64 0,.slice none 0 0,.slice none 0 0] 33 (0,0))):=⟨h4_⟩
 have n5_:Aside0 (w17.heap[gb522]? = some (.cells #[.string (⟨#[]⟩:ByteArray),.string (⟨#[]⟩:ByteArray),.int .i64 0,.slice none 0 0,.slice none 0 0] 33 (0,0))):=⟨h5_⟩
 have n6_:Aside0 (w.heap.size ≤ gb522):=⟨h6_⟩
 have n7_:Aside0 (w.heap.size ≤ gb522):=⟨h7_⟩
 have n8_:Aside0 (gb513 ≠ gb522):=⟨h8_⟩
 have n9_:Aside0 (gb522 ≠ gb513):=⟨h9_⟩
 have n10_:Aside0 (gb514 ≠ gb522):=⟨h10_⟩
 have n11_:Aside0 (gb522 ≠ gb514):=⟨h11_⟩
 have n12_:Aside0 (gb515 ≠ gb522):=⟨h12_⟩
 have n13_:Aside0 (gb522 ≠ gb515):=⟨h13_⟩
 have n14_:Aside0 (Below w.heap.size w w17):=⟨h14_⟩
 clear BK513 BK514 BK515 HB h0_ h1_ h2_ h3_ h4_ h5_ h6_ h7_ h8_ h9_ h10_ h11_ h12_ h13_ h14_
 have HO518:=n0_
 have HO521:=n1_
 have BK513:=n2_
 have BK514:=n3_
 have BK515:=n4_
 have BK522:=n5_
 have GW522:=n6_
 have GE522:=n7_
 have NB513_522:=n8_
 have NB522_513:=n9_
 have NB514_522:=n10_
 have NB522_514:=n11_
 have NB515_522:=n12_
 have NB522_515:=n13_
 have HB:=n14_
 clear n0_ n1_ n2_ n3_ n4_ n5_ n6_ n7_ n8_ n9_ n10_ n11_ n12_ n13_ n14_
 have hHeld:w17.cell? ⟨gb513,0,none⟩=some (.string a0_0)∧w17.cell? ⟨gb513,1,none⟩=some (.string a0_1)∧w17.cell? ⟨gb513,2,none⟩=some (.int .i64 a0_2)∧w17.cell? ⟨gb513,3,none⟩=some (.slice A0_3 l0_3.length c0_3)∧w17.cell? ⟨gb513,4,none⟩=some (.slice A0_4 l0_4.length c0_4):=hS_
 obtain ⟨Ao18,co18,eo18⟩:=Kd.R_slice HO521.out
 (first|subst eo18|(injection eo18 with f1_ f2_ f3_;have f4_:=f1_.symm;have f5_:=f3_.symm;clear f1_ f2_ f3_;subst f4_;subst f5_))
 refine norm_ (a' := ?_) ?_ ?_
 rotate_left
 ·simp only [putAll,Act.put,zqA,zqB,zqC];rfl
 refine one_ (i:=9) (N:=none) #[true,true,true,true,true,true,true,true,true,true] rfl rfl (one_of HT_.out (by kernel_rfl)) (by decide) (fun K hK=>?_)
 have hs19:w17.cell? ⟨gb522,0,none⟩=some (.string (⟨#[]⟩:ByteArray)):=(blk_cell BK522.out 0).trans rfl
 have hfs19:=blk_frozen BK522.out 0
 have hns19_0:=NB513_522.out
 have hns19_1:=NB514_522.out
 have hns19_2:=NB515_522.out
 have hms19_0:=NB522_513.out
 have hms19_1:=NB522_514.out
 have hms19_2:=NB522_515.out
 have hs20:w17.cell? ⟨gb522,1,none⟩=some (.string (⟨#[]⟩:ByteArray)):=(blk_cell BK522.out 1).trans rfl
 have hfs20:=blk_frozen BK522.out 1
 have hns20_0:=NB513_522.out
 have hns20_1:=NB514_522.out
 have hns20_2:=NB515_522.out
 have hms20_0:=NB522_513.out
 have hms20_1:=NB522_514.out
 have hms20_2:=NB522_515.out
 have hs21:w17.cell? ⟨gb522,2,none⟩=some (.int .i64 0):=(blk_cell BK522.out 2).trans rfl
 have hfs21:=blk_frozen BK522.out 2
 have hns21_0:=NB513_522.out
 have hns21_1:=NB514_522.out
 have hns21_2:=NB515_522.out
 have hms21_0:=NB522_513.out
 have hms21_1:=NB522_514.out
 have hms21_2:=NB522_515.out
 have hs22:w17.cell? ⟨gb522,3,none⟩=some (.slice none 0 0):=(blk_cell BK522.out 3).trans rfl
 have hfs22:=blk_frozen BK522.out 3
 have hns22_0:=NB513_522.out
 have hns22_1:=NB514_522.out
 have hns22_2:=NB515_522.out
 have hms22_0:=NB522_513.out
 have hms22_1:=NB522_514.out
 have hms22_2:=NB522_515.out
 have hs23:w17.cell? ⟨gb522,4,none⟩=some (.slice none 0 0):=(blk_cell BK522.out 4).trans rfl
 have hfs23:=blk_frozen BK522.out 4
 have hns23_0:=NB513_522.out
 have hns23_1:=NB514_522.out
 have hns23_2:=NB515_522.out
 have hms23_0:=NB522_513.out
 have hms23_1:=NB522_514.out
 have hms23_2:=NB522_515.out
 refine skip_ (w1:=?_) (by rfl) rfl ?_ ?_
 rotate_left
 ·go_simp
  rfl
 refine hK.out _ _ ⟨((cell_far (p:=⟨gb522,_,none⟩) NB513_522.out _).trans (((cell_far (p:=⟨gb522,_,none⟩) NB513_522.out _).trans (((cell_far (p:=⟨gb522,_,none⟩) NB513_522.out _).trans (((cell_far (p:=⟨gb522,_,none⟩) NB513_522.out _).trans (((cell_far (p:=⟨gb522,_,none⟩) NB513_522.out _).trans (hHeld.1)))))))))),((cell_far (p:=⟨gb522,_,none⟩) NB513_522.out _).trans (((cell_far (p:=⟨gb522,_,none⟩) NB513_522.out _).trans (((cell_far (p:=⟨gb522,_,none⟩) NB513_522.out _).trans (((cell_far (p:=⟨gb522,_,none⟩) NB513_522.out _).trans (((cell_far (p:=⟨gb522,_,none⟩) NB513_522.out _).trans (hHeld.2.1)))))))))),((cell_far (p:=⟨gb522,_,none⟩) NB513_522.out _).trans (((cell_far (p:=⟨gb522,_,none⟩) NB513_522.out _).trans (((cell_far (p:=⟨gb522,_,none⟩) NB513_522.out _).trans (((cell_far (p:=⟨gb522,_,none⟩) NB513_522.out _).trans (((cell_far (p:=⟨gb522,_,none⟩) NB513_522.out _).trans (hHeld.2.2.1)))))))))),((cell_far (p:=⟨gb522,_,none⟩) NB513_522.out _).trans (((cell_far (p:=⟨gb522,_,none⟩) NB513_522.out _).trans (((cell_far (p:=⟨gb522,_,none⟩) NB513_522.out _).trans (((cell_far (p:=⟨gb522,_,none⟩) NB513_522.out _).trans (((cell_far (p:=⟨gb522,_,none⟩) NB513_522.out _).trans (hHeld.2.2.2.1)))))))))),((cell_far (p:=⟨gb522,_,none⟩) NB513_522.out _).trans (((cell_far (p:=⟨gb522,_,none⟩) NB513_522.out _).trans (((cell_far (p:=⟨gb522,_,none⟩) NB513_522.out _).trans (((cell_far (p:=⟨gb522,_,none⟩) NB513_522.out _).trans (((cell_far (p:=⟨gb522,_,none⟩) NB513_522.out _).trans (hHeld.2.2.2.2))))))))))⟩ (fun hHeld=>?_)
 clear hK K
 refine done_ (done_of HT_.out (by kernel_rfl)) ?_
 try go_wp2_with (first|((with_reducible refine gate_dst (N:=25) rfl ?_);refine Kd.R_lit k41 _ 41 ?hg (N:=25) ?hd (xs:=([(⟨(⟨#[72,111,115,116]⟩:ByteArray),a2⟩:S41)]:List (S41))) (inner:=[.string (⟨#[72,111,115,116]⟩:ByteArray),.string a2]) (ok:=fun _=>True) (okp:=fun _=>True) ?hr ?hp (fun _ hk=>hk) trivial (Below.refl _ _) (Nat.le_refl _) (by simp) ?_;(case hd=>rfl);(case hg=>rfl);(case hr=>first|(go_simp;done)|(go_simp;rfl));(case hp=>exact (Reps.c2 (show Kd.M k41 _ _ _ (⟨(⟨#[72,111,115,116]⟩:ByteArray),a2⟩:S41) [.string (⟨#[72,111,115,116]⟩:ByteArray),.string a2] from (k41_mkM _ _ _ (⟨(⟨#[72,111,115,116]⟩:ByteArray),a2⟩:S41) )) (Reps.none _ _)));intro v524 w24 ho25 hb hg_ hnew_;clear hg_ hnew_;(first|rw [← Ny523.out] at ho25|(simp only [Int.reduceToNat] at ho25;rw [← Ny523.out] at ho25));have n0_:=Aside0.mk (Kd.R_below (by (with_reducible repeat (first|apply Kd.R_alloc|apply Kd.R_drewN|apply Kd.R_drew));exact (Kd.R_mono (Kd.R_far (p:=⟨gb522,4,none⟩) (Kd.R_far (p:=⟨gb522,3,none⟩) (Kd.R_far (p:=⟨gb522,2,none⟩) (Kd.R_far (p:=⟨gb522,1,none⟩) (Kd.R_far (p:=⟨gb522,0,none⟩) (Kd.R_types HO518.out BK522.out (by decide)) (fun _ hk=>hk.2) (.string a0_0)) (fun _ hk=>hk.2) (.string a3)) (fun _ hk=>hk.2) (.int .i64 1)) (fun _ hk=>hk.2) (.slice none 0 0)) (fun _ hk=>hk.2) (.slice Ao18 t519.length co18)) (fun _ h_=>h_.1))) hb);have n1_:=Aside0.mk (Kd.R_below (by (with_reducible repeat (first|apply Kd.R_alloc|apply Kd.R_drewN|apply Kd.R_drew));exact (Kd.R_mono (Kd.R_far (p:=⟨gb522,4,none⟩) (Kd.R_far (p:=⟨gb522,3,none⟩) (Kd.R_far (p:=⟨gb522,2,none⟩) (Kd.R_far (p:=⟨gb522,1,none⟩) (Kd.R_far (p:=⟨gb522,0,none⟩) (Kd.R_types HO521.out BK522.out (by decide)) (fun _ hk=>hk.2) (.string a0_0)) (fun _ hk=>hk.2) (.string a3)) (fun _ hk=>hk.2) (.int .i64 1)) (fun _ hk=>hk.2) (.slice none 0 0)) (fun _ hk=>hk.2) (.slice Ao18 t519.length co18)) (fun _ h_=>h_.1))) hb);have n2_:=Aside0.mk (Kd.R_lower ho25 (below_size (by repeat (first|(with_reducible first|exact HB.out|apply below_alloc|apply pw_below_drewN|apply below_drew1|refine below_set ?_ GE513.out|refine below_set ?_ GE514.out|refine below_set ?_ GE515.out|refine below_set ?_ GE522.out)|exact HB.out))));have n3_:=Aside0.mk (blk_below (g:=gb513) (o:=.cells #[.string a0_0,.string a0_1,.int .i64 a0_2,.slice A0_3 l0_3.length c0_3,.slice A0_4 l0_4.length c0_4] 33 (0,0)) (by (with_reducible repeat (first|refine blk_drewN ?_ _|refine blk_drew ?_|refine blk_alloc ?_ _));refine blk_far ?_ NB513_522.out _;(with_reducible repeat (first|refine blk_drewN ?_ _|refine blk_drew ?_|refine blk_alloc ?_ _));refine blk_far ?_ NB513_522.out _;(with_reducible repeat (first|refine blk_drewN ?_ _|refine blk_drew ?_|refine blk_alloc ?_ _));refine blk_far ?_ NB513_522.out _;(with_reducible repeat (first|refine blk_drewN ?_ _|refine blk_drew ?_|refine blk_alloc ?_ _));refine blk_far ?_ NB513_522.out _;(with_reducible repeat (first|refine blk_drewN ?_ _|refine blk_drew ?_|refine blk_alloc ?_ _));refine blk_far ?_ NB513_522.out _;(with_reducible repeat (first|refine blk_drewN ?_ _|refine blk_drew ?_|refine blk_alloc ?_ _));exact BK513.out) hb);have n4_:=Aside0.mk (blk_below (g:=gb514) (o:=.cells #[.slice A1_0 l1_0.length c1_0,.slice A1_1 l1_1.length c1_1,.slice A1_2 l1_2.length c1_2,.slice A1_3 l1_3.length c1_3,.int .i64 a1_4,.int .i64 a1_5,.int .i64 a1_6,.int .i64 a1_7] 38 (0,0)) (by (with_reducible repeat (first|refine blk_drewN ?_ _|refine blk_drew ?_|refine blk_alloc ?_ _));refine blk_far ?_ NB514_522.out _;(with_reducible repeat (first|refine blk_drewN ?_ _|refine blk_drew ?_|refine blk_alloc ?_ _));refine blk_far ?_ NB514_522.out _;(with_reducible repeat (first|refine blk_drewN ?_ _|refine blk_drew ?_|refine blk_alloc ?_ _));refine blk_far ?_ NB514_522.out _;(with_reducible repeat (first|refine blk_drewN ?_ _|refine blk_drew ?_|refine blk_alloc ?_ _));refine blk_far ?_ NB514_522.out _;(with_reducible repeat (first|refine blk_drewN ?_ _|refine blk_drew ?_|refine blk_alloc ?_ _));refine blk_far ?_ NB514_522.out _;(with_reducible repeat (first|refine blk_drewN ?_ _|refine blk_drew ?_|refine blk_alloc ?_ _));exact BK514.out) hb);have n5_:=Aside0.mk (blk_below (g:=gb515) (o:=.cells #[.string (⟨#[]⟩:ByteArray),.string (⟨#[]⟩:ByteArray),.int .i64 0,.slice none 0 0,.slice none 0 0] 33 (0,0)) (by (with_reducible repeat (first|refine blk_drewN ?_ _|refine blk_drew ?_|refine blk_alloc ?_ _));refine blk_far ?_ NB515_522.out _;(with_reducible repeat (first|refine blk_drewN ?_ _|refine blk_drew ?_|refine blk_alloc ?_ _));refine blk_far ?_ NB515_522.out _;(with_reducible repeat (first|refine blk_drewN ?_ _|refine blk_drew ?_|refine blk_alloc ?_ _));refine blk_far ?_ NB515_522.out _;(with_reducible repeat (first|refine blk_drewN ?_ _|refine blk_drew ?_|refine blk_alloc ?_ _));refine blk_far ?_ NB515_522.out _;(with_reducible repeat (first|refine blk_drewN ?_ _|refine blk_drew ?_|refine blk_alloc ?_ _));refine blk_far ?_ NB515_522.out _;(with_reducible repeat (first|refine blk_drewN ?_ _|refine blk_drew ?_|refine blk_alloc ?_ _));exact BK515.out) hb);have n6_:=Aside0.mk (blk_below (g:=gb522) (o:=.cells #[.string a0_0,.string a3,.int .i64 1,.slice none 0 0,.slice Ao18 t519.length co18] 33 (0,0)) (by (with_reducible repeat (first|refine blk_drewN ?_ _|refine blk_drew ?_|refine blk_alloc ?_ _));refine blk_put (cs:=#[.string a0_0,.string a3,.int .i64 1,.slice none 0 0,.slice none 0 0]) ?_ 4 _ rfl;(with_reducible repeat (first|refine blk_drewN ?_ _|refine blk_drew ?_|refine blk_alloc ?_ _));refine blk_put (cs:=#[.string a0_0,.string a3,.int .i64 1,.slice none 0 0,.slice none 0 0]) ?_ 3 _ rfl;(with_reducible repeat (first|refine blk_drewN ?_ _|refine blk_drew ?_|refine blk_alloc ?_ _));refine blk_put (cs:=#[.string a0_0,.string a3,.int .i64 0,.slice none 0 0,.slice none 0 0]) ?_ 2 _ rfl;(with_reducible repeat (first|refine blk_drewN ?_ _|refine blk_drew ?_|refine blk_alloc ?_ _));refine blk_put (cs:=#[.string a0_0,.string (⟨#[]⟩:ByteArray),.int .i64 0,.slice none 0 0,.slice none 0 0]) ?_ 1 _ rfl;(with_reducible repeat (first|refine blk_drewN ?_ _|refine blk_drew ?_|refine blk_alloc ?_ _));refine blk_put (cs:=#[.string (⟨#[]⟩:ByteArray),.string (⟨#[]⟩:ByteArray),.int .i64 0,.slice none 0 0,.slice none 0 0]) ?_ 0 _ rfl;(with_reducible repeat (first|refine blk_drewN ?_ _|refine blk_drew ?_|refine blk_alloc ?_ _));exact BK522.out) hb);have n7_:=Aside0.mk (below_step (by repeat (first|(with_reducible first|exact HB.out|apply below_alloc|apply pw_below_drewN|apply below_drew1|refine below_set ?_ GE513.out|refine below_set ?_ GE514.out|refine below_set ?_ GE515.out|refine below_set ?_ GE522.out)|exact HB.out)) hb);clear HO518;clear HO521;clear BK513;clear BK514;clear BK515;clear BK522;clear HB;have HO518:=n0_;have HO521:=n1_;have HO525:=n2_;have BK513:=n3_;have BK514:=n4_;have BK515:=n5_;have BK522:=n6_;have HB:=n7_;clear n0_ n1_ n2_ n3_ n4_ n5_ n6_ n7_;clear hb ho25;obtain ⟨Ao26,co26,eo26⟩:=Kd.R_slice HO525.out;subst eo26;have hnb27:=NB522_513.out;have hnc27:=NB513_522.out;have hnb28:=NB522_514.out;have hnc28:=NB514_522.out;have hnb29:=NB522_515.out;have hnc29:=NB515_522.out;have hcz30_0:w24.cell? ⟨gb522,0,none⟩=some (.string a0_0):=(blk_cell BK522.out 0).trans rfl;have hcz30_1:w24.cell? ⟨gb522,1,none⟩=some (.string a3):=(blk_cell BK522.out 1).trans rfl;have hcz30_2:w24.cell? ⟨gb522,2,none⟩=some (.int .i64 1):=(blk_cell BK522.out 2).trans rfl;have hcz30_3:w24.cell? ⟨gb522,3,none⟩=some (.slice none 0 0):=(blk_cell BK522.out 3).trans rfl;have hcz30_4:w24.cell? ⟨gb522,4,none⟩=some (.slice Ao18 t519.length co18):=(blk_cell BK522.out 4).trans rfl;have hfz30_0:=blk_frozen BK522.out 0;have hfz30_1:=blk_frozen BK522.out 1;have hfz30_2:=blk_frozen BK522.out 2;have hfz30_3:=blk_frozen BK522.out 3;have hfz30_4:=blk_frozen BK522.out 4;have hnb31:=NB513_514.out;have hnc31:=NB514_513.out;have hnb32:=NB513_515.out;have hnc32:=NB515_513.out;have hcz33_0:w24.cell? ⟨gb513,0,none⟩=some (.string a0_0):=(blk_cell BK513.out 0).trans rfl;have hcz33_1:w24.cell? ⟨gb513,1,none⟩=some (.string a0_1):=(blk_cell BK513.out 1).trans rfl;have hcz33_2:w24.cell? ⟨gb513,2,none⟩=some (.int .i64 a0_2):=(blk_cell BK513.out 2).trans rfl;have hcz33_3:w24.cell? ⟨gb513,3,none⟩=some (.slice A0_3 l0_3.length c0_3):=(blk_cell BK513.out 3).trans rfl;have hcz33_4:w24.cell? ⟨gb513,4,none⟩=some (.slice A0_4 l0_4.length c0_4):=(blk_cell BK513.out 4).trans rfl;have hfz33_0:=blk_frozen BK513.out 0;have hfz33_1:=blk_frozen BK513.out 1;have hfz33_2:=blk_frozen BK513.out 2;have hfz33_3:=blk_frozen BK513.out 3;have hfz33_4:=blk_frozen BK513.out 4)|((with_reducible refine gate_callee (f:=41) rfl ?_);refine goesL_ (some 29) rfl rfl Tryd.func41 (by kernel_rfl) rfl #[.slice A0_3 l0_3.length c0_3] rfl (by (try simp only [List.map_toArray,List.map_cons,List.map_nil]);first|done|rfl|(simp only [List.length_drop,List.length_take];rfl)) ?_;(with_reducible refine (tollbarref12_onward.calls k _ _ l0_3 t526 _ ?side1 ?side2 A6.out).mono ?_);(case side1=>exact Kd.C_below HR0_3.out (by repeat (first|(with_reducible first|exact HB.out|apply below_alloc|apply pw_below_drewN|apply below_drew1|refine below_set ?_ GE513.out|refine below_set ?_ GE514.out|refine below_set ?_ GE515.out|refine below_set ?_ GE522.out)|exact HB.out)));(case side2=>exact HC0_3.out);rintro e w34 ⟨v527,rfl,ho0,hb⟩;(try clear A6);refine ⟨_,rfl,?_⟩;have n0_:=Aside0.mk (Kd.R_below (by (with_reducible repeat (first|apply Kd.R_alloc|apply Kd.R_drewN|apply Kd.R_drew));exact (Kd.R_mono (Kd.R_far (p:=⟨gb522,3,none⟩) (Kd.R_types HO518.out BK522.out (by decide)) (fun _ hk=>hk.2) (.slice Ao26 y523.length co26)) (fun _ h_=>h_.1))) hb);have n1_:=Aside0.mk (Kd.R_below (by (with_reducible repeat (first|apply Kd.R_alloc|apply Kd.R_drewN|apply Kd.R_drew));exact (Kd.R_mono (Kd.R_far (p:=⟨gb522,3,none⟩) (Kd.R_types HO521.out BK522.out (by decide)) (fun _ hk=>hk.2) (.slice Ao26 y523.length co26)) (fun _ h_=>h_.1))) hb);have n2_:=Aside0.mk (Kd.R_elder' (by (with_reducible repeat (first|apply Kd.R_alloc|apply Kd.R_drewN|apply Kd.R_drew));exact (Kd.R_mono (Kd.R_far (p:=⟨gb522,3,none⟩) (Kd.R_types HO525.out BK522.out (by decide)) (fun _ hk=>hk.2) (.slice Ao26 y523.length co26)) (fun _ h_=>h_.1))) (Kd.R_base ho0) hb);have n3_:=Aside0.mk (Kd.R_lower (Kd.R_new' ho0 (Kd.R_lt (by (with_reducible repeat (first|apply Kd.R_alloc|apply Kd.R_drewN|apply Kd.R_drew));exact (Kd.R_mono (Kd.R_far (p:=⟨gb522,3,none⟩) (Kd.R_types HO525.out BK522.out (by decide)) (fun _ hk=>hk.2) (.slice Ao26 y523.length co26)) (fun _ h_=>h_.1))))) (below_size (by repeat (first|(with_reducible first|exact HB.out|apply below_alloc|apply pw_below_drewN|apply below_drew1|refine below_set ?_ GE513.out|refine below_set ?_ GE514.out|refine below_set ?_ GE515.out|refine below_set ?_ GE522.out)|exact HB.out))));have n4_:=Aside0.mk (blk_below (g:=gb513) (o:=.cells #[.string a0_0,.string a0_1,.int .i64 a0_2,.slice A0_3 l0_3.length c0_3,.slice A0_4 l0_4.length c0_4] 33 (0,0)) (by (with_reducible repeat (first|refine blk_drewN ?_ _|refine blk_drew ?_|refine blk_alloc ?_ _));refine blk_far ?_ NB513_522.out _;(with_reducible repeat (first|refine blk_drewN ?_ _|refine blk_drew ?_|refine blk_alloc ?_ _));exact BK513.out) hb);have n5_:=Aside0.mk (blk_below (g:=gb514) (o:=.cells #[.slice A1_0 l1_0.length c1_0,.slice A1_1 l1_1.length c1_1,.slice A1_2 l1_2.length c1_2,.slice A1_3 l1_3.length c1_3,.int .i64 a1_4,.int .i64 a1_5,.int .i64 a1_6,.int .i64 a1_7] 38 (0,0)) (by (with_reducible repeat (first|refine blk_drewN ?_ _|refine blk_drew ?_|refine blk_alloc ?_ _));refine blk_far ?_ NB514_522.out _;(with_reducible repeat (first|refine blk_drewN ?_ _|refine blk_drew ?_|refine blk_alloc ?_ _));exact BK514.out) hb);have n6_:=Aside0.mk (blk_below (g:=gb515) (o:=.cells #[.string (⟨#[]⟩:ByteArray),.string (⟨#[]⟩:ByteArray),.int .i64 0,.slice none 0 0,.slice none 0 0] 33 (0,0)) (by (with_reducible repeat (first|refine blk_drewN ?_ _|refine blk_drew ?_|refine blk_alloc ?_ _));refine blk_far ?_ NB515_522.out _;(with_reducible repeat (first|refine blk_drewN ?_ _|refine blk_drew ?_|refine blk_alloc ?_ _));exact BK515.out) hb);have n7_:=Aside0.mk (blk_below (g:=gb522) (o:=.cells #[.string a0_0,.string a3,.int .i64 1,.slice Ao26 y523.length co26,.slice Ao18 t519.length co18] 33 (0,0)) (by (with_reducible repeat (first|refine blk_drewN ?_ _|refine blk_drew ?_|refine blk_alloc ?_ _));refine blk_put (cs:=#[.string a0_0,.string a3,.int .i64 1,.slice none 0 0,.slice Ao18 t519.length co18]) ?_ 3 _ rfl;(with_reducible repeat (first|refine blk_drewN ?_ _|refine blk_drew ?_|refine blk_alloc ?_ _));exact BK522.out) hb);have n8_:=Aside0.mk (below_step (by repeat (first|(with_reducible first|exact HB.out|apply below_alloc|apply pw_below_drewN|apply below_drew1|refine below_set ?_ GE513.out|refine below_set ?_ GE514.out|refine below_set ?_ GE515.out|refine below_set ?_ GE522.out)|exact HB.out)) hb);clear HO518;clear HO521;clear HO525;clear BK513;clear BK514;clear BK515;clear BK522;clear HB;have HO518:=n0_;have HO521:=n1_;have HO525:=n2_;have HO528:=n3_;have BK513:=n4_;have BK514:=n5_;have BK515:=n6_;have BK522:=n7_;have HB:=n8_;clear n0_ n1_ n2_ n3_ n4_ n5_ n6_ n7_ n8_;(try clear hb);(try clear hb2);(try clear hk);(try clear hi);(try clear ho0))|((with_reducible refine gate_dst (N:=30) rfl ?_);refine Kd.R_lit Kd.string _ 9 ?hg (N:=30) ?hd (xs:=([]:List ByteArray)) (inner:=[]) (ok:=fun _=>True) (okp:=fun _=>True) ?hr ?hp (fun _ hk=>hk) trivial (Below.refl _ _) (Nat.le_refl _) (by simp) ?_;(case hd=>rfl);(case hg=>rfl);(case hr=>first|(go_simp;done)|(go_simp;rfl));(case hp=>exact (Reps.none _ _));intro v530 w35 ho36 hb hg_ hnew_;clear hg_ hnew_;(first|rw [← Ny529.out] at ho36|(simp only [Int.reduceToNat] at ho36;rw [← Ny529.out] at ho36));have n0_:=Aside0.mk (Kd.R_below (by (with_reducible repeat (first|apply Kd.R_alloc|apply Kd.R_drewN|apply Kd.R_drew));exact HO518.out) hb);have n1_:=Aside0.mk (Kd.R_below (by (with_reducible repeat (first|apply Kd.R_alloc|apply Kd.R_drewN|apply Kd.R_drew));exact HO521.out) hb);have n2_:=Aside0.mk (Kd.R_below (by (with_reducible repeat (first|apply Kd.R_alloc|apply Kd.R_drewN|apply Kd.R_drew));exact HO525.out) hb);have n3_:=Aside0.mk (Kd.R_below (by (with_reducible repeat (first|apply Kd.R_alloc|apply Kd.R_drewN|apply Kd.R_drew));exact HO528.out) hb);have n4_:=Aside0.mk (Kd.R_lower ho36 (below_size (by repeat (first|(with_reducible first|exact HB.out|apply below_alloc|apply pw_below_drewN|apply below_drew1|refine below_set ?_ GE513.out|refine below_set ?_ GE514.out|refine below_set ?_ GE515.out|refine below_set ?_ GE522.out)|exact HB.out))));have n5_:=Aside0.mk (blk_below (g:=gb513) (o:=.cells #[.string a0_0,.string a0_1,.int .i64 a0_2,.slice A0_3 l0_3.length c0_3,.slice A0_4 l0_4.length c0_4] 33 (0,0)) (by (with_reducible repeat (first|refine blk_drewN ?_ _|refine blk_drew ?_|refine blk_alloc ?_ _));exact BK513.out) hb);have n6_:=Aside0.mk (blk_below (g:=gb514) (o:=.cells #[.slice A1_0 l1_0.length c1_0,.slice A1_1 l1_1.length c1_1,.slice A1_2 l1_2.length c1_2,.slice A1_3 l1_3.length c1_3,.int .i64 a1_4,.int .i64 a1_5,.int .i64 a1_6,.int .i64 a1_7] 38 (0,0)) (by (with_reducible repeat (first|refine blk_drewN ?_ _|refine blk_drew ?_|refine blk_alloc ?_ _));exact BK514.out) hb);have n7_:=Aside0.mk (blk_below (g:=gb515) (o:=.cells #[.string (⟨#[]⟩:ByteArray),.string (⟨#[]⟩:ByteArray),.int .i64 0,.slice none 0 0,.slice none 0 0] 33 (0,0)) (by (with_reducible repeat (first|refine blk_drewN ?_ _|refine blk_drew ?_|refine blk_alloc ?_ _));exact BK515.out) hb);have n8_:=Aside0.mk (blk_below (g:=gb522) (o:=.cells #[.string a0_0,.string a3,.int .i64 1,.slice Ao26 y523.length co26,.slice Ao18 t519.length co18] 33 (0,0)) (by (with_reducible repeat (first|refine blk_drewN ?_ _|refine blk_drew ?_|refine blk_alloc ?_ _));exact BK522.out) hb);have n9_:=Aside0.mk (below_step (by repeat (first|(with_reducible first|exact HB.out|apply below_alloc|apply pw_below_drewN|apply below_drew1|refine below_set ?_ GE513.out|refine below_set ?_ GE514.out|refine below_set ?_ GE515.out|refine below_set ?_ GE522.out)|exact HB.out)) hb);clear HO518;clear HO521;clear HO525;clear HO528;clear BK513;clear BK514;clear BK515;clear BK522;clear HB;have HO518:=n0_;have HO521:=n1_;have HO525:=n2_;have HO528:=n3_;have HO531:=n4_;have BK513:=n5_;have BK514:=n6_;have BK515:=n7_;have BK522:=n8_;have HB:=n9_;clear n0_ n1_ n2_ n3_ n4_ n5_ n6_ n7_ n8_ n9_;clear hb ho36))
 go_loopg [11,12] k (fun kq v11 v12 w' => ∃ (x11_1:List ByteArray) (x12_1:Int),v12 = .int .i64 x12_1∧Aside0 (tollbarref12_Request.l0 kq t526 x11_1 x12_1 a0_0 a0_1 a0_2 l0_3 l0_4 l1_0 l1_1 l1_2 l1_3 a1_4 a1_5 a1_6 a1_7 a0_0 a3 1 y523 t519=some (r1,r2,r3,r4,r5))∧Aside0 (kq ≤ k)∧Aside0 (Kd.R k41 41 w' w.heap.size (fun k_=>some k_ ≠ ((.slice Ao26 y523.length co26):Value).ownBlock) v527 t526)∧Aside0 (Kd.R Kd.string 9 w' w.heap.size (fun _=>True) v11 x11_1)∧Aside0 (Kd.R k41 41 w' w.heap.size (fun k_=>some k_ ≠ (v527:Value).ownBlock) (.slice Ao26 y523.length co26) y523)∧Aside0 (Kd.R (Kd.int .u8) 5 w' w.heap.size (fun _=>True) (.slice Ao18 t519.length co18) t519)∧Aside0 (w'.heap[gb513]? = some (.cells #[.string a0_0,.string a0_1,.int .i64 a0_2,(.slice A0_3 l0_3.length c0_3),(.slice A0_4 l0_4.length c0_4)] 33 (0,0)))∧Aside0 (w'.heap[gb514]? = some (.cells #[(.slice A1_0 l1_0.length c1_0),(.slice A1_1 l1_1.length c1_1),(.slice A1_2 l1_2.length c1_2),(.slice A1_3 l1_3.length c1_3),.int .i64 a1_4,.int .i64 a1_5,.int .i64 a1_6,.int .i64 a1_7] 38 (0,0)))∧Aside0 (w'.heap[gb515]? = some (.cells #[.string (⟨#[]⟩:ByteArray),.string (⟨#[]⟩:ByteArray),.int .i64 0,(.slice none 0 0),(.slice none 0 0)] 33 (0,0)))∧Aside0 (w'.heap[gb522]? = some (.cells #[.string a0_0,.string a3,.int .i64 1,(.slice Ao26 y523.length co26),(.slice Ao18 t519.length co18)] 33 (0,0)))∧Aside0 (Below w.heap.size w w'))
 case atStart=>exact ⟨(y529),(0),(by first|rfl|(simp;done)|(simp [*];done)),H',⟨Nat.le_refl _⟩,⟨by (with_reducible repeat (first|apply Kd.R_alloc|apply Kd.R_drewN|apply Kd.R_drew));exact Kd.R_mono HO528.out (fun _ hk=>hk.2)⟩,⟨by (with_reducible repeat (first|apply Kd.R_alloc|apply Kd.R_drewN|apply Kd.R_drew));exact HO531.out⟩,⟨by (with_reducible repeat (first|apply Kd.R_alloc|apply Kd.R_drewN|apply Kd.R_drew));exact Kd.R_mono HO525.out (fun _ hk=>hk.2)⟩,⟨by (with_reducible repeat (first|apply Kd.R_alloc|apply Kd.R_drewN|apply Kd.R_drew));exact Kd.R_mono HO521.out (fun _ hk=>trivial)⟩,⟨by (with_reducible repeat (first|refine blk_drewN ?_ _|refine blk_drew ?_|refine blk_alloc ?_ _));exact BK513.out⟩,⟨by (with_reducible repeat (first|refine blk_drewN ?_ _|refine blk_drew ?_|refine blk_alloc ?_ _));exact BK514.out⟩,⟨by (with_reducible repeat (first|refine blk_drewN ?_ _|refine blk_drew ?_|refine blk_alloc ?_ _));exact BK515.out⟩,⟨by (with_reducible repeat (first|refine blk_drewN ?_ _|refine blk_drew ?_|refine blk_alloc ?_ _));exact BK522.out⟩,⟨by repeat (first|(with_reducible first|exact HB.out|apply below_alloc|apply pw_below_drewN|apply below_drew1|refine below_set ?_ GE513.out|refine below_set ?_ GE514.out|refine below_set ?_ GE515.out|refine below_set ?_ GE522.out)|exact HB.out)⟩⟩
 case round =>
  clear H'
  try clear c1
  try clear c2
  try clear p2
  try clear c3
  try clear c4
  try clear c16
  try clear c27
  try clear c28
  try clear c29
  try clear c31
  try clear c32
  try clear hcz30_0
  try clear hcz30_1
  try clear hcz30_2
  try clear hcz30_3
  try clear hcz30_4
  try clear hcz33_0
  try clear hcz33_1
  try clear hcz33_2
  try clear hcz33_3
  try clear hcz33_4
  try clear hfz30_0
  try clear hfz30_1
  try clear hfz30_2
  try clear hfz30_3
  try clear hfz30_4
  try clear hfz33_0
  try clear hfz33_1
  try clear hfz33_2
  try clear hfz33_3
  try clear hfz33_4
  obtain ⟨x11_1,x12_1,rfl,HA,HK1,HO_10,HO_11,HO_523003,HO_523004,BK513,BK514,BK515,BK522,HB⟩:=hrel
  cases gk with
  | zero=>exact absurd HA.out (by simp [tollbarref12_Request.l0])
  | succ k1 =>
   have H:=HA.out
   clear HA
   simp only [tollbarref12_Request.l0] at H
   by_cases c37:x12_1 < (l1_2.length:Int)
   ·rw [if_pos c37] at H
    have c37b0:decide (x12_1 < (l1_2.length:Int))=true:=decide_eq_true c37
    clear c37
    by_cases c38:0 ≤ x12_1
    ·rw [if_pos c38] at H
     have c38b0:decide (0 ≤ x12_1)=true:=decide_eq_true c38
     clear c38
     by_cases c39:x11_1.length < 8796093022208
     ·rw [if_pos c39] at H
      have LMc39:=Aside0.mk c39
      clear c39
      obtain ⟨y533,hy533⟩ : ∃ y_:List ByteArray,y_=(x11_1 ++ [(rd_T41 l1_2 x12_1).f0]):=⟨_,rfl⟩
      replace H:(tollbarref12_Request.l0 k1 t526 y533 (wrap64 (x12_1 + 1)) a0_0 a0_1 a0_2 l0_3 l0_4 l1_0 l1_1 l1_2 l1_3 a1_4 a1_5 a1_6 a1_7 a0_0 a3 1 y523 t519)=some (r1,r2,r3,r4,r5):=by first|(rw [hy533];with_reducible exact H)|(have H2_:=(Option.bind_some _ _).symm.trans H;rw [hy533];with_reducible exact H2_)|(have H2_:=(Option.bind_some _ _).symm.trans H;with_reducible exact H2_)|with_reducible exact H|(rw [hy533];exact H)|exact H
      have Ny533:=Aside0.mk hy533
      clear hy533
      have H' := Aside0.mk H
      clear H
      have hnb40:=NB514_513.out
      have hnc40:=NB513_514.out
      have hnb41:=NB514_515.out
      have hnc41:=NB515_514.out
      have hnb42:=NB514_522.out
      have hnc42:=NB522_514.out
      have hcz43_0:wr.cell? ⟨gb514,0,none⟩=some (.slice A1_0 l1_0.length c1_0):=(blk_cell BK514.out 0).trans rfl
      have hcz43_1:wr.cell? ⟨gb514,1,none⟩=some (.slice A1_1 l1_1.length c1_1):=(blk_cell BK514.out 1).trans rfl
      have hcz43_2:wr.cell? ⟨gb514,2,none⟩=some (.slice A1_2 l1_2.length c1_2):=(blk_cell BK514.out 2).trans rfl
      have hcz43_3:wr.cell? ⟨gb514,3,none⟩=some (.slice A1_3 l1_3.length c1_3):=(blk_cell BK514.out 3).trans rfl
      have hcz43_4:wr.cell? ⟨gb514,4,none⟩=some (.int .i64 a1_4):=(blk_cell BK514.out 4).trans rfl
      have hcz43_5:wr.cell? ⟨gb514,5,none⟩=some (.int .i64 a1_5):=(blk_cell BK514.out 5).trans rfl
      have hcz43_6:wr.cell? ⟨gb514,6,none⟩=some (.int .i64 a1_6):=(blk_cell BK514.out 6).trans rfl
      have hcz43_7:wr.cell? ⟨gb514,7,none⟩=some (.int .i64 a1_7):=(blk_cell BK514.out 7).trans rfl
      have hfz43_0:=blk_frozen BK514.out 0
      have hfz43_1:=blk_frozen BK514.out 1
      have hfz43_2:=blk_frozen BK514.out 2
      have hfz43_3:=blk_frozen BK514.out 3
      have hfz43_4:=blk_frozen BK514.out 4
      have hfz43_5:=blk_frozen BK514.out 5
      have hfz43_6:=blk_frozen BK514.out 6
      have hfz43_7:=blk_frozen BK514.out 7
      have p532:0 ≤ (x12_1:Int):=of_decide_eq_true (by first|(with_reducible assumption)|assumption)
      have q532:x12_1 < (l1_2.length:Int):=of_decide_eq_true (by first|(with_reducible assumption)|assumption)
      obtain ⟨ad532,e532,hx532_0,hx532_1⟩:=at_T41 HR1_2.out x12_1 p532 q532
      cases e532
      replace hx532_0:=(HB.out.cell (World.block_lt_of_cell? w _ hx532_0)).trans hx532_0
      replace hx532_1:=(HB.out.cell (World.block_lt_of_cell? w _ hx532_1)).trans hx532_1
      replace p532:=eq_true p532
      replace q532:=eq_true q532
      go_wp2_with (first|((with_reducible refine gate_builtin (b:=.append) (xs:=#[.tmp 38,.tmp 45]) rfl ?_);at_builtin;refine Kd.R_append Kd.string (w0:=w) w.heap.size rfl (.tmp 38) (.tmp 45) 36 9 (.string ⟨#[]⟩) 16 rfl Tryd.underlying36 info9 rfl (by decide) (by omega) u11 x11_1 ((rd_T41 l1_2 x12_1).f0) [.string ((rd_T41 l1_2 x12_1).f0)] (fun _=>True) (fun _=>False) rfl rfl ?aP (fun _ hk=>hk.elim) ?aF ?aO ?aB ?aS ?aL ?_;(case aP=>exact rfl);(case aB=>exact (by repeat (first|(with_reducible first|exact HB.out|apply below_alloc|apply pw_below_drewN|apply below_drew1|refine below_set ?_ GE513.out|refine below_set ?_ GE514.out|refine below_set ?_ GE515.out|refine below_set ?_ GE522.out)|exact HB.out)));(case aF=>exact (fun _ _=>trivial));(case aO=>exact (by (with_reducible repeat (first|apply Kd.R_alloc|apply Kd.R_drewN|apply Kd.R_drew));exact HO_11.out));(case aS=>exact (below_size (by repeat (first|(with_reducible first|exact HB.out|apply below_alloc|apply pw_below_drewN|apply below_drew1|refine below_set ?_ GE513.out|refine below_set ?_ GE514.out|refine below_set ?_ GE515.out|refine below_set ?_ GE522.out)|exact HB.out))));(case aL=>have:=LMc39.out;omega);intro v534 w44 ho hb hg hat;rw [← Ny533.out] at ho;have n0_:=Aside0.mk (Kd.R_over' (by (with_reducible repeat (first|apply Kd.R_alloc|apply Kd.R_drewN|apply Kd.R_drew));exact HO_10.out) (Kd.R_typed (by (with_reducible repeat (first|apply Kd.R_alloc|apply Kd.R_drewN|apply Kd.R_drew));exact HO_11.out)) (by decide) hg);have n1_:=Aside0.mk (Kd.R_over' (by (with_reducible repeat (first|apply Kd.R_alloc|apply Kd.R_drewN|apply Kd.R_drew));exact HO_523003.out) (Kd.R_typed (by (with_reducible repeat (first|apply Kd.R_alloc|apply Kd.R_drewN|apply Kd.R_drew));exact HO_11.out)) (by decide) hg);have n2_:=Aside0.mk (Kd.R_over' (by (with_reducible repeat (first|apply Kd.R_alloc|apply Kd.R_drewN|apply Kd.R_drew));exact HO_523004.out) (Kd.R_typed (by (with_reducible repeat (first|apply Kd.R_alloc|apply Kd.R_drewN|apply Kd.R_drew));exact HO_11.out)) (by decide) hg);have n3_:=Aside0.mk (blk_grown (g:=gb513) (o:=.cells #[.string a0_0,.string a0_1,.int .i64 a0_2,.slice A0_3 l0_3.length c0_3,.slice A0_4 l0_4.length c0_4] 33 (0,0)) (by (with_reducible repeat (first|refine blk_drewN ?_ _|refine blk_drew ?_|refine blk_alloc ?_ _));exact BK513.out) hg (Kd.R_ne HO_11.out BK513.out (by decide)));have n4_:=Aside0.mk (blk_grown (g:=gb514) (o:=.cells #[.slice A1_0 l1_0.length c1_0,.slice A1_1 l1_1.length c1_1,.slice (some ad532) l1_2.length c1_2,.slice A1_3 l1_3.length c1_3,.int .i64 a1_4,.int .i64 a1_5,.int .i64 a1_6,.int .i64 a1_7] 38 (0,0)) (by (with_reducible repeat (first|refine blk_drewN ?_ _|refine blk_drew ?_|refine blk_alloc ?_ _));exact BK514.out) hg (Kd.R_ne HO_11.out BK514.out (by decide)));have n5_:=Aside0.mk (blk_grown (g:=gb515) (o:=.cells #[.string (⟨#[]⟩:ByteArray),.string (⟨#[]⟩:ByteArray),.int .i64 0,.slice none 0 0,.slice none 0 0] 33 (0,0)) (by (with_reducible repeat (first|refine blk_drewN ?_ _|refine blk_drew ?_|refine blk_alloc ?_ _));exact BK515.out) hg (Kd.R_ne HO_11.out BK515.out (by decide)));have n6_:=Aside0.mk (blk_grown (g:=gb522) (o:=.cells #[.string a0_0,.string a3,.int .i64 1,.slice Ao26 y523.length co26,.slice Ao18 t519.length co18] 33 (0,0)) (by (with_reducible repeat (first|refine blk_drewN ?_ _|refine blk_drew ?_|refine blk_alloc ?_ _));exact BK522.out) hg (Kd.R_ne HO_11.out BK522.out (by decide)));have n7_:=Aside0.mk (hb);have n8_:=Aside0.mk (ho);clear HO_10;clear HO_523003;clear HO_523004;clear BK513;clear BK514;clear BK515;clear BK522;clear HB;clear HO_11;have HO_10:=n0_;have HO_523003:=n1_;have HO_523004:=n2_;have BK513:=n3_;have BK514:=n4_;have BK515:=n5_;have BK522:=n6_;have HB:=n7_;have HO535:=n8_;clear n0_ n1_ n2_ n3_ n4_ n5_ n6_ n7_ n8_;clear ho hb hg hat))
      go_roundg k1
      case measure=>have:=HK1.out;omega
      case rel=>exact ⟨(y533),(wrap64 (x12_1 + 1)),(by first|rfl|(simp;done)|(simp [*];done)),H',⟨by have:=HK1.out;omega⟩,⟨by (with_reducible repeat (first|apply Kd.R_alloc|apply Kd.R_drewN|apply Kd.R_drew));exact HO_10.out⟩,⟨by (with_reducible repeat (first|apply Kd.R_alloc|apply Kd.R_drewN|apply Kd.R_drew));exact HO535.out⟩,⟨by (with_reducible repeat (first|apply Kd.R_alloc|apply Kd.R_drewN|apply Kd.R_drew));exact HO_523003.out⟩,⟨by (with_reducible repeat (first|apply Kd.R_alloc|apply Kd.R_drewN|apply Kd.R_drew));exact HO_523004.out⟩,⟨by (with_reducible repeat (first|refine blk_drewN ?_ _|refine blk_drew ?_|refine blk_alloc ?_ _));exact BK513.out⟩,⟨by (with_reducible repeat (first|refine blk_drewN ?_ _|refine blk_drew ?_|refine blk_alloc ?_ _));exact BK514.out⟩,⟨by (with_reducible repeat (first|refine blk_drewN ?_ _|refine blk_drew ?_|refine blk_alloc ?_ _));exact BK515.out⟩,⟨by (with_reducible repeat (first|refine blk_drewN ?_ _|refine blk_drew ?_|refine blk_alloc ?_ _));exact BK522.out⟩,⟨by repeat (first|(with_reducible first|exact HB.out|apply below_alloc|apply pw_below_drewN|apply below_drew1|refine below_set ?_ GE513.out|refine below_set ?_ GE514.out|refine below_set ?_ GE515.out|refine below_set ?_ GE522.out)|exact HB.out)⟩⟩
     ·rw [if_neg c39] at H
      exact absurd H (by simp)
    ·rw [if_neg c38] at H
     exact absurd H (by simp)
   ·rw [if_neg c37] at H
    have c37b0:decide (x12_1 < (l1_2.length:Int))=false:=decide_eq_false c37
    clear c37
    have H' := Aside0.mk H
    clear H
    have hnb45:=NB514_513.out
    have hnc45:=NB513_514.out
    have hnb46:=NB514_515.out
    have hnc46:=NB515_514.out
    have hnb47:=NB514_522.out
    have hnc47:=NB522_514.out
    have hcz48_0:wr.cell? ⟨gb514,0,none⟩=some (.slice A1_0 l1_0.length c1_0):=(blk_cell BK514.out 0).trans rfl
    have hcz48_1:wr.cell? ⟨gb514,1,none⟩=some (.slice A1_1 l1_1.length c1_1):=(blk_cell BK514.out 1).trans rfl
    have hcz48_2:wr.cell? ⟨gb514,2,none⟩=some (.slice A1_2 l1_2.length c1_2):=(blk_cell BK514.out 2).trans rfl
    have hcz48_3:wr.cell? ⟨gb514,3,none⟩=some (.slice A1_3 l1_3.length c1_3):=(blk_cell BK514.out 3).trans rfl
    have hcz48_4:wr.cell? ⟨gb514,4,none⟩=some (.int .i64 a1_4):=(blk_cell BK514.out 4).trans rfl
    have hcz48_5:wr.cell? ⟨gb514,5,none⟩=some (.int .i64 a1_5):=(blk_cell BK514.out 5).trans rfl
    have hcz48_6:wr.cell? ⟨gb514,6,none⟩=some (.int .i64 a1_6):=(blk_cell BK514.out 6).trans rfl
    have hcz48_7:wr.cell? ⟨gb514,7,none⟩=some (.int .i64 a1_7):=(blk_cell BK514.out 7).trans rfl
    have hfz48_0:=blk_frozen BK514.out 0
    have hfz48_1:=blk_frozen BK514.out 1
    have hfz48_2:=blk_frozen BK514.out 2
    have hfz48_3:=blk_frozen BK514.out 3
    have hfz48_4:=blk_frozen BK514.out 4
    have hfz48_5:=blk_frozen BK514.out 5
    have hfz48_6:=blk_frozen BK514.out 6
    have hfz48_7:=blk_frozen BK514.out 7
    go_wp2
    go_loopg [13] k1 (fun kq v13 w' => ∃ (x13_2:Int) (x523003_2:List (S41)) (u523003:Value),v13 = .int .i64 x13_2∧Aside0 (tollbarref12_Request.l1 kq t526 x11_1 x13_2 a0_0 a0_1 a0_2 l0_3 l0_4 l1_0 l1_1 l1_2 l1_3 a1_4 a1_5 a1_6 a1_7 a0_0 a3 1 x523003_2 t519=some (r1,r2,r3,r4,r5))∧Aside0 (kq ≤ k1)∧Aside0 (Kd.R k41 41 w' w.heap.size (fun k_=>some k_ ≠ (u523003:Value).ownBlock) v527 t526)∧Aside0 (Kd.R Kd.string 9 w' w.heap.size (fun _=>True) u11 x11_1)∧Aside0 (Kd.R k41 41 w' w.heap.size (fun k_=>some k_ ≠ (v527:Value).ownBlock) u523003 x523003_2)∧Aside0 (Kd.R (Kd.int .u8) 5 w' w.heap.size (fun _=>True) (.slice Ao18 t519.length co18) t519)∧Aside0 (w'.heap[gb513]? = some (.cells #[.string a0_0,.string a0_1,.int .i64 a0_2,(.slice A0_3 l0_3.length c0_3),(.slice A0_4 l0_4.length c0_4)] 33 (0,0)))∧Aside0 (w'.heap[gb514]? = some (.cells #[(.slice A1_0 l1_0.length c1_0),(.slice A1_1 l1_1.length c1_1),(.slice A1_2 l1_2.length c1_2),(.slice A1_3 l1_3.length c1_3),.int .i64 a1_4,.int .i64 a1_5,.int .i64 a1_6,.int .i64 a1_7] 38 (0,0)))∧Aside0 (w'.heap[gb515]? = some (.cells #[.string (⟨#[]⟩:ByteArray),.string (⟨#[]⟩:ByteArray),.int .i64 0,(.slice none 0 0),(.slice none 0 0)] 33 (0,0)))∧Aside0 (w'.heap[gb522]? = some (.cells #[.string a0_0,.string a3,.int .i64 1,u523003,(.slice Ao18 t519.length co18)] 33 (0,0)))∧Aside0 (Below w.heap.size w w'))
    case atStart=>exact ⟨(0),(y523),(.slice Ao26 y523.length co26),(by first|rfl|(simp;done)|(simp [*];done)),H',⟨Nat.le_refl _⟩,⟨by (with_reducible repeat (first|apply Kd.R_alloc|apply Kd.R_drewN|apply Kd.R_drew));exact HO_10.out⟩,⟨by (with_reducible repeat (first|apply Kd.R_alloc|apply Kd.R_drewN|apply Kd.R_drew));exact HO_11.out⟩,⟨by (with_reducible repeat (first|apply Kd.R_alloc|apply Kd.R_drewN|apply Kd.R_drew));exact HO_523003.out⟩,⟨by (with_reducible repeat (first|apply Kd.R_alloc|apply Kd.R_drewN|apply Kd.R_drew));exact HO_523004.out⟩,⟨by (with_reducible repeat (first|refine blk_drewN ?_ _|refine blk_drew ?_|refine blk_alloc ?_ _));exact BK513.out⟩,⟨by (with_reducible repeat (first|refine blk_drewN ?_ _|refine blk_drew ?_|refine blk_alloc ?_ _));exact BK514.out⟩,⟨by (with_reducible repeat (first|refine blk_drewN ?_ _|refine blk_drew ?_|refine blk_alloc ?_ _));exact BK515.out⟩,⟨by (with_reducible repeat (first|refine blk_drewN ?_ _|refine blk_drew ?_|refine blk_alloc ?_ _));exact BK522.out⟩,⟨by repeat (first|(with_reducible first|exact HB.out|apply below_alloc|apply pw_below_drewN|apply below_drew1|refine below_set ?_ GE513.out|refine below_set ?_ GE514.out|refine below_set ?_ GE515.out|refine below_set ?_ GE522.out)|exact HB.out)⟩⟩
    case round =>
     clear H'
     try clear c1
     try clear c2
     try clear p2
     try clear c3
     try clear c4
     try clear p5
     try clear q5
     try clear hx5
     try clear p6
     try clear c16
     try clear c27
     try clear c28
     try clear c29
     try clear c31
     try clear c32
     try clear c37
     try clear c37b0
     try clear c38
     try clear c38b0
     try clear c39
     try clear c40
     try clear c41
     try clear c42
     try clear c45
     try clear c46
     try clear c47
     try clear hcz30_0
     try clear hcz30_1
     try clear hcz30_2
     try clear hcz30_3
     try clear hcz30_4
     try clear hcz33_0
     try clear hcz33_1
     try clear hcz33_2
     try clear hcz33_3
     try clear hcz33_4
     try clear hcz43_0
     try clear hcz43_1
     try clear hcz43_2
     try clear hcz43_3
     try clear hcz43_4
     try clear hcz43_5
     try clear hcz43_6
     try clear hcz43_7
     try clear hcz48_0
     try clear hcz48_1
     try clear hcz48_2
     try clear hcz48_3
     try clear hcz48_4
     try clear hcz48_5
     try clear hcz48_6
     try clear hcz48_7
     try clear hfz30_0
     try clear hfz30_1
     try clear hfz30_2
     try clear hfz30_3
     try clear hfz30_4
     try clear hfz33_0
     try clear hfz33_1
     try clear hfz33_2
     try clear hfz33_3
     try clear hfz33_4
     try clear hfz43_0
     try clear hfz43_1
     try clear hfz43_2
     try clear hfz43_3
     try clear hfz43_4
     try clear hfz43_5
     try clear hfz43_6
     try clear hfz43_7
     try clear hfz48_0
     try clear hfz48_1
     try clear hfz48_2
     try clear hfz48_3
     try clear hfz48_4
     try clear hfz48_5
     try clear hfz48_6
     try clear hfz48_7
     try clear hx532_0
     try clear hx532_1
     try clear p2
     try clear p532
     try clear q532
     obtain ⟨x13_2,x523003_2,u523003,rfl,HA,HK2,HO_10,HO_11,HO_523003,HO_523004,BK513,BK514,BK515,BK522,HB⟩:=hrel
     cases gk with
     | zero=>exact absurd HA.out (by simp [tollbarref12_Request.l1])
     | succ k2 =>
      have H:=HA.out
      clear HA
      simp only [tollbarref12_Request.l1] at H
      by_cases c49:x13_2 < (t526.length:Int)
      ·rw [if_pos c49] at H
       have c49b0:decide (x13_2 < (t526.length:Int))=true:=decide_eq_true c49
       clear c49
       by_cases c50:0 ≤ x13_2
       ·rw [if_pos c50] at H
        have c50b0:decide (0 ≤ x13_2)=true:=decide_eq_true c50
        clear c50
        replace H:=Option.bind_eq_some_iff.mp H
        obtain ⟨t537,A510,H⟩:=H
        replace H:(if t537=true then (tollbarref12_Request.l1 k2 t526 x11_1 (wrap64 (x13_2 + 1)) a0_0 a0_1 a0_2 l0_3 l0_4 l1_0 l1_1 l1_2 l1_3 a1_4 a1_5 a1_6 a1_7 a0_0 a3 1 x523003_2 t519) else ((tollbarref04_In.f k2 x11_1 ((rd_T41 t526 x13_2).f0)).bind fun t539=>(if t539=true then (tollbarref12_Request.l1 k2 t526 x11_1 (wrap64 (x13_2 + 1)) a0_0 a0_1 a0_2 l0_3 l0_4 l1_0 l1_1 l1_2 l1_3 a1_4 a1_5 a1_6 a1_7 a0_0 a3 1 x523003_2 t519) else (if x523003_2.length < 4398046511104 then (tollbarref12_Request.l1 k2 t526 x11_1 (wrap64 (x13_2 + 1)) a0_0 a0_1 a0_2 l0_3 l0_4 l1_0 l1_1 l1_2 l1_3 a1_4 a1_5 a1_6 a1_7 a0_0 a3 1 (x523003_2 ++ [(⟨(rd_T41 t526 x13_2).f0,(rd_T41 t526 x13_2).f1⟩:S41)]) t519) else (none)))))=some (r1,r2,r3,r4,r5):=H
        have A51:=Aside0.mk A510
        clear A510
        by_cases c52:t537=true
        ·subst c52
         have H1:(tollbarref12_Request.l1 k2 t526 x11_1 (wrap64 (x13_2 + 1)) a0_0 a0_1 a0_2 l0_3 l0_4 l1_0 l1_1 l1_2 l1_3 a1_4 a1_5 a1_6 a1_7 a0_0 a3 1 x523003_2 t519)=some (r1,r2,r3,r4,r5):=by rw [if_pos rfl] at H;exact H
         clear H
         have H:=H1
         clear H1
         have H' := Aside0.mk H
         clear H
         obtain ⟨Ao53,co53,eo53⟩:=Kd.R_slice HO_10.out
         subst eo53
         try go_wp2
         replace HO_10:=Aside0.mk (Kd.R_drew HO_10.out)
         replace HO_11:=Aside0.mk (Kd.R_drew HO_11.out)
         replace HO_523003:=Aside0.mk (Kd.R_drew HO_523003.out)
         replace HO_523004:=Aside0.mk (Kd.R_drew HO_523004.out)
         replace BK513:=Aside0.mk (blk_drew BK513.out)
         replace BK514:=Aside0.mk (blk_drew BK514.out)
         replace BK515:=Aside0.mk (blk_drew BK515.out)
         replace BK522:=Aside0.mk (blk_drew BK522.out)
         replace HB:=Aside0.mk (below_drew1 HB.out)
         have p536:0 ≤ (x13_2:Int):=of_decide_eq_true (by first|(with_reducible assumption)|assumption)
         have q536:x13_2 < (t526.length:Int):=of_decide_eq_true (by first|(with_reducible assumption)|assumption)
         obtain ⟨ad536,e536,hx536_0,hx536_1⟩:=at_T41 (Kd.R_reads' HO_10.out).2.2 x13_2 p536 q536
         cases e536
         replace p536:=eq_true p536
         replace q536:=eq_true q536
         refine start_ (n:=19) (S:=fun w' => w'.cell? ⟨gb514,0,none⟩=some (.slice A1_0 l1_0.length c1_0)∧w'.cell? ⟨gb514,1,none⟩=some (.slice A1_1 l1_1.length c1_1)∧w'.cell? ⟨gb514,2,none⟩=some (.slice A1_2 l1_2.length c1_2)∧w'.cell? ⟨gb514,3,none⟩=some (.slice A1_3 l1_3.length c1_3)∧w'.cell? ⟨gb514,4,none⟩=some (.int .i64 a1_4)∧w'.cell? ⟨gb514,5,none⟩=some (.int .i64 a1_5)∧w'.cell? ⟨gb514,6,none⟩=some (.int .i64 a1_6)∧w'.cell? ⟨gb514,7,none⟩=some (.int .i64 a1_7)∧w'.cell? (ad536.add ((x13_2).toNat * 2))=some (.string ((rd_T41 t526 x13_2).f0))∧w'.cell? ⟨(ad536.add ((x13_2).toNat * 2)).block,(ad536.add ((x13_2).toNat * 2)).off + 1,none⟩=some (.string ((rd_T41 t526 x13_2).f1))) (ds:=[]) #[false,false,false,false,false,false,false,false,false,false,false,false,false,false,false,false,false,false,false] (by kernel_rfl) rfl rfl ⟨(blk_cell BK514.out 0).trans rfl,(blk_cell BK514.out 1).trans rfl,(blk_cell BK514.out 2).trans rfl,(blk_cell BK514.out 3).trans rfl,(blk_cell BK514.out 4).trans rfl,(blk_cell BK514.out 5).trans rfl,(blk_cell BK514.out 6).trans rfl,(blk_cell BK514.out 7).trans rfl,hx536_0,hx536_1⟩ (fun hHeld=>?_);refine with_tabW tollbarref12_Request.tab12 tollbarref12_Request.bits12 (fun HT_ HW_=>?_)
         generalize wr.drew=w54 at HO_10 HO_11 HO_523003 HO_523004 BK513 BK514 BK515 BK522 HB hx536_0 hx536_1 hHeld ⊢
         refine pure_ (i:=0) (N:=some 53) (v:=?_) (a' := ?_) #[true,false,false,false,false,false,false,false,false,false,false,false,false,false,false,false,false,false,false] rfl rfl (any_of HT_.out (by kernel_rfl)) (fun _ _ _ h=>h) (Or.inl ⟨by rfl,?_⟩) ?_ ?_
         rotate_left
         ·intro w';go_simp;with_reducible rfl
         rotate_left
         ·simp only [Act.put,zqA,zqB,zqC,i64_w,i32_w];rfl
         refine pure_ (i:=2) (N:=some 55) (v:=?_) (a' := ?_) #[true,false,true,false,false,false,false,false,false,false,false,false,false,false,false,false,false,false,false] rfl rfl (any_of HT_.out (by kernel_rfl)) (fun _ _ _ h=>h) (Or.inl ⟨by rfl,?_⟩) ?_ ?_
         rotate_left
         ·intro w';go_simp;with_reducible rfl
         rotate_left
         ·simp only [Act.put,zqA,zqB,zqC,i64_w,i32_w];rfl
         refine pure_ (i:=3) (N:=some 56) (v:=?_) (a' := ?_) #[true,false,true,true,false,false,false,false,false,false,false,false,false,false,false,false,false,false,false] rfl rfl (any_of HT_.out (by kernel_rfl)) (fun _ _ _ h=>h) (Or.inl ⟨by rfl,?_⟩) ?_ ?_
         rotate_left
         ·intro w';go_simp;with_reducible rfl
         rotate_left
         ·simp only [Act.put,zqA,zqB,zqC,i64_w,i32_w];rfl
         refine pure_ (i:=4) (N:=some 57) (v:=?_) (a' := ?_) #[true,false,true,true,true,false,false,false,false,false,false,false,false,false,false,false,false,false,false] rfl rfl (any_of HT_.out (by kernel_rfl)) (fun _ _ _ h=>h) (Or.inl ⟨by rfl,?_⟩) ?_ ?_
         rotate_left
         ·intro w';go_simp;with_reducible rfl
         rotate_left
         ·simp only [Act.put,zqA,zqB,zqC,i64_w,i32_w];rfl
         refine pure_ (i:=5) (N:=some 58) (v:=?_) (a' := ?_) #[true,false,true,true,true,true,false,false,false,false,false,false,false,false,false,false,false,false,false] rfl rfl (any_of HT_.out (by kernel_rfl)) (fun _ _ _ h=>h) (Or.inl ⟨by rfl,?_⟩) ?_ ?_
         rotate_left
         ·intro w';go_simp;with_reducible rfl
         rotate_left
         ·simp only [Act.put,zqA,zqB,zqC,i64_w,i32_w];rfl
         refine take_ (i:=1) (N:=some 54) (v:=?_) (a' := ?_) #[true,true,true,true,true,true,false,false,false,false,false,false,false,false,false,false,false,false,false] rfl rfl (take_ofW HT_.out HW_.out (by kernel_rfl)) (fun _ _ _ h=>h) (Or.inl ⟨by rfl,?_⟩) hHeld ?_ ?_
         rotate_left
         ·rintro w' ⟨s0,s1,s2,s3,s4,s5,s6,s7,s8,s9⟩;go_simp;with_reducible rfl
         rotate_left
         ·simp only [Act.put,zqA,zqB,zqC,i64_w,i32_w];rfl
         refine take_ (i:=6) (N:=some 59) (v:=?_) (a' := ?_) #[true,true,true,true,true,true,true,false,false,false,false,false,false,false,false,false,false,false,false] rfl rfl (take_ofW HT_.out HW_.out (by kernel_rfl)) (fun _ _ _ h=>h) (Or.inl ⟨by rfl,?_⟩) hHeld ?_ ?_
         rotate_left
         ·rintro w' ⟨s0,s1,s2,s3,s4,s5,s6,s7,s8,s9⟩;go_simp;with_reducible rfl
         rotate_left
         ·simp only [Act.put,zqA,zqB,zqC,i64_w,i32_w];rfl
         refine one_ (i:=7) (N:=some 60) #[true,true,true,true,true,true,true,true,false,false,false,false,false,false,false,false,false,false,false] rfl rfl (one_of HT_.out (by kernel_rfl)) (by decide) (fun K hK=>?_)
         refine goes_ Tryd.func33 (by kernel_rfl) rfl #[.slice A1_3 l1_3.length c1_3,.string ((rd_T41 t526 x13_2).f0)] (by rfl) rfl rfl (by (try simp only [List.map_toArray,List.map_cons,List.map_nil]);first|done|rfl|(simp only [List.length_drop,List.length_take];rfl)) ?_
         with_reducible refine (tollbarref04_In.calls k2 _ _ l1_3 ((rd_T41 t526 x13_2).f0) true _ ?side1 ?side2 A51.out).mono ?_
         (case side1=>repeat (first|exact (Kd.C_below HR1_3.out HB.out)|(with_reducible refine Kd.C_alloc ?_ _)|(with_reducible refine Kd.C_drewN ?_ _)|(with_reducible refine Kd.C_drew ?_)))
         (case side2=>exact HC1_3.out)
         rintro e w55 ⟨rfl,hb⟩
         have HS8_:=(hb.cell (World.block_lt_of_cell? _ _ (hHeld.2.2.2.2.2.2.2.2.1))).trans (hHeld.2.2.2.2.2.2.2.2.1)
         have HS9_:=(hb.cell (World.block_lt_of_cell? _ _ (hHeld.2.2.2.2.2.2.2.2.2))).trans (hHeld.2.2.2.2.2.2.2.2.2)
         refine ⟨_,rfl,?_⟩
         replace HO_10:=Aside0.mk (Kd.R_below (by (with_reducible repeat (first|apply Kd.R_alloc|apply Kd.R_drewN|apply Kd.R_drew));exact HO_10.out) hb)
         replace HO_11:=Aside0.mk (Kd.R_below (by (with_reducible repeat (first|apply Kd.R_alloc|apply Kd.R_drewN|apply Kd.R_drew));exact HO_11.out) hb)
         replace HO_523003:=Aside0.mk (Kd.R_below (by (with_reducible repeat (first|apply Kd.R_alloc|apply Kd.R_drewN|apply Kd.R_drew));exact HO_523003.out) hb)
         replace HO_523004:=Aside0.mk (Kd.R_below (by (with_reducible repeat (first|apply Kd.R_alloc|apply Kd.R_drewN|apply Kd.R_drew));exact HO_523004.out) hb)
         replace BK513:=Aside0.mk (blk_below (g:=gb513) (o:=.cells #[.string a0_0,.string a0_1,.int .i64 a0_2,.slice A0_3 l0_3.length c0_3,.slice A0_4 l0_4.length c0_4] 33 (0,0)) (by (with_reducible repeat (first|refine blk_drewN ?_ _|refine blk_drew ?_|refine blk_alloc ?_ _));exact BK513.out) hb)
         replace BK514:=Aside0.mk (blk_below (g:=gb514) (o:=.cells #[.slice A1_0 l1_0.length c1_0,.slice A1_1 l1_1.length c1_1,.slice A1_2 l1_2.length c1_2,.slice A1_3 l1_3.length c1_3,.int .i64 a1_4,.int .i64 a1_5,.int .i64 a1_6,.int .i64 a1_7] 38 (0,0)) (by (with_reducible repeat (first|refine blk_drewN ?_ _|refine blk_drew ?_|refine blk_alloc ?_ _));exact BK514.out) hb)
         replace BK515:=Aside0.mk (blk_below (g:=gb515) (o:=.cells #[.string (⟨#[]⟩:ByteArray),.string (⟨#[]⟩:ByteArray),.int .i64 0,.slice none 0 0,.slice none 0 0] 33 (0,0)) (by (with_reducible repeat (first|refine blk_drewN ?_ _|refine blk_drew ?_|refine blk_alloc ?_ _));exact BK515.out) hb)
         replace BK522:=Aside0.mk (blk_below (g:=gb522) (o:=.cells #[.string a0_0,.string a3,.int .i64 1,u523003,.slice Ao18 t519.length co18] 33 (0,0)) (by (with_reducible repeat (first|refine blk_drewN ?_ _|refine blk_drew ?_|refine blk_alloc ?_ _));exact BK522.out) hb)
         replace HB:=Aside0.mk (below_step (by repeat (first|(with_reducible first|exact HB.out|apply below_alloc|apply pw_below_drewN|apply below_drew1|refine below_set ?_ GE513.out|refine below_set ?_ GE514.out|refine below_set ?_ GE515.out|refine below_set ?_ GE522.out)|exact HB.out)) hb)
         (try clear hb)
         (try clear hb2)
         (try clear hk)
         (try clear hi)
         refine hK.out _ _ ⟨(blk_cell BK514.out 0).trans rfl,(blk_cell BK514.out 1).trans rfl,(blk_cell BK514.out 2).trans rfl,(blk_cell BK514.out 3).trans rfl,(blk_cell BK514.out 4).trans rfl,(blk_cell BK514.out 5).trans rfl,(blk_cell BK514.out 6).trans rfl,(blk_cell BK514.out 7).trans rfl,HS8_,HS9_⟩ (fun hHeld=>?_)
         clear hK K
         refine norm_ (a' := ?_) ?_ ?_
         rotate_left
         ·show Act.put _ (some 60) _=_
          simp only [Act.put,zqA,zqB,zqC,i64_w,i32_w]
          rfl
         refine pure_ (i:=8) (N:=some 61) (v:=?_) (a' := ?_) #[true,true,true,true,true,true,true,true,true,false,false,false,false,false,false,false,false,false,false] rfl rfl (any_of HT_.out (by kernel_rfl)) (fun _ _ _ h=>h) (Or.inl ⟨by rfl,?_⟩) ?_ ?_
         rotate_left
         ·intro w';go_simp;with_reducible rfl
         rotate_left
         ·simp only [Act.put,zqA,zqB,zqC,i64_w,i32_w];rfl
         refine pure_ (i:=9) (N:=some 62) (v:=?_) (a' := ?_) #[true,true,true,true,true,true,true,true,true,true,false,false,false,false,false,false,false,false,false] rfl rfl (any_of HT_.out (by kernel_rfl)) (fun _ _ _ h=>h) (Or.inl ⟨by rfl,?_⟩) ?_ ?_
         rotate_left
         ·intro w';go_simp;with_reducible rfl
         rotate_left
         ·simp only [Act.put,zqA,zqB,zqC,i64_w,i32_w];rfl
         refine pure_ (i:=10) (N:=some 63) (v:=undef) (a' := ?_) #[true,true,true,true,true,true,true,true,true,true,true,false,false,false,false,false,false,false,false] rfl rfl (any_of HT_.out (by kernel_rfl)) (fun _ _ _ h=>h) (Or.inr ⟨by rfl,rfl⟩) ?_ ?_
         rotate_left
         ·simp only [Act.put,zqA,zqB,zqC,i64_w,i32_w];rfl
         refine pure_ (i:=11) (N:=some 64) (v:=undef) (a' := ?_) #[true,true,true,true,true,true,true,true,true,true,true,true,false,false,false,false,false,false,false] rfl rfl (any_of HT_.out (by kernel_rfl)) (fun _ _ _ h=>h) (Or.inr ⟨by rfl,rfl⟩) ?_ ?_
         rotate_left
         ·simp only [Act.put,zqA,zqB,zqC,i64_w,i32_w];rfl
         refine pure_ (i:=12) (N:=some 65) (v:=undef) (a' := ?_) #[true,true,true,true,true,true,true,true,true,true,true,true,true,false,false,false,false,false,false] rfl rfl (any_of HT_.out (by kernel_rfl)) (fun _ _ _ h=>h) (Or.inr ⟨by rfl,rfl⟩) ?_ ?_
         rotate_left
         ·simp only [Act.put,zqA,zqB,zqC,i64_w,i32_w];rfl
         refine pure_ (i:=13) (N:=some 66) (v:=undef) (a' := ?_) #[true,true,true,true,true,true,true,true,true,true,true,true,true,true,false,false,false,false,false] rfl rfl (any_of HT_.out (by kernel_rfl)) (fun _ _ _ h=>h) (Or.inr ⟨by rfl,rfl⟩) ?_ ?_
         rotate_left
         ·simp only [Act.put,zqA,zqB,zqC,i64_w,i32_w];rfl
         refine pure_ (i:=14) (N:=some 67) (v:=undef) (a' := ?_) #[true,true,true,true,true,true,true,true,true,true,true,true,true,true,true,false,false,false,false] rfl rfl (any_of HT_.out (by kernel_rfl)) (fun _ _ _ h=>h) (Or.inr ⟨by rfl,rfl⟩) ?_ ?_
         rotate_left
         ·simp only [Act.put,zqA,zqB,zqC,i64_w,i32_w];rfl
         refine pure_ (i:=15) (N:=some 68) (v:=undef) (a' := ?_) #[true,true,true,true,true,true,true,true,true,true,true,true,true,true,true,true,false,false,false] rfl rfl (any_of HT_.out (by kernel_rfl)) (fun _ _ _ h=>h) (Or.inr ⟨by rfl,rfl⟩) ?_ ?_
         rotate_left
         ·simp only [Act.put,zqA,zqB,zqC,i64_w,i32_w];rfl
         refine pure_ (i:=16) (N:=some 69) (v:=undef) (a' := ?_) #[true,true,true,true,true,true,true,true,true,true,true,true,true,true,true,true,true,false,false] rfl rfl (any_of HT_.out (by kernel_rfl)) (fun _ _ _ h=>h) (Or.inr ⟨by rfl,rfl⟩) ?_ ?_
         rotate_left
         ·simp only [Act.put,zqA,zqB,zqC,i64_w,i32_w];rfl
         refine pure_ (i:=17) (N:=some 70) (v:=undef) (a' := ?_) #[true,true,true,true,true,true,true,true,true,true,true,true,true,true,true,true,true,true,false] rfl rfl (any_of HT_.out (by kernel_rfl)) (fun _ _ _ h=>h) (Or.inr ⟨by rfl,rfl⟩) ?_ ?_
         rotate_left
         ·simp only [Act.put,zqA,zqB,zqC,i64_w,i32_w];rfl
         refine pure_ (i:=18) (N:=some 71) (v:=?_) (a' := ?_) #[true,true,true,true,true,true,true,true,true,true,true,true,true,true,true,true,true,true,true] rfl rfl (any_of HT_.out (by kernel_rfl)) (fun _ _ _ h=>h) (Or.inl ⟨by rfl,?_⟩) ?_ ?_
         rotate_left
         ·intro w';go_simp;with_reducible rfl
         rotate_left
         ·simp only [Act.put,zqA,zqB,zqC,i64_w,i32_w];rfl
         refine done_ (done_of HT_.out (by kernel_rfl)) ?_
         try go_wp2
         go_roundg k2
         case measure=>have:=HK1.out;have:=HK2.out;omega
         case rel=>exact ⟨(wrap64 (x13_2 + 1)),(x523003_2),(u523003),(by first|rfl|(simp;done)|(simp [*];done)),H',⟨by have:=HK1.out;have:=HK2.out;omega⟩,⟨by (with_reducible repeat (first|apply Kd.R_alloc|apply Kd.R_drewN|apply Kd.R_drew));exact HO_10.out⟩,⟨by (with_reducible repeat (first|apply Kd.R_alloc|apply Kd.R_drewN|apply Kd.R_drew));exact HO_11.out⟩,⟨by (with_reducible repeat (first|apply Kd.R_alloc|apply Kd.R_drewN|apply Kd.R_drew));exact HO_523003.out⟩,⟨by (with_reducible repeat (first|apply Kd.R_alloc|apply Kd.R_drewN|apply Kd.R_drew));exact HO_523004.out⟩,⟨by (with_reducible repeat (first|refine blk_drewN ?_ _|refine blk_drew ?_|refine blk_alloc ?_ _));exact BK513.out⟩,⟨by (with_reducible repeat (first|refine blk_drewN ?_ _|refine blk_drew ?_|refine blk_alloc ?_ _));exact BK514.out⟩,⟨by (with_reducible repeat (first|refine blk_drewN ?_ _|refine blk_drew ?_|refine blk_alloc ?_ _));exact BK515.out⟩,⟨by (with_reducible repeat (first|refine blk_drewN ?_ _|refine blk_drew ?_|refine blk_alloc ?_ _));exact BK522.out⟩,⟨by repeat (first|(with_reducible first|exact HB.out|apply below_alloc|apply pw_below_drewN|apply below_drew1|refine below_set ?_ GE513.out|refine below_set ?_ GE514.out|refine below_set ?_ GE515.out|refine below_set ?_ GE522.out)|exact HB.out)⟩⟩
        ·replace c52:=Bool.eq_false_iff.mpr c52
         subst c52
         have H1:((tollbarref04_In.f k2 x11_1 ((rd_T41 t526 x13_2).f0)).bind fun t539=>(if t539=true then (tollbarref12_Request.l1 k2 t526 x11_1 (wrap64 (x13_2 + 1)) a0_0 a0_1 a0_2 l0_3 l0_4 l1_0 l1_1 l1_2 l1_3 a1_4 a1_5 a1_6 a1_7 a0_0 a3 1 x523003_2 t519) else (if x523003_2.length < 4398046511104 then (tollbarref12_Request.l1 k2 t526 x11_1 (wrap64 (x13_2 + 1)) a0_0 a0_1 a0_2 l0_3 l0_4 l1_0 l1_1 l1_2 l1_3 a1_4 a1_5 a1_6 a1_7 a0_0 a3 1 (x523003_2 ++ [(⟨(rd_T41 t526 x13_2).f0,(rd_T41 t526 x13_2).f1⟩:S41)]) t519) else (none))))=some (r1,r2,r3,r4,r5):=by rw [if_neg (show ¬ (false=true) by decide)] at H;exact H
         clear H
         have H:=H1
         clear H1
         replace H:=Option.bind_eq_some_iff.mp H
         obtain ⟨t539,A560,H⟩:=H
         replace H:(if t539=true then (tollbarref12_Request.l1 k2 t526 x11_1 (wrap64 (x13_2 + 1)) a0_0 a0_1 a0_2 l0_3 l0_4 l1_0 l1_1 l1_2 l1_3 a1_4 a1_5 a1_6 a1_7 a0_0 a3 1 x523003_2 t519) else (if x523003_2.length < 4398046511104 then (tollbarref12_Request.l1 k2 t526 x11_1 (wrap64 (x13_2 + 1)) a0_0 a0_1 a0_2 l0_3 l0_4 l1_0 l1_1 l1_2 l1_3 a1_4 a1_5 a1_6 a1_7 a0_0 a3 1 (x523003_2 ++ [(⟨(rd_T41 t526 x13_2).f0,(rd_T41 t526 x13_2).f1⟩:S41)]) t519) else (none)))=some (r1,r2,r3,r4,r5):=H
         have A56:=Aside0.mk A560
         clear A560
         by_cases c57:t539=true
         ·subst c57
          have H1:(tollbarref12_Request.l1 k2 t526 x11_1 (wrap64 (x13_2 + 1)) a0_0 a0_1 a0_2 l0_3 l0_4 l1_0 l1_1 l1_2 l1_3 a1_4 a1_5 a1_6 a1_7 a0_0 a3 1 x523003_2 t519)=some (r1,r2,r3,r4,r5):=by rw [if_pos rfl] at H;exact H
          clear H
          have H:=H1
          clear H1
          have H' := Aside0.mk H
          clear H
          obtain ⟨Ao58,co58,eo58⟩:=Kd.R_slice HO_10.out
          subst eo58
          try go_wp2
          replace HO_10:=Aside0.mk (Kd.R_drew HO_10.out)
          replace HO_11:=Aside0.mk (Kd.R_drew HO_11.out)
          replace HO_523003:=Aside0.mk (Kd.R_drew HO_523003.out)
          replace HO_523004:=Aside0.mk (Kd.R_drew HO_523004.out)
          replace BK513:=Aside0.mk (blk_drew BK513.out)
          replace BK514:=Aside0.mk (blk_drew BK514.out)
          replace BK515:=Aside0.mk (blk_drew BK515.out)
          replace BK522:=Aside0.mk (blk_drew BK522.out)
          replace HB:=Aside0.mk (below_drew1 HB.out)
          have p536:0 ≤ (x13_2:Int):=of_decide_eq_true (by first|(with_reducible assumption)|assumption)
          have q536:x13_2 < (t526.length:Int):=of_decide_eq_true (by first|(with_reducible assumption)|assumption)
          obtain ⟨ad536,e536,hx536_0,hx536_1⟩:=at_T41 (Kd.R_reads' HO_10.out).2.2 x13_2 p536 q536
          cases e536
          replace p536:=eq_true p536
          replace q536:=eq_true q536
          have p538:0 ≤ (x13_2:Int):=of_decide_eq_true (by first|(with_reducible assumption)|assumption)
          have q538:x13_2 < (t526.length:Int):=of_decide_eq_true (by first|(with_reducible assumption)|assumption)
          obtain ⟨ad538,e538,hx538_0,hx538_1⟩:=at_T41 (Kd.R_reads' HO_10.out).2.2 x13_2 p538 q538
          obtain rfl:ad536=ad538:=(by injection e538)
          replace p538:=eq_true p538
          replace q538:=eq_true q538
          refine start_ (n:=19) (S:=fun w' => w'.cell? ⟨gb514,0,none⟩=some (.slice A1_0 l1_0.length c1_0)∧w'.cell? ⟨gb514,1,none⟩=some (.slice A1_1 l1_1.length c1_1)∧w'.cell? ⟨gb514,2,none⟩=some (.slice A1_2 l1_2.length c1_2)∧w'.cell? ⟨gb514,3,none⟩=some (.slice A1_3 l1_3.length c1_3)∧w'.cell? ⟨gb514,4,none⟩=some (.int .i64 a1_4)∧w'.cell? ⟨gb514,5,none⟩=some (.int .i64 a1_5)∧w'.cell? ⟨gb514,6,none⟩=some (.int .i64 a1_6)∧w'.cell? ⟨gb514,7,none⟩=some (.int .i64 a1_7)∧w'.cell? (ad536.add ((x13_2).toNat * 2))=some (.string ((rd_T41 t526 x13_2).f0))∧w'.cell? ⟨(ad536.add ((x13_2).toNat * 2)).block,(ad536.add ((x13_2).toNat * 2)).off + 1,none⟩=some (.string ((rd_T41 t526 x13_2).f1))∧w'.cell? (ad536.add ((x13_2).toNat * 2))=some (.string ((rd_T41 t526 x13_2).f0))∧w'.cell? ⟨(ad536.add ((x13_2).toNat * 2)).block,(ad536.add ((x13_2).toNat * 2)).off + 1,none⟩=some (.string ((rd_T41 t526 x13_2).f1))) (ds:=[]) #[false,false,false,false,false,false,false,false,false,false,false,false,false,false,false,false,false,false,false] (by kernel_rfl) rfl rfl ⟨(blk_cell BK514.out 0).trans rfl,(blk_cell BK514.out 1).trans rfl,(blk_cell BK514.out 2).trans rfl,(blk_cell BK514.out 3).trans rfl,(blk_cell BK514.out 4).trans rfl,(blk_cell BK514.out 5).trans rfl,(blk_cell BK514.out 6).trans rfl,(blk_cell BK514.out 7).trans rfl,hx536_0,hx536_1,hx538_0,hx538_1⟩ (fun hHeld=>?_);refine with_tabW tollbarref12_Request.tab12 tollbarref12_Request.bits12 (fun HT_ HW_=>?_)
          generalize wr.drew=w59 at HO_10 HO_11 HO_523003 HO_523004 BK513 BK514 BK515 BK522 HB hx536_0 hx536_1 hx538_0 hx538_1 hHeld ⊢
          refine pure_ (i:=0) (N:=some 53) (v:=?_) (a' := ?_) #[true,false,false,false,false,false,false,false,false,false,false,false,false,false,false,false,false,false,false] rfl rfl (any_of HT_.out (by kernel_rfl)) (fun _ _ _ h=>h) (Or.inl ⟨by rfl,?_⟩) ?_ ?_
          rotate_left
          ·intro w';go_simp;with_reducible rfl
          rotate_left
          ·simp only [Act.put,zqA,zqB,zqC,i64_w,i32_w];rfl
          refine pure_ (i:=2) (N:=some 55) (v:=?_) (a' := ?_) #[true,false,true,false,false,false,false,false,false,false,false,false,false,false,false,false,false,false,false] rfl rfl (any_of HT_.out (by kernel_rfl)) (fun _ _ _ h=>h) (Or.inl ⟨by rfl,?_⟩) ?_ ?_
          rotate_left
          ·intro w';go_simp;with_reducible rfl
          rotate_left
          ·simp only [Act.put,zqA,zqB,zqC,i64_w,i32_w];rfl
          refine pure_ (i:=3) (N:=some 56) (v:=?_) (a' := ?_) #[true,false,true,true,false,false,false,false,false,false,false,false,false,false,false,false,false,false,false] rfl rfl (any_of HT_.out (by kernel_rfl)) (fun _ _ _ h=>h) (Or.inl ⟨by rfl,?_⟩) ?_ ?_
          rotate_left
          ·intro w';go_simp;with_reducible rfl
          rotate_left
          ·simp only [Act.put,zqA,zqB,zqC,i64_w,i32_w];rfl
          refine pure_ (i:=4) (N:=some 57) (v:=?_) (a' := ?_) #[true,false,true,true,true,false,false,false,false,false,false,false,false,false,false,false,false,false,false] rfl rfl (any_of HT_.out (by kernel_rfl)) (fun _ _ _ h=>h) (Or.inl ⟨by rfl,?_⟩) ?_ ?_
          rotate_left
          ·intro w';go_simp;with_reducible rfl
          rotate_left
          ·simp only [Act.put,zqA,zqB,zqC,i64_w,i32_w];rfl
          refine pure_ (i:=5) (N:=some 58) (v:=?_) (a' := ?_) #[true,false,true,true,true,true,false,false,false,false,false,false,false,false,false,false,false,false,false] rfl rfl (any_of HT_.out (by kernel_rfl)) (fun _ _ _ h=>h) (Or.inl ⟨by rfl,?_⟩) ?_ ?_
          rotate_left
          ·intro w';go_simp;with_reducible rfl
          rotate_left
          ·simp only [Act.put,zqA,zqB,zqC,i64_w,i32_w];rfl
          refine take_ (i:=1) (N:=some 54) (v:=?_) (a' := ?_) #[true,true,true,true,true,true,false,false,false,false,false,false,false,false,false,false,false,false,false] rfl rfl (take_ofW HT_.out HW_.out (by kernel_rfl)) (fun _ _ _ h=>h) (Or.inl ⟨by rfl,?_⟩) hHeld ?_ ?_
          rotate_left
          ·rintro w' ⟨s0,s1,s2,s3,s4,s5,s6,s7,s8,s9,s10,s11⟩;go_simp;with_reducible rfl
          rotate_left
          ·simp only [Act.put,zqA,zqB,zqC,i64_w,i32_w];rfl
          refine take_ (i:=6) (N:=some 59) (v:=?_) (a' := ?_) #[true,true,true,true,true,true,true,false,false,false,false,false,false,false,false,false,false,false,false] rfl rfl (take_ofW HT_.out HW_.out (by kernel_rfl)) (fun _ _ _ h=>h) (Or.inl ⟨by rfl,?_⟩) hHeld ?_ ?_
          rotate_left
          ·rintro w' ⟨s0,s1,s2,s3,s4,s5,s6,s7,s8,s9,s10,s11⟩;go_simp;with_reducible rfl
          rotate_left
          ·simp only [Act.put,zqA,zqB,zqC,i64_w,i32_w];rfl
          refine one_ (i:=7) (N:=some 60) #[true,true,true,true,true,true,true,true,false,false,false,false,false,false,false,false,false,false,false] rfl rfl (one_of HT_.out (by kernel_rfl)) (by decide) (fun K hK=>?_)
          refine goes_ Tryd.func33 (by kernel_rfl) rfl #[.slice A1_3 l1_3.length c1_3,.string ((rd_T41 t526 x13_2).f0)] (by rfl) rfl rfl (by (try simp only [List.map_toArray,List.map_cons,List.map_nil]);first|done|rfl|(simp only [List.length_drop,List.length_take];rfl)) ?_
          with_reducible refine (tollbarref04_In.calls k2 _ _ l1_3 ((rd_T41 t526 x13_2).f0) false _ ?side1 ?side2 A51.out).mono ?_
          (case side1=>repeat (first|exact (Kd.C_below HR1_3.out HB.out)|(with_reducible refine Kd.C_alloc ?_ _)|(with_reducible refine Kd.C_drewN ?_ _)|(with_reducible refine Kd.C_drew ?_)))
          (case side2=>exact HC1_3.out)
          rintro e w60 ⟨rfl,hb⟩
          have HS8_:=(hb.cell (World.block_lt_of_cell? _ _ (hHeld.2.2.2.2.2.2.2.2.1))).trans (hHeld.2.2.2.2.2.2.2.2.1)
          have HS9_:=(hb.cell (World.block_lt_of_cell? _ _ (hHeld.2.2.2.2.2.2.2.2.2.1))).trans (hHeld.2.2.2.2.2.2.2.2.2.1)
          have HS10_:=(hb.cell (World.block_lt_of_cell? _ _ (hHeld.2.2.2.2.2.2.2.2.2.2.1))).trans (hHeld.2.2.2.2.2.2.2.2.2.2.1)
          have HS11_:=(hb.cell (World.block_lt_of_cell? _ _ (hHeld.2.2.2.2.2.2.2.2.2.2.2))).trans (hHeld.2.2.2.2.2.2.2.2.2.2.2)
          refine ⟨_,rfl,?_⟩
          replace HO_10:=Aside0.mk (Kd.R_below (by (with_reducible repeat (first|apply Kd.R_alloc|apply Kd.R_drewN|apply Kd.R_drew));exact HO_10.out) hb)
          replace HO_11:=Aside0.mk (Kd.R_below (by (with_reducible repeat (first|apply Kd.R_alloc|apply Kd.R_drewN|apply Kd.R_drew));exact HO_11.out) hb)
          replace HO_523003:=Aside0.mk (Kd.R_below (by (with_reducible repeat (first|apply Kd.R_alloc|apply Kd.R_drewN|apply Kd.R_drew));exact HO_523003.out) hb)
          replace HO_523004:=Aside0.mk (Kd.R_below (by (with_reducible repeat (first|apply Kd.R_alloc|apply Kd.R_drewN|apply Kd.R_drew));exact HO_523004.out) hb)
          replace BK513:=Aside0.mk (blk_below (g:=gb513) (o:=.cells #[.string a0_0,.string a0_1,.int .i64 a0_2,.slice A0_3 l0_3.length c0_3,.slice A0_4 l0_4.length c0_4] 33 (0,0)) (by (with_reducible repeat (first|refine blk_drewN ?_ _|refine blk_drew ?_|refine blk_alloc ?_ _));exact BK513.out) hb)
          replace BK514:=Aside0.mk (blk_below (g:=gb514) (o:=.cells #[.slice A1_0 l1_0.length c1_0,.slice A1_1 l1_1.length c1_1,.slice A1_2 l1_2.length c1_2,.slice A1_3 l1_3.length c1_3,.int .i64 a1_4,.int .i64 a1_5,.int .i64 a1_6,.int .i64 a1_7] 38 (0,0)) (by (with_reducible repeat (first|refine blk_drewN ?_ _|refine blk_drew ?_|refine blk_alloc ?_ _));exact BK514.out) hb)
          replace BK515:=Aside0.mk (blk_below (g:=gb515) (o:=.cells #[.string (⟨#[]⟩:ByteArray),.string (⟨#[]⟩:ByteArray),.int .i64 0,.slice none 0 0,.slice none 0 0] 33 (0,0)) (by (with_reducible repeat (first|refine blk_drewN ?_ _|refine blk_drew ?_|refine blk_alloc ?_ _));exact BK515.out) hb)
          replace BK522:=Aside0.mk (blk_below (g:=gb522) (o:=.cells #[.string a0_0,.string a3,.int .i64 1,u523003,.slice Ao18 t519.length co18] 33 (0,0)) (by (with_reducible repeat (first|refine blk_drewN ?_ _|refine blk_drew ?_|refine blk_alloc ?_ _));exact BK522.out) hb)
          replace HB:=Aside0.mk (below_step (by repeat (first|(with_reducible first|exact HB.out|apply below_alloc|apply pw_below_drewN|apply below_drew1|refine below_set ?_ GE513.out|refine below_set ?_ GE514.out|refine below_set ?_ GE515.out|refine below_set ?_ GE522.out)|exact HB.out)) hb)
          (try clear hb)
          (try clear hb2)
          (try clear hk)
          (try clear hi)
          obtain ⟨Ao61,co61,eo61⟩:=Kd.R_slice HO_11.out
          (first|subst eo61|(injection eo61 with f1_ f2_ f3_;have f4_:=f1_.symm;have f5_:=f3_.symm;clear f1_ f2_ f3_;subst f4_;subst f5_))
          refine hK.out _ _ ⟨(blk_cell BK514.out 0).trans rfl,(blk_cell BK514.out 1).trans rfl,(blk_cell BK514.out 2).trans rfl,(blk_cell BK514.out 3).trans rfl,(blk_cell BK514.out 4).trans rfl,(blk_cell BK514.out 5).trans rfl,(blk_cell BK514.out 6).trans rfl,(blk_cell BK514.out 7).trans rfl,HS8_,HS9_,HS10_,HS11_⟩ (fun hHeld=>?_)
          clear hK K
          refine norm_ (a' := ?_) ?_ ?_
          rotate_left
          ·show Act.put _ (some 60) _=_
           simp only [Act.put,zqA,zqB,zqC,i64_w,i32_w]
           rfl
          refine pure_ (i:=8) (N:=some 61) (v:=?_) (a' := ?_) #[true,true,true,true,true,true,true,true,true,false,false,false,false,false,false,false,false,false,false] rfl rfl (any_of HT_.out (by kernel_rfl)) (fun _ _ _ h=>h) (Or.inl ⟨by rfl,?_⟩) ?_ ?_
          rotate_left
          ·intro w';go_simp;with_reducible rfl
          rotate_left
          ·simp only [Act.put,zqA,zqB,zqC,i64_w,i32_w];rfl
          refine pure_ (i:=9) (N:=some 62) (v:=?_) (a' := ?_) #[true,true,true,true,true,true,true,true,true,true,false,false,false,false,false,false,false,false,false] rfl rfl (any_of HT_.out (by kernel_rfl)) (fun _ _ _ h=>h) (Or.inl ⟨by rfl,?_⟩) ?_ ?_
          rotate_left
          ·intro w';go_simp;with_reducible rfl
          rotate_left
          ·simp only [Act.put,zqA,zqB,zqC,i64_w,i32_w];rfl
          refine pure_ (i:=10) (N:=some 63) (v:=?_) (a' := ?_) #[true,true,true,true,true,true,true,true,true,true,true,false,false,false,false,false,false,false,false] rfl rfl (any_of HT_.out (by kernel_rfl)) (fun _ _ _ h=>h) (Or.inl ⟨by rfl,?_⟩) ?_ ?_
          rotate_left
          ·intro w';go_simp;with_reducible rfl
          rotate_left
          ·simp only [Act.put,zqA,zqB,zqC,i64_w,i32_w];rfl
          refine pure_ (i:=11) (N:=some 64) (v:=?_) (a' := ?_) #[true,true,true,true,true,true,true,true,true,true,true,true,false,false,false,false,false,false,false] rfl rfl (any_of HT_.out (by kernel_rfl)) (fun _ _ _ h=>h) (Or.inl ⟨by rfl,?_⟩) ?_ ?_
          rotate_left
          ·intro w';go_simp;with_reducible rfl
          rotate_left
          ·simp only [Act.put,zqA,zqB,zqC,i64_w,i32_w];rfl
          refine pure_ (i:=12) (N:=some 65) (v:=?_) (a' := ?_) #[true,true,true,true,true,true,true,true,true,true,true,true,true,false,false,false,false,false,false] rfl rfl (any_of HT_.out (by kernel_rfl)) (fun _ _ _ h=>h) (Or.inl ⟨by rfl,?_⟩) ?_ ?_
          rotate_left
          ·intro w';go_simp;with_reducible rfl
          rotate_left
          ·simp only [Act.put,zqA,zqB,zqC,i64_w,i32_w];rfl
          refine pure_ (i:=13) (N:=some 66) (v:=?_) (a' := ?_) #[true,true,true,true,true,true,true,true,true,true,true,true,true,true,false,false,false,false,false] rfl rfl (any_of HT_.out (by kernel_rfl)) (fun _ _ _ h=>h) (Or.inl ⟨by rfl,?_⟩) ?_ ?_
          rotate_left
          ·intro w';go_simp;with_reducible rfl
          rotate_left
          ·simp only [Act.put,zqA,zqB,zqC,i64_w,i32_w];rfl
          refine pure_ (i:=14) (N:=some 67) (v:=?_) (a' := ?_) #[true,true,true,true,true,true,true,true,true,true,true,true,true,true,true,false,false,false,false] rfl rfl (any_of HT_.out (by kernel_rfl)) (fun _ _ _ h=>h) (Or.inl ⟨by rfl,?_⟩) ?_ ?_
          rotate_left
          ·intro w';go_simp;with_reducible rfl
          rotate_left
          ·simp only [Act.put,zqA,zqB,zqC,i64_w,i32_w];rfl
          refine take_ (i:=15) (N:=some 68) (v:=?_) (a' := ?_) #[true,true,true,true,true,true,true,true,true,true,true,true,true,true,true,true,false,false,false] rfl rfl (take_ofW HT_.out HW_.out (by kernel_rfl)) (fun _ _ _ h=>h) (Or.inl ⟨by rfl,?_⟩) hHeld ?_ ?_
          rotate_left
          ·rintro w' ⟨s0,s1,s2,s3,s4,s5,s6,s7,s8,s9,s10,s11⟩;go_simp;with_reducible rfl
          rotate_left
          ·simp only [Act.put,zqA,zqB,zqC,i64_w,i32_w];rfl
          refine one_ (i:=16) (N:=some 69) #[true,true,true,true,true,true,true,true,true,true,true,true,true,true,true,true,true,false,false] rfl rfl (one_of HT_.out (by kernel_rfl)) (by decide) (fun K hK=>?_)
          refine goes_ Tryd.func33 (by kernel_rfl) rfl #[.slice Ao61 x11_1.length co61,.string ((rd_T41 t526 x13_2).f0)] (by rfl) rfl rfl (by (try simp only [List.map_toArray,List.map_cons,List.map_nil]);first|done|rfl|(simp only [List.length_drop,List.length_take];rfl)) ?_
          with_reducible refine (tollbarref04_In.calls k2 _ _ x11_1 ((rd_T41 t526 x13_2).f0) true _ ?side1 ?side2 A56.out).mono ?_
          (case side1=>repeat (first|exact (Kd.R_reads' HO_11.out).2.2|(with_reducible refine Kd.C_alloc ?_ _)|(with_reducible refine Kd.C_drewN ?_ _)|(with_reducible refine Kd.C_drew ?_)))
          (case side2=>exact (Kd.R_reads' HO_11.out).2.1)
          rintro e w62 ⟨rfl,hb⟩
          have HS8_:=(hb.cell (World.block_lt_of_cell? _ _ (hHeld.2.2.2.2.2.2.2.2.1))).trans (hHeld.2.2.2.2.2.2.2.2.1)
          have HS9_:=(hb.cell (World.block_lt_of_cell? _ _ (hHeld.2.2.2.2.2.2.2.2.2.1))).trans (hHeld.2.2.2.2.2.2.2.2.2.1)
          have HS10_:=(hb.cell (World.block_lt_of_cell? _ _ (hHeld.2.2.2.2.2.2.2.2.2.2.1))).trans (hHeld.2.2.2.2.2.2.2.2.2.2.1)
          have HS11_:=(hb.cell (World.block_lt_of_cell? _ _ (hHeld.2.2.2.2.2.2.2.2.2.2.2))).trans (hHeld.2.2.2.2.2.2.2.2.2.2.2)
          refine ⟨_,rfl,?_⟩
          replace HO_10:=Aside0.mk (Kd.R_below (by (with_reducible repeat (first|apply Kd.R_alloc|apply Kd.R_drewN|apply Kd.R_drew));exact HO_10.out) hb)
          replace HO_11:=Aside0.mk (Kd.R_below (by (with_reducible repeat (first|apply Kd.R_alloc|apply Kd.R_drewN|apply Kd.R_drew));exact HO_11.out) hb)
          replace HO_523003:=Aside0.mk (Kd.R_below (by (with_reducible repeat (first|apply Kd.R_alloc|apply Kd.R_drewN|apply Kd.R_drew));exact HO_523003.out) hb)
          replace HO_523004:=Aside0.mk (Kd.R_below (by (with_reducible repeat (first|apply Kd.R_alloc|apply Kd.R_drewN|apply Kd.R_drew));exact HO_523004.out) hb)
          replace BK513:=Aside0.mk (blk_below (g:=gb513) (o:=.cells #[.string a0_0,.string a0_1,.int .i64 a0_2,.slice A0_3 l0_3.length c0_3,.slice A0_4 l0_4.length c0_4] 33 (0,0)) (by (with_reducible repeat (first|refine blk_drewN ?_ _|refine blk_drew ?_|refine blk_alloc ?_ _));exact BK513.out) hb)
          replace BK514:=Aside0.mk (blk_below (g:=gb514) (o:=.cells #[.slice A1_0 l1_0.length c1_0,.slice A1_1 l1_1.length c1_1,.slice A1_2 l1_2.length c1_2,.slice A1_3 l1_3.length c1_3,.int .i64 a1_4,.int .i64 a1_5,.int .i64 a1_6,.int .i64 a1_7] 38 (0,0)) (by (with_reducible repeat (first|refine blk_drewN ?_ _|refine blk_drew ?_|refine blk_alloc ?_ _));exact BK514.out) hb)
          replace BK515:=Aside0.mk (blk_below (g:=gb515) (o:=.cells #[.string (⟨#[]⟩:ByteArray),.string (⟨#[]⟩:ByteArray),.int .i64 0,.slice none 0 0,.slice none 0 0] 33 (0,0)) (by (with_reducible repeat (first|refine blk_drewN ?_ _|refine blk_drew ?_|refine blk_alloc ?_ _));exact BK515.out) hb)
          replace BK522:=Aside0.mk (blk_below (g:=gb522) (o:=.cells #[.string a0_0,.string a3,.int .i64 1,u523003,.slice Ao18 t519.length co18] 33 (0,0)) (by (with_reducible repeat (first|refine blk_drewN ?_ _|refine blk_drew ?_|refine blk_alloc ?_ _));exact BK522.out) hb)
          replace HB:=Aside0.mk (below_step (by repeat (first|(with_reducible first|exact HB.out|apply below_alloc|apply pw_below_drewN|apply below_drew1|refine below_set ?_ GE513.out|refine below_set ?_ GE514.out|refine below_set ?_ GE515.out|refine below_set ?_ GE522.out)|exact HB.out)) hb)
          (try clear hb)
          (try clear hb2)
          (try clear hk)
          (try clear hi)
          refine hK.out _ _ ⟨(blk_cell BK514.out 0).trans rfl,(blk_cell BK514.out 1).trans rfl,(blk_cell BK514.out 2).trans rfl,(blk_cell BK514.out 3).trans rfl,(blk_cell BK514.out 4).trans rfl,(blk_cell BK514.out 5).trans rfl,(blk_cell BK514.out 6).trans rfl,(blk_cell BK514.out 7).trans rfl,HS8_,HS9_,HS10_,HS11_⟩ (fun hHeld=>?_)
          clear hK K
          refine norm_ (a' := ?_) ?_ ?_
          rotate_left
          ·show Act.put _ (some 69) _=_
           simp only [Act.put,zqA,zqB,zqC,i64_w,i32_w]
           rfl
          refine pure_ (i:=17) (N:=some 70) (v:=?_) (a' := ?_) #[true,true,true,true,true,true,true,true,true,true,true,true,true,true,true,true,true,true,false] rfl rfl (any_of HT_.out (by kernel_rfl)) (fun _ _ _ h=>h) (Or.inl ⟨by rfl,?_⟩) ?_ ?_
          rotate_left
          ·intro w';go_simp;with_reducible rfl
          rotate_left
          ·simp only [Act.put,zqA,zqB,zqC,i64_w,i32_w];rfl
          refine pure_ (i:=18) (N:=some 71) (v:=?_) (a' := ?_) #[true,true,true,true,true,true,true,true,true,true,true,true,true,true,true,true,true,true,true] rfl rfl (any_of HT_.out (by kernel_rfl)) (fun _ _ _ h=>h) (Or.inl ⟨by rfl,?_⟩) ?_ ?_
          rotate_left
          ·intro w';go_simp;with_reducible rfl
          rotate_left
          ·simp only [Act.put,zqA,zqB,zqC,i64_w,i32_w];rfl
          refine done_ (done_of HT_.out (by kernel_rfl)) ?_
          try go_wp2
          go_roundg k2
          case measure=>have:=HK1.out;have:=HK2.out;omega
          case rel=>exact ⟨(wrap64 (x13_2 + 1)),(x523003_2),(u523003),(by first|rfl|(simp;done)|(simp [*];done)),H',⟨by have:=HK1.out;have:=HK2.out;omega⟩,⟨by (with_reducible repeat (first|apply Kd.R_alloc|apply Kd.R_drewN|apply Kd.R_drew));exact HO_10.out⟩,⟨by (with_reducible repeat (first|apply Kd.R_alloc|apply Kd.R_drewN|apply Kd.R_drew));exact HO_11.out⟩,⟨by (with_reducible repeat (first|apply Kd.R_alloc|apply Kd.R_drewN|apply Kd.R_drew));exact HO_523003.out⟩,⟨by (with_reducible repeat (first|apply Kd.R_alloc|apply Kd.R_drewN|apply Kd.R_drew));exact HO_523004.out⟩,⟨by (with_reducible repeat (first|refine blk_drewN ?_ _|refine blk_drew ?_|refine blk_alloc ?_ _));exact BK513.out⟩,⟨by (with_reducible repeat (first|refine blk_drewN ?_ _|refine blk_drew ?_|refine blk_alloc ?_ _));exact BK514.out⟩,⟨by (with_reducible repeat (first|refine blk_drewN ?_ _|refine blk_drew ?_|refine blk_alloc ?_ _));exact BK515.out⟩,⟨by (with_reducible repeat (first|refine blk_drewN ?_ _|refine blk_drew ?_|refine blk_alloc ?_ _));exact BK522.out⟩,⟨by repeat (first|(with_reducible first|exact HB.out|apply below_alloc|apply pw_below_drewN|apply below_drew1|refine below_set ?_ GE513.out|refine below_set ?_ GE514.out|refine below_set ?_ GE515.out|refine below_set ?_ GE522.out)|exact HB.out)⟩⟩
         ·replace c57:=Bool.eq_false_iff.mpr c57
          subst c57
          have H1:(if x523003_2.length < 4398046511104 then (tollbarref12_Request.l1 k2 t526 x11_1 (wrap64 (x13_2 + 1)) a0_0 a0_1 a0_2 l0_3 l0_4 l1_0 l1_1 l1_2 l1_3 a1_4 a1_5 a1_6 a1_7 a0_0 a3 1 (x523003_2 ++ [(⟨(rd_T41 t526 x13_2).f0,(rd_T41 t526 x13_2).f1⟩:S41)]) t519) else (none))=some (r1,r2,r3,r4,r5):=by rw [if_neg (show ¬ (false=true) by decide)] at H;exact H
          clear H
          have H:=H1
          clear H1
          by_cases c63:x523003_2.length < 4398046511104
          ·rw [if_pos c63] at H
           have LMc63:=Aside0.mk c63
           clear c63
           obtain ⟨y541,hy541⟩ : ∃ y_:List (S41),y_=(x523003_2 ++ [(⟨(rd_T41 t526 x13_2).f0,(rd_T41 t526 x13_2).f1⟩:S41)]):=⟨_,rfl⟩
           replace H:(tollbarref12_Request.l1 k2 t526 x11_1 (wrap64 (x13_2 + 1)) a0_0 a0_1 a0_2 l0_3 l0_4 l1_0 l1_1 l1_2 l1_3 a1_4 a1_5 a1_6 a1_7 a0_0 a3 1 y541 t519)=some (r1,r2,r3,r4,r5):=by first|(rw [hy541];with_reducible exact H)|(have H2_:=(Option.bind_some _ _).symm.trans H;rw [hy541];with_reducible exact H2_)|(have H2_:=(Option.bind_some _ _).symm.trans H;with_reducible exact H2_)|with_reducible exact H|(rw [hy541];exact H)|exact H
           have Ny541:=Aside0.mk hy541
           clear hy541
           have H' := Aside0.mk H
           clear H
           obtain ⟨Ao64,co64,eo64⟩:=Kd.R_slice HO_10.out
           subst eo64
           try go_wp2
           replace HO_10:=Aside0.mk (Kd.R_drew HO_10.out)
           replace HO_11:=Aside0.mk (Kd.R_drew HO_11.out)
           replace HO_523003:=Aside0.mk (Kd.R_drew HO_523003.out)
           replace HO_523004:=Aside0.mk (Kd.R_drew HO_523004.out)
           replace BK513:=Aside0.mk (blk_drew BK513.out)
           replace BK514:=Aside0.mk (blk_drew BK514.out)
           replace BK515:=Aside0.mk (blk_drew BK515.out)
           replace BK522:=Aside0.mk (blk_drew BK522.out)
           replace HB:=Aside0.mk (below_drew1 HB.out)
           have p536:0 ≤ (x13_2:Int):=of_decide_eq_true (by first|(with_reducible assumption)|assumption)
           have q536:x13_2 < (t526.length:Int):=of_decide_eq_true (by first|(with_reducible assumption)|assumption)
           obtain ⟨ad536,e536,hx536_0,hx536_1⟩:=at_T41 (Kd.R_reads' HO_10.out).2.2 x13_2 p536 q536
           cases e536
           replace p536:=eq_true p536
           replace q536:=eq_true q536
           have p538:0 ≤ (x13_2:Int):=of_decide_eq_true (by first|(with_reducible assumption)|assumption)
           have q538:x13_2 < (t526.length:Int):=of_decide_eq_true (by first|(with_reducible assumption)|assumption)
           obtain ⟨ad538,e538,hx538_0,hx538_1⟩:=at_T41 (Kd.R_reads' HO_10.out).2.2 x13_2 p538 q538
           obtain rfl:ad536=ad538:=(by injection e538)
           replace p538:=eq_true p538
           replace q538:=eq_true q538
           refine start_ (n:=19) (S:=fun w' => w'.cell? ⟨gb514,0,none⟩=some (.slice A1_0 l1_0.length c1_0)∧w'.cell? ⟨gb514,1,none⟩=some (.slice A1_1 l1_1.length c1_1)∧w'.cell? ⟨gb514,2,none⟩=some (.slice A1_2 l1_2.length c1_2)∧w'.cell? ⟨gb514,3,none⟩=some (.slice A1_3 l1_3.length c1_3)∧w'.cell? ⟨gb514,4,none⟩=some (.int .i64 a1_4)∧w'.cell? ⟨gb514,5,none⟩=some (.int .i64 a1_5)∧w'.cell? ⟨gb514,6,none⟩=some (.int .i64 a1_6)∧w'.cell? ⟨gb514,7,none⟩=some (.int .i64 a1_7)∧w'.cell? (ad536.add ((x13_2).toNat * 2))=some (.string ((rd_T41 t526 x13_2).f0))∧w'.cell? ⟨(ad536.add ((x13_2).toNat * 2)).block,(ad536.add ((x13_2).toNat * 2)).off + 1,none⟩=some (.string ((rd_T41 t526 x13_2).f1))∧w'.cell? (ad536.add ((x13_2).toNat * 2))=some (.string ((rd_T41 t526 x13_2).f0))∧w'.cell? ⟨(ad536.add ((x13_2).toNat * 2)).block,(ad536.add ((x13_2).toNat * 2)).off + 1,none⟩=some (.string ((rd_T41 t526 x13_2).f1))) (ds:=[]) #[false,false,false,false,false,false,false,false,false,false,false,false,false,false,false,false,false,false,false] (by kernel_rfl) rfl rfl ⟨(blk_cell BK514.out 0).trans rfl,(blk_cell BK514.out 1).trans rfl,(blk_cell BK514.out 2).trans rfl,(blk_cell BK514.out 3).trans rfl,(blk_cell BK514.out 4).trans rfl,(blk_cell BK514.out 5).trans rfl,(blk_cell BK514.out 6).trans rfl,(blk_cell BK514.out 7).trans rfl,hx536_0,hx536_1,hx538_0,hx538_1⟩ (fun hHeld=>?_);refine with_tabW tollbarref12_Request.tab12 tollbarref12_Request.bits12 (fun HT_ HW_=>?_)
           generalize wr.drew=w65 at HO_10 HO_11 HO_523003 HO_523004 BK513 BK514 BK515 BK522 HB hx536_0 hx536_1 hx538_0 hx538_1 hHeld ⊢
           refine pure_ (i:=0) (N:=some 53) (v:=?_) (a' := ?_) #[true,false,false,false,false,false,false,false,false,false,false,false,false,false,false,false,false,false,false] rfl rfl (any_of HT_.out (by kernel_rfl)) (fun _ _ _ h=>h) (Or.inl ⟨by rfl,?_⟩) ?_ ?_
           rotate_left
           ·intro w';go_simp;with_reducible rfl
           rotate_left
           ·simp only [Act.put,zqA,zqB,zqC,i64_w,i32_w];rfl
           refine pure_ (i:=2) (N:=some 55) (v:=?_) (a' := ?_) #[true,false,true,false,false,false,false,false,false,false,false,false,false,false,false,false,false,false,false] rfl rfl (any_of HT_.out (by kernel_rfl)) (fun _ _ _ h=>h) (Or.inl ⟨by rfl,?_⟩) ?_ ?_
           rotate_left
           ·intro w';go_simp;with_reducible rfl
           rotate_left
           ·simp only [Act.put,zqA,zqB,zqC,i64_w,i32_w];rfl
           refine pure_ (i:=3) (N:=some 56) (v:=?_) (a' := ?_) #[true,false,true,true,false,false,false,false,false,false,false,false,false,false,false,false,false,false,false] rfl rfl (any_of HT_.out (by kernel_rfl)) (fun _ _ _ h=>h) (Or.inl ⟨by rfl,?_⟩) ?_ ?_
           rotate_left
           ·intro w';go_simp;with_reducible rfl
           rotate_left
           ·simp only [Act.put,zqA,zqB,zqC,i64_w,i32_w];rfl
           refine pure_ (i:=4) (N:=some 57) (v:=?_) (a' := ?_) #[true,false,true,true,true,false,false,false,false,false,false,false,false,false,false,false,false,false,false] rfl rfl (any_of HT_.out (by kernel_rfl)) (fun _ _ _ h=>h) (Or.inl ⟨by rfl,?_⟩) ?_ ?_
           rotate_left
           ·intro w';go_simp;with_reducible rfl
           rotate_left
           ·simp only [Act.put,zqA,zqB,zqC,i64_w,i32_w];rfl
           refine pure_ (i:=5) (N:=some 58) (v:=?_) (a' := ?_) #[true,false,true,true,true,true,false,false,false,false,false,false,false,false,false,false,false,false,false] rfl rfl (any_of HT_.out (by kernel_rfl)) (fun _ _ _ h=>h) (Or.inl ⟨by rfl,?_⟩) ?_ ?_
           rotate_left
           ·intro w';go_simp;with_reducible rfl
           rotate_left
           ·simp only [Act.put,zqA,zqB,zqC,i64_w,i32_w];rfl
           refine take_ (i:=1) (N:=some 54) (v:=?_) (a' := ?_) #[true,true,true,true,true,true,false,false,false,false,false,false,false,false,false,false,false,false,false] rfl rfl (take_ofW HT_.out HW_.out (by kernel_rfl)) (fun _ _ _ h=>h) (Or.inl ⟨by rfl,?_⟩) hHeld ?_ ?_
           rotate_left
           ·rintro w' ⟨s0,s1,s2,s3,s4,s5,s6,s7,s8,s9,s10,s11⟩;go_simp;with_reducible rfl
           rotate_left
           ·simp only [Act.put,zqA,zqB,zqC,i64_w,i32_w];rfl
           refine take_ (i:=6) (N:=some 59) (v:=?_) (a' := ?_) #[true,true,true,true,true,true,true,false,false,false,false,false,false,false,false,false,false,false,false] rfl rfl (take_ofW HT_.out HW_.out (by kernel_rfl)) (fun _ _ _ h=>h) (Or.inl ⟨by rfl,?_⟩) hHeld ?_ ?_
           rotate_left
           ·rintro w' ⟨s0,s1,s2,s3,s4,s5,s6,s7,s8,s9,s10,s11⟩;go_simp;with_reducible rfl
           rotate_left
           ·simp only [Act.put,zqA,zqB,zqC,i64_w,i32_w];rfl
           refine one_ (i:=7) (N:=some 60) #[true,true,true,true,true,true,true,true,false,false,false,false,false,false,false,false,false,false,false] rfl rfl (one_of HT_.out (by kernel_rfl)) (by decide) (fun K hK=>?_)
           refine goes_ Tryd.func33 (by kernel_rfl) rfl #[.slice A1_3 l1_3.length c1_3,.string ((rd_T41 t526 x13_2).f0)] (by rfl) rfl rfl (by (try simp only [List.map_toArray,List.map_cons,List.map_nil]);first|done|rfl|(simp only [List.length_drop,List.length_take];rfl)) ?_
           with_reducible refine (tollbarref04_In.calls k2 _ _ l1_3 ((rd_T41 t526 x13_2).f0) false _ ?side1 ?side2 A51.out).mono ?_
           (case side1=>repeat (first|exact (Kd.C_below HR1_3.out HB.out)|(with_reducible refine Kd.C_alloc ?_ _)|(with_reducible refine Kd.C_drewN ?_ _)|(with_reducible refine Kd.C_drew ?_)))
           (case side2=>exact HC1_3.out)
           rintro e w66 ⟨rfl,hb⟩
           have HS8_:=(hb.cell (World.block_lt_of_cell? _ _ (hHeld.2.2.2.2.2.2.2.2.1))).trans (hHeld.2.2.2.2.2.2.2.2.1)
           have HS9_:=(hb.cell (World.block_lt_of_cell? _ _ (hHeld.2.2.2.2.2.2.2.2.2.1))).trans (hHeld.2.2.2.2.2.2.2.2.2.1)
           have HS10_:=(hb.cell (World.block_lt_of_cell? _ _ (hHeld.2.2.2.2.2.2.2.2.2.2.1))).trans (hHeld.2.2.2.2.2.2.2.2.2.2.1)
           have HS11_:=(hb.cell (World.block_lt_of_cell? _ _ (hHeld.2.2.2.2.2.2.2.2.2.2.2))).trans (hHeld.2.2.2.2.2.2.2.2.2.2.2)
           refine ⟨_,rfl,?_⟩
           replace HO_10:=Aside0.mk (Kd.R_below (by (with_reducible repeat (first|apply Kd.R_alloc|apply Kd.R_drewN|apply Kd.R_drew));exact HO_10.out) hb)
           replace HO_11:=Aside0.mk (Kd.R_below (by (with_reducible repeat (first|apply Kd.R_alloc|apply Kd.R_drewN|apply Kd.R_drew));exact HO_11.out) hb)
           replace HO_523003:=Aside0.mk (Kd.R_below (by (with_reducible repeat (first|apply Kd.R_alloc|apply Kd.R_drewN|apply Kd.R_drew));exact HO_523003.out) hb)
           replace HO_523004:=Aside0.mk (Kd.R_below (by (with_reducible repeat (first|apply Kd.R_alloc|apply Kd.R_drewN|apply Kd.R_drew));exact HO_523004.out) hb)
           replace BK513:=Aside0.mk (blk_below (g:=gb513) (o:=.cells #[.string a0_0,.string a0_1,.int .i64 a0_2,.slice A0_3 l0_3.length c0_3,.slice A0_4 l0_4.length c0_4] 33 (0,0)) (by (with_reducible repeat (first|refine blk_drewN ?_ _|refine blk_drew ?_|refine blk_alloc ?_ _));exact BK513.out) hb)
           replace BK514:=Aside0.mk (blk_below (g:=gb514) (o:=.cells #[.slice A1_0 l1_0.length c1_0,.slice A1_1 l1_1.length c1_1,.slice A1_2 l1_2.length c1_2,.slice A1_3 l1_3.length c1_3,.int .i64 a1_4,.int .i64 a1_5,.int .i64 a1_6,.int .i64 a1_7] 38 (0,0)) (by (with_reducible repeat (first|refine blk_drewN ?_ _|refine blk_drew ?_|refine blk_alloc ?_ _));exact BK514.out) hb)
           replace BK515:=Aside0.mk (blk_below (g:=gb515) (o:=.cells #[.string (⟨#[]⟩:ByteArray),.string (⟨#[]⟩:ByteArray),.int .i64 0,.slice none 0 0,.slice none 0 0] 33 (0,0)) (by (with_reducible repeat (first|refine blk_drewN ?_ _|refine blk_drew ?_|refine blk_alloc ?_ _));exact BK515.out) hb)
           replace BK522:=Aside0.mk (blk_below (g:=gb522) (o:=.cells #[.string a0_0,.string a3,.int .i64 1,u523003,.slice Ao18 t519.length co18] 33 (0,0)) (by (with_reducible repeat (first|refine blk_drewN ?_ _|refine blk_drew ?_|refine blk_alloc ?_ _));exact BK522.out) hb)
           replace HB:=Aside0.mk (below_step (by repeat (first|(with_reducible first|exact HB.out|apply below_alloc|apply pw_below_drewN|apply below_drew1|refine below_set ?_ GE513.out|refine below_set ?_ GE514.out|refine below_set ?_ GE515.out|refine below_set ?_ GE522.out)|exact HB.out)) hb)
           (try clear hb)
           (try clear hb2)
           (try clear hk)
           (try clear hi)
           obtain ⟨Ao67,co67,eo67⟩:=Kd.R_slice HO_11.out
           (first|subst eo67|(injection eo67 with f1_ f2_ f3_;have f4_:=f1_.symm;have f5_:=f3_.symm;clear f1_ f2_ f3_;subst f4_;subst f5_))
           refine hK.out _ _ ⟨(blk_cell BK514.out 0).trans rfl,(blk_cell BK514.out 1).trans rfl,(blk_cell BK514.out 2).trans rfl,(blk_cell BK514.out 3).trans rfl,(blk_cell BK514.out 4).trans rfl,(blk_cell BK514.out 5).trans rfl,(blk_cell BK514.out 6).trans rfl,(blk_cell BK514.out 7).trans rfl,HS8_,HS9_,HS10_,HS11_⟩ (fun hHeld=>?_)
           clear hK K
           refine norm_ (a' := ?_) ?_ ?_
           rotate_left
           ·show Act.put _ (some 60) _=_
            simp only [Act.put,zqA,zqB,zqC,i64_w,i32_w]
            rfl
           refine pure_ (i:=8) (N:=some 61) (v:=?_) (a' := ?_) #[true,true,true,true,true,true,true,true,true,false,false,false,false,false,false,false,false,false,false] rfl rfl (any_of HT_.out (by kernel_rfl)) (fun _ _ _ h=>h) (Or.inl ⟨by rfl,?_⟩) ?_ ?_
           rotate_left
           ·intro w';go_simp;with_reducible rfl
           rotate_left
           ·simp only [Act.put,zqA,zqB,zqC,i64_w,i32_w];rfl
           refine pure_ (i:=9) (N:=some 62) (v:=?_) (a' := ?_) #[true,true,true,true,true,true,true,true,true,true,false,false,false,false,false,false,false,false,false] rfl rfl (any_of HT_.out (by kernel_rfl)) (fun _ _ _ h=>h) (Or.inl ⟨by rfl,?_⟩) ?_ ?_
           rotate_left
           ·intro w';go_simp;with_reducible rfl
           rotate_left
           ·simp only [Act.put,zqA,zqB,zqC,i64_w,i32_w];rfl
           refine pure_ (i:=10) (N:=some 63) (v:=?_) (a' := ?_) #[true,true,true,true,true,true,true,true,true,true,true,false,false,false,false,false,false,false,false] rfl rfl (any_of HT_.out (by kernel_rfl)) (fun _ _ _ h=>h) (Or.inl ⟨by rfl,?_⟩) ?_ ?_
           rotate_left
           ·intro w';go_simp;with_reducible rfl
           rotate_left
           ·simp only [Act.put,zqA,zqB,zqC,i64_w,i32_w];rfl
           refine pure_ (i:=11) (N:=some 64) (v:=?_) (a' := ?_) #[true,true,true,true,true,true,true,true,true,true,true,true,false,false,false,false,false,false,false] rfl rfl (any_of HT_.out (by kernel_rfl)) (fun _ _ _ h=>h) (Or.inl ⟨by rfl,?_⟩) ?_ ?_
           rotate_left
           ·intro w';go_simp;with_reducible rfl
           rotate_left
           ·simp only [Act.put,zqA,zqB,zqC,i64_w,i32_w];rfl
           refine pure_ (i:=12) (N:=some 65) (v:=?_) (a' := ?_) #[true,true,true,true,true,true,true,true,true,true,true,true,true,false,false,false,false,false,false] rfl rfl (any_of HT_.out (by kernel_rfl)) (fun _ _ _ h=>h) (Or.inl ⟨by rfl,?_⟩) ?_ ?_
           rotate_left
           ·intro w';go_simp;with_reducible rfl
           rotate_left
           ·simp only [Act.put,zqA,zqB,zqC,i64_w,i32_w];rfl
           refine pure_ (i:=13) (N:=some 66) (v:=?_) (a' := ?_) #[true,true,true,true,true,true,true,true,true,true,true,true,true,true,false,false,false,false,false] rfl rfl (any_of HT_.out (by kernel_rfl)) (fun _ _ _ h=>h) (Or.inl ⟨by rfl,?_⟩) ?_ ?_
           rotate_left
           ·intro w';go_simp;with_reducible rfl
           rotate_left
           ·simp only [Act.put,zqA,zqB,zqC,i64_w,i32_w];rfl
           refine pure_ (i:=14) (N:=some 67) (v:=?_) (a' := ?_) #[true,true,true,true,true,true,true,true,true,true,true,true,true,true,true,false,false,false,false] rfl rfl (any_of HT_.out (by kernel_rfl)) (fun _ _ _ h=>h) (Or.inl ⟨by rfl,?_⟩) ?_ ?_
           rotate_left
           ·intro w';go_simp;with_reducible rfl
           rotate_left
           ·simp only [Act.put,zqA,zqB,zqC,i64_w,i32_w];rfl
           refine take_ (i:=15) (N:=some 68) (v:=?_) (a' := ?_) #[true,true,true,true,true,true,true,true,true,true,true,true,true,true,true,true,false,false,false] rfl rfl (take_ofW HT_.out HW_.out (by kernel_rfl)) (fun _ _ _ h=>h) (Or.inl ⟨by rfl,?_⟩) hHeld ?_ ?_
           rotate_left
           ·rintro w' ⟨s0,s1,s2,s3,s4,s5,s6,s7,s8,s9,s10,s11⟩;go_simp;with_reducible rfl
           rotate_left
           ·simp only [Act.put,zqA,zqB,zqC,i64_w,i32_w];rfl
           refine one_ (i:=16) (N:=some 69) #[true,true,true,true,true,true,true,true,true,true,true,true,true,true,true,true,true,false,false] rfl rfl (one_of HT_.out (by kernel_rfl)) (by decide) (fun K hK=>?_)
           refine goes_ Tryd.func33 (by kernel_rfl) rfl #[.slice Ao67 x11_1.length co67,.string ((rd_T41 t526 x13_2).f0)] (by rfl) rfl rfl (by (try simp only [List.map_toArray,List.map_cons,List.map_nil]);first|done|rfl|(simp only [List.length_drop,List.length_take];rfl)) ?_
           with_reducible refine (tollbarref04_In.calls k2 _ _ x11_1 ((rd_T41 t526 x13_2).f0) false _ ?side1 ?side2 A56.out).mono ?_
           (case side1=>repeat (first|exact (Kd.R_reads' HO_11.out).2.2|(with_reducible refine Kd.C_alloc ?_ _)|(with_reducible refine Kd.C_drewN ?_ _)|(with_reducible refine Kd.C_drew ?_)))
           (case side2=>exact (Kd.R_reads' HO_11.out).2.1)
           rintro e w68 ⟨rfl,hb⟩
           have HS8_:=(hb.cell (World.block_lt_of_cell? _ _ (hHeld.2.2.2.2.2.2.2.2.1))).trans (hHeld.2.2.2.2.2.2.2.2.1)
           have HS9_:=(hb.cell (World.block_lt_of_cell? _ _ (hHeld.2.2.2.2.2.2.2.2.2.1))).trans (hHeld.2.2.2.2.2.2.2.2.2.1)
           have HS10_:=(hb.cell (World.block_lt_of_cell? _ _ (hHeld.2.2.2.2.2.2.2.2.2.2.1))).trans (hHeld.2.2.2.2.2.2.2.2.2.2.1)
           have HS11_:=(hb.cell (World.block_lt_of_cell? _ _ (hHeld.2.2.2.2.2.2.2.2.2.2.2))).trans (hHeld.2.2.2.2.2.2.2.2.2.2.2)
           refine ⟨_,rfl,?_⟩
           replace HO_10:=Aside0.mk (Kd.R_below (by (with_reducible repeat (first|apply Kd.R_alloc|apply Kd.R_drewN|apply Kd.R_drew));exact HO_10.out) hb)
           replace HO_11:=Aside0.mk (Kd.R_below (by (with_reducible repeat (first|apply Kd.R_alloc|apply Kd.R_drewN|apply Kd.R_drew));exact HO_11.out) hb)
           replace HO_523003:=Aside0.mk (Kd.R_below (by (with_reducible repeat (first|apply Kd.R_alloc|apply Kd.R_drewN|apply Kd.R_drew));exact HO_523003.out) hb)
           replace HO_523004:=Aside0.mk (Kd.R_below (by (with_reducible repeat (first|apply Kd.R_alloc|apply Kd.R_drewN|apply Kd.R_drew));exact HO_523004.out) hb)
           replace BK513:=Aside0.mk (blk_below (g:=gb513) (o:=.cells #[.string a0_0,.string a0_1,.int .i64 a0_2,.slice A0_3 l0_3.length c0_3,.slice A0_4 l0_4.length c0_4] 33 (0,0)) (by (with_reducible repeat (first|refine blk_drewN ?_ _|refine blk_drew ?_|refine blk_alloc ?_ _));exact BK513.out) hb)
           replace BK514:=Aside0.mk (blk_below (g:=gb514) (o:=.cells #[.slice A1_0 l1_0.length c1_0,.slice A1_1 l1_1.length c1_1,.slice A1_2 l1_2.length c1_2,.slice A1_3 l1_3.length c1_3,.int .i64 a1_4,.int .i64 a1_5,.int .i64 a1_6,.int .i64 a1_7] 38 (0,0)) (by (with_reducible repeat (first|refine blk_drewN ?_ _|refine blk_drew ?_|refine blk_alloc ?_ _));exact BK514.out) hb)
           replace BK515:=Aside0.mk (blk_below (g:=gb515) (o:=.cells #[.string (⟨#[]⟩:ByteArray),.string (⟨#[]⟩:ByteArray),.int .i64 0,.slice none 0 0,.slice none 0 0] 33 (0,0)) (by (with_reducible repeat (first|refine blk_drewN ?_ _|refine blk_drew ?_|refine blk_alloc ?_ _));exact BK515.out) hb)
           replace BK522:=Aside0.mk (blk_below (g:=gb522) (o:=.cells #[.string a0_0,.string a3,.int .i64 1,u523003,.slice Ao18 t519.length co18] 33 (0,0)) (by (with_reducible repeat (first|refine blk_drewN ?_ _|refine blk_drew ?_|refine blk_alloc ?_ _));exact BK522.out) hb)
           replace HB:=Aside0.mk (below_step (by repeat (first|(with_reducible first|exact HB.out|apply below_alloc|apply pw_below_drewN|apply below_drew1|refine below_set ?_ GE513.out|refine below_set ?_ GE514.out|refine below_set ?_ GE515.out|refine below_set ?_ GE522.out)|exact HB.out)) hb)
           (try clear hb)
           (try clear hb2)
           (try clear hk)
           (try clear hi)
           refine hK.out _ _ ⟨(blk_cell BK514.out 0).trans rfl,(blk_cell BK514.out 1).trans rfl,(blk_cell BK514.out 2).trans rfl,(blk_cell BK514.out 3).trans rfl,(blk_cell BK514.out 4).trans rfl,(blk_cell BK514.out 5).trans rfl,(blk_cell BK514.out 6).trans rfl,(blk_cell BK514.out 7).trans rfl,HS8_,HS9_,HS10_,HS11_⟩ (fun hHeld=>?_)
           clear hK K
           refine norm_ (a' := ?_) ?_ ?_
           rotate_left
           ·show Act.put _ (some 69) _=_
            simp only [Act.put,zqA,zqB,zqC,i64_w,i32_w]
            rfl
           refine pure_ (i:=17) (N:=some 70) (v:=?_) (a' := ?_) #[true,true,true,true,true,true,true,true,true,true,true,true,true,true,true,true,true,true,false] rfl rfl (any_of HT_.out (by kernel_rfl)) (fun _ _ _ h=>h) (Or.inl ⟨by rfl,?_⟩) ?_ ?_
           rotate_left
           ·intro w';go_simp;with_reducible rfl
           rotate_left
           ·simp only [Act.put,zqA,zqB,zqC,i64_w,i32_w];rfl
           refine pure_ (i:=18) (N:=some 71) (v:=?_) (a' := ?_) #[true,true,true,true,true,true,true,true,true,true,true,true,true,true,true,true,true,true,true] rfl rfl (any_of HT_.out (by kernel_rfl)) (fun _ _ _ h=>h) (Or.inl ⟨by rfl,?_⟩) ?_ ?_
           rotate_left
           ·intro w';go_simp;with_reducible rfl
           rotate_left
           ·simp only [Act.put,zqA,zqB,zqC,i64_w,i32_w];rfl
           refine done_ (done_of HT_.out (by kernel_rfl)) ?_
           try go_wp2
           replace HO_10:=Aside0.mk (Kd.R_drew HO_10.out)
           replace HO_11:=Aside0.mk (Kd.R_drew HO_11.out)
           replace HO_523003:=Aside0.mk (Kd.R_drew HO_523003.out)
           replace HO_523004:=Aside0.mk (Kd.R_drew HO_523004.out)
           replace BK513:=Aside0.mk (blk_drew BK513.out)
           replace BK514:=Aside0.mk (blk_drew BK514.out)
           replace BK515:=Aside0.mk (blk_drew BK515.out)
           replace BK522:=Aside0.mk (blk_drew BK522.out)
           replace HB:=Aside0.mk (below_drew1 HB.out)
           have p540:0 ≤ (x13_2:Int):=of_decide_eq_true (by first|(with_reducible assumption)|assumption)
           have q540:x13_2 < (t526.length:Int):=of_decide_eq_true (by first|(with_reducible assumption)|assumption)
           obtain ⟨ad540,e540,hx540_0,hx540_1⟩:=at_T41 (Kd.R_reads' HO_10.out).2.2 x13_2 p540 q540
           obtain rfl:ad536=ad540:=(by injection e540)
           replace p540:=eq_true p540
           replace q540:=eq_true q540
           refine start_ (n:=10) (S:=fun w' => w'.cell? ⟨gb522,0,none⟩=some (.string a0_0)∧w'.cell? ⟨gb522,1,none⟩=some (.string a3)∧w'.cell? ⟨gb522,2,none⟩=some (.int .i64 1)∧w'.cell? ⟨gb522,3,none⟩=some (u523003)∧w'.cell? ⟨gb522,4,none⟩=some (.slice Ao18 t519.length co18)∧w'.cell? (ad536.add ((x13_2).toNat * 2))=some (.string ((rd_T41 t526 x13_2).f0))∧w'.cell? ⟨(ad536.add ((x13_2).toNat * 2)).block,(ad536.add ((x13_2).toNat * 2)).off + 1,none⟩=some (.string ((rd_T41 t526 x13_2).f1))) (ds:=[7,9]) #[false,false,false,false,false,false,false,false,false,false] (by kernel_rfl) rfl rfl ⟨(blk_cell BK522.out 0).trans rfl,(blk_cell BK522.out 1).trans rfl,(blk_cell BK522.out 2).trans rfl,(blk_cell BK522.out 3).trans rfl,(blk_cell BK522.out 4).trans rfl,hx540_0,hx540_1⟩ (fun hHeld=>?_);refine with_tabW tollbarref12_Request.tab13 tollbarref12_Request.bits13 (fun HT_ HW_=>?_)
           generalize w68.drew=w69 at HO_10 HO_11 HO_523003 HO_523004 BK513 BK514 BK515 BK522 HB hx540_0 hx540_1 hHeld ⊢
           refine pure_ (i:=0) (N:=some 72) (v:=?_) (a' := ?_) #[true,false,false,false,false,false,false,false,false,false] rfl rfl (any_of HT_.out (by kernel_rfl)) (fun _ _ _ h=>h) (Or.inl ⟨by rfl,?_⟩) ?_ ?_
           rotate_left
           ·intro w';go_simp;with_reducible rfl
           rotate_left
           ·simp only [Act.put,zqA,zqB,zqC,i64_w,i32_w];rfl
           refine pure_ (i:=2) (N:=some 74) (v:=?_) (a' := ?_) #[true,false,true,false,false,false,false,false,false,false] rfl rfl (any_of HT_.out (by kernel_rfl)) (fun _ _ _ h=>h) (Or.inl ⟨by rfl,?_⟩) ?_ ?_
           rotate_left
           ·intro w';go_simp;with_reducible rfl
           rotate_left
           ·simp only [Act.put,zqA,zqB,zqC,i64_w,i32_w];rfl
           refine pure_ (i:=3) (N:=some 75) (v:=?_) (a' := ?_) #[true,false,true,true,false,false,false,false,false,false] rfl rfl (any_of HT_.out (by kernel_rfl)) (fun _ _ _ h=>h) (Or.inl ⟨by rfl,?_⟩) ?_ ?_
           rotate_left
           ·intro w';go_simp;with_reducible rfl
           rotate_left
           ·simp only [Act.put,zqA,zqB,zqC,i64_w,i32_w];rfl
           refine pure_ (i:=4) (N:=some 76) (v:=?_) (a' := ?_) #[true,false,true,true,true,false,false,false,false,false] rfl rfl (any_of HT_.out (by kernel_rfl)) (fun _ _ _ h=>h) (Or.inl ⟨by rfl,?_⟩) ?_ ?_
           rotate_left
           ·intro w';go_simp;with_reducible rfl
           rotate_left
           ·simp only [Act.put,zqA,zqB,zqC,i64_w,i32_w];rfl
           refine take_ (i:=1) (N:=some 73) (v:=?_) (a' := ?_) #[true,true,true,true,true,false,false,false,false,false] rfl rfl (take_ofW HT_.out HW_.out (by kernel_rfl)) (fun _ _ _ h=>h) (Or.inl ⟨by rfl,?_⟩) hHeld ?_ ?_
           rotate_left
           ·rintro w' ⟨s0,s1,s2,s3,s4,s5,s6⟩;go_simp;with_reducible rfl
           rotate_left
           ·simp only [Act.put,zqA,zqB,zqC,i64_w,i32_w];rfl
           refine take_ (i:=5) (N:=some 77) (v:=?_) (a' := ?_) #[true,true,true,true,true,true,false,false,false,false] rfl rfl (take_ofW HT_.out HW_.out (by kernel_rfl)) (fun _ _ _ h=>h) (Or.inl ⟨by rfl,?_⟩) hHeld ?_ ?_
           rotate_left
           ·rintro w' ⟨s0,s1,s2,s3,s4,s5,s6⟩;go_simp;with_reducible rfl
           rotate_left
           ·simp only [Act.put,zqA,zqB,zqC,i64_w,i32_w];rfl
           refine one_ (i:=6) (N:=some 78) #[true,true,true,true,true,true,true,false,false,false] rfl rfl (one_of HT_.out (by kernel_rfl)) (by decide) (fun K hK=>?_)
           refine value_ (w1:=?_) (v:=?_) (by rfl) rfl ?_ ?_
           rotate_left 2
           ·go_simp
            constructor
            ·rfl
            ·rfl
           refine hK.out _ _ ⟨(blk_cell (blk_alloc BK522.out _) 0).trans rfl,(blk_cell (blk_alloc BK522.out _) 1).trans rfl,(blk_cell (blk_alloc BK522.out _) 2).trans rfl,(blk_cell (blk_alloc BK522.out _) 3).trans rfl,(blk_cell (blk_alloc BK522.out _) 4).trans rfl,(World.cell?_alloc_lt _ _ _ (World.block_lt_of_cell? _ _ (hHeld.2.2.2.2.2.1))).trans (hHeld.2.2.2.2.2.1),(World.cell?_alloc_lt _ _ _ (World.block_lt_of_cell? _ _ (hHeld.2.2.2.2.2.2))).trans (hHeld.2.2.2.2.2.2)⟩ (fun hHeld=>?_)
           clear hK K
           refine norm_ (a' := ?_) ?_ ?_
           rotate_left
           ·show Act.put _ (some 78) _=_
            simp only [Act.put,zqA,zqB,zqC,i64_w,i32_w]
            rfl
           refine last_ (i:=7) (N:=some 79) #[true,true,true,true,true,true,true,true,false,false] rfl rfl (one_of HT_.out (by kernel_rfl)) (by decide) (fun K hK=>?_)
           refine Kd.R_append_step k41 (w0:=w) w.heap.size (by rfl) (.tmp 73) (.tmp 78) 31 41 (.agg #[(.string ⟨#[]⟩),(.string ⟨#[]⟩)]) 32 rfl Tryd.underlying31 info41 rfl (by decide) (by omega) u523003 x523003_2 (⟨(rd_T41 t526 x13_2).f0,(rd_T41 t526 x13_2).f1⟩:S41) [.string ((rd_T41 t526 x13_2).f0),.string ((rd_T41 t526 x13_2).f1)] (fun k_=>some k_ ≠ (.slice (some ad536) t526.length co64:Value).ownBlock) (fun _=>False) rfl rfl ?aP (fun _ hk=>hk.elim) ?aF ?aO ?aB ?aS ?aL ?_
           (case aP=>exact k41_mkM _ _ _ (⟨(rd_T41 t526 x13_2).f0,(rd_T41 t526 x13_2).f1⟩:S41))
           (case aB=>exact (by repeat (first|(with_reducible first|exact HB.out|apply below_alloc|apply pw_below_drewN|apply below_drew1|refine below_set ?_ GE513.out|refine below_set ?_ GE514.out|refine below_set ?_ GE515.out|refine below_set ?_ GE522.out)|exact HB.out)))
           (case aF=>exact (fun k_ hk=>Kd.fresh' (Kd.R_lt (by (with_reducible repeat (first|apply Kd.R_alloc|apply Kd.R_drewN|apply Kd.R_drew));exact HO_10.out)) k_ hk))
           (case aO=>exact (by (with_reducible repeat (first|apply Kd.R_alloc|apply Kd.R_drewN|apply Kd.R_drew));exact HO_523003.out))
           (case aS=>exact (below_size (by repeat (first|(with_reducible first|exact HB.out|apply below_alloc|apply pw_below_drewN|apply below_drew1|refine below_set ?_ GE513.out|refine below_set ?_ GE514.out|refine below_set ?_ GE515.out|refine below_set ?_ GE522.out)|exact HB.out))))
           (case aL=>have:=LMc63.out;omega)
           intro v542 w70 ho hb hg hat
           rw [← Ny541.out] at ho
           have n0_:=Aside0.mk (Kd.R_after (ok:=(fun _=>True)) (by (with_reducible repeat (first|apply Kd.R_alloc|apply Kd.R_drewN|apply Kd.R_drew));exact Kd.R_mono HO_10.out (fun _ hk=>⟨trivial,hk⟩)) hg hat)
           have n1_:=Aside0.mk (Kd.R_over' (by (with_reducible repeat (first|apply Kd.R_alloc|apply Kd.R_drewN|apply Kd.R_drew));exact HO_11.out) (Kd.R_typed (by (with_reducible repeat (first|apply Kd.R_alloc|apply Kd.R_drewN|apply Kd.R_drew));exact HO_523003.out)) (by decide) hg)
           have n2_:=Aside0.mk (Kd.R_over' (by (with_reducible repeat (first|apply Kd.R_alloc|apply Kd.R_drewN|apply Kd.R_drew));exact HO_523004.out) (Kd.R_typed (by (with_reducible repeat (first|apply Kd.R_alloc|apply Kd.R_drewN|apply Kd.R_drew));exact HO_523003.out)) (by decide) hg)
           have n3_:=Aside0.mk (blk_grown (g:=gb513) (o:=.cells #[.string a0_0,.string a0_1,.int .i64 a0_2,.slice A0_3 l0_3.length c0_3,.slice A0_4 l0_4.length c0_4] 33 (0,0)) (by (with_reducible repeat (first|refine blk_drewN ?_ _|refine blk_drew ?_|refine blk_alloc ?_ _));exact BK513.out) hg (Kd.R_ne HO_523003.out BK513.out (by decide)))
           have n4_:=Aside0.mk (blk_grown (g:=gb514) (o:=.cells #[.slice A1_0 l1_0.length c1_0,.slice A1_1 l1_1.length c1_1,.slice A1_2 l1_2.length c1_2,.slice A1_3 l1_3.length c1_3,.int .i64 a1_4,.int .i64 a1_5,.int .i64 a1_6,.int .i64 a1_7] 38 (0,0)) (by (with_reducible repeat (first|refine blk_drewN ?_ _|refine blk_drew ?_|refine blk_alloc ?_ _));exact BK514.out) hg (Kd.R_ne HO_523003.out BK514.out (by decide)))
           have n5_:=Aside0.mk (blk_grown (g:=gb515) (o:=.cells #[.string (⟨#[]⟩:ByteArray),.string (⟨#[]⟩:ByteArray),.int .i64 0,.slice none 0 0,.slice none 0 0] 33 (0,0)) (by (with_reducible repeat (first|refine blk_drewN ?_ _|refine blk_drew ?_|refine blk_alloc ?_ _));exact BK515.out) hg (Kd.R_ne HO_523003.out BK515.out (by decide)))
           have n6_:=Aside0.mk (blk_grown (g:=gb522) (o:=.cells #[.string a0_0,.string a3,.int .i64 1,u523003,.slice Ao18 t519.length co18] 33 (0,0)) (by (with_reducible repeat (first|refine blk_drewN ?_ _|refine blk_drew ?_|refine blk_alloc ?_ _));exact BK522.out) hg (Kd.R_ne HO_523003.out BK522.out (by decide)))
           have n7_:=Aside0.mk (hb)
           have n8_:=Aside0.mk (ho)
           clear HO_10 HO_11 HO_523004 BK513 BK514 BK515 BK522 HB HO_523003
           have HO_10:=n0_
           have HO_11:=n1_
           have HO_523004:=n2_
           have BK513:=n3_
           have BK514:=n4_
           have BK515:=n5_
           have BK522:=n6_
           have HB:=n7_
           have HO543:=n8_
           clear n0_ n1_ n2_ n3_ n4_ n5_ n6_ n7_ n8_ ho hb hg hat
           obtain ⟨Ao71,co71,eo71⟩:=Kd.R_slice HO543.out
           (first|subst eo71|(injection eo71 with f1_ f2_ f3_;have f4_:=f1_.symm;have f5_:=f3_.symm;clear f1_ f2_ f3_;subst f4_;subst f5_))
           refine hK.out _ _ ?_
           clear hK K
           refine norm_ (a' := ?_) ?_ ?_
           rotate_left
           ·show Act.put _ (some 79) _=_
            simp only [Act.put,zqA,zqB,zqC,i64_w,i32_w]
            rfl
           refine pure_ (i:=8) (N:=some 80) (v:=?_) (a' := ?_) #[true,true,true,true,true,true,true,true,true,false] rfl rfl (any_of HT_.out (by kernel_rfl)) (fun _ _ _ h=>h) (Or.inl ⟨by rfl,?_⟩) ?_ ?_
           rotate_left
           ·intro w';go_simp;with_reducible rfl
           rotate_left
           ·simp only [Act.put,zqA,zqB,zqC,i64_w,i32_w];rfl
           refine last_ (i:=9) (N:=none) #[true,true,true,true,true,true,true,true,true,true] rfl rfl (one_of HT_.out (by kernel_rfl)) (by decide) (fun K hK=>?_)
           have hs72:w70.cell? ⟨gb522,3,none⟩=some (u523003):=(blk_cell BK522.out 3).trans rfl
           have hfs72:=blk_frozen BK522.out 3
           have hns72_0:=NB513_522.out
           have hns72_1:=NB514_522.out
           have hns72_2:=NB515_522.out
           have hms72_0:=NB522_513.out
           have hms72_1:=NB522_514.out
           have hms72_2:=NB522_515.out
           refine skip_ (w1:=?_) (by rfl) rfl ?_ ?_
           rotate_left
           ·go_simp
            rfl
           refine hK.out _ _ ?_
           clear hK K
           refine done_ (done_of HT_.out (by kernel_rfl)) ?_
           try go_wp2
           go_roundg k2
           case measure=>have:=HK1.out;have:=HK2.out;omega
           case rel=>exact ⟨(wrap64 (x13_2 + 1)),(y541),(.slice Ao71 y541.length co71),(by first|rfl|(simp;done)|(simp [*];done)),H',⟨by have:=HK1.out;have:=HK2.out;omega⟩,⟨by (with_reducible repeat (first|apply Kd.R_alloc|apply Kd.R_drewN|apply Kd.R_drew));exact Kd.R_mono (Kd.R_far (p:=⟨gb522,3,none⟩) (Kd.R_types HO_10.out BK522.out (by decide)) (fun _ hk=>hk.2) (.slice Ao71 y541.length co71)) (fun _ hk=>hk.1.2)⟩,⟨by (with_reducible repeat (first|apply Kd.R_alloc|apply Kd.R_drewN|apply Kd.R_drew));exact Kd.R_mono (Kd.R_far (p:=⟨gb522,3,none⟩) (Kd.R_types HO_11.out BK522.out (by decide)) (fun _ hk=>hk.2) (.slice Ao71 y541.length co71)) (fun _ hk=>trivial)⟩,⟨by (with_reducible repeat (first|apply Kd.R_alloc|apply Kd.R_drewN|apply Kd.R_drew));exact Kd.R_mono (Kd.R_far (p:=⟨gb522,3,none⟩) (Kd.R_types HO543.out BK522.out (by decide)) (fun _ hk=>hk.2) (.slice Ao71 y541.length co71)) (fun _ hk=>hk.1)⟩,⟨by (with_reducible repeat (first|apply Kd.R_alloc|apply Kd.R_drewN|apply Kd.R_drew));exact Kd.R_mono (Kd.R_far (p:=⟨gb522,3,none⟩) (Kd.R_types HO_523004.out BK522.out (by decide)) (fun _ hk=>hk.2) (.slice Ao71 y541.length co71)) (fun _ hk=>trivial)⟩,⟨by (with_reducible repeat (first|refine blk_drewN ?_ _|refine blk_drew ?_|refine blk_alloc ?_ _));refine blk_far ?_ NB513_522.out _;(with_reducible repeat (first|refine blk_drewN ?_ _|refine blk_drew ?_|refine blk_alloc ?_ _));exact BK513.out⟩,⟨by (with_reducible repeat (first|refine blk_drewN ?_ _|refine blk_drew ?_|refine blk_alloc ?_ _));refine blk_far ?_ NB514_522.out _;(with_reducible repeat (first|refine blk_drewN ?_ _|refine blk_drew ?_|refine blk_alloc ?_ _));exact BK514.out⟩,⟨by (with_reducible repeat (first|refine blk_drewN ?_ _|refine blk_drew ?_|refine blk_alloc ?_ _));refine blk_far ?_ NB515_522.out _;(with_reducible repeat (first|refine blk_drewN ?_ _|refine blk_drew ?_|refine blk_alloc ?_ _));exact BK515.out⟩,⟨by (with_reducible repeat (first|refine blk_drewN ?_ _|refine blk_drew ?_|refine blk_alloc ?_ _));refine blk_put (cs:=#[.string a0_0,.string a3,.int .i64 1,u523003,.slice Ao18 t519.length co18]) ?_ 3 _ rfl;(with_reducible repeat (first|refine blk_drewN ?_ _|refine blk_drew ?_|refine blk_alloc ?_ _));exact BK522.out⟩,⟨by repeat (first|(with_reducible first|exact HB.out|apply below_alloc|apply pw_below_drewN|apply below_drew1|refine below_set ?_ GE513.out|refine below_set ?_ GE514.out|refine below_set ?_ GE515.out|refine below_set ?_ GE522.out)|exact HB.out)⟩⟩
          ·rw [if_neg c63] at H
           exact absurd H (by simp)
       ·rw [if_neg c50] at H
        exact absurd H (by simp)
      ·rw [if_neg c49] at H
       have c49b0:decide (x13_2 < (t526.length:Int))=false:=decide_eq_false c49
       clear c49
       have H' := Aside0.mk H
       clear H
       obtain ⟨Ao73,co73,eo73⟩:=Kd.R_slice HO_10.out
       subst eo73
       go_wp2
       go_loopg [14] k2 (fun kq v14 w' => ∃ (x14_3:Int) (x523003_3:List (S41)) (u523003:Value),v14 = .int .i64 x14_3∧Aside0 (tollbarref12_Request.l2 kq x14_3 a0_0 a0_1 a0_2 l0_3 l0_4 l1_0 l1_1 l1_2 l1_3 a1_4 a1_5 a1_6 a1_7 a0_0 a3 1 x523003_3 t519=some (r1,r2,r3,r4,r5))∧Aside0 (kq ≤ k2)∧Aside0 (Kd.R k41 41 w' w.heap.size (fun _=>True) u523003 x523003_3)∧Aside0 (Kd.R (Kd.int .u8) 5 w' w.heap.size (fun _=>True) (.slice Ao18 t519.length co18) t519)∧Aside0 (w'.heap[gb513]? = some (.cells #[.string a0_0,.string a0_1,.int .i64 a0_2,(.slice A0_3 l0_3.length c0_3),(.slice A0_4 l0_4.length c0_4)] 33 (0,0)))∧Aside0 (w'.heap[gb514]? = some (.cells #[(.slice A1_0 l1_0.length c1_0),(.slice A1_1 l1_1.length c1_1),(.slice A1_2 l1_2.length c1_2),(.slice A1_3 l1_3.length c1_3),.int .i64 a1_4,.int .i64 a1_5,.int .i64 a1_6,.int .i64 a1_7] 38 (0,0)))∧Aside0 (w'.heap[gb515]? = some (.cells #[.string (⟨#[]⟩:ByteArray),.string (⟨#[]⟩:ByteArray),.int .i64 0,(.slice none 0 0),(.slice none 0 0)] 33 (0,0)))∧Aside0 (w'.heap[gb522]? = some (.cells #[.string a0_0,.string a3,.int .i64 1,u523003,(.slice Ao18 t519.length co18)] 33 (0,0)))∧Aside0 (Below w.heap.size w w'))
       case atStart=>exact ⟨(0),(x523003_2),(u523003),(by first|rfl|(simp;done)|(simp [*];done)),H',⟨Nat.le_refl _⟩,⟨by (with_reducible repeat (first|apply Kd.R_alloc|apply Kd.R_drewN|apply Kd.R_drew));exact Kd.R_mono HO_523003.out (fun _ hk=>trivial)⟩,⟨by (with_reducible repeat (first|apply Kd.R_alloc|apply Kd.R_drewN|apply Kd.R_drew));exact HO_523004.out⟩,⟨by (with_reducible repeat (first|refine blk_drewN ?_ _|refine blk_drew ?_|refine blk_alloc ?_ _));exact BK513.out⟩,⟨by (with_reducible repeat (first|refine blk_drewN ?_ _|refine blk_drew ?_|refine blk_alloc ?_ _));exact BK514.out⟩,⟨by (with_reducible repeat (first|refine blk_drewN ?_ _|refine blk_drew ?_|refine blk_alloc ?_ _));exact BK515.out⟩,⟨by (with_reducible repeat (first|refine blk_drewN ?_ _|refine blk_drew ?_|refine blk_alloc ?_ _));exact BK522.out⟩,⟨by repeat (first|(with_reducible first|exact HB.out|apply below_alloc|apply pw_below_drewN|apply below_drew1|refine below_set ?_ GE513.out|refine below_set ?_ GE514.out|refine below_set ?_ GE515.out|refine below_set ?_ GE522.out)|exact HB.out)⟩⟩
       case round =>
        clear H'
        try clear c1
        try clear p2
        try clear c3
        try clear c4
        try clear c5
        try clear p5
        try clear q5
        try clear hx5
        try clear c6
        try clear p6
        try clear c33
        try clear c49
        try clear c49b0
        try clear c50
        try clear p53
        try clear q53
        try clear hx53
        try clear p54
        try clear q54
        try clear hx54
        try clear c57
        try clear c63
        try clear p64
        try clear hx536_0
        try clear hx536_1
        try clear hx538_0
        try clear hx538_1
        try clear hx540_0
        try clear hx540_1
        try clear p536
        try clear p538
        try clear p540
        try clear q536
        try clear q538
        try clear q540
        obtain ⟨x14_3,x523003_3,u523003,rfl,HA,HK3,HO_523003,HO_523004,BK513,BK514,BK515,BK522,HB⟩:=hrel
        cases gk with
        | zero=>exact absurd HA.out (by simp [tollbarref12_Request.l2])
        | succ k3 =>
         have H:=HA.out
         clear HA
         simp only [tollbarref12_Request.l2] at H
         by_cases c74:x14_3 < (l1_2.length:Int)
         ·rw [if_pos c74] at H
          have c74b0:decide (x14_3 < (l1_2.length:Int))=true:=decide_eq_true c74
          clear c74
          by_cases c75:0 ≤ x14_3
          ·rw [if_pos c75] at H
           have c75b0:decide (0 ≤ x14_3)=true:=decide_eq_true c75
           clear c75
           by_cases c76:x523003_3.length < 4398046511104
           ·rw [if_pos c76] at H
            have LMc76:=Aside0.mk c76
            clear c76
            obtain ⟨y545,hy545⟩ : ∃ y_:List (S41),y_=(x523003_3 ++ [(⟨(rd_T41 l1_2 x14_3).f0,(rd_T41 l1_2 x14_3).f1⟩:S41)]):=⟨_,rfl⟩
            replace H:(tollbarref12_Request.l2 k3 (wrap64 (x14_3 + 1)) a0_0 a0_1 a0_2 l0_3 l0_4 l1_0 l1_1 l1_2 l1_3 a1_4 a1_5 a1_6 a1_7 a0_0 a3 1 y545 t519)=some (r1,r2,r3,r4,r5):=by first|(rw [hy545];with_reducible exact H)|(have H2_:=(Option.bind_some _ _).symm.trans H;rw [hy545];with_reducible exact H2_)|(have H2_:=(Option.bind_some _ _).symm.trans H;with_reducible exact H2_)|with_reducible exact H|(rw [hy545];exact H)|exact H
            have Ny545:=Aside0.mk hy545
            clear hy545
            have H' := Aside0.mk H
            clear H
            have hnb77:=NB514_513.out
            have hnc77:=NB513_514.out
            have hnb78:=NB514_515.out
            have hnc78:=NB515_514.out
            have hnb79:=NB514_522.out
            have hnc79:=NB522_514.out
            have hcz80_0:wr.cell? ⟨gb514,0,none⟩=some (.slice A1_0 l1_0.length c1_0):=(blk_cell BK514.out 0).trans rfl
            have hcz80_1:wr.cell? ⟨gb514,1,none⟩=some (.slice A1_1 l1_1.length c1_1):=(blk_cell BK514.out 1).trans rfl
            have hcz80_2:wr.cell? ⟨gb514,2,none⟩=some (.slice A1_2 l1_2.length c1_2):=(blk_cell BK514.out 2).trans rfl
            have hcz80_3:wr.cell? ⟨gb514,3,none⟩=some (.slice A1_3 l1_3.length c1_3):=(blk_cell BK514.out 3).trans rfl
            have hcz80_4:wr.cell? ⟨gb514,4,none⟩=some (.int .i64 a1_4):=(blk_cell BK514.out 4).trans rfl
            have hcz80_5:wr.cell? ⟨gb514,5,none⟩=some (.int .i64 a1_5):=(blk_cell BK514.out 5).trans rfl
            have hcz80_6:wr.cell? ⟨gb514,6,none⟩=some (.int .i64 a1_6):=(blk_cell BK514.out 6).trans rfl
            have hcz80_7:wr.cell? ⟨gb514,7,none⟩=some (.int .i64 a1_7):=(blk_cell BK514.out 7).trans rfl
            have hfz80_0:=blk_frozen BK514.out 0
            have hfz80_1:=blk_frozen BK514.out 1
            have hfz80_2:=blk_frozen BK514.out 2
            have hfz80_3:=blk_frozen BK514.out 3
            have hfz80_4:=blk_frozen BK514.out 4
            have hfz80_5:=blk_frozen BK514.out 5
            have hfz80_6:=blk_frozen BK514.out 6
            have hfz80_7:=blk_frozen BK514.out 7
            try go_wp2
            replace HO_523003:=Aside0.mk (Kd.R_drew HO_523003.out)
            replace HO_523004:=Aside0.mk (Kd.R_drew HO_523004.out)
            replace BK513:=Aside0.mk (blk_drew BK513.out)
            replace BK514:=Aside0.mk (blk_drew BK514.out)
            replace BK515:=Aside0.mk (blk_drew BK515.out)
            replace BK522:=Aside0.mk (blk_drew BK522.out)
            replace HB:=Aside0.mk (below_drew1 HB.out)
            have p544:0 ≤ (x14_3:Int):=of_decide_eq_true (by first|(with_reducible assumption)|assumption)
            have q544:x14_3 < (l1_2.length:Int):=of_decide_eq_true (by first|(with_reducible assumption)|assumption)
            obtain ⟨ad544,e544,hx544_0,hx544_1⟩:=at_T41 HR1_2.out x14_3 p544 q544
            have hw544_1:=hx544_1
            have hw544_0:=hx544_0
            cases e544
            replace hx544_0:=(HB.out.cell (World.block_lt_of_cell? w _ hx544_0)).trans hx544_0
            replace hx544_1:=(HB.out.cell (World.block_lt_of_cell? w _ hx544_1)).trans hx544_1
            replace p544:=eq_true p544
            replace q544:=eq_true q544
            refine start_ (n:=11) (S:=fun w' => w'.cell? ⟨gb522,0,none⟩=some (.string a0_0)∧w'.cell? ⟨gb522,1,none⟩=some (.string a3)∧w'.cell? ⟨gb522,2,none⟩=some (.int .i64 1)∧w'.cell? ⟨gb522,3,none⟩=some (u523003)∧w'.cell? ⟨gb522,4,none⟩=some (.slice Ao18 t519.length co18)∧w'.cell? ⟨gb514,0,none⟩=some (.slice A1_0 l1_0.length c1_0)∧w'.cell? ⟨gb514,1,none⟩=some (.slice A1_1 l1_1.length c1_1)∧w'.cell? ⟨gb514,2,none⟩=some (.slice (some ad544) l1_2.length c1_2)∧w'.cell? ⟨gb514,3,none⟩=some (.slice A1_3 l1_3.length c1_3)∧w'.cell? ⟨gb514,4,none⟩=some (.int .i64 a1_4)∧w'.cell? ⟨gb514,5,none⟩=some (.int .i64 a1_5)∧w'.cell? ⟨gb514,6,none⟩=some (.int .i64 a1_6)∧w'.cell? ⟨gb514,7,none⟩=some (.int .i64 a1_7)∧w'.cell? (ad544.add ((x14_3).toNat * 2))=some (.string ((rd_T41 l1_2 x14_3).f0))∧w'.cell? ⟨(ad544.add ((x14_3).toNat * 2)).block,(ad544.add ((x14_3).toNat * 2)).off + 1,none⟩=some (.string ((rd_T41 l1_2 x14_3).f1))) (ds:=[10]) #[false,false,false,false,false,false,false,false,false,false,false] (by kernel_rfl) rfl rfl ⟨(blk_cell BK522.out 0).trans rfl,(blk_cell BK522.out 1).trans rfl,(blk_cell BK522.out 2).trans rfl,(blk_cell BK522.out 3).trans rfl,(blk_cell BK522.out 4).trans rfl,(blk_cell BK514.out 0).trans rfl,(blk_cell BK514.out 1).trans rfl,(blk_cell BK514.out 2).trans rfl,(blk_cell BK514.out 3).trans rfl,(blk_cell BK514.out 4).trans rfl,(blk_cell BK514.out 5).trans rfl,(blk_cell BK514.out 6).trans rfl,(blk_cell BK514.out 7).trans rfl,((HB.out.cell (World.block_lt_of_cell? w _ hw544_0)).trans hw544_0),((HB.out.cell (World.block_lt_of_cell? w _ hw544_1)).trans hw544_1)⟩ (fun hHeld=>?_);refine with_tabW tollbarref12_Request.tab17 tollbarref12_Request.bits17 (fun HT_ HW_=>?_)
            generalize wr.drew=w81 at HO_523003 HO_523004 BK513 BK514 BK515 BK522 HB hx544_0 hx544_1 hHeld ⊢
            refine pure_ (i:=0) (N:=some 88) (v:=?_) (a' := ?_) #[true,false,false,false,false,false,false,false,false,false,false] rfl rfl (any_of HT_.out (by kernel_rfl)) (fun _ _ _ h=>h) (Or.inl ⟨by rfl,?_⟩) ?_ ?_
            rotate_left
            ·intro w';go_simp;with_reducible rfl
            rotate_left
            ·simp only [Act.put,zqA,zqB,zqC,i64_w,i32_w];rfl
            refine pure_ (i:=2) (N:=some 90) (v:=?_) (a' := ?_) #[true,false,true,false,false,false,false,false,false,false,false] rfl rfl (any_of HT_.out (by kernel_rfl)) (fun _ _ _ h=>h) (Or.inl ⟨by rfl,?_⟩) ?_ ?_
            rotate_left
            ·intro w';go_simp;with_reducible rfl
            rotate_left
            ·simp only [Act.put,zqA,zqB,zqC,i64_w,i32_w];rfl
            refine pure_ (i:=4) (N:=some 92) (v:=?_) (a' := ?_) #[true,false,true,false,true,false,false,false,false,false,false] rfl rfl (any_of HT_.out (by kernel_rfl)) (fun _ _ _ h=>h) (Or.inl ⟨by rfl,?_⟩) ?_ ?_
            rotate_left
            ·intro w';go_simp;with_reducible rfl
            rotate_left
            ·simp only [Act.put,zqA,zqB,zqC,i64_w,i32_w];rfl
            refine take_ (i:=1) (N:=some 89) (v:=?_) (a' := ?_) #[true,true,true,false,true,false,false,false,false,false,false] rfl rfl (take_ofW HT_.out HW_.out (by kernel_rfl)) (fun _ _ _ h=>h) (Or.inl ⟨by rfl,?_⟩) hHeld ?_ ?_
            rotate_left
            ·rintro w' ⟨s0,s1,s2,s3,s4,s5,s6,s7,s8,s9,s10,s11,s12,s13,s14⟩;go_simp;with_reducible rfl
            rotate_left
            ·simp only [Act.put,zqA,zqB,zqC,i64_w,i32_w];rfl
            refine take_ (i:=3) (N:=some 91) (v:=?_) (a' := ?_) #[true,true,true,true,true,false,false,false,false,false,false] rfl rfl (take_ofW HT_.out HW_.out (by kernel_rfl)) (fun _ _ _ h=>h) (Or.inl ⟨by rfl,?_⟩) hHeld ?_ ?_
            rotate_left
            ·rintro w' ⟨s0,s1,s2,s3,s4,s5,s6,s7,s8,s9,s10,s11,s12,s13,s14⟩;go_simp;with_reducible rfl
            rotate_left
            ·simp only [Act.put,zqA,zqB,zqC,i64_w,i32_w];rfl
            refine pure_ (i:=5) (N:=some 93) (v:=?_) (a' := ?_) #[true,true,true,true,true,true,false,false,false,false,false] rfl rfl (any_of HT_.out (by kernel_rfl)) (fun _ _ _ h=>h) (Or.inl ⟨by rfl,?_⟩) ?_ ?_
            rotate_left
            ·intro w';go_simp;with_reducible rfl
            rotate_left
            ·simp only [Act.put,zqA,zqB,zqC,i64_w,i32_w];rfl
            refine take_ (i:=6) (N:=some 94) (v:=?_) (a' := ?_) #[true,true,true,true,true,true,true,false,false,false,false] rfl rfl (take_ofW HT_.out HW_.out (by kernel_rfl)) (fun _ _ _ h=>h) (Or.inl ⟨by rfl,?_⟩) hHeld ?_ ?_
            rotate_left
            ·rintro w' ⟨s0,s1,s2,s3,s4,s5,s6,s7,s8,s9,s10,s11,s12,s13,s14⟩;go_simp;with_reducible rfl
            rotate_left
            ·simp only [Act.put,zqA,zqB,zqC,i64_w,i32_w];rfl
            refine one_ (i:=7) (N:=some 95) #[true,true,true,true,true,true,true,true,false,false,false] rfl rfl (one_of HT_.out (by kernel_rfl)) (by decide) (fun K hK=>?_)
            refine value_ (w1:=?_) (v:=?_) (by rfl) rfl ?_ ?_
            rotate_left 2
            ·go_simp
             constructor
             ·rfl
             ·rfl
            refine hK.out _ _ ⟨(blk_cell (blk_alloc BK522.out _) 0).trans rfl,(blk_cell (blk_alloc BK522.out _) 1).trans rfl,(blk_cell (blk_alloc BK522.out _) 2).trans rfl,(blk_cell (blk_alloc BK522.out _) 3).trans rfl,(blk_cell (blk_alloc BK522.out _) 4).trans rfl,(blk_cell (blk_alloc BK514.out _) 0).trans rfl,(blk_cell (blk_alloc BK514.out _) 1).trans rfl,(blk_cell (blk_alloc BK514.out _) 2).trans rfl,(blk_cell (blk_alloc BK514.out _) 3).trans rfl,(blk_cell (blk_alloc BK514.out _) 4).trans rfl,(blk_cell (blk_alloc BK514.out _) 5).trans rfl,(blk_cell (blk_alloc BK514.out _) 6).trans rfl,(blk_cell (blk_alloc BK514.out _) 7).trans rfl,(World.cell?_alloc_lt _ _ _ (World.block_lt_of_cell? _ _ (((HB.out.cell (World.block_lt_of_cell? w _ hw544_0)).trans hw544_0)))).trans (((HB.out.cell (World.block_lt_of_cell? w _ hw544_0)).trans hw544_0)),(World.cell?_alloc_lt _ _ _ (World.block_lt_of_cell? _ _ (((HB.out.cell (World.block_lt_of_cell? w _ hw544_1)).trans hw544_1)))).trans (((HB.out.cell (World.block_lt_of_cell? w _ hw544_1)).trans hw544_1))⟩ (fun hHeld=>?_)
            clear hK K
            refine norm_ (a' := ?_) ?_ ?_
            rotate_left
            ·show Act.put _ (some 95) _=_
             simp only [Act.put,zqA,zqB,zqC,i64_w,i32_w]
             rfl
            refine one_ (i:=8) (N:=some 96) #[true,true,true,true,true,true,true,true,true,false,false] rfl rfl (one_of HT_.out (by kernel_rfl)) (by decide) (fun K hK=>?_)
            refine Kd.R_append_step k41 (w0:=w) w.heap.size (by rfl) (.tmp 89) (.tmp 95) 31 41 (.agg #[(.string ⟨#[]⟩),(.string ⟨#[]⟩)]) 32 rfl Tryd.underlying31 info41 rfl (by decide) (by omega) u523003 x523003_3 (⟨(rd_T41 l1_2 x14_3).f0,(rd_T41 l1_2 x14_3).f1⟩:S41) [.string ((rd_T41 l1_2 x14_3).f0),.string ((rd_T41 l1_2 x14_3).f1)] (fun _=>True) (fun _=>False) rfl rfl ?aP (fun _ hk=>hk.elim) ?aF ?aO ?aB ?aS ?aL ?_
            (case aP=>exact k41_mkM _ _ _ (⟨(rd_T41 l1_2 x14_3).f0,(rd_T41 l1_2 x14_3).f1⟩:S41))
            (case aB=>exact (by repeat (first|(with_reducible first|exact HB.out|apply below_alloc|apply pw_below_drewN|apply below_drew1|refine below_set ?_ GE513.out|refine below_set ?_ GE514.out|refine below_set ?_ GE515.out|refine below_set ?_ GE522.out)|exact HB.out)))
            (case aF=>exact (fun _ _=>trivial))
            (case aO=>exact (by (with_reducible repeat (first|apply Kd.R_alloc|apply Kd.R_drewN|apply Kd.R_drew));exact HO_523003.out))
            (case aS=>exact (below_size (by repeat (first|(with_reducible first|exact HB.out|apply below_alloc|apply pw_below_drewN|apply below_drew1|refine below_set ?_ GE513.out|refine below_set ?_ GE514.out|refine below_set ?_ GE515.out|refine below_set ?_ GE522.out)|exact HB.out))))
            (case aL=>have:=LMc76.out;omega)
            intro v546 w82 ho hb hg hat
            rw [← Ny545.out] at ho
            have n0_:=Aside0.mk (Kd.R_over' (by (with_reducible repeat (first|apply Kd.R_alloc|apply Kd.R_drewN|apply Kd.R_drew));exact HO_523004.out) (Kd.R_typed (by (with_reducible repeat (first|apply Kd.R_alloc|apply Kd.R_drewN|apply Kd.R_drew));exact HO_523003.out)) (by decide) hg)
            have n1_:=Aside0.mk (blk_grown (g:=gb513) (o:=.cells #[.string a0_0,.string a0_1,.int .i64 a0_2,.slice A0_3 l0_3.length c0_3,.slice A0_4 l0_4.length c0_4] 33 (0,0)) (by (with_reducible repeat (first|refine blk_drewN ?_ _|refine blk_drew ?_|refine blk_alloc ?_ _));exact BK513.out) hg (Kd.R_ne HO_523003.out BK513.out (by decide)))
            have n2_:=Aside0.mk (blk_grown (g:=gb514) (o:=.cells #[.slice A1_0 l1_0.length c1_0,.slice A1_1 l1_1.length c1_1,.slice (some ad544) l1_2.length c1_2,.slice A1_3 l1_3.length c1_3,.int .i64 a1_4,.int .i64 a1_5,.int .i64 a1_6,.int .i64 a1_7] 38 (0,0)) (by (with_reducible repeat (first|refine blk_drewN ?_ _|refine blk_drew ?_|refine blk_alloc ?_ _));exact BK514.out) hg (Kd.R_ne HO_523003.out BK514.out (by decide)))
            have n3_:=Aside0.mk (blk_grown (g:=gb515) (o:=.cells #[.string (⟨#[]⟩:ByteArray),.string (⟨#[]⟩:ByteArray),.int .i64 0,.slice none 0 0,.slice none 0 0] 33 (0,0)) (by (with_reducible repeat (first|refine blk_drewN ?_ _|refine blk_drew ?_|refine blk_alloc ?_ _));exact BK515.out) hg (Kd.R_ne HO_523003.out BK515.out (by decide)))
            have n4_:=Aside0.mk (blk_grown (g:=gb522) (o:=.cells #[.string a0_0,.string a3,.int .i64 1,u523003,.slice Ao18 t519.length co18] 33 (0,0)) (by (with_reducible repeat (first|refine blk_drewN ?_ _|refine blk_drew ?_|refine blk_alloc ?_ _));exact BK522.out) hg (Kd.R_ne HO_523003.out BK522.out (by decide)))
            have n5_:=Aside0.mk (hb)
            have n6_:=Aside0.mk (ho)
            clear HO_523004 BK513 BK514 BK515 BK522 HB HO_523003
            have HO_523004:=n0_
            have BK513:=n1_
            have BK514:=n2_
            have BK515:=n3_
            have BK522:=n4_
            have HB:=n5_
            have HO547:=n6_
            clear n0_ n1_ n2_ n3_ n4_ n5_ n6_ ho hb hg hat
            obtain ⟨Ao83,co83,eo83⟩:=Kd.R_slice HO547.out
            (first|subst eo83|(injection eo83 with f1_ f2_ f3_;have f4_:=f1_.symm;have f5_:=f3_.symm;clear f1_ f2_ f3_;subst f4_;subst f5_))
            refine hK.out _ _ ⟨(blk_cell BK522.out 0).trans rfl,(blk_cell BK522.out 1).trans rfl,(blk_cell BK522.out 2).trans rfl,(blk_cell BK522.out 3).trans rfl,(blk_cell BK522.out 4).trans rfl,(blk_cell BK514.out 0).trans rfl,(blk_cell BK514.out 1).trans rfl,(blk_cell BK514.out 2).trans rfl,(blk_cell BK514.out 3).trans rfl,(blk_cell BK514.out 4).trans rfl,(blk_cell BK514.out 5).trans rfl,(blk_cell BK514.out 6).trans rfl,(blk_cell BK514.out 7).trans rfl,((HB.out.cell (World.block_lt_of_cell? w _ hw544_0)).trans hw544_0),((HB.out.cell (World.block_lt_of_cell? w _ hw544_1)).trans hw544_1)⟩ (fun hHeld=>?_)
            clear hK K
            refine norm_ (a' := ?_) ?_ ?_
            rotate_left
            ·show Act.put _ (some 96) _=_
             simp only [Act.put,zqA,zqB,zqC,i64_w,i32_w]
             rfl
            refine pure_ (i:=9) (N:=some 97) (v:=?_) (a' := ?_) #[true,true,true,true,true,true,true,true,true,true,false] rfl rfl (any_of HT_.out (by kernel_rfl)) (fun _ _ _ h=>h) (Or.inl ⟨by rfl,?_⟩) ?_ ?_
            rotate_left
            ·intro w';go_simp;with_reducible rfl
            rotate_left
            ·simp only [Act.put,zqA,zqB,zqC,i64_w,i32_w];rfl
            refine last_ (i:=10) (N:=none) #[true,true,true,true,true,true,true,true,true,true,true] rfl rfl (one_of HT_.out (by kernel_rfl)) (by decide) (fun K hK=>?_)
            have hs84:w82.cell? ⟨gb522,3,none⟩=some (u523003):=(blk_cell BK522.out 3).trans rfl
            have hfs84:=blk_frozen BK522.out 3
            have hns84_0:=NB513_522.out
            have hns84_1:=NB514_522.out
            have hns84_2:=NB515_522.out
            have hms84_0:=NB522_513.out
            have hms84_1:=NB522_514.out
            have hms84_2:=NB522_515.out
            refine skip_ (w1:=?_) (by rfl) rfl ?_ ?_
            rotate_left
            ·go_simp
             rfl
            refine hK.out _ _ ?_
            clear hK K
            refine done_ (done_of HT_.out (by kernel_rfl)) ?_
            try go_wp2
            go_roundg k3
            case measure=>have:=HK1.out;have:=HK2.out;have:=HK3.out;omega
            case rel=>exact ⟨(wrap64 (x14_3 + 1)),(y545),(.slice Ao83 y545.length co83),(by first|rfl|(simp;done)|(simp [*];done)),H',⟨by have:=HK1.out;have:=HK2.out;have:=HK3.out;omega⟩,⟨by (with_reducible repeat (first|apply Kd.R_alloc|apply Kd.R_drewN|apply Kd.R_drew));exact Kd.R_mono (Kd.R_far (p:=⟨gb522,3,none⟩) (Kd.R_types HO547.out BK522.out (by decide)) (fun _ hk=>hk.2) (.slice Ao83 y545.length co83)) (fun _ hk=>trivial)⟩,⟨by (with_reducible repeat (first|apply Kd.R_alloc|apply Kd.R_drewN|apply Kd.R_drew));exact Kd.R_mono (Kd.R_far (p:=⟨gb522,3,none⟩) (Kd.R_types HO_523004.out BK522.out (by decide)) (fun _ hk=>hk.2) (.slice Ao83 y545.length co83)) (fun _ hk=>trivial)⟩,⟨by (with_reducible repeat (first|refine blk_drewN ?_ _|refine blk_drew ?_|refine blk_alloc ?_ _));refine blk_far ?_ NB513_522.out _;(with_reducible repeat (first|refine blk_drewN ?_ _|refine blk_drew ?_|refine blk_alloc ?_ _));exact BK513.out⟩,⟨by (with_reducible repeat (first|refine blk_drewN ?_ _|refine blk_drew ?_|refine blk_alloc ?_ _));refine blk_far ?_ NB514_522.out _;(with_reducible repeat (first|refine blk_drewN ?_ _|refine blk_drew ?_|refine blk_alloc ?_ _));exact BK514.out⟩,⟨by (with_reducible repeat (first|refine blk_drewN ?_ _|refine blk_drew ?_|refine blk_alloc ?_ _));refine blk_far ?_ NB515_522.out _;(with_reducible repeat (first|refine blk_drewN ?_ _|refine blk_drew ?_|refine blk_alloc ?_ _));exact BK515.out⟩,⟨by (with_reducible repeat (first|refine blk_drewN ?_ _|refine blk_drew ?_|refine blk_alloc ?_ _));refine blk_put (cs:=#[.string a0_0,.string a3,.int .i64 1,u523003,.slice Ao18 t519.length co18]) ?_ 3 _ rfl;(with_reducible repeat (first|refine blk_drewN ?_ _|refine blk_drew ?_|refine blk_alloc ?_ _));exact BK522.out⟩,⟨by repeat (first|(with_reducible first|exact HB.out|apply below_alloc|apply pw_below_drewN|apply below_drew1|refine below_set ?_ GE513.out|refine below_set ?_ GE514.out|refine below_set ?_ GE515.out|refine below_set ?_ GE522.out)|exact HB.out)⟩⟩
           ·rw [if_neg c76] at H
            exact absurd H (by simp)
          ·rw [if_neg c75] at H
           exact absurd H (by simp)
         ·rw [if_neg c74] at H
          have c74b0:decide (x14_3 < (l1_2.length:Int))=false:=decide_eq_false c74
          clear c74
          by_cases c85:(l0_4.length:Int) > 0
          ·rw [if_pos c85] at H
           have c85b0:decide (0 < (l0_4.length:Int))=true:=decide_eq_true c85
           have c85b1:decide (0 < l0_4.length)=true:=decide_eq_true (by omega)
           clear c85
           replace H:=Option.bind_eq_some_iff.mp H
           obtain ⟨⟨t548,t549⟩,A860,H⟩:=H
           replace H:(if x523003_3.length < 4398046511104 then (some (a0_0,a3,1,(x523003_3 ++ [(⟨t548,t549⟩:S41)]),t519)) else (none))=some (r1,r2,r3,r4,r5):=H
           have A86:=Aside0.mk A860
           clear A860
           by_cases c87:x523003_3.length < 4398046511104
           ·rw [if_pos c87] at H
            have LMc87:=Aside0.mk c87
            clear c87
            obtain ⟨y550,hy550⟩ : ∃ y_:List (S41),y_=(x523003_3 ++ [(⟨t548,t549⟩:S41)]):=⟨_,rfl⟩
            replace H:(some (a0_0,a3,1,y550,t519))=some (r1,r2,r3,r4,r5):=by first|(rw [hy550];with_reducible exact H)|(have H2_:=(Option.bind_some _ _).symm.trans H;rw [hy550];with_reducible exact H2_)|(have H2_:=(Option.bind_some _ _).symm.trans H;with_reducible exact H2_)|with_reducible exact H|(rw [hy550];exact H)|exact H
            have Ny550:=Aside0.mk hy550
            clear hy550
            simp only [Option.some.injEq,Prod.mk.injEq] at H
            obtain ⟨rfl,rfl,rfl,rfl,rfl⟩:=H
            have hnb88:=NB514_513.out
            have hnc88:=NB513_514.out
            have hnb89:=NB514_515.out
            have hnc89:=NB515_514.out
            have hnb90:=NB514_522.out
            have hnc90:=NB522_514.out
            have hcz91_0:wr.cell? ⟨gb514,0,none⟩=some (.slice A1_0 l1_0.length c1_0):=(blk_cell BK514.out 0).trans rfl
            have hcz91_1:wr.cell? ⟨gb514,1,none⟩=some (.slice A1_1 l1_1.length c1_1):=(blk_cell BK514.out 1).trans rfl
            have hcz91_2:wr.cell? ⟨gb514,2,none⟩=some (.slice A1_2 l1_2.length c1_2):=(blk_cell BK514.out 2).trans rfl
            have hcz91_3:wr.cell? ⟨gb514,3,none⟩=some (.slice A1_3 l1_3.length c1_3):=(blk_cell BK514.out 3).trans rfl
            have hcz91_4:wr.cell? ⟨gb514,4,none⟩=some (.int .i64 a1_4):=(blk_cell BK514.out 4).trans rfl
            have hcz91_5:wr.cell? ⟨gb514,5,none⟩=some (.int .i64 a1_5):=(blk_cell BK514.out 5).trans rfl
            have hcz91_6:wr.cell? ⟨gb514,6,none⟩=some (.int .i64 a1_6):=(blk_cell BK514.out 6).trans rfl
            have hcz91_7:wr.cell? ⟨gb514,7,none⟩=some (.int .i64 a1_7):=(blk_cell BK514.out 7).trans rfl
            have hfz91_0:=blk_frozen BK514.out 0
            have hfz91_1:=blk_frozen BK514.out 1
            have hfz91_2:=blk_frozen BK514.out 2
            have hfz91_3:=blk_frozen BK514.out 3
            have hfz91_4:=blk_frozen BK514.out 4
            have hfz91_5:=blk_frozen BK514.out 5
            have hfz91_6:=blk_frozen BK514.out 6
            have hfz91_7:=blk_frozen BK514.out 7
            have hnb92:=NB513_515.out
            have hnc92:=NB515_513.out
            have hnb93:=NB513_522.out
            have hnc93:=NB522_513.out
            have hcz94_0:wr.cell? ⟨gb513,0,none⟩=some (.string a0_0):=(blk_cell BK513.out 0).trans rfl
            have hcz94_1:wr.cell? ⟨gb513,1,none⟩=some (.string a0_1):=(blk_cell BK513.out 1).trans rfl
            have hcz94_2:wr.cell? ⟨gb513,2,none⟩=some (.int .i64 a0_2):=(blk_cell BK513.out 2).trans rfl
            have hcz94_3:wr.cell? ⟨gb513,3,none⟩=some (.slice A0_3 l0_3.length c0_3):=(blk_cell BK513.out 3).trans rfl
            have hcz94_4:wr.cell? ⟨gb513,4,none⟩=some (.slice A0_4 l0_4.length c0_4):=(blk_cell BK513.out 4).trans rfl
            have hfz94_0:=blk_frozen BK513.out 0
            have hfz94_1:=blk_frozen BK513.out 1
            have hfz94_2:=blk_frozen BK513.out 2
            have hfz94_3:=blk_frozen BK513.out 3
            have hfz94_4:=blk_frozen BK513.out 4
            try go_wp2
            replace HO_523003:=Aside0.mk (Kd.R_drew HO_523003.out)
            replace HO_523004:=Aside0.mk (Kd.R_drew HO_523004.out)
            replace BK513:=Aside0.mk (blk_drew BK513.out)
            replace BK514:=Aside0.mk (blk_drew BK514.out)
            replace BK515:=Aside0.mk (blk_drew BK515.out)
            replace BK522:=Aside0.mk (blk_drew BK522.out)
            replace HB:=Aside0.mk (below_drew1 HB.out)
            refine start_ (n:=10) (S:=fun w' => w'.cell? ⟨gb522,0,none⟩=some (.string a0_0)∧w'.cell? ⟨gb522,1,none⟩=some (.string a3)∧w'.cell? ⟨gb522,2,none⟩=some (.int .i64 1)∧w'.cell? ⟨gb522,3,none⟩=some (u523003)∧w'.cell? ⟨gb522,4,none⟩=some (.slice Ao18 t519.length co18)∧w'.cell? ⟨gb513,0,none⟩=some (.string a0_0)∧w'.cell? ⟨gb513,1,none⟩=some (.string a0_1)∧w'.cell? ⟨gb513,2,none⟩=some (.int .i64 a0_2)∧w'.cell? ⟨gb513,3,none⟩=some (.slice A0_3 l0_3.length c0_3)∧w'.cell? ⟨gb513,4,none⟩=some (.slice A0_4 l0_4.length c0_4)) (ds:=[9]) #[false,false,false,false,false,false,false,false,false,false] (by kernel_rfl) rfl rfl ⟨(blk_cell BK522.out 0).trans rfl,(blk_cell BK522.out 1).trans rfl,(blk_cell BK522.out 2).trans rfl,(blk_cell BK522.out 3).trans rfl,(blk_cell BK522.out 4).trans rfl,(blk_cell BK513.out 0).trans rfl,(blk_cell BK513.out 1).trans rfl,(blk_cell BK513.out 2).trans rfl,(blk_cell BK513.out 3).trans rfl,(blk_cell BK513.out 4).trans rfl⟩ (fun hHeld=>?_);refine with_tabW tollbarref12_Request.tab19 tollbarref12_Request.bits19 (fun HT_ HW_=>?_)
            generalize wr.drew=w95 at HO_523003 HO_523004 BK513 BK514 BK515 BK522 HB hHeld ⊢
            refine pure_ (i:=0) (N:=some 117) (v:=?_) (a' := ?_) #[true,false,false,false,false,false,false,false,false,false] rfl rfl (any_of HT_.out (by kernel_rfl)) (fun _ _ _ h=>h) (Or.inl ⟨by rfl,?_⟩) ?_ ?_
            rotate_left
            ·intro w';go_simp;with_reducible rfl
            rotate_left
            ·simp only [Act.put,zqA,zqB,zqC,i64_w,i32_w];rfl
            refine pure_ (i:=2) (N:=some 119) (v:=?_) (a' := ?_) #[true,false,true,false,false,false,false,false,false,false] rfl rfl (any_of HT_.out (by kernel_rfl)) (fun _ _ _ h=>h) (Or.inl ⟨by rfl,?_⟩) ?_ ?_
            rotate_left
            ·intro w';go_simp;with_reducible rfl
            rotate_left
            ·simp only [Act.put,zqA,zqB,zqC,i64_w,i32_w];rfl
            refine take_ (i:=1) (N:=some 118) (v:=?_) (a' := ?_) #[true,true,true,false,false,false,false,false,false,false] rfl rfl (take_ofW HT_.out HW_.out (by kernel_rfl)) (fun _ _ _ h=>h) (Or.inl ⟨by rfl,?_⟩) hHeld ?_ ?_
            rotate_left
            ·rintro w' ⟨s0,s1,s2,s3,s4,s5,s6,s7,s8,s9⟩;go_simp;with_reducible rfl
            rotate_left
            ·simp only [Act.put,zqA,zqB,zqC,i64_w,i32_w];rfl
            refine take_ (i:=3) (N:=some 120) (v:=?_) (a' := ?_) #[true,true,true,true,false,false,false,false,false,false] rfl rfl (take_ofW HT_.out HW_.out (by kernel_rfl)) (fun _ _ _ h=>h) (Or.inl ⟨by rfl,?_⟩) hHeld ?_ ?_
            rotate_left
            ·rintro w' ⟨s0,s1,s2,s3,s4,s5,s6,s7,s8,s9⟩;go_simp;with_reducible rfl
            rotate_left
            ·simp only [Act.put,zqA,zqB,zqC,i64_w,i32_w];rfl
            refine pure_ (i:=4) (N:=some 121) (v:=?_) (a' := ?_) #[true,true,true,true,true,false,false,false,false,false] rfl rfl (any_of HT_.out (by kernel_rfl)) (fun _ _ _ h=>h) (Or.inl ⟨by rfl,?_⟩) ?_ ?_
            rotate_left
            ·intro w';go_simp;with_reducible rfl
            rotate_left
            ·simp only [Act.put,zqA,zqB,zqC,i64_w,i32_w];rfl
            refine one_ (i:=5) (N:=some 122) #[true,true,true,true,true,true,false,false,false,false] rfl rfl (one_of HT_.out (by kernel_rfl)) (by decide) (fun K hK=>?_)
            refine goes_ Tryd.func42 (by kernel_rfl) rfl #[.int .i64 (l0_4.length:Int)] (by rfl) rfl rfl (by (try simp only [List.map_toArray,List.map_cons,List.map_nil]);first|done|rfl|(simp only [List.length_drop,List.length_take];rfl)) ?_
            with_reducible refine (tollbarref12_length.calls k3 (l0_4.length:Int) t548 t549 _ A86.out).mono ?_
            rintro e w96 ⟨rfl,hb⟩
            refine ⟨_,rfl,?_⟩
            replace HO_523003:=Aside0.mk (Kd.R_below (by (with_reducible repeat (first|apply Kd.R_alloc|apply Kd.R_drewN|apply Kd.R_drew));exact HO_523003.out) hb)
            replace HO_523004:=Aside0.mk (Kd.R_below (by (with_reducible repeat (first|apply Kd.R_alloc|apply Kd.R_drewN|apply Kd.R_drew));exact HO_523004.out) hb)
            replace BK513:=Aside0.mk (blk_below (g:=gb513) (o:=.cells #[.string a0_0,.string a0_1,.int .i64 a0_2,.slice A0_3 l0_3.length c0_3,.slice A0_4 l0_4.length c0_4] 33 (0,0)) (by (with_reducible repeat (first|refine blk_drewN ?_ _|refine blk_drew ?_|refine blk_alloc ?_ _));exact BK513.out) hb)
            replace BK514:=Aside0.mk (blk_below (g:=gb514) (o:=.cells #[.slice A1_0 l1_0.length c1_0,.slice A1_1 l1_1.length c1_1,.slice A1_2 l1_2.length c1_2,.slice A1_3 l1_3.length c1_3,.int .i64 a1_4,.int .i64 a1_5,.int .i64 a1_6,.int .i64 a1_7] 38 (0,0)) (by (with_reducible repeat (first|refine blk_drewN ?_ _|refine blk_drew ?_|refine blk_alloc ?_ _));exact BK514.out) hb)
            replace BK515:=Aside0.mk (blk_below (g:=gb515) (o:=.cells #[.string (⟨#[]⟩:ByteArray),.string (⟨#[]⟩:ByteArray),.int .i64 0,.slice none 0 0,.slice none 0 0] 33 (0,0)) (by (with_reducible repeat (first|refine blk_drewN ?_ _|refine blk_drew ?_|refine blk_alloc ?_ _));exact BK515.out) hb)
            replace BK522:=Aside0.mk (blk_below (g:=gb522) (o:=.cells #[.string a0_0,.string a3,.int .i64 1,u523003,.slice Ao18 t519.length co18] 33 (0,0)) (by (with_reducible repeat (first|refine blk_drewN ?_ _|refine blk_drew ?_|refine blk_alloc ?_ _));exact BK522.out) hb)
            replace HB:=Aside0.mk (below_step (by repeat (first|(with_reducible first|exact HB.out|apply below_alloc|apply pw_below_drewN|apply below_drew1|refine below_set ?_ GE513.out|refine below_set ?_ GE514.out|refine below_set ?_ GE515.out|refine below_set ?_ GE522.out)|exact HB.out)) hb)
            (try clear hb)
            (try clear hb2)
            (try clear hk)
            (try clear hi)
            refine hK.out _ _ ⟨(blk_cell BK522.out 0).trans rfl,(blk_cell BK522.out 1).trans rfl,(blk_cell BK522.out 2).trans rfl,(blk_cell BK522.out 3).trans rfl,(blk_cell BK522.out 4).trans rfl,(blk_cell BK513.out 0).trans rfl,(blk_cell BK513.out 1).trans rfl,(blk_cell BK513.out 2).trans rfl,(blk_cell BK513.out 3).trans rfl,(blk_cell BK513.out 4).trans rfl⟩ (fun hHeld=>?_)
            clear hK K
            refine norm_ (a' := ?_) ?_ ?_
            rotate_left
            ·show Act.put _ (some 122) _=_
             simp only [Act.put,zqA,zqB,zqC,i64_w,i32_w]
             rfl
            refine one_ (i:=6) (N:=some 123) #[true,true,true,true,true,true,true,false,false,false] rfl rfl (one_of HT_.out (by kernel_rfl)) (by decide) (fun K hK=>?_)
            refine value_ (w1:=?_) (v:=?_) (by rfl) rfl ?_ ?_
            rotate_left 2
            ·go_simp
             constructor
             ·rfl
             ·rfl
            refine hK.out _ _ ⟨(blk_cell (blk_alloc BK522.out _) 0).trans rfl,(blk_cell (blk_alloc BK522.out _) 1).trans rfl,(blk_cell (blk_alloc BK522.out _) 2).trans rfl,(blk_cell (blk_alloc BK522.out _) 3).trans rfl,(blk_cell (blk_alloc BK522.out _) 4).trans rfl,(blk_cell (blk_alloc BK513.out _) 0).trans rfl,(blk_cell (blk_alloc BK513.out _) 1).trans rfl,(blk_cell (blk_alloc BK513.out _) 2).trans rfl,(blk_cell (blk_alloc BK513.out _) 3).trans rfl,(blk_cell (blk_alloc BK513.out _) 4).trans rfl⟩ (fun hHeld=>?_)
            clear hK K
            refine norm_ (a' := ?_) ?_ ?_
            rotate_left
            ·show Act.put _ (some 123) _=_
             simp only [Act.put,zqA,zqB,zqC,i64_w,i32_w]
             rfl
            refine one_ (i:=7) (N:=some 124) #[true,true,true,true,true,true,true,true,false,false] rfl rfl (one_of HT_.out (by kernel_rfl)) (by decide) (fun K hK=>?_)
            refine Kd.R_append_step k41 (w0:=w) w.heap.size (by rfl) (.tmp 118) (.tmp 123) 31 41 (.agg #[(.string ⟨#[]⟩),(.string ⟨#[]⟩)]) 32 rfl Tryd.underlying31 info41 rfl (by decide) (by omega) u523003 x523003_3 (⟨t548,t549⟩:S41) [.string t548,.string t549] (fun _=>True) (fun _=>False) rfl rfl ?aP (fun _ hk=>hk.elim) ?aF ?aO ?aB ?aS ?aL ?_
            (case aP=>exact k41_mkM _ _ _ (⟨t548,t549⟩:S41))
            (case aB=>exact (by repeat (first|(with_reducible first|exact HB.out|apply below_alloc|apply pw_below_drewN|apply below_drew1|refine below_set ?_ GE513.out|refine below_set ?_ GE514.out|refine below_set ?_ GE515.out|refine below_set ?_ GE522.out)|exact HB.out)))
            (case aF=>exact (fun _ _=>trivial))
            (case aO=>exact (by (with_reducible repeat (first|apply Kd.R_alloc|apply Kd.R_drewN|apply Kd.R_drew));exact HO_523003.out))
            (case aS=>exact (below_size (by repeat (first|(with_reducible first|exact HB.out|apply below_alloc|apply pw_below_drewN|apply below_drew1|refine below_set ?_ GE513.out|refine below_set ?_ GE514.out|refine below_set ?_ GE515.out|refine below_set ?_ GE522.out)|exact HB.out))))
            (case aL=>have:=LMc87.out;omega)
            intro v551 w97 ho hb hg hat
            rw [← Ny550.out] at ho
            have n0_:=Aside0.mk (Kd.R_over' (by (with_reducible repeat (first|apply Kd.R_alloc|apply Kd.R_drewN|apply Kd.R_drew));exact HO_523004.out) (Kd.R_typed (by (with_reducible repeat (first|apply Kd.R_alloc|apply Kd.R_drewN|apply Kd.R_drew));exact HO_523003.out)) (by decide) hg)
            have n1_:=Aside0.mk (blk_grown (g:=gb513) (o:=.cells #[.string a0_0,.string a0_1,.int .i64 a0_2,.slice A0_3 l0_3.length c0_3,.slice A0_4 l0_4.length c0_4] 33 (0,0)) (by (with_reducible repeat (first|refine blk_drewN ?_ _|refine blk_drew ?_|refine blk_alloc ?_ _));exact BK513.out) hg (Kd.R_ne HO_523003.out BK513.out (by decide)))
            have n2_:=Aside0.mk (blk_grown (g:=gb514) (o:=.cells #[.slice A1_0 l1_0.length c1_0,.slice A1_1 l1_1.length c1_1,.slice A1_2 l1_2.length c1_2,.slice A1_3 l1_3.length c1_3,.int .i64 a1_4,.int .i64 a1_5,.int .i64 a1_6,.int .i64 a1_7] 38 (0,0)) (by (with_reducible repeat (first|refine blk_drewN ?_ _|refine blk_drew ?_|refine blk_alloc ?_ _));exact BK514.out) hg (Kd.R_ne HO_523003.out BK514.out (by decide)))
            have n3_:=Aside0.mk (blk_grown (g:=gb515) (o:=.cells #[.string (⟨#[]⟩:ByteArray),.string (⟨#[]⟩:ByteArray),.int .i64 0,.slice none 0 0,.slice none 0 0] 33 (0,0)) (by (with_reducible repeat (first|refine blk_drewN ?_ _|refine blk_drew ?_|refine blk_alloc ?_ _));exact BK515.out) hg (Kd.R_ne HO_523003.out BK515.out (by decide)))
            have n4_:=Aside0.mk (blk_grown (g:=gb522) (o:=.cells #[.string a0_0,.string a3,.int .i64 1,u523003,.slice Ao18 t519.length co18] 33 (0,0)) (by (with_reducible repeat (first|refine blk_drewN ?_ _|refine blk_drew ?_|refine blk_alloc ?_ _));exact BK522.out) hg (Kd.R_ne HO_523003.out BK522.out (by decide)))
            have n5_:=Aside0.mk (hb)
            have n6_:=Aside0.mk (ho)
            clear HO_523004 BK513 BK514 BK515 BK522 HB HO_523003
            have HO_523004:=n0_
            have BK513:=n1_
            have BK514:=n2_
            have BK515:=n3_
            have BK522:=n4_
            have HB:=n5_
            have HO552:=n6_
            clear n0_ n1_ n2_ n3_ n4_ n5_ n6_ ho hb hg hat
            obtain ⟨Ao98,co98,eo98⟩:=Kd.R_slice HO552.out
            (first|subst eo98|(injection eo98 with f1_ f2_ f3_;have f4_:=f1_.symm;have f5_:=f3_.symm;clear f1_ f2_ f3_;subst f4_;subst f5_))
            refine hK.out _ _ ⟨(blk_cell BK522.out 0).trans rfl,(blk_cell BK522.out 1).trans rfl,(blk_cell BK522.out 2).trans rfl,(blk_cell BK522.out 3).trans rfl,(blk_cell BK522.out 4).trans rfl,(blk_cell BK513.out 0).trans rfl,(blk_cell BK513.out 1).trans rfl,(blk_cell BK513.out 2).trans rfl,(blk_cell BK513.out 3).trans rfl,(blk_cell BK513.out 4).trans rfl⟩ (fun hHeld=>?_)
            clear hK K
            refine norm_ (a' := ?_) ?_ ?_
            rotate_left
            ·show Act.put _ (some 124) _=_
             simp only [Act.put,zqA,zqB,zqC,i64_w,i32_w]
             rfl
            refine pure_ (i:=8) (N:=some 125) (v:=?_) (a' := ?_) #[true,true,true,true,true,true,true,true,true,false] rfl rfl (any_of HT_.out (by kernel_rfl)) (fun _ _ _ h=>h) (Or.inl ⟨by rfl,?_⟩) ?_ ?_
            rotate_left
            ·intro w';go_simp;with_reducible rfl
            rotate_left
            ·simp only [Act.put,zqA,zqB,zqC,i64_w,i32_w];rfl
            refine last_ (i:=9) (N:=none) #[true,true,true,true,true,true,true,true,true,true] rfl rfl (one_of HT_.out (by kernel_rfl)) (by decide) (fun K hK=>?_)
            have hs99:w97.cell? ⟨gb522,3,none⟩=some (u523003):=(blk_cell BK522.out 3).trans rfl
            have hfs99:=blk_frozen BK522.out 3
            have hns99_0:=NB513_522.out
            have hns99_1:=NB514_522.out
            have hns99_2:=NB515_522.out
            have hms99_0:=NB522_513.out
            have hms99_1:=NB522_514.out
            have hms99_2:=NB522_515.out
            refine skip_ (w1:=?_) (by rfl) rfl ?_ ?_
            rotate_left
            ·go_simp
             rfl
            refine hK.out _ _ ?_
            clear hK K
            refine done_ (done_of HT_.out (by kernel_rfl)) ?_
            have hnb100:=NB522_515.out
            have hnc100:=NB515_522.out
            have hcz101_0:w97.cell? ⟨gb522,0,none⟩=some (.string a0_0):=(blk_cell BK522.out 0).trans rfl
            have hcz101_1:w97.cell? ⟨gb522,1,none⟩=some (.string a3):=(blk_cell BK522.out 1).trans rfl
            have hcz101_2:w97.cell? ⟨gb522,2,none⟩=some (.int .i64 1):=(blk_cell BK522.out 2).trans rfl
            have hcz101_3:w97.cell? ⟨gb522,3,none⟩=some (u523003):=(blk_cell BK522.out 3).trans rfl
            have hcz101_4:w97.cell? ⟨gb522,4,none⟩=some (.slice Ao18 t519.length co18):=(blk_cell BK522.out 4).trans rfl
            have hfz101_0:=blk_frozen BK522.out 0
            have hfz101_1:=blk_frozen BK522.out 1
            have hfz101_2:=blk_frozen BK522.out 2
            have hfz101_3:=blk_frozen BK522.out 3
            have hfz101_4:=blk_frozen BK522.out 4
            have hcz102_0:w97.cell? ⟨gb515,0,none⟩=some (.string (⟨#[]⟩:ByteArray)):=(blk_cell BK515.out 0).trans rfl
            have hcz102_1:w97.cell? ⟨gb515,1,none⟩=some (.string (⟨#[]⟩:ByteArray)):=(blk_cell BK515.out 1).trans rfl
            have hcz102_2:w97.cell? ⟨gb515,2,none⟩=some (.int .i64 0):=(blk_cell BK515.out 2).trans rfl
            have hcz102_3:w97.cell? ⟨gb515,3,none⟩=some (.slice none 0 0):=(blk_cell BK515.out 3).trans rfl
            have hcz102_4:w97.cell? ⟨gb515,4,none⟩=some (.slice none 0 0):=(blk_cell BK515.out 4).trans rfl
            have hfz102_0:=blk_frozen BK515.out 0
            have hfz102_1:=blk_frozen BK515.out 1
            have hfz102_2:=blk_frozen BK515.out 2
            have hfz102_3:=blk_frozen BK515.out 3
            have hfz102_4:=blk_frozen BK515.out 4
            try go_wp2
            refine bodyPost_ret (results_cell_row rfl _ _ gb515 33 #[.string a0_0,.string a3,.int .i64 1,.slice Ao98 y550.length co98,.slice Ao18 t519.length co18] (0,0) _ rfl (by (with_reducible repeat (first|refine blk_drewN ?_ _|refine blk_drew ?_|refine blk_alloc ?_ _));refine blk_put (cs:=#[.string a0_0,.string a3,.int .i64 1,.slice Ao98 y550.length co98,.slice none 0 0]) ?_ 4 _ rfl;(with_reducible repeat (first|refine blk_drewN ?_ _|refine blk_drew ?_|refine blk_alloc ?_ _));refine blk_put (cs:=#[.string a0_0,.string a3,.int .i64 1,.slice none 0 0,.slice none 0 0]) ?_ 3 _ rfl;(with_reducible repeat (first|refine blk_drewN ?_ _|refine blk_drew ?_|refine blk_alloc ?_ _));refine blk_put (cs:=#[.string a0_0,.string a3,.int .i64 0,.slice none 0 0,.slice none 0 0]) ?_ 2 _ rfl;(with_reducible repeat (first|refine blk_drewN ?_ _|refine blk_drew ?_|refine blk_alloc ?_ _));refine blk_put (cs:=#[.string a0_0,.string (⟨#[]⟩:ByteArray),.int .i64 0,.slice none 0 0,.slice none 0 0]) ?_ 1 _ rfl;(with_reducible repeat (first|refine blk_drewN ?_ _|refine blk_drew ?_|refine blk_alloc ?_ _));refine blk_put (cs:=#[.string (⟨#[]⟩:ByteArray),.string (⟨#[]⟩:ByteArray),.int .i64 0,.slice none 0 0,.slice none 0 0]) ?_ 0 _ rfl;(with_reducible repeat (first|refine blk_drewN ?_ _|refine blk_drew ?_|refine blk_alloc ?_ _));refine blk_far ?_ NB515_522.out _;(with_reducible repeat (first|refine blk_drewN ?_ _|refine blk_drew ?_|refine blk_alloc ?_ _));exact BK515.out) Tryd.underlying33 rfl (by kernel_rfl)) rfl ?_
            exact ⟨_,_,by first|rfl|(simp [errW_none,errW_some] <;> rfl)|(simp [*,errW_none,errW_some] <;> rfl),by (with_reducible repeat (first|apply Kd.R_alloc|apply Kd.R_drewN|apply Kd.R_drew));exact Kd.R_mono (Kd.R_far (p:=⟨gb515,4,none⟩) (Kd.R_far (p:=⟨gb515,3,none⟩) (Kd.R_far (p:=⟨gb515,2,none⟩) (Kd.R_far (p:=⟨gb515,1,none⟩) (Kd.R_far (p:=⟨gb515,0,none⟩) (Kd.R_far (p:=⟨gb522,3,none⟩) (Kd.R_types (Kd.R_types HO552.out BK522.out (by decide)) BK515.out (by decide)) (fun _ hk=>hk.1.2) (.slice Ao98 y550.length co98)) (fun _ hk=>hk.2) (.string a0_0)) (fun _ hk=>hk.2) (.string a3)) (fun _ hk=>hk.2) (.int .i64 1)) (fun _ hk=>hk.2) (.slice Ao98 y550.length co98)) (fun _ hk=>hk.2) (.slice Ao18 t519.length co18)) (fun _ hk=>trivial),by (with_reducible repeat (first|apply Kd.R_alloc|apply Kd.R_drewN|apply Kd.R_drew));exact Kd.R_mono (Kd.R_far (p:=⟨gb515,4,none⟩) (Kd.R_far (p:=⟨gb515,3,none⟩) (Kd.R_far (p:=⟨gb515,2,none⟩) (Kd.R_far (p:=⟨gb515,1,none⟩) (Kd.R_far (p:=⟨gb515,0,none⟩) (Kd.R_far (p:=⟨gb522,3,none⟩) (Kd.R_types (Kd.R_types HO_523004.out BK522.out (by decide)) BK515.out (by decide)) (fun _ hk=>hk.1.2) (.slice Ao98 y550.length co98)) (fun _ hk=>hk.2) (.string a0_0)) (fun _ hk=>hk.2) (.string a3)) (fun _ hk=>hk.2) (.int .i64 1)) (fun _ hk=>hk.2) (.slice Ao98 y550.length co98)) (fun _ hk=>hk.2) (.slice Ao18 t519.length co18)) (fun _ hk=>trivial),by repeat (first|(with_reducible first|exact HB.out|apply below_alloc|apply pw_below_drewN|apply below_drew1|refine below_set ?_ GE513.out|refine below_set ?_ GE514.out|refine below_set ?_ GE515.out|refine below_set ?_ GE522.out)|exact HB.out)⟩
           ·rw [if_neg c87] at H
            exact absurd H (by simp)
          ·rw [if_neg c85] at H
           have c85b0:decide (0 < (l0_4.length:Int))=false:=decide_eq_false c85
           have c85b1:decide (0 < l0_4.length)=false:=decide_eq_false (by omega)
           clear c85
           by_cases c103:a0_0.toList=([80,79,83,84]:List UInt8)
           ·rw [if_pos c103] at H
            have c103b0:(a0_0.toList == ([80,79,83,84]:List UInt8))=true:=beq_iff_eq.mpr c103
            have c103b1:(a0_0.toList != ([80,79,83,84]:List UInt8))=false:=bne_eq_false_iff_eq.mpr c103
            clear c103
            replace H:=Option.bind_eq_some_iff.mp H
            obtain ⟨⟨t553,t554⟩,A1040,H⟩:=H
            replace H:(if x523003_3.length < 4398046511104 then (some (a0_0,a3,1,(x523003_3 ++ [(⟨t553,t554⟩:S41)]),t519)) else (none))=some (r1,r2,r3,r4,r5):=H
            have A104:=Aside0.mk A1040
            clear A1040
            by_cases c105:x523003_3.length < 4398046511104
            ·rw [if_pos c105] at H
             have LMc105:=Aside0.mk c105
             clear c105
             obtain ⟨y555,hy555⟩ : ∃ y_:List (S41),y_=(x523003_3 ++ [(⟨t553,t554⟩:S41)]):=⟨_,rfl⟩
             replace H:(some (a0_0,a3,1,y555,t519))=some (r1,r2,r3,r4,r5):=by first|(rw [hy555];with_reducible exact H)|(have H2_:=(Option.bind_some _ _).symm.trans H;rw [hy555];with_reducible exact H2_)|(have H2_:=(Option.bind_some _ _).symm.trans H;with_reducible exact H2_)|with_reducible exact H|(rw [hy555];exact H)|exact H
             have Ny555:=Aside0.mk hy555
             clear hy555
             simp only [Option.some.injEq,Prod.mk.injEq] at H
             obtain ⟨rfl,rfl,rfl,rfl,rfl⟩:=H
             have hnb106:=NB514_513.out
             have hnc106:=NB513_514.out
             have hnb107:=NB514_515.out
             have hnc107:=NB515_514.out
             have hnb108:=NB514_522.out
             have hnc108:=NB522_514.out
             have hcz109_0:wr.cell? ⟨gb514,0,none⟩=some (.slice A1_0 l1_0.length c1_0):=(blk_cell BK514.out 0).trans rfl
             have hcz109_1:wr.cell? ⟨gb514,1,none⟩=some (.slice A1_1 l1_1.length c1_1):=(blk_cell BK514.out 1).trans rfl
             have hcz109_2:wr.cell? ⟨gb514,2,none⟩=some (.slice A1_2 l1_2.length c1_2):=(blk_cell BK514.out 2).trans rfl
             have hcz109_3:wr.cell? ⟨gb514,3,none⟩=some (.slice A1_3 l1_3.length c1_3):=(blk_cell BK514.out 3).trans rfl
             have hcz109_4:wr.cell? ⟨gb514,4,none⟩=some (.int .i64 a1_4):=(blk_cell BK514.out 4).trans rfl
             have hcz109_5:wr.cell? ⟨gb514,5,none⟩=some (.int .i64 a1_5):=(blk_cell BK514.out 5).trans rfl
             have hcz109_6:wr.cell? ⟨gb514,6,none⟩=some (.int .i64 a1_6):=(blk_cell BK514.out 6).trans rfl
             have hcz109_7:wr.cell? ⟨gb514,7,none⟩=some (.int .i64 a1_7):=(blk_cell BK514.out 7).trans rfl
             have hfz109_0:=blk_frozen BK514.out 0
             have hfz109_1:=blk_frozen BK514.out 1
             have hfz109_2:=blk_frozen BK514.out 2
             have hfz109_3:=blk_frozen BK514.out 3
             have hfz109_4:=blk_frozen BK514.out 4
             have hfz109_5:=blk_frozen BK514.out 5
             have hfz109_6:=blk_frozen BK514.out 6
             have hfz109_7:=blk_frozen BK514.out 7
             have hnb110:=NB513_515.out
             have hnc110:=NB515_513.out
             have hnb111:=NB513_522.out
             have hnc111:=NB522_513.out
             have hcz112_0:wr.cell? ⟨gb513,0,none⟩=some (.string a0_0):=(blk_cell BK513.out 0).trans rfl
             have hcz112_1:wr.cell? ⟨gb513,1,none⟩=some (.string a0_1):=(blk_cell BK513.out 1).trans rfl
             have hcz112_2:wr.cell? ⟨gb513,2,none⟩=some (.int .i64 a0_2):=(blk_cell BK513.out 2).trans rfl
             have hcz112_3:wr.cell? ⟨gb513,3,none⟩=some (.slice A0_3 l0_3.length c0_3):=(blk_cell BK513.out 3).trans rfl
             have hcz112_4:wr.cell? ⟨gb513,4,none⟩=some (.slice A0_4 l0_4.length c0_4):=(blk_cell BK513.out 4).trans rfl
             have hfz112_0:=blk_frozen BK513.out 0
             have hfz112_1:=blk_frozen BK513.out 1
             have hfz112_2:=blk_frozen BK513.out 2
             have hfz112_3:=blk_frozen BK513.out 3
             have hfz112_4:=blk_frozen BK513.out 4
             try go_wp2
             replace HO_523003:=Aside0.mk (Kd.R_drew HO_523003.out)
             replace HO_523004:=Aside0.mk (Kd.R_drew HO_523004.out)
             replace BK513:=Aside0.mk (blk_drew BK513.out)
             replace BK514:=Aside0.mk (blk_drew BK514.out)
             replace BK515:=Aside0.mk (blk_drew BK515.out)
             replace BK522:=Aside0.mk (blk_drew BK522.out)
             replace HB:=Aside0.mk (below_drew1 HB.out)
             refine start_ (n:=10) (S:=fun w' => w'.cell? ⟨gb522,0,none⟩=some (.string a0_0)∧w'.cell? ⟨gb522,1,none⟩=some (.string a3)∧w'.cell? ⟨gb522,2,none⟩=some (.int .i64 1)∧w'.cell? ⟨gb522,3,none⟩=some (u523003)∧w'.cell? ⟨gb522,4,none⟩=some (.slice Ao18 t519.length co18)∧w'.cell? ⟨gb513,0,none⟩=some (.string a0_0)∧w'.cell? ⟨gb513,1,none⟩=some (.string a0_1)∧w'.cell? ⟨gb513,2,none⟩=some (.int .i64 a0_2)∧w'.cell? ⟨gb513,3,none⟩=some (.slice A0_3 l0_3.length c0_3)∧w'.cell? ⟨gb513,4,none⟩=some (.slice A0_4 l0_4.length c0_4)) (ds:=[9]) #[false,false,false,false,false,false,false,false,false,false] (by kernel_rfl) rfl rfl ⟨(blk_cell BK522.out 0).trans rfl,(blk_cell BK522.out 1).trans rfl,(blk_cell BK522.out 2).trans rfl,(blk_cell BK522.out 3).trans rfl,(blk_cell BK522.out 4).trans rfl,(blk_cell BK513.out 0).trans rfl,(blk_cell BK513.out 1).trans rfl,(blk_cell BK513.out 2).trans rfl,(blk_cell BK513.out 3).trans rfl,(blk_cell BK513.out 4).trans rfl⟩ (fun hHeld=>?_);refine with_tabW tollbarref12_Request.tab19 tollbarref12_Request.bits19 (fun HT_ HW_=>?_)
             generalize wr.drew=w113 at HO_523003 HO_523004 BK513 BK514 BK515 BK522 HB hHeld ⊢
             refine pure_ (i:=0) (N:=some 117) (v:=?_) (a' := ?_) #[true,false,false,false,false,false,false,false,false,false] rfl rfl (any_of HT_.out (by kernel_rfl)) (fun _ _ _ h=>h) (Or.inl ⟨by rfl,?_⟩) ?_ ?_
             rotate_left
             ·intro w';go_simp;with_reducible rfl
             rotate_left
             ·simp only [Act.put,zqA,zqB,zqC,i64_w,i32_w];rfl
             refine pure_ (i:=2) (N:=some 119) (v:=?_) (a' := ?_) #[true,false,true,false,false,false,false,false,false,false] rfl rfl (any_of HT_.out (by kernel_rfl)) (fun _ _ _ h=>h) (Or.inl ⟨by rfl,?_⟩) ?_ ?_
             rotate_left
             ·intro w';go_simp;with_reducible rfl
             rotate_left
             ·simp only [Act.put,zqA,zqB,zqC,i64_w,i32_w];rfl
             refine take_ (i:=1) (N:=some 118) (v:=?_) (a' := ?_) #[true,true,true,false,false,false,false,false,false,false] rfl rfl (take_ofW HT_.out HW_.out (by kernel_rfl)) (fun _ _ _ h=>h) (Or.inl ⟨by rfl,?_⟩) hHeld ?_ ?_
             rotate_left
             ·rintro w' ⟨s0,s1,s2,s3,s4,s5,s6,s7,s8,s9⟩;go_simp;with_reducible rfl
             rotate_left
             ·simp only [Act.put,zqA,zqB,zqC,i64_w,i32_w];rfl
             refine take_ (i:=3) (N:=some 120) (v:=?_) (a' := ?_) #[true,true,true,true,false,false,false,false,false,false] rfl rfl (take_ofW HT_.out HW_.out (by kernel_rfl)) (fun _ _ _ h=>h) (Or.inl ⟨by rfl,?_⟩) hHeld ?_ ?_
             rotate_left
             ·rintro w' ⟨s0,s1,s2,s3,s4,s5,s6,s7,s8,s9⟩;go_simp;with_reducible rfl
             rotate_left
             ·simp only [Act.put,zqA,zqB,zqC,i64_w,i32_w];rfl
             refine pure_ (i:=4) (N:=some 121) (v:=?_) (a' := ?_) #[true,true,true,true,true,false,false,false,false,false] rfl rfl (any_of HT_.out (by kernel_rfl)) (fun _ _ _ h=>h) (Or.inl ⟨by rfl,?_⟩) ?_ ?_
             rotate_left
             ·intro w';go_simp;with_reducible rfl
             rotate_left
             ·simp only [Act.put,zqA,zqB,zqC,i64_w,i32_w];rfl
             refine one_ (i:=5) (N:=some 122) #[true,true,true,true,true,true,false,false,false,false] rfl rfl (one_of HT_.out (by kernel_rfl)) (by decide) (fun K hK=>?_)
             refine goes_ Tryd.func42 (by kernel_rfl) rfl #[.int .i64 (l0_4.length:Int)] (by rfl) rfl rfl (by (try simp only [List.map_toArray,List.map_cons,List.map_nil]);first|done|rfl|(simp only [List.length_drop,List.length_take];rfl)) ?_
             with_reducible refine (tollbarref12_length.calls k3 (l0_4.length:Int) t553 t554 _ A104.out).mono ?_
             rintro e w114 ⟨rfl,hb⟩
             refine ⟨_,rfl,?_⟩
             replace HO_523003:=Aside0.mk (Kd.R_below (by (with_reducible repeat (first|apply Kd.R_alloc|apply Kd.R_drewN|apply Kd.R_drew));exact HO_523003.out) hb)
             replace HO_523004:=Aside0.mk (Kd.R_below (by (with_reducible repeat (first|apply Kd.R_alloc|apply Kd.R_drewN|apply Kd.R_drew));exact HO_523004.out) hb)
             replace BK513:=Aside0.mk (blk_below (g:=gb513) (o:=.cells #[.string a0_0,.string a0_1,.int .i64 a0_2,.slice A0_3 l0_3.length c0_3,.slice A0_4 l0_4.length c0_4] 33 (0,0)) (by (with_reducible repeat (first|refine blk_drewN ?_ _|refine blk_drew ?_|refine blk_alloc ?_ _));exact BK513.out) hb)
             replace BK514:=Aside0.mk (blk_below (g:=gb514) (o:=.cells #[.slice A1_0 l1_0.length c1_0,.slice A1_1 l1_1.length c1_1,.slice A1_2 l1_2.length c1_2,.slice A1_3 l1_3.length c1_3,.int .i64 a1_4,.int .i64 a1_5,.int .i64 a1_6,.int .i64 a1_7] 38 (0,0)) (by (with_reducible repeat (first|refine blk_drewN ?_ _|refine blk_drew ?_|refine blk_alloc ?_ _));exact BK514.out) hb)
             replace BK515:=Aside0.mk (blk_below (g:=gb515) (o:=.cells #[.string (⟨#[]⟩:ByteArray),.string (⟨#[]⟩:ByteArray),.int .i64 0,.slice none 0 0,.slice none 0 0] 33 (0,0)) (by (with_reducible repeat (first|refine blk_drewN ?_ _|refine blk_drew ?_|refine blk_alloc ?_ _));exact BK515.out) hb)
             replace BK522:=Aside0.mk (blk_below (g:=gb522) (o:=.cells #[.string a0_0,.string a3,.int .i64 1,u523003,.slice Ao18 t519.length co18] 33 (0,0)) (by (with_reducible repeat (first|refine blk_drewN ?_ _|refine blk_drew ?_|refine blk_alloc ?_ _));exact BK522.out) hb)
             replace HB:=Aside0.mk (below_step (by repeat (first|(with_reducible first|exact HB.out|apply below_alloc|apply pw_below_drewN|apply below_drew1|refine below_set ?_ GE513.out|refine below_set ?_ GE514.out|refine below_set ?_ GE515.out|refine below_set ?_ GE522.out)|exact HB.out)) hb)
             (try clear hb)
             (try clear hb2)
             (try clear hk)
             (try clear hi)
             refine hK.out _ _ ⟨(blk_cell BK522.out 0).trans rfl,(blk_cell BK522.out 1).trans rfl,(blk_cell BK522.out 2).trans rfl,(blk_cell BK522.out 3).trans rfl,(blk_cell BK522.out 4).trans rfl,(blk_cell BK513.out 0).trans rfl,(blk_cell BK513.out 1).trans rfl,(blk_cell BK513.out 2).trans rfl,(blk_cell BK513.out 3).trans rfl,(blk_cell BK513.out 4).trans rfl⟩ (fun hHeld=>?_)
             clear hK K
             refine norm_ (a' := ?_) ?_ ?_
             rotate_left
             ·show Act.put _ (some 122) _=_
              simp only [Act.put,zqA,zqB,zqC,i64_w,i32_w]
              rfl
             refine one_ (i:=6) (N:=some 123) #[true,true,true,true,true,true,true,false,false,false] rfl rfl (one_of HT_.out (by kernel_rfl)) (by decide) (fun K hK=>?_)
             refine value_ (w1:=?_) (v:=?_) (by rfl) rfl ?_ ?_
             rotate_left 2
             ·go_simp
              constructor
              ·rfl
              ·rfl
             refine hK.out _ _ ⟨(blk_cell (blk_alloc BK522.out _) 0).trans rfl,(blk_cell (blk_alloc BK522.out _) 1).trans rfl,(blk_cell (blk_alloc BK522.out _) 2).trans rfl,(blk_cell (blk_alloc BK522.out _) 3).trans rfl,(blk_cell (blk_alloc BK522.out _) 4).trans rfl,(blk_cell (blk_alloc BK513.out _) 0).trans rfl,(blk_cell (blk_alloc BK513.out _) 1).trans rfl,(blk_cell (blk_alloc BK513.out _) 2).trans rfl,(blk_cell (blk_alloc BK513.out _) 3).trans rfl,(blk_cell (blk_alloc BK513.out _) 4).trans rfl⟩ (fun hHeld=>?_)
             clear hK K
             refine norm_ (a' := ?_) ?_ ?_
             rotate_left
             ·show Act.put _ (some 123) _=_
              simp only [Act.put,zqA,zqB,zqC,i64_w,i32_w]
              rfl
             refine one_ (i:=7) (N:=some 124) #[true,true,true,true,true,true,true,true,false,false] rfl rfl (one_of HT_.out (by kernel_rfl)) (by decide) (fun K hK=>?_)
             refine Kd.R_append_step k41 (w0:=w) w.heap.size (by rfl) (.tmp 118) (.tmp 123) 31 41 (.agg #[(.string ⟨#[]⟩),(.string ⟨#[]⟩)]) 32 rfl Tryd.underlying31 info41 rfl (by decide) (by omega) u523003 x523003_3 (⟨t553,t554⟩:S41) [.string t553,.string t554] (fun _=>True) (fun _=>False) rfl rfl ?aP (fun _ hk=>hk.elim) ?aF ?aO ?aB ?aS ?aL ?_
             (case aP=>exact k41_mkM _ _ _ (⟨t553,t554⟩:S41))
             (case aB=>exact (by repeat (first|(with_reducible first|exact HB.out|apply below_alloc|apply pw_below_drewN|apply below_drew1|refine below_set ?_ GE513.out|refine below_set ?_ GE514.out|refine below_set ?_ GE515.out|refine below_set ?_ GE522.out)|exact HB.out)))
             (case aF=>exact (fun _ _=>trivial))
             (case aO=>exact (by (with_reducible repeat (first|apply Kd.R_alloc|apply Kd.R_drewN|apply Kd.R_drew));exact HO_523003.out))
             (case aS=>exact (below_size (by repeat (first|(with_reducible first|exact HB.out|apply below_alloc|apply pw_below_drewN|apply below_drew1|refine below_set ?_ GE513.out|refine below_set ?_ GE514.out|refine below_set ?_ GE515.out|refine below_set ?_ GE522.out)|exact HB.out))))
             (case aL=>have:=LMc105.out;omega)
             intro v556 w115 ho hb hg hat
             rw [← Ny555.out] at ho
             have n0_:=Aside0.mk (Kd.R_over' (by (with_reducible repeat (first|apply Kd.R_alloc|apply Kd.R_drewN|apply Kd.R_drew));exact HO_523004.out) (Kd.R_typed (by (with_reducible repeat (first|apply Kd.R_alloc|apply Kd.R_drewN|apply Kd.R_drew));exact HO_523003.out)) (by decide) hg)
             have n1_:=Aside0.mk (blk_grown (g:=gb513) (o:=.cells #[.string a0_0,.string a0_1,.int .i64 a0_2,.slice A0_3 l0_3.length c0_3,.slice A0_4 l0_4.length c0_4] 33 (0,0)) (by (with_reducible repeat (first|refine blk_drewN ?_ _|refine blk_drew ?_|refine blk_alloc ?_ _));exact BK513.out) hg (Kd.R_ne HO_523003.out BK513.out (by decide)))
             have n2_:=Aside0.mk (blk_grown (g:=gb514) (o:=.cells #[.slice A1_0 l1_0.length c1_0,.slice A1_1 l1_1.length c1_1,.slice A1_2 l1_2.length c1_2,.slice A1_3 l1_3.length c1_3,.int .i64 a1_4,.int .i64 a1_5,.int .i64 a1_6,.int .i64 a1_7] 38 (0,0)) (by (with_reducible repeat (first|refine blk_drewN ?_ _|refine blk_drew ?_|refine blk_alloc ?_ _));exact BK514.out) hg (Kd.R_ne HO_523003.out BK514.out (by decide)))
             have n3_:=Aside0.mk (blk_grown (g:=gb515) (o:=.cells #[.string (⟨#[]⟩:ByteArray),.string (⟨#[]⟩:ByteArray),.int .i64 0,.slice none 0 0,.slice none 0 0] 33 (0,0)) (by (with_reducible repeat (first|refine blk_drewN ?_ _|refine blk_drew ?_|refine blk_alloc ?_ _));exact BK515.out) hg (Kd.R_ne HO_523003.out BK515.out (by decide)))
             have n4_:=Aside0.mk (blk_grown (g:=gb522) (o:=.cells #[.string a0_0,.string a3,.int .i64 1,u523003,.slice Ao18 t519.length co18] 33 (0,0)) (by (with_reducible repeat (first|refine blk_drewN ?_ _|refine blk_drew ?_|refine blk_alloc ?_ _));exact BK522.out) hg (Kd.R_ne HO_523003.out BK522.out (by decide)))
             have n5_:=Aside0.mk (hb)
             have n6_:=Aside0.mk (ho)
             clear HO_523004 BK513 BK514 BK515 BK522 HB HO_523003
             have HO_523004:=n0_
             have BK513:=n1_
             have BK514:=n2_
             have BK515:=n3_
             have BK522:=n4_
             have HB:=n5_
             have HO557:=n6_
             clear n0_ n1_ n2_ n3_ n4_ n5_ n6_ ho hb hg hat
             obtain ⟨Ao116,co116,eo116⟩:=Kd.R_slice HO557.out
             (first|subst eo116|(injection eo116 with f1_ f2_ f3_;have f4_:=f1_.symm;have f5_:=f3_.symm;clear f1_ f2_ f3_;subst f4_;subst f5_))
             refine hK.out _ _ ⟨(blk_cell BK522.out 0).trans rfl,(blk_cell BK522.out 1).trans rfl,(blk_cell BK522.out 2).trans rfl,(blk_cell BK522.out 3).trans rfl,(blk_cell BK522.out 4).trans rfl,(blk_cell BK513.out 0).trans rfl,(blk_cell BK513.out 1).trans rfl,(blk_cell BK513.out 2).trans rfl,(blk_cell BK513.out 3).trans rfl,(blk_cell BK513.out 4).trans rfl⟩ (fun hHeld=>?_)
             clear hK K
             refine norm_ (a' := ?_) ?_ ?_
             rotate_left
             ·show Act.put _ (some 124) _=_
              simp only [Act.put,zqA,zqB,zqC,i64_w,i32_w]
              rfl
             refine pure_ (i:=8) (N:=some 125) (v:=?_) (a' := ?_) #[true,true,true,true,true,true,true,true,true,false] rfl rfl (any_of HT_.out (by kernel_rfl)) (fun _ _ _ h=>h) (Or.inl ⟨by rfl,?_⟩) ?_ ?_
             rotate_left
             ·intro w';go_simp;with_reducible rfl
             rotate_left
             ·simp only [Act.put,zqA,zqB,zqC,i64_w,i32_w];rfl
             refine last_ (i:=9) (N:=none) #[true,true,true,true,true,true,true,true,true,true] rfl rfl (one_of HT_.out (by kernel_rfl)) (by decide) (fun K hK=>?_)
             have hs117:w115.cell? ⟨gb522,3,none⟩=some (u523003):=(blk_cell BK522.out 3).trans rfl
             have hfs117:=blk_frozen BK522.out 3
             have hns117_0:=NB513_522.out
             have hns117_1:=NB514_522.out
             have hns117_2:=NB515_522.out
             have hms117_0:=NB522_513.out
             have hms117_1:=NB522_514.out
             have hms117_2:=NB522_515.out
             refine skip_ (w1:=?_) (by rfl) rfl ?_ ?_
             rotate_left
             ·go_simp
              rfl
             refine hK.out _ _ ?_
             clear hK K
             refine done_ (done_of HT_.out (by kernel_rfl)) ?_
             have hnb118:=NB522_515.out
             have hnc118:=NB515_522.out
             have hcz119_0:w115.cell? ⟨gb522,0,none⟩=some (.string a0_0):=(blk_cell BK522.out 0).trans rfl
             have hcz119_1:w115.cell? ⟨gb522,1,none⟩=some (.string a3):=(blk_cell BK522.out 1).trans rfl
             have hcz119_2:w115.cell? ⟨gb522,2,none⟩=some (.int .i64 1):=(blk_cell BK522.out 2).trans rfl
             have hcz119_3:w115.cell? ⟨gb522,3,none⟩=some (u523003):=(blk_cell BK522.out 3).trans rfl
             have hcz119_4:w115.cell? ⟨gb522,4,none⟩=some (.slice Ao18 t519.length co18):=(blk_cell BK522.out 4).trans rfl
             have hfz119_0:=blk_frozen BK522.out 0
             have hfz119_1:=blk_frozen BK522.out 1
             have hfz119_2:=blk_frozen BK522.out 2
             have hfz119_3:=blk_frozen BK522.out 3
             have hfz119_4:=blk_frozen BK522.out 4
             have hcz120_0:w115.cell? ⟨gb515,0,none⟩=some (.string (⟨#[]⟩:ByteArray)):=(blk_cell BK515.out 0).trans rfl
             have hcz120_1:w115.cell? ⟨gb515,1,none⟩=some (.string (⟨#[]⟩:ByteArray)):=(blk_cell BK515.out 1).trans rfl
             have hcz120_2:w115.cell? ⟨gb515,2,none⟩=some (.int .i64 0):=(blk_cell BK515.out 2).trans rfl
             have hcz120_3:w115.cell? ⟨gb515,3,none⟩=some (.slice none 0 0):=(blk_cell BK515.out 3).trans rfl
             have hcz120_4:w115.cell? ⟨gb515,4,none⟩=some (.slice none 0 0):=(blk_cell BK515.out 4).trans rfl
             have hfz120_0:=blk_frozen BK515.out 0
             have hfz120_1:=blk_frozen BK515.out 1
             have hfz120_2:=blk_frozen BK515.out 2
             have hfz120_3:=blk_frozen BK515.out 3
             have hfz120_4:=blk_frozen BK515.out 4
             try go_wp2
             refine bodyPost_ret (results_cell_row rfl _ _ gb515 33 #[.string a0_0,.string a3,.int .i64 1,.slice Ao116 y555.length co116,.slice Ao18 t519.length co18] (0,0) _ rfl (by (with_reducible repeat (first|refine blk_drewN ?_ _|refine blk_drew ?_|refine blk_alloc ?_ _));refine blk_put (cs:=#[.string a0_0,.string a3,.int .i64 1,.slice Ao116 y555.length co116,.slice none 0 0]) ?_ 4 _ rfl;(with_reducible repeat (first|refine blk_drewN ?_ _|refine blk_drew ?_|refine blk_alloc ?_ _));refine blk_put (cs:=#[.string a0_0,.string a3,.int .i64 1,.slice none 0 0,.slice none 0 0]) ?_ 3 _ rfl;(with_reducible repeat (first|refine blk_drewN ?_ _|refine blk_drew ?_|refine blk_alloc ?_ _));refine blk_put (cs:=#[.string a0_0,.string a3,.int .i64 0,.slice none 0 0,.slice none 0 0]) ?_ 2 _ rfl;(with_reducible repeat (first|refine blk_drewN ?_ _|refine blk_drew ?_|refine blk_alloc ?_ _));refine blk_put (cs:=#[.string a0_0,.string (⟨#[]⟩:ByteArray),.int .i64 0,.slice none 0 0,.slice none 0 0]) ?_ 1 _ rfl;(with_reducible repeat (first|refine blk_drewN ?_ _|refine blk_drew ?_|refine blk_alloc ?_ _));refine blk_put (cs:=#[.string (⟨#[]⟩:ByteArray),.string (⟨#[]⟩:ByteArray),.int .i64 0,.slice none 0 0,.slice none 0 0]) ?_ 0 _ rfl;(with_reducible repeat (first|refine blk_drewN ?_ _|refine blk_drew ?_|refine blk_alloc ?_ _));refine blk_far ?_ NB515_522.out _;(with_reducible repeat (first|refine blk_drewN ?_ _|refine blk_drew ?_|refine blk_alloc ?_ _));exact BK515.out) Tryd.underlying33 rfl (by kernel_rfl)) rfl ?_
             exact ⟨_,_,by first|rfl|(simp [errW_none,errW_some] <;> rfl)|(simp [*,errW_none,errW_some] <;> rfl),by (with_reducible repeat (first|apply Kd.R_alloc|apply Kd.R_drewN|apply Kd.R_drew));exact Kd.R_mono (Kd.R_far (p:=⟨gb515,4,none⟩) (Kd.R_far (p:=⟨gb515,3,none⟩) (Kd.R_far (p:=⟨gb515,2,none⟩) (Kd.R_far (p:=⟨gb515,1,none⟩) (Kd.R_far (p:=⟨gb515,0,none⟩) (Kd.R_far (p:=⟨gb522,3,none⟩) (Kd.R_types (Kd.R_types HO557.out BK522.out (by decide)) BK515.out (by decide)) (fun _ hk=>hk.1.2) (.slice Ao116 y555.length co116)) (fun _ hk=>hk.2) (.string a0_0)) (fun _ hk=>hk.2) (.string a3)) (fun _ hk=>hk.2) (.int .i64 1)) (fun _ hk=>hk.2) (.slice Ao116 y555.length co116)) (fun _ hk=>hk.2) (.slice Ao18 t519.length co18)) (fun _ hk=>trivial),by (with_reducible repeat (first|apply Kd.R_alloc|apply Kd.R_drewN|apply Kd.R_drew));exact Kd.R_mono (Kd.R_far (p:=⟨gb515,4,none⟩) (Kd.R_far (p:=⟨gb515,3,none⟩) (Kd.R_far (p:=⟨gb515,2,none⟩) (Kd.R_far (p:=⟨gb515,1,none⟩) (Kd.R_far (p:=⟨gb515,0,none⟩) (Kd.R_far (p:=⟨gb522,3,none⟩) (Kd.R_types (Kd.R_types HO_523004.out BK522.out (by decide)) BK515.out (by decide)) (fun _ hk=>hk.1.2) (.slice Ao116 y555.length co116)) (fun _ hk=>hk.2) (.string a0_0)) (fun _ hk=>hk.2) (.string a3)) (fun _ hk=>hk.2) (.int .i64 1)) (fun _ hk=>hk.2) (.slice Ao116 y555.length co116)) (fun _ hk=>hk.2) (.slice Ao18 t519.length co18)) (fun _ hk=>trivial),by repeat (first|(with_reducible first|exact HB.out|apply below_alloc|apply pw_below_drewN|apply below_drew1|refine below_set ?_ GE513.out|refine below_set ?_ GE514.out|refine below_set ?_ GE515.out|refine below_set ?_ GE522.out)|exact HB.out)⟩
            ·rw [if_neg c105] at H
             exact absurd H (by simp)
           ·rw [if_neg c103] at H
            have c103b0:(a0_0.toList == ([80,79,83,84]:List UInt8))=false:=beq_eq_false_iff_ne.mpr c103
            have c103b1:(a0_0.toList != ([80,79,83,84]:List UInt8))=true:=bne_iff_ne.mpr c103
            by_cases c121:a0_0.toList=([80,85,84]:List UInt8)
            ·rw [if_pos c121] at H
             have c121b0:(a0_0.toList == ([80,85,84]:List UInt8))=true:=beq_iff_eq.mpr c121
             have c121b1:(a0_0.toList != ([80,85,84]:List UInt8))=false:=bne_eq_false_iff_eq.mpr c121
             clear c121
             replace H:=Option.bind_eq_some_iff.mp H
             obtain ⟨⟨t558,t559⟩,A1220,H⟩:=H
             replace H:(if x523003_3.length < 4398046511104 then (some (a0_0,a3,1,(x523003_3 ++ [(⟨t558,t559⟩:S41)]),t519)) else (none))=some (r1,r2,r3,r4,r5):=H
             have A122:=Aside0.mk A1220
             clear A1220
             by_cases c123:x523003_3.length < 4398046511104
             ·rw [if_pos c123] at H
              have LMc123:=Aside0.mk c123
              clear c123
              obtain ⟨y560,hy560⟩ : ∃ y_:List (S41),y_=(x523003_3 ++ [(⟨t558,t559⟩:S41)]):=⟨_,rfl⟩
              replace H:(some (a0_0,a3,1,y560,t519))=some (r1,r2,r3,r4,r5):=by first|(rw [hy560];with_reducible exact H)|(have H2_:=(Option.bind_some _ _).symm.trans H;rw [hy560];with_reducible exact H2_)|(have H2_:=(Option.bind_some _ _).symm.trans H;with_reducible exact H2_)|with_reducible exact H|(rw [hy560];exact H)|exact H
              have Ny560:=Aside0.mk hy560
              clear hy560
              simp only [Option.some.injEq,Prod.mk.injEq] at H
              obtain ⟨rfl,rfl,rfl,rfl,rfl⟩:=H
              have hnb124:=NB514_513.out
              have hnc124:=NB513_514.out
              have hnb125:=NB514_515.out
              have hnc125:=NB515_514.out
              have hnb126:=NB514_522.out
              have hnc126:=NB522_514.out
              have hcz127_0:wr.cell? ⟨gb514,0,none⟩=some (.slice A1_0 l1_0.length c1_0):=(blk_cell BK514.out 0).trans rfl
              have hcz127_1:wr.cell? ⟨gb514,1,none⟩=some (.slice A1_1 l1_1.length c1_1):=(blk_cell BK514.out 1).trans rfl
              have hcz127_2:wr.cell? ⟨gb514,2,none⟩=some (.slice A1_2 l1_2.length c1_2):=(blk_cell BK514.out 2).trans rfl
              have hcz127_3:wr.cell? ⟨gb514,3,none⟩=some (.slice A1_3 l1_3.length c1_3):=(blk_cell BK514.out 3).trans rfl
              have hcz127_4:wr.cell? ⟨gb514,4,none⟩=some (.int .i64 a1_4):=(blk_cell BK514.out 4).trans rfl
              have hcz127_5:wr.cell? ⟨gb514,5,none⟩=some (.int .i64 a1_5):=(blk_cell BK514.out 5).trans rfl
              have hcz127_6:wr.cell? ⟨gb514,6,none⟩=some (.int .i64 a1_6):=(blk_cell BK514.out 6).trans rfl
              have hcz127_7:wr.cell? ⟨gb514,7,none⟩=some (.int .i64 a1_7):=(blk_cell BK514.out 7).trans rfl
              have hfz127_0:=blk_frozen BK514.out 0
              have hfz127_1:=blk_frozen BK514.out 1
              have hfz127_2:=blk_frozen BK514.out 2
              have hfz127_3:=blk_frozen BK514.out 3
              have hfz127_4:=blk_frozen BK514.out 4
              have hfz127_5:=blk_frozen BK514.out 5
              have hfz127_6:=blk_frozen BK514.out 6
              have hfz127_7:=blk_frozen BK514.out 7
              have hnb128:=NB513_515.out
              have hnc128:=NB515_513.out
              have hnb129:=NB513_522.out
              have hnc129:=NB522_513.out
              have hcz130_0:wr.cell? ⟨gb513,0,none⟩=some (.string a0_0):=(blk_cell BK513.out 0).trans rfl
              have hcz130_1:wr.cell? ⟨gb513,1,none⟩=some (.string a0_1):=(blk_cell BK513.out 1).trans rfl
              have hcz130_2:wr.cell? ⟨gb513,2,none⟩=some (.int .i64 a0_2):=(blk_cell BK513.out 2).trans rfl
              have hcz130_3:wr.cell? ⟨gb513,3,none⟩=some (.slice A0_3 l0_3.length c0_3):=(blk_cell BK513.out 3).trans rfl
              have hcz130_4:wr.cell? ⟨gb513,4,none⟩=some (.slice A0_4 l0_4.length c0_4):=(blk_cell BK513.out 4).trans rfl
              have hfz130_0:=blk_frozen BK513.out 0
              have hfz130_1:=blk_frozen BK513.out 1
              have hfz130_2:=blk_frozen BK513.out 2
              have hfz130_3:=blk_frozen BK513.out 3
              have hfz130_4:=blk_frozen BK513.out 4
              try go_wp2
              replace HO_523003:=Aside0.mk (Kd.R_drew HO_523003.out)
              replace HO_523004:=Aside0.mk (Kd.R_drew HO_523004.out)
              replace BK513:=Aside0.mk (blk_drew BK513.out)
              replace BK514:=Aside0.mk (blk_drew BK514.out)
              replace BK515:=Aside0.mk (blk_drew BK515.out)
              replace BK522:=Aside0.mk (blk_drew BK522.out)
              replace HB:=Aside0.mk (below_drew1 HB.out)
              refine start_ (n:=10) (S:=fun w' => w'.cell? ⟨gb522,0,none⟩=some (.string a0_0)∧w'.cell? ⟨gb522,1,none⟩=some (.string a3)∧w'.cell? ⟨gb522,2,none⟩=some (.int .i64 1)∧w'.cell? ⟨gb522,3,none⟩=some (u523003)∧w'.cell? ⟨gb522,4,none⟩=some (.slice Ao18 t519.length co18)∧w'.cell? ⟨gb513,0,none⟩=some (.string a0_0)∧w'.cell? ⟨gb513,1,none⟩=some (.string a0_1)∧w'.cell? ⟨gb513,2,none⟩=some (.int .i64 a0_2)∧w'.cell? ⟨gb513,3,none⟩=some (.slice A0_3 l0_3.length c0_3)∧w'.cell? ⟨gb513,4,none⟩=some (.slice A0_4 l0_4.length c0_4)) (ds:=[9]) #[false,false,false,false,false,false,false,false,false,false] (by kernel_rfl) rfl rfl ⟨(blk_cell BK522.out 0).trans rfl,(blk_cell BK522.out 1).trans rfl,(blk_cell BK522.out 2).trans rfl,(blk_cell BK522.out 3).trans rfl,(blk_cell BK522.out 4).trans rfl,(blk_cell BK513.out 0).trans rfl,(blk_cell BK513.out 1).trans rfl,(blk_cell BK513.out 2).trans rfl,(blk_cell BK513.out 3).trans rfl,(blk_cell BK513.out 4).trans rfl⟩ (fun hHeld=>?_);refine with_tabW tollbarref12_Request.tab19 tollbarref12_Request.bits19 (fun HT_ HW_=>?_)
              generalize wr.drew=w131 at HO_523003 HO_523004 BK513 BK514 BK515 BK522 HB hHeld ⊢
              refine pure_ (i:=0) (N:=some 117) (v:=?_) (a' := ?_) #[true,false,false,false,false,false,false,false,false,false] rfl rfl (any_of HT_.out (by kernel_rfl)) (fun _ _ _ h=>h) (Or.inl ⟨by rfl,?_⟩) ?_ ?_
              rotate_left
              ·intro w';go_simp;with_reducible rfl
              rotate_left
              ·simp only [Act.put,zqA,zqB,zqC,i64_w,i32_w];rfl
              refine pure_ (i:=2) (N:=some 119) (v:=?_) (a' := ?_) #[true,false,true,false,false,false,false,false,false,false] rfl rfl (any_of HT_.out (by kernel_rfl)) (fun _ _ _ h=>h) (Or.inl ⟨by rfl,?_⟩) ?_ ?_
              rotate_left
              ·intro w';go_simp;with_reducible rfl
              rotate_left
              ·simp only [Act.put,zqA,zqB,zqC,i64_w,i32_w];rfl
              refine take_ (i:=1) (N:=some 118) (v:=?_) (a' := ?_) #[true,true,true,false,false,false,false,false,false,false] rfl rfl (take_ofW HT_.out HW_.out (by kernel_rfl)) (fun _ _ _ h=>h) (Or.inl ⟨by rfl,?_⟩) hHeld ?_ ?_
              rotate_left
              ·rintro w' ⟨s0,s1,s2,s3,s4,s5,s6,s7,s8,s9⟩;go_simp;with_reducible rfl
              rotate_left
              ·simp only [Act.put,zqA,zqB,zqC,i64_w,i32_w];rfl
              refine take_ (i:=3) (N:=some 120) (v:=?_) (a' := ?_) #[true,true,true,true,false,false,false,false,false,false] rfl rfl (take_ofW HT_.out HW_.out (by kernel_rfl)) (fun _ _ _ h=>h) (Or.inl ⟨by rfl,?_⟩) hHeld ?_ ?_
              rotate_left
              ·rintro w' ⟨s0,s1,s2,s3,s4,s5,s6,s7,s8,s9⟩;go_simp;with_reducible rfl
              rotate_left
              ·simp only [Act.put,zqA,zqB,zqC,i64_w,i32_w];rfl
              refine pure_ (i:=4) (N:=some 121) (v:=?_) (a' := ?_) #[true,true,true,true,true,false,false,false,false,false] rfl rfl (any_of HT_.out (by kernel_rfl)) (fun _ _ _ h=>h) (Or.inl ⟨by rfl,?_⟩) ?_ ?_
              rotate_left
              ·intro w';go_simp;with_reducible rfl
              rotate_left
              ·simp only [Act.put,zqA,zqB,zqC,i64_w,i32_w];rfl
              refine one_ (i:=5) (N:=some 122) #[true,true,true,true,true,true,false,false,false,false] rfl rfl (one_of HT_.out (by kernel_rfl)) (by decide) (fun K hK=>?_)
              refine goes_ Tryd.func42 (by kernel_rfl) rfl #[.int .i64 (l0_4.length:Int)] (by rfl) rfl rfl (by (try simp only [List.map_toArray,List.map_cons,List.map_nil]);first|done|rfl|(simp only [List.length_drop,List.length_take];rfl)) ?_
              with_reducible refine (tollbarref12_length.calls k3 (l0_4.length:Int) t558 t559 _ A122.out).mono ?_
              rintro e w132 ⟨rfl,hb⟩
              refine ⟨_,rfl,?_⟩
              replace HO_523003:=Aside0.mk (Kd.R_below (by (with_reducible repeat (first|apply Kd.R_alloc|apply Kd.R_drewN|apply Kd.R_drew));exact HO_523003.out) hb)
              replace HO_523004:=Aside0.mk (Kd.R_below (by (with_reducible repeat (first|apply Kd.R_alloc|apply Kd.R_drewN|apply Kd.R_drew));exact HO_523004.out) hb)
              replace BK513:=Aside0.mk (blk_below (g:=gb513) (o:=.cells #[.string a0_0,.string a0_1,.int .i64 a0_2,.slice A0_3 l0_3.length c0_3,.slice A0_4 l0_4.length c0_4] 33 (0,0)) (by (with_reducible repeat (first|refine blk_drewN ?_ _|refine blk_drew ?_|refine blk_alloc ?_ _));exact BK513.out) hb)
              replace BK514:=Aside0.mk (blk_below (g:=gb514) (o:=.cells #[.slice A1_0 l1_0.length c1_0,.slice A1_1 l1_1.length c1_1,.slice A1_2 l1_2.length c1_2,.slice A1_3 l1_3.length c1_3,.int .i64 a1_4,.int .i64 a1_5,.int .i64 a1_6,.int .i64 a1_7] 38 (0,0)) (by (with_reducible repeat (first|refine blk_drewN ?_ _|refine blk_drew ?_|refine blk_alloc ?_ _));exact BK514.out) hb)
              replace BK515:=Aside0.mk (blk_below (g:=gb515) (o:=.cells #[.string (⟨#[]⟩:ByteArray),.string (⟨#[]⟩:ByteArray),.int .i64 0,.slice none 0 0,.slice none 0 0] 33 (0,0)) (by (with_reducible repeat (first|refine blk_drewN ?_ _|refine blk_drew ?_|refine blk_alloc ?_ _));exact BK515.out) hb)
              replace BK522:=Aside0.mk (blk_below (g:=gb522) (o:=.cells #[.string a0_0,.string a3,.int .i64 1,u523003,.slice Ao18 t519.length co18] 33 (0,0)) (by (with_reducible repeat (first|refine blk_drewN ?_ _|refine blk_drew ?_|refine blk_alloc ?_ _));exact BK522.out) hb)
              replace HB:=Aside0.mk (below_step (by repeat (first|(with_reducible first|exact HB.out|apply below_alloc|apply pw_below_drewN|apply below_drew1|refine below_set ?_ GE513.out|refine below_set ?_ GE514.out|refine below_set ?_ GE515.out|refine below_set ?_ GE522.out)|exact HB.out)) hb)
              (try clear hb)
              (try clear hb2)
              (try clear hk)
              (try clear hi)
              refine hK.out _ _ ⟨(blk_cell BK522.out 0).trans rfl,(blk_cell BK522.out 1).trans rfl,(blk_cell BK522.out 2).trans rfl,(blk_cell BK522.out 3).trans rfl,(blk_cell BK522.out 4).trans rfl,(blk_cell BK513.out 0).trans rfl,(blk_cell BK513.out 1).trans rfl,(blk_cell BK513.out 2).trans rfl,(blk_cell BK513.out 3).trans rfl,(blk_cell BK513.out 4).trans rfl⟩ (fun hHeld=>?_)
              clear hK K
              refine norm_ (a' := ?_) ?_ ?_
              rotate_left
              ·show Act.put _ (some 122) _=_
               simp only [Act.put,zqA,zqB,zqC,i64_w,i32_w]
               rfl
              refine one_ (i:=6) (N:=some 123) #[true,true,true,true,true,true,true,false,false,false] rfl rfl (one_of HT_.out (by kernel_rfl)) (by decide) (fun K hK=>?_)
              refine value_ (w1:=?_) (v:=?_) (by rfl) rfl ?_ ?_
              rotate_left 2
              ·go_simp
               constructor
               ·rfl
               ·rfl
              refine hK.out _ _ ⟨(blk_cell (blk_alloc BK522.out _) 0).trans rfl,(blk_cell (blk_alloc BK522.out _) 1).trans rfl,(blk_cell (blk_alloc BK522.out _) 2).trans rfl,(blk_cell (blk_alloc BK522.out _) 3).trans rfl,(blk_cell (blk_alloc BK522.out _) 4).trans rfl,(blk_cell (blk_alloc BK513.out _) 0).trans rfl,(blk_cell (blk_alloc BK513.out _) 1).trans rfl,(blk_cell (blk_alloc BK513.out _) 2).trans rfl,(blk_cell (blk_alloc BK513.out _) 3).trans rfl,(blk_cell (blk_alloc BK513.out _) 4).trans rfl⟩ (fun hHeld=>?_)
              clear hK K
              refine norm_ (a' := ?_) ?_ ?_
              rotate_left
              ·show Act.put _ (some 123) _=_
               simp only [Act.put,zqA,zqB,zqC,i64_w,i32_w]
               rfl
              refine one_ (i:=7) (N:=some 124) #[true,true,true,true,true,true,true,true,false,false] rfl rfl (one_of HT_.out (by kernel_rfl)) (by decide) (fun K hK=>?_)
              refine Kd.R_append_step k41 (w0:=w) w.heap.size (by rfl) (.tmp 118) (.tmp 123) 31 41 (.agg #[(.string ⟨#[]⟩),(.string ⟨#[]⟩)]) 32 rfl Tryd.underlying31 info41 rfl (by decide) (by omega) u523003 x523003_3 (⟨t558,t559⟩:S41) [.string t558,.string t559] (fun _=>True) (fun _=>False) rfl rfl ?aP (fun _ hk=>hk.elim) ?aF ?aO ?aB ?aS ?aL ?_
              (case aP=>exact k41_mkM _ _ _ (⟨t558,t559⟩:S41))
              (case aB=>exact (by repeat (first|(with_reducible first|exact HB.out|apply below_alloc|apply pw_below_drewN|apply below_drew1|refine below_set ?_ GE513.out|refine below_set ?_ GE514.out|refine below_set ?_ GE515.out|refine below_set ?_ GE522.out)|exact HB.out)))
              (case aF=>exact (fun _ _=>trivial))
              (case aO=>exact (by (with_reducible repeat (first|apply Kd.R_alloc|apply Kd.R_drewN|apply Kd.R_drew));exact HO_523003.out))
              (case aS=>exact (below_size (by repeat (first|(with_reducible first|exact HB.out|apply below_alloc|apply pw_below_drewN|apply below_drew1|refine below_set ?_ GE513.out|refine below_set ?_ GE514.out|refine below_set ?_ GE515.out|refine below_set ?_ GE522.out)|exact HB.out))))
              (case aL=>have:=LMc123.out;omega)
              intro v561 w133 ho hb hg hat
              rw [← Ny560.out] at ho
              have n0_:=Aside0.mk (Kd.R_over' (by (with_reducible repeat (first|apply Kd.R_alloc|apply Kd.R_drewN|apply Kd.R_drew));exact HO_523004.out) (Kd.R_typed (by (with_reducible repeat (first|apply Kd.R_alloc|apply Kd.R_drewN|apply Kd.R_drew));exact HO_523003.out)) (by decide) hg)
              have n1_:=Aside0.mk (blk_grown (g:=gb513) (o:=.cells #[.string a0_0,.string a0_1,.int .i64 a0_2,.slice A0_3 l0_3.length c0_3,.slice A0_4 l0_4.length c0_4] 33 (0,0)) (by (with_reducible repeat (first|refine blk_drewN ?_ _|refine blk_drew ?_|refine blk_alloc ?_ _));exact BK513.out) hg (Kd.R_ne HO_523003.out BK513.out (by decide)))
              have n2_:=Aside0.mk (blk_grown (g:=gb514) (o:=.cells #[.slice A1_0 l1_0.length c1_0,.slice A1_1 l1_1.length c1_1,.slice A1_2 l1_2.length c1_2,.slice A1_3 l1_3.length c1_3,.int .i64 a1_4,.int .i64 a1_5,.int .i64 a1_6,.int .i64 a1_7] 38 (0,0)) (by (with_reducible repeat (first|refine blk_drewN ?_ _|refine blk_drew ?_|refine blk_alloc ?_ _));exact BK514.out) hg (Kd.R_ne HO_523003.out BK514.out (by decide)))
              have n3_:=Aside0.mk (blk_grown (g:=gb515) (o:=.cells #[.string (⟨#[]⟩:ByteArray),.string (⟨#[]⟩:ByteArray),.int .i64 0,.slice none 0 0,.slice none 0 0] 33 (0,0)) (by (with_reducible repeat (first|refine blk_drewN ?_ _|refine blk_drew ?_|refine blk_alloc ?_ _));exact BK515.out) hg (Kd.R_ne HO_523003.out BK515.out (by decide)))
              have n4_:=Aside0.mk (blk_grown (g:=gb522) (o:=.cells #[.string a0_0,.string a3,.int .i64 1,u523003,.slice Ao18 t519.length co18] 33 (0,0)) (by (with_reducible repeat (first|refine blk_drewN ?_ _|refine blk_drew ?_|refine blk_alloc ?_ _));exact BK522.out) hg (Kd.R_ne HO_523003.out BK522.out (by decide)))
              have n5_:=Aside0.mk (hb)
              have n6_:=Aside0.mk (ho)
              clear HO_523004 BK513 BK514 BK515 BK522 HB HO_523003
              have HO_523004:=n0_
              have BK513:=n1_
              have BK514:=n2_
              have BK515:=n3_
              have BK522:=n4_
              have HB:=n5_
              have HO562:=n6_
              clear n0_ n1_ n2_ n3_ n4_ n5_ n6_ ho hb hg hat
              obtain ⟨Ao134,co134,eo134⟩:=Kd.R_slice HO562.out
              (first|subst eo134|(injection eo134 with f1_ f2_ f3_;have f4_:=f1_.symm;have f5_:=f3_.symm;clear f1_ f2_ f3_;subst f4_;subst f5_))
              refine hK.out _ _ ⟨(blk_cell BK522.out 0).trans rfl,(blk_cell BK522.out 1).trans rfl,(blk_cell BK522.out 2).trans rfl,(blk_cell BK522.out 3).trans rfl,(blk_cell BK522.out 4).trans rfl,(blk_cell BK513.out 0).trans rfl,(blk_cell BK513.out 1).trans rfl,(blk_cell BK513.out 2).trans rfl,(blk_cell BK513.out 3).trans rfl,(blk_cell BK513.out 4).trans rfl⟩ (fun hHeld=>?_)
              clear hK K
              refine norm_ (a' := ?_) ?_ ?_
              rotate_left
              ·show Act.put _ (some 124) _=_
               simp only [Act.put,zqA,zqB,zqC,i64_w,i32_w]
               rfl
              refine pure_ (i:=8) (N:=some 125) (v:=?_) (a' := ?_) #[true,true,true,true,true,true,true,true,true,false] rfl rfl (any_of HT_.out (by kernel_rfl)) (fun _ _ _ h=>h) (Or.inl ⟨by rfl,?_⟩) ?_ ?_
              rotate_left
              ·intro w';go_simp;with_reducible rfl
              rotate_left
              ·simp only [Act.put,zqA,zqB,zqC,i64_w,i32_w];rfl
              refine last_ (i:=9) (N:=none) #[true,true,true,true,true,true,true,true,true,true] rfl rfl (one_of HT_.out (by kernel_rfl)) (by decide) (fun K hK=>?_)
              have hs135:w133.cell? ⟨gb522,3,none⟩=some (u523003):=(blk_cell BK522.out 3).trans rfl
              have hfs135:=blk_frozen BK522.out 3
              have hns135_0:=NB513_522.out
              have hns135_1:=NB514_522.out
              have hns135_2:=NB515_522.out
              have hms135_0:=NB522_513.out
              have hms135_1:=NB522_514.out
              have hms135_2:=NB522_515.out
              refine skip_ (w1:=?_) (by rfl) rfl ?_ ?_
              rotate_left
              ·go_simp
               rfl
              refine hK.out _ _ ?_
              clear hK K
              refine done_ (done_of HT_.out (by kernel_rfl)) ?_
              have hnb136:=NB522_515.out
              have hnc136:=NB515_522.out
              have hcz137_0:w133.cell? ⟨gb522,0,none⟩=some (.string a0_0):=(blk_cell BK522.out 0).trans rfl
              have hcz137_1:w133.cell? ⟨gb522,1,none⟩=some (.string a3):=(blk_cell BK522.out 1).trans rfl
              have hcz137_2:w133.cell? ⟨gb522,2,none⟩=some (.int .i64 1):=(blk_cell BK522.out 2).trans rfl
              have hcz137_3:w133.cell? ⟨gb522,3,none⟩=some (u523003):=(blk_cell BK522.out 3).trans rfl
              have hcz137_4:w133.cell? ⟨gb522,4,none⟩=some (.slice Ao18 t519.length co18):=(blk_cell BK522.out 4).trans rfl
              have hfz137_0:=blk_frozen BK522.out 0
              have hfz137_1:=blk_frozen BK522.out 1
              have hfz137_2:=blk_frozen BK522.out 2
              have hfz137_3:=blk_frozen BK522.out 3
              have hfz137_4:=blk_frozen BK522.out 4
              have hcz138_0:w133.cell? ⟨gb515,0,none⟩=some (.string (⟨#[]⟩:ByteArray)):=(blk_cell BK515.out 0).trans rfl
              have hcz138_1:w133.cell? ⟨gb515,1,none⟩=some (.string (⟨#[]⟩:ByteArray)):=(blk_cell BK515.out 1).trans rfl
              have hcz138_2:w133.cell? ⟨gb515,2,none⟩=some (.int .i64 0):=(blk_cell BK515.out 2).trans rfl
              have hcz138_3:w133.cell? ⟨gb515,3,none⟩=some (.slice none 0 0):=(blk_cell BK515.out 3).trans rfl
              have hcz138_4:w133.cell? ⟨gb515,4,none⟩=some (.slice none 0 0):=(blk_cell BK515.out 4).trans rfl
              have hfz138_0:=blk_frozen BK515.out 0
              have hfz138_1:=blk_frozen BK515.out 1
              have hfz138_2:=blk_frozen BK515.out 2
              have hfz138_3:=blk_frozen BK515.out 3
              have hfz138_4:=blk_frozen BK515.out 4
              try go_wp2
              refine bodyPost_ret (results_cell_row rfl _ _ gb515 33 #[.string a0_0,.string a3,.int .i64 1,.slice Ao134 y560.length co134,.slice Ao18 t519.length co18] (0,0) _ rfl (by (with_reducible repeat (first|refine blk_drewN ?_ _|refine blk_drew ?_|refine blk_alloc ?_ _));refine blk_put (cs:=#[.string a0_0,.string a3,.int .i64 1,.slice Ao134 y560.length co134,.slice none 0 0]) ?_ 4 _ rfl;(with_reducible repeat (first|refine blk_drewN ?_ _|refine blk_drew ?_|refine blk_alloc ?_ _));refine blk_put (cs:=#[.string a0_0,.string a3,.int .i64 1,.slice none 0 0,.slice none 0 0]) ?_ 3 _ rfl;(with_reducible repeat (first|refine blk_drewN ?_ _|refine blk_drew ?_|refine blk_alloc ?_ _));refine blk_put (cs:=#[.string a0_0,.string a3,.int .i64 0,.slice none 0 0,.slice none 0 0]) ?_ 2 _ rfl;(with_reducible repeat (first|refine blk_drewN ?_ _|refine blk_drew ?_|refine blk_alloc ?_ _));refine blk_put (cs:=#[.string a0_0,.string (⟨#[]⟩:ByteArray),.int .i64 0,.slice none 0 0,.slice none 0 0]) ?_ 1 _ rfl;(with_reducible repeat (first|refine blk_drewN ?_ _|refine blk_drew ?_|refine blk_alloc ?_ _));refine blk_put (cs:=#[.string (⟨#[]⟩:ByteArray),.string (⟨#[]⟩:ByteArray),.int .i64 0,.slice none 0 0,.slice none 0 0]) ?_ 0 _ rfl;(with_reducible repeat (first|refine blk_drewN ?_ _|refine blk_drew ?_|refine blk_alloc ?_ _));refine blk_far ?_ NB515_522.out _;(with_reducible repeat (first|refine blk_drewN ?_ _|refine blk_drew ?_|refine blk_alloc ?_ _));exact BK515.out) Tryd.underlying33 rfl (by kernel_rfl)) rfl ?_
              exact ⟨_,_,by first|rfl|(simp [errW_none,errW_some] <;> rfl)|(simp [*,errW_none,errW_some] <;> rfl),by (with_reducible repeat (first|apply Kd.R_alloc|apply Kd.R_drewN|apply Kd.R_drew));exact Kd.R_mono (Kd.R_far (p:=⟨gb515,4,none⟩) (Kd.R_far (p:=⟨gb515,3,none⟩) (Kd.R_far (p:=⟨gb515,2,none⟩) (Kd.R_far (p:=⟨gb515,1,none⟩) (Kd.R_far (p:=⟨gb515,0,none⟩) (Kd.R_far (p:=⟨gb522,3,none⟩) (Kd.R_types (Kd.R_types HO562.out BK522.out (by decide)) BK515.out (by decide)) (fun _ hk=>hk.1.2) (.slice Ao134 y560.length co134)) (fun _ hk=>hk.2) (.string a0_0)) (fun _ hk=>hk.2) (.string a3)) (fun _ hk=>hk.2) (.int .i64 1)) (fun _ hk=>hk.2) (.slice Ao134 y560.length co134)) (fun _ hk=>hk.2) (.slice Ao18 t519.length co18)) (fun _ hk=>trivial),by (with_reducible repeat (first|apply Kd.R_alloc|apply Kd.R_drewN|apply Kd.R_drew));exact Kd.R_mono (Kd.R_far (p:=⟨gb515,4,none⟩) (Kd.R_far (p:=⟨gb515,3,none⟩) (Kd.R_far (p:=⟨gb515,2,none⟩) (Kd.R_far (p:=⟨gb515,1,none⟩) (Kd.R_far (p:=⟨gb515,0,none⟩) (Kd.R_far (p:=⟨gb522,3,none⟩) (Kd.R_types (Kd.R_types HO_523004.out BK522.out (by decide)) BK515.out (by decide)) (fun _ hk=>hk.1.2) (.slice Ao134 y560.length co134)) (fun _ hk=>hk.2) (.string a0_0)) (fun _ hk=>hk.2) (.string a3)) (fun _ hk=>hk.2) (.int .i64 1)) (fun _ hk=>hk.2) (.slice Ao134 y560.length co134)) (fun _ hk=>hk.2) (.slice Ao18 t519.length co18)) (fun _ hk=>trivial),by repeat (first|(with_reducible first|exact HB.out|apply below_alloc|apply pw_below_drewN|apply below_drew1|refine below_set ?_ GE513.out|refine below_set ?_ GE514.out|refine below_set ?_ GE515.out|refine below_set ?_ GE522.out)|exact HB.out)⟩
             ·rw [if_neg c123] at H
              exact absurd H (by simp)
            ·rw [if_neg c121] at H
             have c121b0:(a0_0.toList == ([80,85,84]:List UInt8))=false:=beq_eq_false_iff_ne.mpr c121
             have c121b1:(a0_0.toList != ([80,85,84]:List UInt8))=true:=bne_iff_ne.mpr c121
             by_cases c139:a0_0.toList=([80,65,84,67,72]:List UInt8)
             ·rw [if_pos c139] at H
              have c139b0:(a0_0.toList == ([80,65,84,67,72]:List UInt8))=true:=beq_iff_eq.mpr c139
              have c139b1:(a0_0.toList != ([80,65,84,67,72]:List UInt8))=false:=bne_eq_false_iff_eq.mpr c139
              clear c139
              replace H:=Option.bind_eq_some_iff.mp H
              obtain ⟨⟨t563,t564⟩,A1400,H⟩:=H
              replace H:(if x523003_3.length < 4398046511104 then (some (a0_0,a3,1,(x523003_3 ++ [(⟨t563,t564⟩:S41)]),t519)) else (none))=some (r1,r2,r3,r4,r5):=H
              have A140:=Aside0.mk A1400
              clear A1400
              by_cases c141:x523003_3.length < 4398046511104
              ·rw [if_pos c141] at H
               have LMc141:=Aside0.mk c141
               clear c141
               obtain ⟨y565,hy565⟩ : ∃ y_:List (S41),y_=(x523003_3 ++ [(⟨t563,t564⟩:S41)]):=⟨_,rfl⟩
               replace H:(some (a0_0,a3,1,y565,t519))=some (r1,r2,r3,r4,r5):=by first|(rw [hy565];with_reducible exact H)|(have H2_:=(Option.bind_some _ _).symm.trans H;rw [hy565];with_reducible exact H2_)|(have H2_:=(Option.bind_some _ _).symm.trans H;with_reducible exact H2_)|with_reducible exact H|(rw [hy565];exact H)|exact H
               have Ny565:=Aside0.mk hy565
               clear hy565
               simp only [Option.some.injEq,Prod.mk.injEq] at H
               obtain ⟨rfl,rfl,rfl,rfl,rfl⟩:=H
               have hnb142:=NB514_513.out
               have hnc142:=NB513_514.out
               have hnb143:=NB514_515.out
               have hnc143:=NB515_514.out
               have hnb144:=NB514_522.out
               have hnc144:=NB522_514.out
               have hcz145_0:wr.cell? ⟨gb514,0,none⟩=some (.slice A1_0 l1_0.length c1_0):=(blk_cell BK514.out 0).trans rfl
               have hcz145_1:wr.cell? ⟨gb514,1,none⟩=some (.slice A1_1 l1_1.length c1_1):=(blk_cell BK514.out 1).trans rfl
               have hcz145_2:wr.cell? ⟨gb514,2,none⟩=some (.slice A1_2 l1_2.length c1_2):=(blk_cell BK514.out 2).trans rfl
               have hcz145_3:wr.cell? ⟨gb514,3,none⟩=some (.slice A1_3 l1_3.length c1_3):=(blk_cell BK514.out 3).trans rfl
               have hcz145_4:wr.cell? ⟨gb514,4,none⟩=some (.int .i64 a1_4):=(blk_cell BK514.out 4).trans rfl
               have hcz145_5:wr.cell? ⟨gb514,5,none⟩=some (.int .i64 a1_5):=(blk_cell BK514.out 5).trans rfl
               have hcz145_6:wr.cell? ⟨gb514,6,none⟩=some (.int .i64 a1_6):=(blk_cell BK514.out 6).trans rfl
               have hcz145_7:wr.cell? ⟨gb514,7,none⟩=some (.int .i64 a1_7):=(blk_cell BK514.out 7).trans rfl
               have hfz145_0:=blk_frozen BK514.out 0
               have hfz145_1:=blk_frozen BK514.out 1
               have hfz145_2:=blk_frozen BK514.out 2
               have hfz145_3:=blk_frozen BK514.out 3
               have hfz145_4:=blk_frozen BK514.out 4
               have hfz145_5:=blk_frozen BK514.out 5
               have hfz145_6:=blk_frozen BK514.out 6
               have hfz145_7:=blk_frozen BK514.out 7
               have hnb146:=NB513_515.out
               have hnc146:=NB515_513.out
               have hnb147:=NB513_522.out
               have hnc147:=NB522_513.out
               have hcz148_0:wr.cell? ⟨gb513,0,none⟩=some (.string a0_0):=(blk_cell BK513.out 0).trans rfl
               have hcz148_1:wr.cell? ⟨gb513,1,none⟩=some (.string a0_1):=(blk_cell BK513.out 1).trans rfl
               have hcz148_2:wr.cell? ⟨gb513,2,none⟩=some (.int .i64 a0_2):=(blk_cell BK513.out 2).trans rfl
               have hcz148_3:wr.cell? ⟨gb513,3,none⟩=some (.slice A0_3 l0_3.length c0_3):=(blk_cell BK513.out 3).trans rfl
               have hcz148_4:wr.cell? ⟨gb513,4,none⟩=some (.slice A0_4 l0_4.length c0_4):=(blk_cell BK513.out 4).trans rfl
               have hfz148_0:=blk_frozen BK513.out 0
               have hfz148_1:=blk_frozen BK513.out 1
               have hfz148_2:=blk_frozen BK513.out 2
               have hfz148_3:=blk_frozen BK513.out 3
               have hfz148_4:=blk_frozen BK513.out 4
               try go_wp2
               replace HO_523003:=Aside0.mk (Kd.R_drew HO_523003.out)
               replace HO_523004:=Aside0.mk (Kd.R_drew HO_523004.out)
               replace BK513:=Aside0.mk (blk_drew BK513.out)
               replace BK514:=Aside0.mk (blk_drew BK514.out)
               replace BK515:=Aside0.mk (blk_drew BK515.out)
               replace BK522:=Aside0.mk (blk_drew BK522.out)
               replace HB:=Aside0.mk (below_drew1 HB.out)
               refine start_ (n:=10) (S:=fun w' => w'.cell? ⟨gb522,0,none⟩=some (.string a0_0)∧w'.cell? ⟨gb522,1,none⟩=some (.string a3)∧w'.cell? ⟨gb522,2,none⟩=some (.int .i64 1)∧w'.cell? ⟨gb522,3,none⟩=some (u523003)∧w'.cell? ⟨gb522,4,none⟩=some (.slice Ao18 t519.length co18)∧w'.cell? ⟨gb513,0,none⟩=some (.string a0_0)∧w'.cell? ⟨gb513,1,none⟩=some (.string a0_1)∧w'.cell? ⟨gb513,2,none⟩=some (.int .i64 a0_2)∧w'.cell? ⟨gb513,3,none⟩=some (.slice A0_3 l0_3.length c0_3)∧w'.cell? ⟨gb513,4,none⟩=some (.slice A0_4 l0_4.length c0_4)) (ds:=[9]) #[false,false,false,false,false,false,false,false,false,false] (by kernel_rfl) rfl rfl ⟨(blk_cell BK522.out 0).trans rfl,(blk_cell BK522.out 1).trans rfl,(blk_cell BK522.out 2).trans rfl,(blk_cell BK522.out 3).trans rfl,(blk_cell BK522.out 4).trans rfl,(blk_cell BK513.out 0).trans rfl,(blk_cell BK513.out 1).trans rfl,(blk_cell BK513.out 2).trans rfl,(blk_cell BK513.out 3).trans rfl,(blk_cell BK513.out 4).trans rfl⟩ (fun hHeld=>?_);refine with_tabW tollbarref12_Request.tab19 tollbarref12_Request.bits19 (fun HT_ HW_=>?_)
               generalize wr.drew=w149 at HO_523003 HO_523004 BK513 BK514 BK515 BK522 HB hHeld ⊢
               refine pure_ (i:=0) (N:=some 117) (v:=?_) (a' := ?_) #[true,false,false,false,false,false,false,false,false,false] rfl rfl (any_of HT_.out (by kernel_rfl)) (fun _ _ _ h=>h) (Or.inl ⟨by rfl,?_⟩) ?_ ?_
               rotate_left
               ·intro w';go_simp;with_reducible rfl
               rotate_left
               ·simp only [Act.put,zqA,zqB,zqC,i64_w,i32_w];rfl
               refine pure_ (i:=2) (N:=some 119) (v:=?_) (a' := ?_) #[true,false,true,false,false,false,false,false,false,false] rfl rfl (any_of HT_.out (by kernel_rfl)) (fun _ _ _ h=>h) (Or.inl ⟨by rfl,?_⟩) ?_ ?_
               rotate_left
               ·intro w';go_simp;with_reducible rfl
               rotate_left
               ·simp only [Act.put,zqA,zqB,zqC,i64_w,i32_w];rfl
               refine take_ (i:=1) (N:=some 118) (v:=?_) (a' := ?_) #[true,true,true,false,false,false,false,false,false,false] rfl rfl (take_ofW HT_.out HW_.out (by kernel_rfl)) (fun _ _ _ h=>h) (Or.inl ⟨by rfl,?_⟩) hHeld ?_ ?_
               rotate_left
               ·rintro w' ⟨s0,s1,s2,s3,s4,s5,s6,s7,s8,s9⟩;go_simp;with_reducible rfl
               rotate_left
               ·simp only [Act.put,zqA,zqB,zqC,i64_w,i32_w];rfl
               refine take_ (i:=3) (N:=some 120) (v:=?_) (a' := ?_) #[true,true,true,true,false,false,false,false,false,false] rfl rfl (take_ofW HT_.out HW_.out (by kernel_rfl)) (fun _ _ _ h=>h) (Or.inl ⟨by rfl,?_⟩) hHeld ?_ ?_
               rotate_left
               ·rintro w' ⟨s0,s1,s2,s3,s4,s5,s6,s7,s8,s9⟩;go_simp;with_reducible rfl
               rotate_left
               ·simp only [Act.put,zqA,zqB,zqC,i64_w,i32_w];rfl
               refine pure_ (i:=4) (N:=some 121) (v:=?_) (a' := ?_) #[true,true,true,true,true,false,false,false,false,false] rfl rfl (any_of HT_.out (by kernel_rfl)) (fun _ _ _ h=>h) (Or.inl ⟨by rfl,?_⟩) ?_ ?_
               rotate_left
               ·intro w';go_simp;with_reducible rfl
               rotate_left
               ·simp only [Act.put,zqA,zqB,zqC,i64_w,i32_w];rfl
               refine one_ (i:=5) (N:=some 122) #[true,true,true,true,true,true,false,false,false,false] rfl rfl (one_of HT_.out (by kernel_rfl)) (by decide) (fun K hK=>?_)
               refine goes_ Tryd.func42 (by kernel_rfl) rfl #[.int .i64 (l0_4.length:Int)] (by rfl) rfl rfl (by (try simp only [List.map_toArray,List.map_cons,List.map_nil]);first|done|rfl|(simp only [List.length_drop,List.length_take];rfl)) ?_
               with_reducible refine (tollbarref12_length.calls k3 (l0_4.length:Int) t563 t564 _ A140.out).mono ?_
               rintro e w150 ⟨rfl,hb⟩
               refine ⟨_,rfl,?_⟩
               replace HO_523003:=Aside0.mk (Kd.R_below (by (with_reducible repeat (first|apply Kd.R_alloc|apply Kd.R_drewN|apply Kd.R_drew));exact HO_523003.out) hb)
               replace HO_523004:=Aside0.mk (Kd.R_below (by (with_reducible repeat (first|apply Kd.R_alloc|apply Kd.R_drewN|apply Kd.R_drew));exact HO_523004.out) hb)
               replace BK513:=Aside0.mk (blk_below (g:=gb513) (o:=.cells #[.string a0_0,.string a0_1,.int .i64 a0_2,.slice A0_3 l0_3.length c0_3,.slice A0_4 l0_4.length c0_4] 33 (0,0)) (by (with_reducible repeat (first|refine blk_drewN ?_ _|refine blk_drew ?_|refine blk_alloc ?_ _));exact BK513.out) hb)
               replace BK514:=Aside0.mk (blk_below (g:=gb514) (o:=.cells #[.slice A1_0 l1_0.length c1_0,.slice A1_1 l1_1.length c1_1,.slice A1_2 l1_2.length c1_2,.slice A1_3 l1_3.length c1_3,.int .i64 a1_4,.int .i64 a1_5,.int .i64 a1_6,.int .i64 a1_7] 38 (0,0)) (by (with_reducible repeat (first|refine blk_drewN ?_ _|refine blk_drew ?_|refine blk_alloc ?_ _));exact BK514.out) hb)
               replace BK515:=Aside0.mk (blk_below (g:=gb515) (o:=.cells #[.string (⟨#[]⟩:ByteArray),.string (⟨#[]⟩:ByteArray),.int .i64 0,.slice none 0 0,.slice none 0 0] 33 (0,0)) (by (with_reducible repeat (first|refine blk_drewN ?_ _|refine blk_drew ?_|refine blk_alloc ?_ _));exact BK515.out) hb)
               replace BK522:=Aside0.mk (blk_below (g:=gb522) (o:=.cells #[.string a0_0,.string a3,.int .i64 1,u523003,.slice Ao18 t519.length co18] 33 (0,0)) (by (with_reducible repeat (first|refine blk_drewN ?_ _|refine blk_drew ?_|refine blk_alloc ?_ _));exact BK522.out) hb)
               replace HB:=Aside0.mk (below_step (by repeat (first|(with_reducible first|exact HB.out|apply below_alloc|apply pw_below_drewN|apply below_drew1|refine below_set ?_ GE513.out|refine below_set ?_ GE514.out|refine below_set ?_ GE515.out|refine below_set ?_ GE522.out)|exact HB.out)) hb)
               (try clear hb)
               (try clear hb2)
               (try clear hk)
               (try clear hi)
               refine hK.out _ _ ⟨(blk_cell BK522.out 0).trans rfl,(blk_cell BK522.out 1).trans rfl,(blk_cell BK522.out 2).trans rfl,(blk_cell BK522.out 3).trans rfl,(blk_cell BK522.out 4).trans rfl,(blk_cell BK513.out 0).trans rfl,(blk_cell BK513.out 1).trans rfl,(blk_cell BK513.out 2).trans rfl,(blk_cell BK513.out 3).trans rfl,(blk_cell BK513.out 4).trans rfl⟩ (fun hHeld=>?_)
               clear hK K
               refine norm_ (a' := ?_) ?_ ?_
               rotate_left
               ·show Act.put _ (some 122) _=_
                simp only [Act.put,zqA,zqB,zqC,i64_w,i32_w]
                rfl
               refine one_ (i:=6) (N:=some 123) #[true,true,true,true,true,true,true,false,false,false] rfl rfl (one_of HT_.out (by kernel_rfl)) (by decide) (fun K hK=>?_)
               refine value_ (w1:=?_) (v:=?_) (by rfl) rfl ?_ ?_
               rotate_left 2
               ·go_simp
                constructor
                ·rfl
                ·rfl
               refine hK.out _ _ ⟨(blk_cell (blk_alloc BK522.out _) 0).trans rfl,(blk_cell (blk_alloc BK522.out _) 1).trans rfl,(blk_cell (blk_alloc BK522.out _) 2).trans rfl,(blk_cell (blk_alloc BK522.out _) 3).trans rfl,(blk_cell (blk_alloc BK522.out _) 4).trans rfl,(blk_cell (blk_alloc BK513.out _) 0).trans rfl,(blk_cell (blk_alloc BK513.out _) 1).trans rfl,(blk_cell (blk_alloc BK513.out _) 2).trans rfl,(blk_cell (blk_alloc BK513.out _) 3).trans rfl,(blk_cell (blk_alloc BK513.out _) 4).trans rfl⟩ (fun hHeld=>?_)
               clear hK K
               refine norm_ (a' := ?_) ?_ ?_
               rotate_left
               ·show Act.put _ (some 123) _=_
                simp only [Act.put,zqA,zqB,zqC,i64_w,i32_w]
                rfl
               refine one_ (i:=7) (N:=some 124) #[true,true,true,true,true,true,true,true,false,false] rfl rfl (one_of HT_.out (by kernel_rfl)) (by decide) (fun K hK=>?_)
               refine Kd.R_append_step k41 (w0:=w) w.heap.size (by rfl) (.tmp 118) (.tmp 123) 31 41 (.agg #[(.string ⟨#[]⟩),(.string ⟨#[]⟩)]) 32 rfl Tryd.underlying31 info41 rfl (by decide) (by omega) u523003 x523003_3 (⟨t563,t564⟩:S41) [.string t563,.string t564] (fun _=>True) (fun _=>False) rfl rfl ?aP (fun _ hk=>hk.elim) ?aF ?aO ?aB ?aS ?aL ?_
               (case aP=>exact k41_mkM _ _ _ (⟨t563,t564⟩:S41))
               (case aB=>exact (by repeat (first|(with_reducible first|exact HB.out|apply below_alloc|apply pw_below_drewN|apply below_drew1|refine below_set ?_ GE513.out|refine below_set ?_ GE514.out|refine below_set ?_ GE515.out|refine below_set ?_ GE522.out)|exact HB.out)))
               (case aF=>exact (fun _ _=>trivial))
               (case aO=>exact (by (with_reducible repeat (first|apply Kd.R_alloc|apply Kd.R_drewN|apply Kd.R_drew));exact HO_523003.out))
               (case aS=>exact (below_size (by repeat (first|(with_reducible first|exact HB.out|apply below_alloc|apply pw_below_drewN|apply below_drew1|refine below_set ?_ GE513.out|refine below_set ?_ GE514.out|refine below_set ?_ GE515.out|refine below_set ?_ GE522.out)|exact HB.out))))
               (case aL=>have:=LMc141.out;omega)
               intro v566 w151 ho hb hg hat
               rw [← Ny565.out] at ho
               have n0_:=Aside0.mk (Kd.R_over' (by (with_reducible repeat (first|apply Kd.R_alloc|apply Kd.R_drewN|apply Kd.R_drew));exact HO_523004.out) (Kd.R_typed (by (with_reducible repeat (first|apply Kd.R_alloc|apply Kd.R_drewN|apply Kd.R_drew));exact HO_523003.out)) (by decide) hg)
               have n1_:=Aside0.mk (blk_grown (g:=gb513) (o:=.cells #[.string a0_0,.string a0_1,.int .i64 a0_2,.slice A0_3 l0_3.length c0_3,.slice A0_4 l0_4.length c0_4] 33 (0,0)) (by (with_reducible repeat (first|refine blk_drewN ?_ _|refine blk_drew ?_|refine blk_alloc ?_ _));exact BK513.out) hg (Kd.R_ne HO_523003.out BK513.out (by decide)))
               have n2_:=Aside0.mk (blk_grown (g:=gb514) (o:=.cells #[.slice A1_0 l1_0.length c1_0,.slice A1_1 l1_1.length c1_1,.slice A1_2 l1_2.length c1_2,.slice A1_3 l1_3.length c1_3,.int .i64 a1_4,.int .i64 a1_5,.int .i64 a1_6,.int .i64 a1_7] 38 (0,0)) (by (with_reducible repeat (first|refine blk_drewN ?_ _|refine blk_drew ?_|refine blk_alloc ?_ _));exact BK514.out) hg (Kd.R_ne HO_523003.out BK514.out (by decide)))
               have n3_:=Aside0.mk (blk_grown (g:=gb515) (o:=.cells #[.string (⟨#[]⟩:ByteArray),.string (⟨#[]⟩:ByteArray),.int .i64 0,.slice none 0 0,.slice none 0 0] 33 (0,0)) (by (with_reducible repeat (first|refine blk_drewN ?_ _|refine blk_drew ?_|refine blk_alloc ?_ _));exact BK515.out) hg (Kd.R_ne HO_523003.out BK515.out (by decide)))
               have n4_:=Aside0.mk (blk_grown (g:=gb522) (o:=.cells #[.string a0_0,.string a3,.int .i64 1,u523003,.slice Ao18 t519.length co18] 33 (0,0)) (by (with_reducible repeat (first|refine blk_drewN ?_ _|refine blk_drew ?_|refine blk_alloc ?_ _));exact BK522.out) hg (Kd.R_ne HO_523003.out BK522.out (by decide)))
               have n5_:=Aside0.mk (hb)
               have n6_:=Aside0.mk (ho)
               clear HO_523004 BK513 BK514 BK515 BK522 HB HO_523003
               have HO_523004:=n0_
               have BK513:=n1_
               have BK514:=n2_
               have BK515:=n3_
               have BK522:=n4_
               have HB:=n5_
               have HO567:=n6_
               clear n0_ n1_ n2_ n3_ n4_ n5_ n6_ ho hb hg hat
               obtain ⟨Ao152,co152,eo152⟩:=Kd.R_slice HO567.out
               (first|subst eo152|(injection eo152 with f1_ f2_ f3_;have f4_:=f1_.symm;have f5_:=f3_.symm;clear f1_ f2_ f3_;subst f4_;subst f5_))
               refine hK.out _ _ ⟨(blk_cell BK522.out 0).trans rfl,(blk_cell BK522.out 1).trans rfl,(blk_cell BK522.out 2).trans rfl,(blk_cell BK522.out 3).trans rfl,(blk_cell BK522.out 4).trans rfl,(blk_cell BK513.out 0).trans rfl,(blk_cell BK513.out 1).trans rfl,(blk_cell BK513.out 2).trans rfl,(blk_cell BK513.out 3).trans rfl,(blk_cell BK513.out 4).trans rfl⟩ (fun hHeld=>?_)
               clear hK K
               refine norm_ (a' := ?_) ?_ ?_
               rotate_left
               ·show Act.put _ (some 124) _=_
                simp only [Act.put,zqA,zqB,zqC,i64_w,i32_w]
                rfl
               refine pure_ (i:=8) (N:=some 125) (v:=?_) (a' := ?_) #[true,true,true,true,true,true,true,true,true,false] rfl rfl (any_of HT_.out (by kernel_rfl)) (fun _ _ _ h=>h) (Or.inl ⟨by rfl,?_⟩) ?_ ?_
               rotate_left
               ·intro w';go_simp;with_reducible rfl
               rotate_left
               ·simp only [Act.put,zqA,zqB,zqC,i64_w,i32_w];rfl
               refine last_ (i:=9) (N:=none) #[true,true,true,true,true,true,true,true,true,true] rfl rfl (one_of HT_.out (by kernel_rfl)) (by decide) (fun K hK=>?_)
               have hs153:w151.cell? ⟨gb522,3,none⟩=some (u523003):=(blk_cell BK522.out 3).trans rfl
               have hfs153:=blk_frozen BK522.out 3
               have hns153_0:=NB513_522.out
               have hns153_1:=NB514_522.out
               have hns153_2:=NB515_522.out
               have hms153_0:=NB522_513.out
               have hms153_1:=NB522_514.out
               have hms153_2:=NB522_515.out
               refine skip_ (w1:=?_) (by rfl) rfl ?_ ?_
               rotate_left
               ·go_simp
                rfl
               refine hK.out _ _ ?_
               clear hK K
               refine done_ (done_of HT_.out (by kernel_rfl)) ?_
               have hnb154:=NB522_515.out
               have hnc154:=NB515_522.out
               have hcz155_0:w151.cell? ⟨gb522,0,none⟩=some (.string a0_0):=(blk_cell BK522.out 0).trans rfl
               have hcz155_1:w151.cell? ⟨gb522,1,none⟩=some (.string a3):=(blk_cell BK522.out 1).trans rfl
               have hcz155_2:w151.cell? ⟨gb522,2,none⟩=some (.int .i64 1):=(blk_cell BK522.out 2).trans rfl
               have hcz155_3:w151.cell? ⟨gb522,3,none⟩=some (u523003):=(blk_cell BK522.out 3).trans rfl
               have hcz155_4:w151.cell? ⟨gb522,4,none⟩=some (.slice Ao18 t519.length co18):=(blk_cell BK522.out 4).trans rfl
               have hfz155_0:=blk_frozen BK522.out 0
               have hfz155_1:=blk_frozen BK522.out 1
               have hfz155_2:=blk_frozen BK522.out 2
               have hfz155_3:=blk_frozen BK522.out 3
               have hfz155_4:=blk_frozen BK522.out 4
               have hcz156_0:w151.cell? ⟨gb515,0,none⟩=some (.string (⟨#[]⟩:ByteArray)):=(blk_cell BK515.out 0).trans rfl
               have hcz156_1:w151.cell? ⟨gb515,1,none⟩=some (.string (⟨#[]⟩:ByteArray)):=(blk_cell BK515.out 1).trans rfl
               have hcz156_2:w151.cell? ⟨gb515,2,none⟩=some (.int .i64 0):=(blk_cell BK515.out 2).trans rfl
               have hcz156_3:w151.cell? ⟨gb515,3,none⟩=some (.slice none 0 0):=(blk_cell BK515.out 3).trans rfl
               have hcz156_4:w151.cell? ⟨gb515,4,none⟩=some (.slice none 0 0):=(blk_cell BK515.out 4).trans rfl
               have hfz156_0:=blk_frozen BK515.out 0
               have hfz156_1:=blk_frozen BK515.out 1
               have hfz156_2:=blk_frozen BK515.out 2
               have hfz156_3:=blk_frozen BK515.out 3
               have hfz156_4:=blk_frozen BK515.out 4
               try go_wp2
               refine bodyPost_ret (results_cell_row rfl _ _ gb515 33 #[.string a0_0,.string a3,.int .i64 1,.slice Ao152 y565.length co152,.slice Ao18 t519.length co18] (0,0) _ rfl (by (with_reducible repeat (first|refine blk_drewN ?_ _|refine blk_drew ?_|refine blk_alloc ?_ _));refine blk_put (cs:=#[.string a0_0,.string a3,.int .i64 1,.slice Ao152 y565.length co152,.slice none 0 0]) ?_ 4 _ rfl;(with_reducible repeat (first|refine blk_drewN ?_ _|refine blk_drew ?_|refine blk_alloc ?_ _));refine blk_put (cs:=#[.string a0_0,.string a3,.int .i64 1,.slice none 0 0,.slice none 0 0]) ?_ 3 _ rfl;(with_reducible repeat (first|refine blk_drewN ?_ _|refine blk_drew ?_|refine blk_alloc ?_ _));refine blk_put (cs:=#[.string a0_0,.string a3,.int .i64 0,.slice none 0 0,.slice none 0 0]) ?_ 2 _ rfl;(with_reducible repeat (first|refine blk_drewN ?_ _|refine blk_drew ?_|refine blk_alloc ?_ _));refine blk_put (cs:=#[.string a0_0,.string (⟨#[]⟩:ByteArray),.int .i64 0,.slice none 0 0,.slice none 0 0]) ?_ 1 _ rfl;(with_reducible repeat (first|refine blk_drewN ?_ _|refine blk_drew ?_|refine blk_alloc ?_ _));refine blk_put (cs:=#[.string (⟨#[]⟩:ByteArray),.string (⟨#[]⟩:ByteArray),.int .i64 0,.slice none 0 0,.slice none 0 0]) ?_ 0 _ rfl;(with_reducible repeat (first|refine blk_drewN ?_ _|refine blk_drew ?_|refine blk_alloc ?_ _));refine blk_far ?_ NB515_522.out _;(with_reducible repeat (first|refine blk_drewN ?_ _|refine blk_drew ?_|refine blk_alloc ?_ _));exact BK515.out) Tryd.underlying33 rfl (by kernel_rfl)) rfl ?_
               exact ⟨_,_,by first|rfl|(simp [errW_none,errW_some] <;> rfl)|(simp [*,errW_none,errW_some] <;> rfl),by (with_reducible repeat (first|apply Kd.R_alloc|apply Kd.R_drewN|apply Kd.R_drew));exact Kd.R_mono (Kd.R_far (p:=⟨gb515,4,none⟩) (Kd.R_far (p:=⟨gb515,3,none⟩) (Kd.R_far (p:=⟨gb515,2,none⟩) (Kd.R_far (p:=⟨gb515,1,none⟩) (Kd.R_far (p:=⟨gb515,0,none⟩) (Kd.R_far (p:=⟨gb522,3,none⟩) (Kd.R_types (Kd.R_types HO567.out BK522.out (by decide)) BK515.out (by decide)) (fun _ hk=>hk.1.2) (.slice Ao152 y565.length co152)) (fun _ hk=>hk.2) (.string a0_0)) (fun _ hk=>hk.2) (.string a3)) (fun _ hk=>hk.2) (.int .i64 1)) (fun _ hk=>hk.2) (.slice Ao152 y565.length co152)) (fun _ hk=>hk.2) (.slice Ao18 t519.length co18)) (fun _ hk=>trivial),by (with_reducible repeat (first|apply Kd.R_alloc|apply Kd.R_drewN|apply Kd.R_drew));exact Kd.R_mono (Kd.R_far (p:=⟨gb515,4,none⟩) (Kd.R_far (p:=⟨gb515,3,none⟩) (Kd.R_far (p:=⟨gb515,2,none⟩) (Kd.R_far (p:=⟨gb515,1,none⟩) (Kd.R_far (p:=⟨gb515,0,none⟩) (Kd.R_far (p:=⟨gb522,3,none⟩) (Kd.R_types (Kd.R_types HO_523004.out BK522.out (by decide)) BK515.out (by decide)) (fun _ hk=>hk.1.2) (.slice Ao152 y565.length co152)) (fun _ hk=>hk.2) (.string a0_0)) (fun _ hk=>hk.2) (.string a3)) (fun _ hk=>hk.2) (.int .i64 1)) (fun _ hk=>hk.2) (.slice Ao152 y565.length co152)) (fun _ hk=>hk.2) (.slice Ao18 t519.length co18)) (fun _ hk=>trivial),by repeat (first|(with_reducible first|exact HB.out|apply below_alloc|apply pw_below_drewN|apply below_drew1|refine below_set ?_ GE513.out|refine below_set ?_ GE514.out|refine below_set ?_ GE515.out|refine below_set ?_ GE522.out)|exact HB.out)⟩
              ·rw [if_neg c141] at H
               exact absurd H (by simp)
             ·rw [if_neg c139] at H
              have c139b0:(a0_0.toList == ([80,65,84,67,72]:List UInt8))=false:=beq_eq_false_iff_ne.mpr c139
              have c139b1:(a0_0.toList != ([80,65,84,67,72]:List UInt8))=true:=bne_iff_ne.mpr c139
              simp only [Option.some.injEq,Prod.mk.injEq] at H
              obtain ⟨rfl,rfl,rfl,rfl,rfl⟩:=H
              have hnb157:=NB514_513.out
              have hnc157:=NB513_514.out
              have hnb158:=NB514_515.out
              have hnc158:=NB515_514.out
              have hnb159:=NB514_522.out
              have hnc159:=NB522_514.out
              have hcz160_0:wr.cell? ⟨gb514,0,none⟩=some (.slice A1_0 l1_0.length c1_0):=(blk_cell BK514.out 0).trans rfl
              have hcz160_1:wr.cell? ⟨gb514,1,none⟩=some (.slice A1_1 l1_1.length c1_1):=(blk_cell BK514.out 1).trans rfl
              have hcz160_2:wr.cell? ⟨gb514,2,none⟩=some (.slice A1_2 l1_2.length c1_2):=(blk_cell BK514.out 2).trans rfl
              have hcz160_3:wr.cell? ⟨gb514,3,none⟩=some (.slice A1_3 l1_3.length c1_3):=(blk_cell BK514.out 3).trans rfl
              have hcz160_4:wr.cell? ⟨gb514,4,none⟩=some (.int .i64 a1_4):=(blk_cell BK514.out 4).trans rfl
              have hcz160_5:wr.cell? ⟨gb514,5,none⟩=some (.int .i64 a1_5):=(blk_cell BK514.out 5).trans rfl
              have hcz160_6:wr.cell? ⟨gb514,6,none⟩=some (.int .i64 a1_6):=(blk_cell BK514.out 6).trans rfl
              have hcz160_7:wr.cell? ⟨gb514,7,none⟩=some (.int .i64 a1_7):=(blk_cell BK514.out 7).trans rfl
              have hfz160_0:=blk_frozen BK514.out 0
              have hfz160_1:=blk_frozen BK514.out 1
              have hfz160_2:=blk_frozen BK514.out 2
              have hfz160_3:=blk_frozen BK514.out 3
              have hfz160_4:=blk_frozen BK514.out 4
              have hfz160_5:=blk_frozen BK514.out 5
              have hfz160_6:=blk_frozen BK514.out 6
              have hfz160_7:=blk_frozen BK514.out 7
              have hnb161:=NB513_515.out
              have hnc161:=NB515_513.out
              have hnb162:=NB513_522.out
              have hnc162:=NB522_513.out
              have hcz163_0:wr.cell? ⟨gb513,0,none⟩=some (.string a0_0):=(blk_cell BK513.out 0).trans rfl
              have hcz163_1:wr.cell? ⟨gb513,1,none⟩=some (.string a0_1):=(blk_cell BK513.out 1).trans rfl
              have hcz163_2:wr.cell? ⟨gb513,2,none⟩=some (.int .i64 a0_2):=(blk_cell BK513.out 2).trans rfl
              have hcz163_3:wr.cell? ⟨gb513,3,none⟩=some (.slice A0_3 l0_3.length c0_3):=(blk_cell BK513.out 3).trans rfl
              have hcz163_4:wr.cell? ⟨gb513,4,none⟩=some (.slice A0_4 l0_4.length c0_4):=(blk_cell BK513.out 4).trans rfl
              have hfz163_0:=blk_frozen BK513.out 0
              have hfz163_1:=blk_frozen BK513.out 1
              have hfz163_2:=blk_frozen BK513.out 2
              have hfz163_3:=blk_frozen BK513.out 3
              have hfz163_4:=blk_frozen BK513.out 4
              have hnb164:=NB522_515.out
              have hnc164:=NB515_522.out
              have hcz165_0:wr.cell? ⟨gb522,0,none⟩=some (.string a0_0):=(blk_cell BK522.out 0).trans rfl
              have hcz165_1:wr.cell? ⟨gb522,1,none⟩=some (.string a3):=(blk_cell BK522.out 1).trans rfl
              have hcz165_2:wr.cell? ⟨gb522,2,none⟩=some (.int .i64 1):=(blk_cell BK522.out 2).trans rfl
              have hcz165_3:wr.cell? ⟨gb522,3,none⟩=some (u523003):=(blk_cell BK522.out 3).trans rfl
              have hcz165_4:wr.cell? ⟨gb522,4,none⟩=some (.slice Ao18 t519.length co18):=(blk_cell BK522.out 4).trans rfl
              have hfz165_0:=blk_frozen BK522.out 0
              have hfz165_1:=blk_frozen BK522.out 1
              have hfz165_2:=blk_frozen BK522.out 2
              have hfz165_3:=blk_frozen BK522.out 3
              have hfz165_4:=blk_frozen BK522.out 4
              have hcz166_0:wr.cell? ⟨gb515,0,none⟩=some (.string (⟨#[]⟩:ByteArray)):=(blk_cell BK515.out 0).trans rfl
              have hcz166_1:wr.cell? ⟨gb515,1,none⟩=some (.string (⟨#[]⟩:ByteArray)):=(blk_cell BK515.out 1).trans rfl
              have hcz166_2:wr.cell? ⟨gb515,2,none⟩=some (.int .i64 0):=(blk_cell BK515.out 2).trans rfl
              have hcz166_3:wr.cell? ⟨gb515,3,none⟩=some (.slice none 0 0):=(blk_cell BK515.out 3).trans rfl
              have hcz166_4:wr.cell? ⟨gb515,4,none⟩=some (.slice none 0 0):=(blk_cell BK515.out 4).trans rfl
              have hfz166_0:=blk_frozen BK515.out 0
              have hfz166_1:=blk_frozen BK515.out 1
              have hfz166_2:=blk_frozen BK515.out 2
              have hfz166_3:=blk_frozen BK515.out 3
              have hfz166_4:=blk_frozen BK515.out 4
              obtain ⟨Ao167,co167,eo167⟩:=Kd.R_slice HO_523003.out
              subst eo167
              go_wp2
              refine bodyPost_ret (results_cell_row rfl _ _ gb515 33 #[.string a0_0,.string a3,.int .i64 1,.slice Ao167 x523003_3.length co167,.slice Ao18 t519.length co18] (0,0) _ rfl (by (with_reducible repeat (first|refine blk_drewN ?_ _|refine blk_drew ?_|refine blk_alloc ?_ _));refine blk_put (cs:=#[.string a0_0,.string a3,.int .i64 1,.slice Ao167 x523003_3.length co167,.slice none 0 0]) ?_ 4 _ rfl;(with_reducible repeat (first|refine blk_drewN ?_ _|refine blk_drew ?_|refine blk_alloc ?_ _));refine blk_put (cs:=#[.string a0_0,.string a3,.int .i64 1,.slice none 0 0,.slice none 0 0]) ?_ 3 _ rfl;(with_reducible repeat (first|refine blk_drewN ?_ _|refine blk_drew ?_|refine blk_alloc ?_ _));refine blk_put (cs:=#[.string a0_0,.string a3,.int .i64 0,.slice none 0 0,.slice none 0 0]) ?_ 2 _ rfl;(with_reducible repeat (first|refine blk_drewN ?_ _|refine blk_drew ?_|refine blk_alloc ?_ _));refine blk_put (cs:=#[.string a0_0,.string (⟨#[]⟩:ByteArray),.int .i64 0,.slice none 0 0,.slice none 0 0]) ?_ 1 _ rfl;(with_reducible repeat (first|refine blk_drewN ?_ _|refine blk_drew ?_|refine blk_alloc ?_ _));refine blk_put (cs:=#[.string (⟨#[]⟩:ByteArray),.string (⟨#[]⟩:ByteArray),.int .i64 0,.slice none 0 0,.slice none 0 0]) ?_ 0 _ rfl;(with_reducible repeat (first|refine blk_drewN ?_ _|refine blk_drew ?_|refine blk_alloc ?_ _));exact BK515.out) Tryd.underlying33 rfl (by kernel_rfl)) rfl ?_
              exact ⟨_,_,by first|rfl|(simp [errW_none,errW_some] <;> rfl)|(simp [*,errW_none,errW_some] <;> rfl),by (with_reducible repeat (first|apply Kd.R_alloc|apply Kd.R_drewN|apply Kd.R_drew));exact Kd.R_mono (Kd.R_far (p:=⟨gb515,4,none⟩) (Kd.R_far (p:=⟨gb515,3,none⟩) (Kd.R_far (p:=⟨gb515,2,none⟩) (Kd.R_far (p:=⟨gb515,1,none⟩) (Kd.R_far (p:=⟨gb515,0,none⟩) (Kd.R_types HO_523003.out BK515.out (by decide)) (fun _ hk=>hk.2) (.string a0_0)) (fun _ hk=>hk.2) (.string a3)) (fun _ hk=>hk.2) (.int .i64 1)) (fun _ hk=>hk.2) (.slice Ao167 x523003_3.length co167)) (fun _ hk=>hk.2) (.slice Ao18 t519.length co18)) (fun _ hk=>trivial),by (with_reducible repeat (first|apply Kd.R_alloc|apply Kd.R_drewN|apply Kd.R_drew));exact Kd.R_mono (Kd.R_far (p:=⟨gb515,4,none⟩) (Kd.R_far (p:=⟨gb515,3,none⟩) (Kd.R_far (p:=⟨gb515,2,none⟩) (Kd.R_far (p:=⟨gb515,1,none⟩) (Kd.R_far (p:=⟨gb515,0,none⟩) (Kd.R_types HO_523004.out BK515.out (by decide)) (fun _ hk=>hk.2) (.string a0_0)) (fun _ hk=>hk.2) (.string a3)) (fun _ hk=>hk.2) (.int .i64 1)) (fun _ hk=>hk.2) (.slice Ao167 x523003_3.length co167)) (fun _ hk=>hk.2) (.slice Ao18 t519.length co18)) (fun _ hk=>trivial),by repeat (first|(with_reducible first|exact HB.out|apply below_alloc|apply pw_below_drewN|apply below_drew1|refine below_set ?_ GE513.out|refine below_set ?_ GE514.out|refine below_set ?_ GE515.out|refine below_set ?_ GE522.out)|exact HB.out)⟩
end Go.Proofs.YtfjeinnemimjoaaDoor.P
