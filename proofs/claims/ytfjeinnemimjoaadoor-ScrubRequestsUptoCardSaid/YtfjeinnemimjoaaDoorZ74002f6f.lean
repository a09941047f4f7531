/- Each function below answers as its Lean twin says; plain lemmas; a row where its theorem stands. No further condition. (Laid by this repo's pack.py out of its texts and of the print's words.) -/
import Derived.Test.YtfjeinnemimjoaaDoorZd8102f62
import Derived.Test.YtfjeinnemimjoaaDoorZc831d518
import Derived.Test.YtfjeinnemimjoaaDoorZ654de3b0
import Derived.Test.YtfjeinnemimjoaaDoorZ3d4fcada
import Derived.Test.YtfjeinnemimjoaaDoorZb2f4c03e
import Derived.Lib.IndexBytes
import Derived.Lib.Strings
import Derived.Shelf.Strings.SlTrimAscii
namespace Go.Proofs.YtfjeinnemimjoaaDoor.P
open Go.RowKit Go.Proofs.YtfjeinnemimjoaaDoorW.PrintWords Go.Proofs.YtfjeinnemimjoaaDoorW.PrintLast Go.Proofs.YtfjeinnemimjoaaDoorW.PrintMore
attribute [local go_sem] max2_int min2_int max_two min_two max_three min_three max_four min_four
set_option linter.unusedVariables false
set_option linter.unusedSimpArgs false
mutual
def tollbarlaw12_ScrubRequests.j0:Nat → ByteArray → ByteArray → Bool → ByteArray → ByteArray → Int → List (S41) → List Int → List (S175) → List (S177) → List (S41) → List ByteArray → Int → Int → Int → Int → Option (Bool)
 | 0,_,_,_,_,_,_,_,_,_,_,_,_,_,_,_,_=>none
 | k + 1,x2,x3,x30,x569000,x569001,x569002,x569003,x569004,x570000,x570001,x570002,x570003,x570004,x570005,x570006,x570007=>if x30=true then (some true) else (tollbarlaw12_ScrubRequests.l0 k x2 x3 x569003 (x569003.length:Int) 0 x569000 x569001 x569002 x569003 x569004 x570000 x570001 x570002 x570003 x570004 x570005 x570006 x570007)
def tollbarlaw12_ScrubRequests.l0:Nat → ByteArray → ByteArray → List (S41) → Int → Int → ByteArray → ByteArray → Int → List (S41) → List Int → List (S175) → List (S177) → List (S41) → List ByteArray → Int → Int → Int → Int → Option (Bool)
 | 0,_,_,_,_,_,_,_,_,_,_,_,_,_,_,_,_,_,_=>none
 | k + 1,x2,x3,x32,x33,x34,x569000,x569001,x569002,x569003,x569004,x570000,x570001,x570002,x570003,x570004,x570005,x570006,x570007=>if x34 < x33 then (if 0 ≤ x34 then (if x34 < (x32.length:Int) then ((scrub_Hop.f k x569003 ((rd_T41 x32 x34).f0)).bind fun t594=>((tollbarref12_Hop.f k x569003 ((rd_T41 x32 x34).f0)).bind fun t595=>(if (t594 != t595)=true then (some false) else (tollbarlaw12_ScrubRequests.l0 k x2 x3 x32 x33 (wrap64 (x34 + 1)) x569000 x569001 x569002 x569003 x569004 x570000 x570001 x570002 x570003 x570004 x570005 x570006 x570007)))) else (none)) else (none)) else ((scrub_Request.f k x569000 x569001 x569002 x569003 x569004 x570000 x570001 x570002 x570003 x570004 x570005 x570006 x570007 x2 x3).bind fun bt573=>((tollbarref12_Request.f k x569000 x569001 x569002 x569003 x569004 x570000 x570001 x570002 x570003 x570004 x570005 x570006 x570007 x2 x3).bind fun bt582=>((tollbarref08_SameReq.f k bt573.1 bt573.2.1 bt573.2.2.1 bt573.2.2.2.1 bt573.2.2.2.2 bt582.1 bt582.2.1 bt582.2.2.1 bt582.2.2.2.1 bt582.2.2.2.2).bind fun t591=>(some t591))))
end
def tollbarlaw12_ScrubRequests.f (k:Nat) (a0_0:ByteArray) (a0_1:ByteArray) (a0_2:Int) (l0_3:List (S41)) (l0_4:List Int) (l1_0:List (S175)) (l1_1:List (S177)) (l1_2:List (S41)) (l1_3:List ByteArray) (a1_4:Int) (a1_5:Int) (a1_6:Int) (a1_7:Int) (a2:ByteArray) (a3:ByteArray):Option (Bool):=(tollbarlaw12_alive.f).bind fun t570=>(if t570=true then ((tollbarlaw12_few.f l0_3 l1_3).bind fun t571=>(if t571=true then ((tollbarlaw12_few.f l1_2 ([]:List ByteArray)).bind fun t572=>(if t572=true then (tollbarlaw12_ScrubRequests.j0 k a2 a3 (decide ((l0_4.length:Int) > 5000)) a0_0 a0_1 a0_2 l0_3 l0_4 l1_0 l1_1 l1_2 l1_3 a1_4 a1_5 a1_6 a1_7) else (tollbarlaw12_ScrubRequests.j0 k a2 a3 true a0_0 a0_1 a0_2 l0_3 l0_4 l1_0 l1_1 l1_2 l1_3 a1_4 a1_5 a1_6 a1_7))) else (tollbarlaw12_ScrubRequests.j0 k a2 a3 true a0_0 a0_1 a0_2 l0_3 l0_4 l1_0 l1_1 l1_2 l1_3 a1_4 a1_5 a1_6 a1_7))) else (some false))
def tollbarlaw12_ScrubRequests.T8:Bool × List (List Nat × List Nat):=(true,[([],[]),([0],[0]),([],[]),([2],[2]),([1,3],[1,3]),([],[]),([5],[5]),([],[]),([7],[7]),([6,8,4],[6,8]),([4,9],[4,9])])
def tollbarlaw12_ScrubRequests.B8:List Nat:=[0,1,0,4,15,0,32,0,128,511,1023]
theorem tollbarlaw12_ScrubRequests.tab8:rtab .any (opsOf Tryd.f4 8)=tollbarlaw12_ScrubRequests.T8:=by kernel_rfl
theorem tollbarlaw12_ScrubRequests.bits8:waitsOk tollbarlaw12_ScrubRequests.T8.2 tollbarlaw12_ScrubRequests.B8=true:=by kernel_rfl
def tollbarlaw12_ScrubRequests.T11:Bool × List (List Nat × List Nat):=(true,[([],[]),([],[]),([],[]),([],[]),([0,1,2,3],[0,1,2,3]),([],[]),([],[]),([],[]),([],[]),([5,6,7,8,4],[5,6,7,8]),([4,9,9],[4,9]),([10,10,0,1,2,3,4,5,6,7,8,9,10],[10])])
def tollbarlaw12_ScrubRequests.B11:List Nat:=[0,0,0,0,15,0,0,0,0,511,1023,2047]
theorem tollbarlaw12_ScrubRequests.tab11:rtab .any (opsOf Tryd.f4 11)=tollbarlaw12_ScrubRequests.T11:=by kernel_rfl
theorem tollbarlaw12_ScrubRequests.bits11:waitsOk tollbarlaw12_ScrubRequests.T11.2 tollbarlaw12_ScrubRequests.B11=true:=by kernel_rfl
set_option maxHeartbeats 8000000 in
set_option maxRecDepth 100000 in
theorem tollbarlaw12_ScrubRequests.calls (k:Nat) (a0_0:ByteArray) (a0_1:ByteArray) (a0_2:Int) (A0_3:Option Addr) (c0_3:Nat) (l0_3:List (S41)) (A0_4:Option Addr) (c0_4:Nat) (l0_4:List Int) (A1_0:Option Addr) (c1_0:Nat) (l1_0:List (S175)) (A1_1:Option Addr) (c1_1:Nat) (l1_1:List (S177)) (A1_2:Option Addr) (c1_2:Nat) (l1_2:List (S41)) (A1_3:Option Addr) (c1_3:Nat) (l1_3:List ByteArray) (a1_4:Int) (a1_5:Int) (a1_6:Int) (a1_7:Int) (a2:ByteArray) (a3:ByteArray) (r:Bool) (w:World) (hr0_3:Kd.C k41 w A0_3 l0_3.length l0_3) (hc0_3:l0_3.length ≤ c0_3) (hr0_4:Kd.C (Kd.int .u8) w A0_4 l0_4.length l0_4) (hc0_4:l0_4.length ≤ c0_4) (hr1_0:Kd.C k175 w A1_0 l1_0.length l1_0) (hc1_0:l1_0.length ≤ c1_0) (hr1_1:Kd.C k177 w A1_1 l1_1.length l1_1) (hc1_1:l1_1.length ≤ c1_1) (hr1_2:Kd.C k41 w A1_2 l1_2.length l1_2) (hc1_2:l1_2.length ≤ c1_2) (hr1_3:Kd.C Kd.string w A1_3 l1_3.length l1_3) (hc1_3:l1_3.length ≤ c1_3) (h:tollbarlaw12_ScrubRequests.f k a0_0 a0_1 a0_2 l0_3 l0_4 l1_0 l1_1 l1_2 l1_3 a1_4 a1_5 a1_6 a1_7 a2 a3=some r) (hr:r=true) (ht:Tabs w) :
  Calls Tryd.prog 4 #[.agg #[.string a0_0,.string a0_1,.int .i64 a0_2,.slice A0_3 l0_3.length c0_3,.slice A0_4 l0_4.length c0_4],.agg #[.slice A1_0 l1_0.length c1_0,.slice A1_1 l1_1.length c1_1,.slice A1_2 l1_2.length c1_2,.slice A1_3 l1_3.length c1_3,.int .i64 a1_4,.int .i64 a1_5,.int .i64 a1_6,.int .i64 a1_7],.string a2,.string a3] w fun e w' => e = .returned (.bool r)∧Below w.heap.size w w' := by
 have HTB:=Aside0.mk ht
 clear ht
 have HRT:=Aside0.mk hr
 clear hr
 have hu33:=Tryd.underlying33
 have hu38:=Tryd.underlying38
 have hu41:=Tryd.underlying41
 have HR0_3:=Aside0.mk hr0_3
 have HC0_3:=Aside0.mk hc0_3
 clear hr0_3 hc0_3
 have HR0_4:=Aside0.mk hr0_4
 have HC0_4:=Aside0.mk hc0_4
 clear hr0_4 hc0_4
 have HR1_0:=Aside0.mk hr1_0
 have HC1_0:=Aside0.mk hc1_0
 clear hr1_0 hc1_0
 have HR1_1:=Aside0.mk hr1_1
 have HC1_1:=Aside0.mk hc1_1
 clear hr1_1 hc1_1
 have HR1_2:=Aside0.mk hr1_2
 have HC1_2:=Aside0.mk hc1_2
 clear hr1_2 hc1_2
 have HR1_3:=Aside0.mk hr1_3
 have HC1_3:=Aside0.mk hc1_3
 clear hr1_3 hc1_3
 have HB:=Aside0.mk (Below.refl w.heap.size w)
 have H:((tollbarlaw12_alive.f).bind fun t75=>(if t75=true then ((tollbarlaw12_few.f l0_3 l1_3).bind fun t66=>(if t66=true then ((tollbarlaw12_few.f l1_2 ([]:List ByteArray)).bind fun t40=>(if t40=true then (tollbarlaw12_ScrubRequests.j0 k a2 a3 (decide ((l0_4.length:Int) > 5000)) a0_0 a0_1 a0_2 l0_3 l0_4 l1_0 l1_1 l1_2 l1_3 a1_4 a1_5 a1_6 a1_7) else (tollbarlaw12_ScrubRequests.j0 k a2 a3 true a0_0 a0_1 a0_2 l0_3 l0_4 l1_0 l1_1 l1_2 l1_3 a1_4 a1_5 a1_6 a1_7))) else (tollbarlaw12_ScrubRequests.j0 k a2 a3 true a0_0 a0_1 a0_2 l0_3 l0_4 l1_0 l1_1 l1_2 l1_3 a1_4 a1_5 a1_6 a1_7))) else (some false)))=some r:=h
 clear h
 replace H:=Option.bind_eq_some_iff.mp H
 obtain ⟨t75,A50,H⟩:=H
 replace H:(if t75=true then ((tollbarlaw12_few.f l0_3 l1_3).bind fun t66=>(if t66=true then ((tollbarlaw12_few.f l1_2 ([]:List ByteArray)).bind fun t40=>(if t40=true then (tollbarlaw12_ScrubRequests.j0 k a2 a3 (decide ((l0_4.length:Int) > 5000)) a0_0 a0_1 a0_2 l0_3 l0_4 l1_0 l1_1 l1_2 l1_3 a1_4 a1_5 a1_6 a1_7) else (tollbarlaw12_ScrubRequests.j0 k a2 a3 true a0_0 a0_1 a0_2 l0_3 l0_4 l1_0 l1_1 l1_2 l1_3 a1_4 a1_5 a1_6 a1_7))) else (tollbarlaw12_ScrubRequests.j0 k a2 a3 true a0_0 a0_1 a0_2 l0_3 l0_4 l1_0 l1_1 l1_2 l1_3 a1_4 a1_5 a1_6 a1_7))) else (some false))=some r:=H
 have A5:=Aside0.mk A50
 clear A50
 by_cases c6:t75=true
 ·subst c6
  have H1:((tollbarlaw12_few.f l0_3 l1_3).bind fun t66=>(if t66=true then ((tollbarlaw12_few.f l1_2 ([]:List ByteArray)).bind fun t40=>(if t40=true then (tollbarlaw12_ScrubRequests.j0 k a2 a3 (decide ((l0_4.length:Int) > 5000)) a0_0 a0_1 a0_2 l0_3 l0_4 l1_0 l1_1 l1_2 l1_3 a1_4 a1_5 a1_6 a1_7) else (tollbarlaw12_ScrubRequests.j0 k a2 a3 true a0_0 a0_1 a0_2 l0_3 l0_4 l1_0 l1_1 l1_2 l1_3 a1_4 a1_5 a1_6 a1_7))) else (tollbarlaw12_ScrubRequests.j0 k a2 a3 true a0_0 a0_1 a0_2 l0_3 l0_4 l1_0 l1_1 l1_2 l1_3 a1_4 a1_5 a1_6 a1_7)))=some r:=by rw [if_pos rfl] at H;exact H
  clear H
  have H:=H1
  clear H1
  have HC7:=Aside0.mk H
  clear H
  go_enter Tryd.func4,Tryd.ntmps4
  go_upto_region 3 with (first|((with_reducible refine gate_dst (N:=4) rfl ?_);(try (refine gate_guard (by rfl) ?_;dsimp only));refine box_event ?hg (N:=4) ?hd (cs:=#[.string a0_0,.string a0_1,.int .i64 a0_2,.slice A0_3 l0_3.length c0_3,.slice A0_4 l0_4.length c0_4]) (t:=33) ?hr ?_;(case hd=>rfl);(case hg=>rfl);(case hr=>first|(go_simp;done)|(go_simp;rfl));intro gb35 hg w8 hbox hb;have n0_:=Aside0.mk (below_step (by repeat (first|(with_reducible first|exact HB.out|apply below_alloc|apply pw_below_drewN|apply below_drew1)|exact HB.out)) hb);have n1_:=Aside0.mk (hbox);have n2_:=Aside0.mk ((by rw [hg];exact (below_size (by repeat (first|(with_reducible first|exact HB.out|apply below_alloc|apply pw_below_drewN|apply below_drew1)|exact HB.out))):w.heap.size ≤ gb35));have n3_:=Aside0.mk ((by rw [hg];exact (below_size (by repeat (first|(with_reducible first|exact HB.out|apply below_alloc|apply pw_below_drewN|apply below_drew1)|exact HB.out))):w.heap.size ≤ gb35));clear HB;have HB:=n0_;have BK35:=n1_;have GW35:=n2_;have GE35:=n3_;clear n0_ n1_ n2_ n3_;clear hb hbox hg)|((with_reducible refine gate_dst (N:=5) rfl ?_);(try (refine gate_guard (by rfl) ?_;dsimp only));refine box_event ?hg (N:=5) ?hd (cs:=#[.slice A1_0 l1_0.length c1_0,.slice A1_1 l1_1.length c1_1,.slice A1_2 l1_2.length c1_2,.slice A1_3 l1_3.length c1_3,.int .i64 a1_4,.int .i64 a1_5,.int .i64 a1_6,.int .i64 a1_7]) (t:=38) ?hr ?_;(case hd=>rfl);(case hg=>rfl);(case hr=>first|(go_simp;done)|(go_simp;rfl));intro gb36 hg w9 hbox hb;have n0_:=Aside0.mk (blk_below (g:=gb35) (o:=.cells #[.string a0_0,.string a0_1,.int .i64 a0_2,.slice A0_3 l0_3.length c0_3,.slice A0_4 l0_4.length c0_4] 33 (0,0)) (by (with_reducible repeat (first|refine blk_drewN ?_ _|refine blk_drew ?_|refine blk_alloc ?_ _));exact BK35.out) hb);have n1_:=Aside0.mk (below_step (by repeat (first|(with_reducible first|exact HB.out|apply below_alloc|apply pw_below_drewN|apply below_drew1|refine below_set ?_ GE35.out)|exact HB.out)) hb);have n2_:=Aside0.mk (hbox);have n3_:=Aside0.mk ((by rw [hg];exact (below_size (by repeat (first|(with_reducible first|exact HB.out|apply below_alloc|apply pw_below_drewN|apply below_drew1|refine below_set ?_ GE35.out)|exact HB.out))):w.heap.size ≤ gb36));have n4_:=Aside0.mk ((by rw [hg];exact (below_size (by repeat (first|(with_reducible first|exact HB.out|apply below_alloc|apply pw_below_drewN|apply below_drew1|refine below_set ?_ GE35.out)|exact HB.out))):w.heap.size ≤ gb36));have n5_:=Aside0.mk ((by rw [hg];exact Nat.ne_of_lt (blk_lt (g:=gb35) (o:=.cells #[.string a0_0,.string a0_1,.int .i64 a0_2,.slice A0_3 l0_3.length c0_3,.slice A0_4 l0_4.length c0_4] 33 (0,0)) (by (with_reducible repeat (first|refine blk_drewN ?_ _|refine blk_drew ?_|refine blk_alloc ?_ _));exact BK35.out)):gb35 ≠ gb36));have n6_:=Aside0.mk ((by rw [hg];exact Nat.ne_of_gt (blk_lt (g:=gb35) (o:=.cells #[.string a0_0,.string a0_1,.int .i64 a0_2,.slice A0_3 l0_3.length c0_3,.slice A0_4 l0_4.length c0_4] 33 (0,0)) (by (with_reducible repeat (first|refine blk_drewN ?_ _|refine blk_drew ?_|refine blk_alloc ?_ _));exact BK35.out)):gb36 ≠ gb35));clear BK35;clear HB;have BK35:=n0_;have HB:=n1_;have BK36:=n2_;have GW36:=n3_;have GE36:=n4_;have NB35_569:=n5_;have NB36_568:=n6_;clear n0_ n1_ n2_ n3_ n4_ n5_ n6_;clear hb hbox hg)|((with_reducible refine gate_callee (f:=10) rfl ?_);refine goesL_ (some 11) rfl rfl Tryd.func10 (by kernel_rfl) rfl #[] rfl (by (try simp only [List.map_toArray,List.map_cons,List.map_nil]);first|done|rfl|(simp only [List.length_drop,List.length_take];rfl)) ?_;(with_reducible refine (tollbarlaw12_alive.calls  true _ A5.out ?hT).mono ?_);(case hT=>exact HTB.out.below (by repeat (first|(with_reducible first|exact HB.out|apply below_alloc|apply pw_below_drewN|apply below_drew1|refine below_set ?_ GE35.out|refine below_set ?_ GE36.out|refine below_set ?_ GE37.out)|exact HB.out)));rintro e w10 ⟨rfl,hb⟩;refine ⟨_,rfl,?_⟩;have n0_:=Aside0.mk (blk_below (g:=gb35) (o:=.cells #[.string a0_0,.string a0_1,.int .i64 a0_2,.slice A0_3 l0_3.length c0_3,.slice A0_4 l0_4.length c0_4] 33 (0,0)) (by (with_reducible repeat (first|refine blk_drewN ?_ _|refine blk_drew ?_|refine blk_alloc ?_ _));exact BK35.out) hb);have n1_:=Aside0.mk (blk_below (g:=gb36) (o:=.cells #[.slice A1_0 l1_0.length c1_0,.slice A1_1 l1_1.length c1_1,.slice A1_2 l1_2.length c1_2,.slice A1_3 l1_3.length c1_3,.int .i64 a1_4,.int .i64 a1_5,.int .i64 a1_6,.int .i64 a1_7] 38 (0,0)) (by (with_reducible repeat (first|refine blk_drewN ?_ _|refine blk_drew ?_|refine blk_alloc ?_ _));exact BK36.out) hb);have n2_:=Aside0.mk (below_step (by repeat (first|(with_reducible first|exact HB.out|apply below_alloc|apply pw_below_drewN|apply below_drew1|refine below_set ?_ GE35.out|refine below_set ?_ GE36.out)|exact HB.out)) hb);clear BK35;clear BK36;clear HB;have BK35:=n0_;have BK36:=n1_;have HB:=n2_;clear n0_ n1_ n2_;(try clear hb);(try clear hb2);(try clear hk);(try clear hi)))
  (try simp only [Act.put,zqA,zqB,zqC])
  go_cut [30] (fun v30 wc => ∃ (kq:Nat) (x30_6:Bool),v30 = .bool x30_6∧Aside0 (tollbarlaw12_ScrubRequests.j0 kq a2 a3 x30_6 a0_0 a0_1 a0_2 l0_3 l0_4 l1_0 l1_1 l1_2 l1_3 a1_4 a1_5 a1_6 a1_7=some r)∧Aside0 (kq ≤ k)∧Aside0 (wc.heap[gb35]? = some (.cells #[.string a0_0,.string a0_1,.int .i64 a0_2,(.slice A0_3 l0_3.length c0_3),(.slice A0_4 l0_4.length c0_4)] 33 (0,0)))∧Aside0 (wc.heap[gb36]? = some (.cells #[(.slice A1_0 l1_0.length c1_0),(.slice A1_1 l1_1.length c1_1),(.slice A1_2 l1_2.length c1_2),(.slice A1_3 l1_3.length c1_3),.int .i64 a1_4,.int .i64 a1_5,.int .i64 a1_6,.int .i64 a1_7] 38 (0,0)))∧Aside0 (Below w.heap.size w wc))
  case first =>
   have H:=HC7.out
   clear HC7
   replace H:=Option.bind_eq_some_iff.mp H
   obtain ⟨t66,A80,H⟩:=H
   replace H:(if t66=true then ((tollbarlaw12_few.f l1_2 ([]:List ByteArray)).bind fun t40=>(if t40=true then (tollbarlaw12_ScrubRequests.j0 k a2 a3 (decide ((l0_4.length:Int) > 5000)) a0_0 a0_1 a0_2 l0_3 l0_4 l1_0 l1_1 l1_2 l1_3 a1_4 a1_5 a1_6 a1_7) else (tollbarlaw12_ScrubRequests.j0 k a2 a3 true a0_0 a0_1 a0_2 l0_3 l0_4 l1_0 l1_1 l1_2 l1_3 a1_4 a1_5 a1_6 a1_7))) else (tollbarlaw12_ScrubRequests.j0 k a2 a3 true a0_0 a0_1 a0_2 l0_3 l0_4 l1_0 l1_1 l1_2 l1_3 a1_4 a1_5 a1_6 a1_7))=some r:=H
   have A11:=Aside0.mk A80
   clear A80
   by_cases c12:t66=true
   ·subst c12
    have H1:((tollbarlaw12_few.f l1_2 ([]:List ByteArray)).bind fun t40=>(if t40=true then (tollbarlaw12_ScrubRequests.j0 k a2 a3 (decide ((l0_4.length:Int) > 5000)) a0_0 a0_1 a0_2 l0_3 l0_4 l1_0 l1_1 l1_2 l1_3 a1_4 a1_5 a1_6 a1_7) else (tollbarlaw12_ScrubRequests.j0 k a2 a3 true a0_0 a0_1 a0_2 l0_3 l0_4 l1_0 l1_1 l1_2 l1_3 a1_4 a1_5 a1_6 a1_7)))=some r:=by rw [if_pos rfl] at H;exact H
    clear H
    have H:=H1
    clear H1
    replace H:=Option.bind_eq_some_iff.mp H
    obtain ⟨t40,A81,H⟩:=H
    replace H:(if t40=true then (tollbarlaw12_ScrubRequests.j0 k a2 a3 (decide ((l0_4.length:Int) > 5000)) a0_0 a0_1 a0_2 l0_3 l0_4 l1_0 l1_1 l1_2 l1_3 a1_4 a1_5 a1_6 a1_7) else (tollbarlaw12_ScrubRequests.j0 k a2 a3 true a0_0 a0_1 a0_2 l0_3 l0_4 l1_0 l1_1 l1_2 l1_3 a1_4 a1_5 a1_6 a1_7))=some r:=H
    have A13:=Aside0.mk A81
    clear A81
    by_cases c14:t40=true
    ·subst c14
     have H1:(tollbarlaw12_ScrubRequests.j0 k a2 a3 (decide ((l0_4.length:Int) > 5000)) a0_0 a0_1 a0_2 l0_3 l0_4 l1_0 l1_1 l1_2 l1_3 a1_4 a1_5 a1_6 a1_7)=some r:=by rw [if_pos rfl] at H;exact H
     clear H
     have H:=H1
     clear H1
     have H' := Aside0.mk H
     clear H
     have hnb15:=NB35_569.out
     have hnc15:=NB36_568.out
     have hcz16_0:w10.cell? ⟨gb35,0,none⟩=some (.string a0_0):=(blk_cell BK35.out 0).trans rfl
     have hcz16_1:w10.cell? ⟨gb35,1,none⟩=some (.string a0_1):=(blk_cell BK35.out 1).trans rfl
     have hcz16_2:w10.cell? ⟨gb35,2,none⟩=some (.int .i64 a0_2):=(blk_cell BK35.out 2).trans rfl
     have hcz16_3:w10.cell? ⟨gb35,3,none⟩=some (.slice A0_3 l0_3.length c0_3):=(blk_cell BK35.out 3).trans rfl
     have hcz16_4:w10.cell? ⟨gb35,4,none⟩=some (.slice A0_4 l0_4.length c0_4):=(blk_cell BK35.out 4).trans rfl
     have hfz16_0:=blk_frozen BK35.out 0
     have hfz16_1:=blk_frozen BK35.out 1
     have hfz16_2:=blk_frozen BK35.out 2
     have hfz16_3:=blk_frozen BK35.out 3
     have hfz16_4:=blk_frozen BK35.out 4
     have hcz17_0:w10.cell? ⟨gb36,0,none⟩=some (.slice A1_0 l1_0.length c1_0):=(blk_cell BK36.out 0).trans rfl
     have hcz17_1:w10.cell? ⟨gb36,1,none⟩=some (.slice A1_1 l1_1.length c1_1):=(blk_cell BK36.out 1).trans rfl
     have hcz17_2:w10.cell? ⟨gb36,2,none⟩=some (.slice A1_2 l1_2.length c1_2):=(blk_cell BK36.out 2).trans rfl
     have hcz17_3:w10.cell? ⟨gb36,3,none⟩=some (.slice A1_3 l1_3.length c1_3):=(blk_cell BK36.out 3).trans rfl
     have hcz17_4:w10.cell? ⟨gb36,4,none⟩=some (.int .i64 a1_4):=(blk_cell BK36.out 4).trans rfl
     have hcz17_5:w10.cell? ⟨gb36,5,none⟩=some (.int .i64 a1_5):=(blk_cell BK36.out 5).trans rfl
     have hcz17_6:w10.cell? ⟨gb36,6,none⟩=some (.int .i64 a1_6):=(blk_cell BK36.out 6).trans rfl
     have hcz17_7:w10.cell? ⟨gb36,7,none⟩=some (.int .i64 a1_7):=(blk_cell BK36.out 7).trans rfl
     have hfz17_0:=blk_frozen BK36.out 0
     have hfz17_1:=blk_frozen BK36.out 1
     have hfz17_2:=blk_frozen BK36.out 2
     have hfz17_3:=blk_frozen BK36.out 3
     have hfz17_4:=blk_frozen BK36.out 4
     have hfz17_5:=blk_frozen BK36.out 5
     have hfz17_6:=blk_frozen BK36.out 6
     have hfz17_7:=blk_frozen BK36.out 7
     go_wp2_with (first|((with_reducible refine gate_callee (f:=11) rfl ?_);refine goesL_ (some 17) rfl rfl Tryd.func11 (by kernel_rfl) rfl #[.slice A0_3 l0_3.length c0_3,.slice A1_3 l1_3.length c1_3] rfl (by (try simp only [List.map_toArray,List.map_cons,List.map_nil]);first|done|rfl|(simp only [List.length_drop,List.length_take];rfl)) ?_;(with_reducible refine (tollbarlaw12_few.calls _ _ l0_3 _ _ l1_3 true _ ?side1 ?side2 ?side3 ?side4 A11.out).mono ?_);(case side1=>repeat (first|exact (Kd.C_below HR0_3.out HB.out)|(with_reducible refine Kd.C_alloc ?_ _)|(with_reducible refine Kd.C_drewN ?_ _)|(with_reducible refine Kd.C_drew ?_)));(case side2=>exact HC0_3.out);(case side3=>repeat (first|exact (Kd.C_below HR1_3.out HB.out)|(with_reducible refine Kd.C_alloc ?_ _)|(with_reducible refine Kd.C_drewN ?_ _)|(with_reducible refine Kd.C_drew ?_)));(case side4=>exact HC1_3.out);rintro e w' ⟨rfl,⟨nd,rfl⟩⟩;(try clear A11);refine ⟨_,rfl,?_⟩)|(go_at_call 11;(refine (tollbarlaw12_few.calls _ _ l1_2 _ _ ([]:List ByteArray) true _ ?side1 ?side2 ?side3 ?side4 A13.out).mono ?_);(case side1=>repeat (first|exact (Kd.C_below HR1_2.out (by repeat (first|(with_reducible first|exact HB.out|apply below_alloc|apply pw_below_drewN|apply below_drew1|refine below_set ?_ GE35.out|refine below_set ?_ GE36.out)|exact HB.out)))|(with_reducible refine Kd.C_alloc ?_ _)|(with_reducible refine Kd.C_drewN ?_ _)|(with_reducible refine Kd.C_drew ?_)));(case side2=>exact HC1_2.out);(case side3=>exact Kd.C_nil _ _);(case side4=>exact Nat.le_refl _);rintro e w' ⟨rfl,⟨nd,rfl⟩⟩;(try clear A13)))
     go_meet
     case rel=>exact ⟨_,(decide ((l0_4.length:Int) > 5000)),(by first|rfl|(simp;done)|(simp [*];done)),H',⟨by first|omega|exact Nat.le_refl _⟩,⟨by (with_reducible repeat (first|refine blk_drewN ?_ _|refine blk_drew ?_|refine blk_alloc ?_ _));exact BK35.out⟩,⟨by (with_reducible repeat (first|refine blk_drewN ?_ _|refine blk_drew ?_|refine blk_alloc ?_ _));exact BK36.out⟩,⟨by repeat (first|(with_reducible first|exact HB.out|apply below_alloc|apply pw_below_drewN|apply below_drew1|refine below_set ?_ GE35.out|refine below_set ?_ GE36.out)|exact HB.out)⟩⟩
    ·replace c14:=Bool.eq_false_iff.mpr c14
     subst c14
     have H1:(tollbarlaw12_ScrubRequests.j0 k a2 a3 true a0_0 a0_1 a0_2 l0_3 l0_4 l1_0 l1_1 l1_2 l1_3 a1_4 a1_5 a1_6 a1_7)=some r:=by rw [if_neg (show ¬ (false=true) by decide)] at H;exact H
     clear H
     have H:=H1
     clear H1
     have H' := Aside0.mk H
     clear H
     have hnb18:=NB35_569.out
     have hnc18:=NB36_568.out
     have hcz19_0:w10.cell? ⟨gb35,0,none⟩=some (.string a0_0):=(blk_cell BK35.out 0).trans rfl
     have hcz19_1:w10.cell? ⟨gb35,1,none⟩=some (.string a0_1):=(blk_cell BK35.out 1).trans rfl
     have hcz19_2:w10.cell? ⟨gb35,2,none⟩=some (.int .i64 a0_2):=(blk_cell BK35.out 2).trans rfl
     have hcz19_3:w10.cell? ⟨gb35,3,none⟩=some (.slice A0_3 l0_3.length c0_3):=(blk_cell BK35.out 3).trans rfl
     have hcz19_4:w10.cell? ⟨gb35,4,none⟩=some (.slice A0_4 l0_4.length c0_4):=(blk_cell BK35.out 4).trans rfl
     have hfz19_0:=blk_frozen BK35.out 0
     have hfz19_1:=blk_frozen BK35.out 1
     have hfz19_2:=blk_frozen BK35.out 2
     have hfz19_3:=blk_frozen BK35.out 3
     have hfz19_4:=blk_frozen BK35.out 4
     have hcz20_0:w10.cell? ⟨gb36,0,none⟩=some (.slice A1_0 l1_0.length c1_0):=(blk_cell BK36.out 0).trans rfl
     have hcz20_1:w10.cell? ⟨gb36,1,none⟩=some (.slice A1_1 l1_1.length c1_1):=(blk_cell BK36.out 1).trans rfl
     have hcz20_2:w10.cell? ⟨gb36,2,none⟩=some (.slice A1_2 l1_2.length c1_2):=(blk_cell BK36.out 2).trans rfl
     have hcz20_3:w10.cell? ⟨gb36,3,none⟩=some (.slice A1_3 l1_3.length c1_3):=(blk_cell BK36.out 3).trans rfl
     have hcz20_4:w10.cell? ⟨gb36,4,none⟩=some (.int .i64 a1_4):=(blk_cell BK36.out 4).trans rfl
     have hcz20_5:w10.cell? ⟨gb36,5,none⟩=some (.int .i64 a1_5):=(blk_cell BK36.out 5).trans rfl
     have hcz20_6:w10.cell? ⟨gb36,6,none⟩=some (.int .i64 a1_6):=(blk_cell BK36.out 6).trans rfl
     have hcz20_7:w10.cell? ⟨gb36,7,none⟩=some (.int .i64 a1_7):=(blk_cell BK36.out 7).trans rfl
     have hfz20_0:=blk_frozen BK36.out 0
     have hfz20_1:=blk_frozen BK36.out 1
     have hfz20_2:=blk_frozen BK36.out 2
     have hfz20_3:=blk_frozen BK36.out 3
     have hfz20_4:=blk_frozen BK36.out 4
     have hfz20_5:=blk_frozen BK36.out 5
     have hfz20_6:=blk_frozen BK36.out 6
     have hfz20_7:=blk_frozen BK36.out 7
     go_wp2_with (first|((with_reducible refine gate_callee (f:=11) rfl ?_);refine goesL_ (some 17) rfl rfl Tryd.func11 (by kernel_rfl) rfl #[.slice A0_3 l0_3.length c0_3,.slice A1_3 l1_3.length c1_3] rfl (by (try simp only [List.map_toArray,List.map_cons,List.map_nil]);first|done|rfl|(simp only [List.length_drop,List.length_take];rfl)) ?_;(with_reducible refine (tollbarlaw12_few.calls _ _ l0_3 _ _ l1_3 true _ ?side1 ?side2 ?side3 ?side4 A11.out).mono ?_);(case side1=>repeat (first|exact (Kd.C_below HR0_3.out HB.out)|(with_reducible refine Kd.C_alloc ?_ _)|(with_reducible refine Kd.C_drewN ?_ _)|(with_reducible refine Kd.C_drew ?_)));(case side2=>exact HC0_3.out);(case side3=>repeat (first|exact (Kd.C_below HR1_3.out HB.out)|(with_reducible refine Kd.C_alloc ?_ _)|(with_reducible refine Kd.C_drewN ?_ _)|(with_reducible refine Kd.C_drew ?_)));(case side4=>exact HC1_3.out);rintro e w' ⟨rfl,⟨nd,rfl⟩⟩;(try clear A11);refine ⟨_,rfl,?_⟩)|(go_at_call 11;(refine (tollbarlaw12_few.calls _ _ l1_2 _ _ ([]:List ByteArray) false _ ?side1 ?side2 ?side3 ?side4 A13.out).mono ?_);(case side1=>repeat (first|exact (Kd.C_below HR1_2.out (by repeat (first|(with_reducible first|exact HB.out|apply below_alloc|apply pw_below_drewN|apply below_drew1|refine below_set ?_ GE35.out|refine below_set ?_ GE36.out)|exact HB.out)))|(with_reducible refine Kd.C_alloc ?_ _)|(with_reducible refine Kd.C_drewN ?_ _)|(with_reducible refine Kd.C_drew ?_)));(case side2=>exact HC1_2.out);(case side3=>exact Kd.C_nil _ _);(case side4=>exact Nat.le_refl _);rintro e w' ⟨rfl,⟨nd,rfl⟩⟩;(try clear A13)))
     go_meet
     case rel=>exact ⟨_,(true),(by first|rfl|(simp;done)|(simp [*];done)),H',⟨by first|omega|exact Nat.le_refl _⟩,⟨by (with_reducible repeat (first|refine blk_drewN ?_ _|refine blk_drew ?_|refine blk_alloc ?_ _));exact BK35.out⟩,⟨by (with_reducible repeat (first|refine blk_drewN ?_ _|refine blk_drew ?_|refine blk_alloc ?_ _));exact BK36.out⟩,⟨by repeat (first|(with_reducible first|exact HB.out|apply below_alloc|apply pw_below_drewN|apply below_drew1|refine below_set ?_ GE35.out|refine below_set ?_ GE36.out)|exact HB.out)⟩⟩
   ·replace c12:=Bool.eq_false_iff.mpr c12
    subst c12
    have H1:(tollbarlaw12_ScrubRequests.j0 k a2 a3 true a0_0 a0_1 a0_2 l0_3 l0_4 l1_0 l1_1 l1_2 l1_3 a1_4 a1_5 a1_6 a1_7)=some r:=by rw [if_neg (show ¬ (false=true) by decide)] at H;exact H
    clear H
    have H:=H1
    clear H1
    have H' := Aside0.mk H
    clear H
    have hnb21:=NB35_569.out
    have hnc21:=NB36_568.out
    have hcz22_0:w10.cell? ⟨gb35,0,none⟩=some (.string a0_0):=(blk_cell BK35.out 0).trans rfl
    have hcz22_1:w10.cell? ⟨gb35,1,none⟩=some (.string a0_1):=(blk_cell BK35.out 1).trans rfl
    have hcz22_2:w10.cell? ⟨gb35,2,none⟩=some (.int .i64 a0_2):=(blk_cell BK35.out 2).trans rfl
    have hcz22_3:w10.cell? ⟨gb35,3,none⟩=some (.slice A0_3 l0_3.length c0_3):=(blk_cell BK35.out 3).trans rfl
    have hcz22_4:w10.cell? ⟨gb35,4,none⟩=some (.slice A0_4 l0_4.length c0_4):=(blk_cell BK35.out 4).trans rfl
    have hfz22_0:=blk_frozen BK35.out 0
    have hfz22_1:=blk_frozen BK35.out 1
    have hfz22_2:=blk_frozen BK35.out 2
    have hfz22_3:=blk_frozen BK35.out 3
    have hfz22_4:=blk_frozen BK35.out 4
    have hcz23_0:w10.cell? ⟨gb36,0,none⟩=some (.slice A1_0 l1_0.length c1_0):=(blk_cell BK36.out 0).trans rfl
    have hcz23_1:w10.cell? ⟨gb36,1,none⟩=some (.slice A1_1 l1_1.length c1_1):=(blk_cell BK36.out 1).trans rfl
    have hcz23_2:w10.cell? ⟨gb36,2,none⟩=some (.slice A1_2 l1_2.length c1_2):=(blk_cell BK36.out 2).trans rfl
    have hcz23_3:w10.cell? ⟨gb36,3,none⟩=some (.slice A1_3 l1_3.length c1_3):=(blk_cell BK36.out 3).trans rfl
    have hcz23_4:w10.cell? ⟨gb36,4,none⟩=some (.int .i64 a1_4):=(blk_cell BK36.out 4).trans rfl
    have hcz23_5:w10.cell? ⟨gb36,5,none⟩=some (.int .i64 a1_5):=(blk_cell BK36.out 5).trans rfl
    have hcz23_6:w10.cell? ⟨gb36,6,none⟩=some (.int .i64 a1_6):=(blk_cell BK36.out 6).trans rfl
    have hcz23_7:w10.cell? ⟨gb36,7,none⟩=some (.int .i64 a1_7):=(blk_cell BK36.out 7).trans rfl
    have hfz23_0:=blk_frozen BK36.out 0
    have hfz23_1:=blk_frozen BK36.out 1
    have hfz23_2:=blk_frozen BK36.out 2
    have hfz23_3:=blk_frozen BK36.out 3
    have hfz23_4:=blk_frozen BK36.out 4
    have hfz23_5:=blk_frozen BK36.out 5
    have hfz23_6:=blk_frozen BK36.out 6
    have hfz23_7:=blk_frozen BK36.out 7
    go_wp2_with (first|((with_reducible refine gate_callee (f:=11) rfl ?_);refine goesL_ (some 17) rfl rfl Tryd.func11 (by kernel_rfl) rfl #[.slice A0_3 l0_3.length c0_3,.slice A1_3 l1_3.length c1_3] rfl (by (try simp only [List.map_toArray,List.map_cons,List.map_nil]);first|done|rfl|(simp only [List.length_drop,List.length_take];rfl)) ?_;(with_reducible refine (tollbarlaw12_few.calls _ _ l0_3 _ _ l1_3 false _ ?side1 ?side2 ?side3 ?side4 A11.out).mono ?_);(case side1=>repeat (first|exact (Kd.C_below HR0_3.out HB.out)|(with_reducible refine Kd.C_alloc ?_ _)|(with_reducible refine Kd.C_drewN ?_ _)|(with_reducible refine Kd.C_drew ?_)));(case side2=>exact HC0_3.out);(case side3=>repeat (first|exact (Kd.C_below HR1_3.out HB.out)|(with_reducible refine Kd.C_alloc ?_ _)|(with_reducible refine Kd.C_drewN ?_ _)|(with_reducible refine Kd.C_drew ?_)));(case side4=>exact HC1_3.out);rintro e w' ⟨rfl,⟨nd,rfl⟩⟩;(try clear A11);refine ⟨_,rfl,?_⟩))
    go_meet
    case rel=>exact ⟨_,(true),(by first|rfl|(simp;done)|(simp [*];done)),H',⟨by first|omega|exact Nat.le_refl _⟩,⟨by (with_reducible repeat (first|refine blk_drewN ?_ _|refine blk_drew ?_|refine blk_alloc ?_ _));exact BK35.out⟩,⟨by (with_reducible repeat (first|refine blk_drewN ?_ _|refine blk_drew ?_|refine blk_alloc ?_ _));exact BK36.out⟩,⟨by repeat (first|(with_reducible first|exact HB.out|apply below_alloc|apply pw_below_drewN|apply below_drew1|refine below_set ?_ GE35.out|refine below_set ?_ GE36.out)|exact HB.out)⟩⟩
  case rest =>
   clear HC7
   try clear c1
   try clear c2
   try clear p2
   try clear c4
   try clear c6
   try clear c10
   try clear c11
   try clear c12
   try clear c14
   try clear c15
   try clear c18
   try clear c21
   try clear hcz16_0
   try clear hcz16_1
   try clear hcz16_2
   try clear hcz16_3
   try clear hcz16_4
   try clear hcz17_0
   try clear hcz17_1
   try clear hcz17_2
   try clear hcz17_3
   try clear hcz17_4
   try clear hcz17_5
   try clear hcz17_6
   try clear hcz17_7
   try clear hcz19_0
   try clear hcz19_1
   try clear hcz19_2
   try clear hcz19_3
   try clear hcz19_4
   try clear hcz20_0
   try clear hcz20_1
   try clear hcz20_2
   try clear hcz20_3
   try clear hcz20_4
   try clear hcz20_5
   try clear hcz20_6
   try clear hcz20_7
   try clear hcz22_0
   try clear hcz22_1
   try clear hcz22_2
   try clear hcz22_3
   try clear hcz22_4
   try clear hcz23_0
   try clear hcz23_1
   try clear hcz23_2
   try clear hcz23_3
   try clear hcz23_4
   try clear hcz23_5
   try clear hcz23_6
   try clear hcz23_7
   try clear hfz16_0
   try clear hfz16_1
   try clear hfz16_2
   try clear hfz16_3
   try clear hfz16_4
   try clear hfz17_0
   try clear hfz17_1
   try clear hfz17_2
   try clear hfz17_3
   try clear hfz17_4
   try clear hfz17_5
   try clear hfz17_6
   try clear hfz17_7
   try clear hfz19_0
   try clear hfz19_1
   try clear hfz19_2
   try clear hfz19_3
   try clear hfz19_4
   try clear hfz20_0
   try clear hfz20_1
   try clear hfz20_2
   try clear hfz20_3
   try clear hfz20_4
   try clear hfz20_5
   try clear hfz20_6
   try clear hfz20_7
   try clear hfz22_0
   try clear hfz22_1
   try clear hfz22_2
   try clear hfz22_3
   try clear hfz22_4
   try clear hfz23_0
   try clear hfz23_1
   try clear hfz23_2
   try clear hfz23_3
   try clear hfz23_4
   try clear hfz23_5
   try clear hfz23_6
   try clear hfz23_7
   obtain ⟨kq,x30_6,rfl,HA,HJ6,BK35,BK36,HB⟩:=hcut
   cases kq with
   | zero=>exact absurd HA.out (by simp [tollbarlaw12_ScrubRequests.j0])
   | succ kj6 =>
    have H:=HA.out
    clear HA
    simp only [tollbarlaw12_ScrubRequests.j0] at H
    by_cases c24:x30_6=true
    ·subst c24
     have H1:(some true)=some r:=by rw [if_pos rfl] at H;exact H
     clear H
     have H:=H1
     clear H1
     obtain rfl:=Option.some.inj H
     go_wp2
     go_ret
     exact ⟨by first|rfl|(simp [errW_none,errW_some] <;> rfl)|(simp [*,errW_none,errW_some] <;> rfl),by repeat (first|(with_reducible first|exact HB.out|apply below_alloc|apply pw_below_drewN|apply below_drew1|refine below_set ?_ GE35.out|refine below_set ?_ GE36.out)|exact HB.out)⟩
    ·replace c24:=Bool.eq_false_iff.mpr c24
     subst c24
     have H1:(tollbarlaw12_ScrubRequests.l0 kj6 a2 a3 l0_3 (l0_3.length:Int) 0 a0_0 a0_1 a0_2 l0_3 l0_4 l1_0 l1_1 l1_2 l1_3 a1_4 a1_5 a1_6 a1_7)=some r:=by rw [if_neg (show ¬ (false=true) by decide)] at H;exact H
     clear H
     have H:=H1
     clear H1
     have H' := Aside0.mk H
     clear H
     have hnb25:=NB35_569.out
     have hnc25:=NB36_568.out
     have hcz26_0:wc.cell? ⟨gb35,0,none⟩=some (.string a0_0):=(blk_cell BK35.out 0).trans rfl
     have hcz26_1:wc.cell? ⟨gb35,1,none⟩=some (.string a0_1):=(blk_cell BK35.out 1).trans rfl
     have hcz26_2:wc.cell? ⟨gb35,2,none⟩=some (.int .i64 a0_2):=(blk_cell BK35.out 2).trans rfl
     have hcz26_3:wc.cell? ⟨gb35,3,none⟩=some (.slice A0_3 l0_3.length c0_3):=(blk_cell BK35.out 3).trans rfl
     have hcz26_4:wc.cell? ⟨gb35,4,none⟩=some (.slice A0_4 l0_4.length c0_4):=(blk_cell BK35.out 4).trans rfl
     have hfz26_0:=blk_frozen BK35.out 0
     have hfz26_1:=blk_frozen BK35.out 1
     have hfz26_2:=blk_frozen BK35.out 2
     have hfz26_3:=blk_frozen BK35.out 3
     have hfz26_4:=blk_frozen BK35.out 4
     go_wp2
     go_loopg [34] kj6 (fun kq v34 w' => ∃ (x34_2:Int),v34 = .int .i64 x34_2∧Aside0 (tollbarlaw12_ScrubRequests.l0 kq a2 a3 l0_3 (l0_3.length:Int) x34_2 a0_0 a0_1 a0_2 l0_3 l0_4 l1_0 l1_1 l1_2 l1_3 a1_4 a1_5 a1_6 a1_7=some r)∧Aside0 (kq ≤ kj6)∧Aside0 (w'.heap[gb35]? = some (.cells #[.string a0_0,.string a0_1,.int .i64 a0_2,(.slice A0_3 l0_3.length c0_3),(.slice A0_4 l0_4.length c0_4)] 33 (0,0)))∧Aside0 (w'.heap[gb36]? = some (.cells #[(.slice A1_0 l1_0.length c1_0),(.slice A1_1 l1_1.length c1_1),(.slice A1_2 l1_2.length c1_2),(.slice A1_3 l1_3.length c1_3),.int .i64 a1_4,.int .i64 a1_5,.int .i64 a1_6,.int .i64 a1_7] 38 (0,0)))∧Aside0 (Below w.heap.size w w'))
     case atStart=>exact ⟨(0),(by first|rfl|(simp;done)|(simp [*];done)),H',⟨Nat.le_refl _⟩,⟨by (with_reducible repeat (first|refine blk_drewN ?_ _|refine blk_drew ?_|refine blk_alloc ?_ _));exact BK35.out⟩,⟨by (with_reducible repeat (first|refine blk_drewN ?_ _|refine blk_drew ?_|refine blk_alloc ?_ _));exact BK36.out⟩,⟨by repeat (first|(with_reducible first|exact HB.out|apply below_alloc|apply pw_below_drewN|apply below_drew1|refine below_set ?_ GE35.out|refine below_set ?_ GE36.out)|exact HB.out)⟩⟩
     case round =>
      clear H'
      try clear c1
      try clear c2
      try clear p2
      try clear c4
      try clear c6
      try clear c10
      try clear c11
      try clear c12
      try clear c14
      try clear c15
      try clear c18
      try clear c21
      try clear c24
      try clear c25
      try clear hcz16_0
      try clear hcz16_1
      try clear hcz16_2
      try clear hcz16_3
      try clear hcz16_4
      try clear hcz17_0
      try clear hcz17_1
      try clear hcz17_2
      try clear hcz17_3
      try clear hcz17_4
      try clear hcz17_5
      try clear hcz17_6
      try clear hcz17_7
      try clear hcz19_0
      try clear hcz19_1
      try clear hcz19_2
      try clear hcz19_3
      try clear hcz19_4
      try clear hcz20_0
      try clear hcz20_1
      try clear hcz20_2
      try clear hcz20_3
      try clear hcz20_4
      try clear hcz20_5
      try clear hcz20_6
      try clear hcz20_7
      try clear hcz22_0
      try clear hcz22_1
      try clear hcz22_2
      try clear hcz22_3
      try clear hcz22_4
      try clear hcz23_0
      try clear hcz23_1
      try clear hcz23_2
      try clear hcz23_3
      try clear hcz23_4
      try clear hcz23_5
      try clear hcz23_6
      try clear hcz23_7
      try clear hcz26_0
      try clear hcz26_1
      try clear hcz26_2
      try clear hcz26_3
      try clear hcz26_4
      try clear hfz16_0
      try clear hfz16_1
      try clear hfz16_2
      try clear hfz16_3
      try clear hfz16_4
      try clear hfz17_0
      try clear hfz17_1
      try clear hfz17_2
      try clear hfz17_3
      try clear hfz17_4
      try clear hfz17_5
      try clear hfz17_6
      try clear hfz17_7
      try clear hfz19_0
      try clear hfz19_1
      try clear hfz19_2
      try clear hfz19_3
      try clear hfz19_4
      try clear hfz20_0
      try clear hfz20_1
      try clear hfz20_2
      try clear hfz20_3
      try clear hfz20_4
      try clear hfz20_5
      try clear hfz20_6
      try clear hfz20_7
      try clear hfz22_0
      try clear hfz22_1
      try clear hfz22_2
      try clear hfz22_3
      try clear hfz22_4
      try clear hfz23_0
      try clear hfz23_1
      try clear hfz23_2
      try clear hfz23_3
      try clear hfz23_4
      try clear hfz23_5
      try clear hfz23_6
      try clear hfz23_7
      try clear hfz26_0
      try clear hfz26_1
      try clear hfz26_2
      try clear hfz26_3
      try clear hfz26_4
      try clear p2
      obtain ⟨x34_2,rfl,HA,HK2,BK35,BK36,HB⟩:=hrel
      cases gk with
      | zero=>exact absurd HA.out (by simp [tollbarlaw12_ScrubRequests.l0])
      | succ k2 =>
       have H:=HA.out
       clear HA
       simp only [tollbarlaw12_ScrubRequests.l0] at H
       by_cases c27:x34_2 < (l0_3.length:Int)
       ·rw [if_pos c27] at H
        have c27b0:decide (x34_2 < (l0_3.length:Int))=true:=decide_eq_true c27
        clear c27
        by_cases c28:0 ≤ x34_2
        ·rw [if_pos c28] at H
         have c28b0:decide (0 ≤ x34_2)=true:=decide_eq_true c28
         clear c28
         by_cases c29:x34_2 < (l0_3.length:Int)
         ·rw [if_pos c29] at H
          have c29b0:decide (x34_2 < (l0_3.length:Int))=true:=decide_eq_true c29
          clear c29
          replace H:=Option.bind_eq_some_iff.mp H
          obtain ⟨t61,A82,H⟩:=H
          replace H:((tollbarref12_Hop.f k2 l0_3 ((rd_T41 l0_3 x34_2).f0)).bind fun t60=>(if (t61 != t60)=true then (some false) else (tollbarlaw12_ScrubRequests.l0 k2 a2 a3 l0_3 (l0_3.length:Int) (wrap64 (x34_2 + 1)) a0_0 a0_1 a0_2 l0_3 l0_4 l1_0 l1_1 l1_2 l1_3 a1_4 a1_5 a1_6 a1_7)))=some r:=H
          have A30:=Aside0.mk A82
          clear A82
          replace H:=Option.bind_eq_some_iff.mp H
          obtain ⟨t60,A83,H⟩:=H
          replace H:(if (t61 != t60)=true then (some false) else (tollbarlaw12_ScrubRequests.l0 k2 a2 a3 l0_3 (l0_3.length:Int) (wrap64 (x34_2 + 1)) a0_0 a0_1 a0_2 l0_3 l0_4 l1_0 l1_1 l1_2 l1_3 a1_4 a1_5 a1_6 a1_7))=some r:=H
          have A31:=Aside0.mk A83
          clear A83
          by_cases c32:(t61 != t60)=true
          ·rw [if_pos c32] at H
           have c32b0:(t61 != t60)=true:=c32
           (try (have c32b1:decide (t61=t60)=false:=by simpa using c32))
           (try (have c32b2:(t61 == t60)=false:=by simpa using c32))
           (try (have c32b3 : ¬ (t61=t60):=by simpa using c32))
           clear c32
           exact absurd ((Option.some.inj H).trans HRT.out) (by decide)
          ·rw [if_neg c32] at H
           have c32b0:(t61 != t60)=false:=by simpa using c32
           (try (have c32b1:decide (t61=t60)=true:=by simpa using c32))
           (try (have c32b2:(t61 == t60)=true:=by simpa using c32))
           clear c32
           have H' := Aside0.mk H
           clear H
           have p39:0 ≤ (x34_2:Int):=of_decide_eq_true (by first|(with_reducible assumption)|assumption)
           have q39:x34_2 < (l0_3.length:Int):=of_decide_eq_true (by first|(with_reducible assumption)|assumption)
           obtain ⟨ad39,e39,hx39_0,hx39_1⟩:=at_T41 HR0_3.out x34_2 p39 q39
           cases e39
           replace hx39_0:=(HB.out.cell (World.block_lt_of_cell? w _ hx39_0)).trans hx39_0
           replace hx39_1:=(HB.out.cell (World.block_lt_of_cell? w _ hx39_1)).trans hx39_1
           replace p39:=eq_true p39
           replace q39:=eq_true q39
           try go_wp2_with (first|((with_reducible refine gate_dst (N:=10) rfl ?_);(try (refine gate_guard (by rfl) ?_;dsimp only));refine box_event ?hg (N:=10) ?hd (cs:=#[.string (⟨#[]⟩:ByteArray),.string (⟨#[]⟩:ByteArray)]) (t:=41) ?hr ?_;(case hd=>rfl);(case hg=>rfl);(case hr=>first|(go_simp;done)|(go_simp;rfl));intro gb37 hg w41 hbox hb;have n0_:=Aside0.mk (blk_below (g:=gb35) (o:=.cells #[.string a0_0,.string a0_1,.int .i64 a0_2,.slice (some ad39) l0_3.length c0_3,.slice A0_4 l0_4.length c0_4] 33 (0,0)) (by (with_reducible repeat (first|refine blk_drewN ?_ _|refine blk_drew ?_|refine blk_alloc ?_ _));exact BK35.out) hb);have n1_:=Aside0.mk (blk_below (g:=gb36) (o:=.cells #[.slice A1_0 l1_0.length c1_0,.slice A1_1 l1_1.length c1_1,.slice A1_2 l1_2.length c1_2,.slice A1_3 l1_3.length c1_3,.int .i64 a1_4,.int .i64 a1_5,.int .i64 a1_6,.int .i64 a1_7] 38 (0,0)) (by (with_reducible repeat (first|refine blk_drewN ?_ _|refine blk_drew ?_|refine blk_alloc ?_ _));exact BK36.out) hb);have n2_:=Aside0.mk (below_step (by repeat (first|(with_reducible first|exact HB.out|apply below_alloc|apply pw_below_drewN|apply below_drew1|refine below_set ?_ GE35.out|refine below_set ?_ GE36.out)|exact HB.out)) hb);have n3_:=Aside0.mk (hbox);have n4_:=Aside0.mk ((by rw [hg];exact (below_size (by repeat (first|(with_reducible first|exact HB.out|apply below_alloc|apply pw_below_drewN|apply below_drew1|refine below_set ?_ GE35.out|refine below_set ?_ GE36.out)|exact HB.out))):w.heap.size ≤ gb37));have n5_:=Aside0.mk ((by rw [hg];exact (below_size (by repeat (first|(with_reducible first|exact HB.out|apply below_alloc|apply pw_below_drewN|apply below_drew1|refine below_set ?_ GE35.out|refine below_set ?_ GE36.out)|exact HB.out))):w.heap.size ≤ gb37));have n6_:=Aside0.mk ((by rw [hg];exact Nat.ne_of_lt (blk_lt (g:=gb35) (o:=.cells #[.string a0_0,.string a0_1,.int .i64 a0_2,.slice (some ad39) l0_3.length c0_3,.slice A0_4 l0_4.length c0_4] 33 (0,0)) (by (with_reducible repeat (first|refine blk_drewN ?_ _|refine blk_drew ?_|refine blk_alloc ?_ _));exact BK35.out)):gb35 ≠ gb37));have n7_:=Aside0.mk ((by rw [hg];exact Nat.ne_of_gt (blk_lt (g:=gb35) (o:=.cells #[.string a0_0,.string a0_1,.int .i64 a0_2,.slice (some ad39) l0_3.length c0_3,.slice A0_4 l0_4.length c0_4] 33 (0,0)) (by (with_reducible repeat (first|refine blk_drewN ?_ _|refine blk_drew ?_|refine blk_alloc ?_ _));exact BK35.out)):gb37 ≠ gb35));have n8_:=Aside0.mk ((by rw [hg];exact Nat.ne_of_lt (blk_lt (g:=gb36) (o:=.cells #[.slice A1_0 l1_0.length c1_0,.slice A1_1 l1_1.length c1_1,.slice A1_2 l1_2.length c1_2,.slice A1_3 l1_3.length c1_3,.int .i64 a1_4,.int .i64 a1_5,.int .i64 a1_6,.int .i64 a1_7] 38 (0,0)) (by (with_reducible repeat (first|refine blk_drewN ?_ _|refine blk_drew ?_|refine blk_alloc ?_ _));exact BK36.out)):gb36 ≠ gb37));have n9_:=Aside0.mk ((by rw [hg];exact Nat.ne_of_gt (blk_lt (g:=gb36) (o:=.cells #[.slice A1_0 l1_0.length c1_0,.slice A1_1 l1_1.length c1_1,.slice A1_2 l1_2.length c1_2,.slice A1_3 l1_3.length c1_3,.int .i64 a1_4,.int .i64 a1_5,.int .i64 a1_6,.int .i64 a1_7] 38 (0,0)) (by (with_reducible repeat (first|refine blk_drewN ?_ _|refine blk_drew ?_|refine blk_alloc ?_ _));exact BK36.out)):gb37 ≠ gb36));clear BK35;clear BK36;clear HB;have BK35:=n0_;have BK36:=n1_;have HB:=n2_;have BK37:=n3_;have GW37:=n4_;have GE37:=n5_;have NB35_593:=n6_;have NB37_568:=n7_;have NB36_593:=n8_;have NB37_569:=n9_;clear n0_ n1_ n2_ n3_ n4_ n5_ n6_ n7_ n8_ n9_;clear hb hbox hg;have hnb42:=NB37_568.out;have hnc42:=NB35_593.out;have hnb43:=NB37_569.out;have hnc43:=NB36_593.out;have hcz44_0:w41.cell? ⟨gb37,0,none⟩=some (.string (⟨#[]⟩:ByteArray)):=(blk_cell BK37.out 0).trans rfl;have hcz44_1:w41.cell? ⟨gb37,1,none⟩=some (.string (⟨#[]⟩:ByteArray)):=(blk_cell BK37.out 1).trans rfl;have hfz44_0:=blk_frozen BK37.out 0;have hfz44_1:=blk_frozen BK37.out 1))
           have n0_:Aside0 (((w41.setCell ⟨gb37,0,none⟩ (.string ((rd_T41 l0_3 x34_2).f0))).setCell ⟨gb37,1,none⟩ (.string ((rd_T41 l0_3 x34_2).f1))).heap[gb35]? = some (.cells #[.string a0_0,.string a0_1,.int .i64 a0_2,.slice (some ad39) l0_3.length c0_3,.slice A0_4 l0_4.length c0_4] 33 (0,0))):=⟨by (with_reducible repeat (first|refine blk_drewN ?_ _|refine blk_drew ?_|refine blk_alloc ?_ _));refine blk_far ?_ NB35_593.out _;(with_reducible repeat (first|refine blk_drewN ?_ _|refine blk_drew ?_|refine blk_alloc ?_ _));refine blk_far ?_ NB35_593.out _;(with_reducible repeat (first|refine blk_drewN ?_ _|refine blk_drew ?_|refine blk_alloc ?_ _));exact BK35.out⟩
           have n1_:Aside0 (((w41.setCell ⟨gb37,0,none⟩ (.string ((rd_T41 l0_3 x34_2).f0))).setCell ⟨gb37,1,none⟩ (.string ((rd_T41 l0_3 x34_2).f1))).heap[gb36]? = some (.cells #[.slice A1_0 l1_0.length c1_0,.slice A1_1 l1_1.length c1_1,.slice A1_2 l1_2.length c1_2,.slice A1_3 l1_3.length c1_3,.int .i64 a1_4,.int .i64 a1_5,.int .i64 a1_6,.int .i64 a1_7] 38 (0,0))):=⟨by (with_reducible repeat (first|refine blk_drewN ?_ _|refine blk_drew ?_|refine blk_alloc ?_ _));refine blk_far ?_ NB36_593.out _;(with_reducible repeat (first|refine blk_drewN ?_ _|refine blk_drew ?_|refine blk_alloc ?_ _));refine blk_far ?_ NB36_593.out _;(with_reducible repeat (first|refine blk_drewN ?_ _|refine blk_drew ?_|refine blk_alloc ?_ _));exact BK36.out⟩
           have n2_:Aside0 (((w41.setCell ⟨gb37,0,none⟩ (.string ((rd_T41 l0_3 x34_2).f0))).setCell ⟨gb37,1,none⟩ (.string ((rd_T41 l0_3 x34_2).f1))).heap[gb37]? = some (.cells #[.string ((rd_T41 l0_3 x34_2).f0),.string ((rd_T41 l0_3 x34_2).f1)] 41 (0,0))):=⟨by (with_reducible repeat (first|refine blk_drewN ?_ _|refine blk_drew ?_|refine blk_alloc ?_ _));refine blk_put (cs:=#[.string ((rd_T41 l0_3 x34_2).f0),.string (⟨#[]⟩:ByteArray)]) ?_ 1 _ rfl;(with_reducible repeat (first|refine blk_drewN ?_ _|refine blk_drew ?_|refine blk_alloc ?_ _));refine blk_put (cs:=#[.string (⟨#[]⟩:ByteArray),.string (⟨#[]⟩:ByteArray)]) ?_ 0 _ rfl;(with_reducible repeat (first|refine blk_drewN ?_ _|refine blk_drew ?_|refine blk_alloc ?_ _));exact BK37.out⟩
           have n3_:Aside0 (Below w.heap.size w ((w41.setCell ⟨gb37,0,none⟩ (.string ((rd_T41 l0_3 x34_2).f0))).setCell ⟨gb37,1,none⟩ (.string ((rd_T41 l0_3 x34_2).f1)))):=⟨by repeat (first|(with_reducible first|exact HB.out|apply below_alloc|apply pw_below_drewN|apply below_drew1|refine below_set ?_ GE35.out|refine below_set ?_ GE36.out|refine below_set ?_ GE37.out)|exact HB.out)⟩
           (try clear BK35)
           (try clear BK36)
           (try clear BK37)
           (try clear HB)
           generalize ((w41.setCell ⟨gb37,0,none⟩ (.string ((rd_T41 l0_3 x34_2).f0))).setCell ⟨gb37,1,none⟩ (.string ((rd_T41 l0_3 x34_2).f1)))=w45 at n0_ n1_ n2_ n3_ ⊢
           have BK35:=n0_
           have BK36:=n1_
           have BK37:=n2_
           have HB:=n3_
           clear n0_ n1_ n2_ n3_
           replace BK35:=Aside0.mk (blk_drew BK35.out)
           replace BK36:=Aside0.mk (blk_drew BK36.out)
           replace BK37:=Aside0.mk (blk_drew BK37.out)
           replace HB:=Aside0.mk (below_drew1 HB.out)
           refine start_ (n:=11) (S:=fun w' => w'.cell? ⟨gb35,0,none⟩=some (.string a0_0)∧w'.cell? ⟨gb35,1,none⟩=some (.string a0_1)∧w'.cell? ⟨gb35,2,none⟩=some (.int .i64 a0_2)∧w'.cell? ⟨gb35,3,none⟩=some (.slice (some ad39) l0_3.length c0_3)∧w'.cell? ⟨gb35,4,none⟩=some (.slice A0_4 l0_4.length c0_4)∧w'.cell? ⟨gb37,0,none⟩=some (.string ((rd_T41 l0_3 x34_2).f0))∧w'.cell? ⟨gb37,1,none⟩=some (.string ((rd_T41 l0_3 x34_2).f1))) (ds:=[]) #[false,false,false,false,false,false,false,false,false,false,false] (by kernel_rfl) rfl rfl ⟨(blk_cell BK35.out 0).trans rfl,(blk_cell BK35.out 1).trans rfl,(blk_cell BK35.out 2).trans rfl,(blk_cell BK35.out 3).trans rfl,(blk_cell BK35.out 4).trans rfl,(blk_cell BK37.out 0).trans rfl,(blk_cell BK37.out 1).trans rfl⟩ (fun hHeld=>?_);refine with_tabW tollbarlaw12_ScrubRequests.tab8 tollbarlaw12_ScrubRequests.bits8 (fun HT_ HW_=>?_)
           generalize w45.drew=w46 at BK35 BK36 BK37 HB hHeld ⊢
           refine pure_ (i:=0) (N:=some 38) (v:=?_) (a' := ?_) #[true,false,false,false,false,false,false,false,false,false,false] rfl rfl (any_of HT_.out (by kernel_rfl)) (fun _ _ _ h=>h) (Or.inl ⟨by rfl,?_⟩) ?_ ?_
           rotate_left
           ·intro w';go_simp;with_reducible rfl
           rotate_left
           ·simp only [Act.put,zqA,zqB,zqC,i64_w,i32_w];rfl
           refine pure_ (i:=2) (N:=some 40) (v:=?_) (a' := ?_) #[true,false,true,false,false,false,false,false,false,false,false] rfl rfl (any_of HT_.out (by kernel_rfl)) (fun _ _ _ h=>h) (Or.inl ⟨by rfl,?_⟩) ?_ ?_
           rotate_left
           ·intro w';go_simp;with_reducible rfl
           rotate_left
           ·simp only [Act.put,zqA,zqB,zqC,i64_w,i32_w];rfl
           refine pure_ (i:=5) (N:=some 43) (v:=?_) (a' := ?_) #[true,false,true,false,false,true,false,false,false,false,false] rfl rfl (any_of HT_.out (by kernel_rfl)) (fun _ _ _ h=>h) (Or.inl ⟨by rfl,?_⟩) ?_ ?_
           rotate_left
           ·intro w';go_simp;with_reducible rfl
           rotate_left
           ·simp only [Act.put,zqA,zqB,zqC,i64_w,i32_w];rfl
           refine pure_ (i:=7) (N:=some 45) (v:=?_) (a' := ?_) #[true,false,true,false,false,true,false,true,false,false,false] rfl rfl (any_of HT_.out (by kernel_rfl)) (fun _ _ _ h=>h) (Or.inl ⟨by rfl,?_⟩) ?_ ?_
           rotate_left
           ·intro w';go_simp;with_reducible rfl
           rotate_left
           ·simp only [Act.put,zqA,zqB,zqC,i64_w,i32_w];rfl
           refine take_ (i:=1) (N:=some 39) (v:=?_) (a' := ?_) #[true,true,true,false,false,true,false,true,false,false,false] rfl rfl (take_ofW HT_.out HW_.out (by kernel_rfl)) (fun _ _ _ h=>h) (Or.inl ⟨by rfl,?_⟩) hHeld ?_ ?_
           rotate_left
           ·rintro w' ⟨s0,s1,s2,s3,s4,s5,s6⟩;go_simp;with_reducible rfl
           rotate_left
           ·simp only [Act.put,zqA,zqB,zqC,i64_w,i32_w];rfl
           refine take_ (i:=3) (N:=some 41) (v:=?_) (a' := ?_) #[true,true,true,true,false,true,false,true,false,false,false] rfl rfl (take_ofW HT_.out HW_.out (by kernel_rfl)) (fun _ _ _ h=>h) (Or.inl ⟨by rfl,?_⟩) hHeld ?_ ?_
           rotate_left
           ·rintro w' ⟨s0,s1,s2,s3,s4,s5,s6⟩;go_simp;with_reducible rfl
           rotate_left
           ·simp only [Act.put,zqA,zqB,zqC,i64_w,i32_w];rfl
           refine take_ (i:=6) (N:=some 44) (v:=?_) (a' := ?_) #[true,true,true,true,false,true,true,true,false,false,false] rfl rfl (take_ofW HT_.out HW_.out (by kernel_rfl)) (fun _ _ _ h=>h) (Or.inl ⟨by rfl,?_⟩) hHeld ?_ ?_
           rotate_left
           ·rintro w' ⟨s0,s1,s2,s3,s4,s5,s6⟩;go_simp;with_reducible rfl
           rotate_left
           ·simp only [Act.put,zqA,zqB,zqC,i64_w,i32_w];rfl
           refine take_ (i:=8) (N:=some 46) (v:=?_) (a' := ?_) #[true,true,true,true,false,true,true,true,true,false,false] rfl rfl (take_ofW HT_.out HW_.out (by kernel_rfl)) (fun _ _ _ h=>h) (Or.inl ⟨by rfl,?_⟩) hHeld ?_ ?_
           rotate_left
           ·rintro w' ⟨s0,s1,s2,s3,s4,s5,s6⟩;go_simp;with_reducible rfl
           rotate_left
           ·simp only [Act.put,zqA,zqB,zqC,i64_w,i32_w];rfl
           refine one_ (i:=4) (N:=some 42) #[true,true,true,true,true,true,true,true,true,false,false] rfl rfl (one_of HT_.out (by kernel_rfl)) (by decide) (fun K hK=>?_)
           refine goes_ Tryd.func12 (by kernel_rfl) rfl #[.slice (some ad39) l0_3.length c0_3,.string ((rd_T41 l0_3 x34_2).f0)] (by rfl) rfl rfl (by (try simp only [List.map_toArray,List.map_cons,List.map_nil]);first|done|rfl|(simp only [List.length_drop,List.length_take];rfl)) ?_
           with_reducible refine (scrub_Hop.calls k2 _ _ l0_3 ((rd_T41 l0_3 x34_2).f0) t61 _ ?side1 ?side2 A30.out).mono ?_
           (case side1=>repeat (first|exact (Kd.C_below HR0_3.out HB.out)|(with_reducible refine Kd.C_alloc ?_ _)|(with_reducible refine Kd.C_drewN ?_ _)|(with_reducible refine Kd.C_drew ?_)))
           (case side2=>exact HC0_3.out)
           rintro e w47 ⟨rfl,hb⟩
           refine ⟨_,rfl,?_⟩
           replace BK35:=Aside0.mk (blk_below (g:=gb35) (o:=.cells #[.string a0_0,.string a0_1,.int .i64 a0_2,.slice (some ad39) l0_3.length c0_3,.slice A0_4 l0_4.length c0_4] 33 (0,0)) (by (with_reducible repeat (first|refine blk_drewN ?_ _|refine blk_drew ?_|refine blk_alloc ?_ _));exact BK35.out) hb)
           replace BK36:=Aside0.mk (blk_below (g:=gb36) (o:=.cells #[.slice A1_0 l1_0.length c1_0,.slice A1_1 l1_1.length c1_1,.slice A1_2 l1_2.length c1_2,.slice A1_3 l1_3.length c1_3,.int .i64 a1_4,.int .i64 a1_5,.int .i64 a1_6,.int .i64 a1_7] 38 (0,0)) (by (with_reducible repeat (first|refine blk_drewN ?_ _|refine blk_drew ?_|refine blk_alloc ?_ _));exact BK36.out) hb)
           replace BK37:=Aside0.mk (blk_below (g:=gb37) (o:=.cells #[.string ((rd_T41 l0_3 x34_2).f0),.string ((rd_T41 l0_3 x34_2).f1)] 41 (0,0)) (by (with_reducible repeat (first|refine blk_drewN ?_ _|refine blk_drew ?_|refine blk_alloc ?_ _));exact BK37.out) hb)
           replace HB:=Aside0.mk (below_step (by repeat (first|(with_reducible first|exact HB.out|apply below_alloc|apply pw_below_drewN|apply below_drew1|refine below_set ?_ GE35.out|refine below_set ?_ GE36.out|refine below_set ?_ GE37.out)|exact HB.out)) hb)
           (try clear hb)
           (try clear hb2)
           (try clear hk)
           (try clear hi)
           refine hK.out _ _ ⟨(blk_cell BK35.out 0).trans rfl,(blk_cell BK35.out 1).trans rfl,(blk_cell BK35.out 2).trans rfl,(blk_cell BK35.out 3).trans rfl,(blk_cell BK35.out 4).trans rfl,(blk_cell BK37.out 0).trans rfl,(blk_cell BK37.out 1).trans rfl⟩ (fun hHeld=>?_)
           clear hK K
           refine norm_ (a' := ?_) ?_ ?_
           rotate_left
           ·show Act.put _ (some 42) _=_
            simp only [Act.put,zqA,zqB,zqC,i64_w,i32_w]
            rfl
           refine one_ (i:=9) (N:=some 47) #[true,true,true,true,true,true,true,true,true,true,false] rfl rfl (one_of HT_.out (by kernel_rfl)) (by decide) (fun K hK=>?_)
           refine goes_ Tryd.func13 (by kernel_rfl) rfl #[.slice (some ad39) l0_3.length c0_3,.string ((rd_T41 l0_3 x34_2).f0)] (by rfl) rfl rfl (by (try simp only [List.map_toArray,List.map_cons,List.map_nil]);first|done|rfl|(simp only [List.length_drop,List.length_take];rfl)) ?_
           with_reducible refine (tollbarref12_Hop.calls k2 _ _ l0_3 ((rd_T41 l0_3 x34_2).f0) t60 _ ?side1 ?side2 A31.out).mono ?_
           (case side1=>repeat (first|exact (Kd.C_below HR0_3.out HB.out)|(with_reducible refine Kd.C_alloc ?_ _)|(with_reducible refine Kd.C_drewN ?_ _)|(with_reducible refine Kd.C_drew ?_)))
           (case side2=>exact HC0_3.out)
           rintro e w48 ⟨rfl,hb⟩
           refine ⟨_,rfl,?_⟩
           replace BK35:=Aside0.mk (blk_below (g:=gb35) (o:=.cells #[.string a0_0,.string a0_1,.int .i64 a0_2,.slice (some ad39) l0_3.length c0_3,.slice A0_4 l0_4.length c0_4] 33 (0,0)) (by (with_reducible repeat (first|refine blk_drewN ?_ _|refine blk_drew ?_|refine blk_alloc ?_ _));exact BK35.out) hb)
           replace BK36:=Aside0.mk (blk_below (g:=gb36) (o:=.cells #[.slice A1_0 l1_0.length c1_0,.slice A1_1 l1_1.length c1_1,.slice A1_2 l1_2.length c1_2,.slice A1_3 l1_3.length c1_3,.int .i64 a1_4,.int .i64 a1_5,.int .i64 a1_6,.int .i64 a1_7] 38 (0,0)) (by (with_reducible repeat (first|refine blk_drewN ?_ _|refine blk_drew ?_|refine blk_alloc ?_ _));exact BK36.out) hb)
           replace BK37:=Aside0.mk (blk_below (g:=gb37) (o:=.cells #[.string ((rd_T41 l0_3 x34_2).f0),.string ((rd_T41 l0_3 x34_2).f1)] 41 (0,0)) (by (with_reducible repeat (first|refine blk_drewN ?_ _|refine blk_drew ?_|refine blk_alloc ?_ _));exact BK37.out) hb)
           replace HB:=Aside0.mk (below_step (by repeat (first|(with_reducible first|exact HB.out|apply below_alloc|apply pw_below_drewN|apply below_drew1|refine below_set ?_ GE35.out|refine below_set ?_ GE36.out|refine below_set ?_ GE37.out)|exact HB.out)) hb)
           (try clear hb)
           (try clear hb2)
           (try clear hk)
           (try clear hi)
           refine hK.out _ _ ⟨(blk_cell BK35.out 0).trans rfl,(blk_cell BK35.out 1).trans rfl,(blk_cell BK35.out 2).trans rfl,(blk_cell BK35.out 3).trans rfl,(blk_cell BK35.out 4).trans rfl,(blk_cell BK37.out 0).trans rfl,(blk_cell BK37.out 1).trans rfl⟩ (fun hHeld=>?_)
           clear hK K
           refine norm_ (a' := ?_) ?_ ?_
           rotate_left
           ·show Act.put _ (some 47) _=_
            simp only [Act.put,zqA,zqB,zqC,i64_w,i32_w]
            rfl
           refine pure_ (i:=10) (N:=some 48) (v:=?_) (a' := ?_) #[true,true,true,true,true,true,true,true,true,true,true] rfl rfl (any_of HT_.out (by kernel_rfl)) (fun _ _ _ h=>h) (Or.inl ⟨by rfl,?_⟩) ?_ ?_
           rotate_left
           ·intro w';go_simp;with_reducible rfl
           rotate_left
           ·simp only [Act.put,zqA,zqB,zqC,i64_w,i32_w];rfl
           refine done_ (done_of HT_.out (by kernel_rfl)) ?_
           try go_wp2
           go_roundg k2
           case measure=>have:=HJ6.out;have:=HK2.out;omega
           case rel=>exact ⟨(wrap64 (x34_2 + 1)),(by first|rfl|(simp;done)|(simp [*];done)),H',⟨by have:=HJ6.out;have:=HK2.out;omega⟩,⟨by (with_reducible repeat (first|refine blk_drewN ?_ _|refine blk_drew ?_|refine blk_alloc ?_ _));exact BK35.out⟩,⟨by (with_reducible repeat (first|refine blk_drewN ?_ _|refine blk_drew ?_|refine blk_alloc ?_ _));exact BK36.out⟩,⟨by repeat (first|(with_reducible first|exact HB.out|apply below_alloc|apply pw_below_drewN|apply below_drew1|refine below_set ?_ GE35.out|refine below_set ?_ GE36.out|refine below_set ?_ GE37.out)|exact HB.out)⟩⟩
         ·rw [if_neg c29] at H
          exact absurd H (by simp)
        ·rw [if_neg c28] at H
         exact absurd H (by simp)
       ·rw [if_neg c27] at H
        have c27b0:decide (x34_2 < (l0_3.length:Int))=false:=decide_eq_false c27
        clear c27
        replace H:=Option.bind_eq_some_iff.mp H
        obtain ⟨⟨t68,t69,t70,t71,t72⟩,A84,H⟩:=H
        replace H:((tollbarref12_Request.f k2 a0_0 a0_1 a0_2 l0_3 l0_4 l1_0 l1_1 l1_2 l1_3 a1_4 a1_5 a1_6 a1_7 a2 a3).bind fun bt62=>((tollbarref08_SameReq.f k2 t68 t69 t70 t71 t72 bt62.1 bt62.2.1 bt62.2.2.1 bt62.2.2.2.1 bt62.2.2.2.2).bind fun t67=>(some t67)))=some r:=H
        have A49:=Aside0.mk A84
        clear A84
        replace H:=Option.bind_eq_some_iff.mp H
        obtain ⟨⟨t62,t76,t77,t78,t79⟩,A85,H⟩:=H
        replace H:((tollbarref08_SameReq.f k2 t68 t69 t70 t71 t72 t62 t76 t77 t78 t79).bind fun t67=>(some t67))=some r:=H
        have A50:=Aside0.mk A85
        clear A85
        replace H:=Option.bind_eq_some_iff.mp H
        obtain ⟨t67,A86,H⟩:=H
        replace H:(some t67)=some r:=H
        have A51:=Aside0.mk A86
        clear A86
        obtain rfl:=Option.some.inj H
        try go_wp2
        replace BK35:=Aside0.mk (blk_drew BK35.out)
        replace BK36:=Aside0.mk (blk_drew BK36.out)
        replace HB:=Aside0.mk (below_drew1 HB.out)
        refine start_ (n:=12) (S:=fun w' => w'.cell? ⟨gb35,0,none⟩=some (.string a0_0)∧w'.cell? ⟨gb35,1,none⟩=some (.string a0_1)∧w'.cell? ⟨gb35,2,none⟩=some (.int .i64 a0_2)∧w'.cell? ⟨gb35,3,none⟩=some (.slice A0_3 l0_3.length c0_3)∧w'.cell? ⟨gb35,4,none⟩=some (.slice A0_4 l0_4.length c0_4)∧w'.cell? ⟨gb36,0,none⟩=some (.slice A1_0 l1_0.length c1_0)∧w'.cell? ⟨gb36,1,none⟩=some (.slice A1_1 l1_1.length c1_1)∧w'.cell? ⟨gb36,2,none⟩=some (.slice A1_2 l1_2.length c1_2)∧w'.cell? ⟨gb36,3,none⟩=some (.slice A1_3 l1_3.length c1_3)∧w'.cell? ⟨gb36,4,none⟩=some (.int .i64 a1_4)∧w'.cell? ⟨gb36,5,none⟩=some (.int .i64 a1_5)∧w'.cell? ⟨gb36,6,none⟩=some (.int .i64 a1_6)∧w'.cell? ⟨gb36,7,none⟩=some (.int .i64 a1_7)) (ds:=[]) #[false,false,false,false,false,false,false,false,false,false,false,false] (by kernel_rfl) rfl rfl ⟨(blk_cell BK35.out 0).trans rfl,(blk_cell BK35.out 1).trans rfl,(blk_cell BK35.out 2).trans rfl,(blk_cell BK35.out 3).trans rfl,(blk_cell BK35.out 4).trans rfl,(blk_cell BK36.out 0).trans rfl,(blk_cell BK36.out 1).trans rfl,(blk_cell BK36.out 2).trans rfl,(blk_cell BK36.out 3).trans rfl,(blk_cell BK36.out 4).trans rfl,(blk_cell BK36.out 5).trans rfl,(blk_cell BK36.out 6).trans rfl,(blk_cell BK36.out 7).trans rfl⟩ (fun hHeld=>?_);refine with_tabW tollbarlaw12_ScrubRequests.tab11 tollbarlaw12_ScrubRequests.bits11 (fun HT_ HW_=>?_)
        generalize wr.drew=w52 at BK35 BK36 HB hHeld ⊢
        refine pure_ (i:=2) (N:=some 52) (v:=?_) (a' := ?_) #[false,false,true,false,false,false,false,false,false,false,false,false] rfl rfl (any_of HT_.out (by kernel_rfl)) (fun _ _ _ h=>h) (Or.inl ⟨by rfl,?_⟩) ?_ ?_
        rotate_left
        ·intro w';go_simp;with_reducible rfl
        rotate_left
        ·simp only [Act.put,zqA,zqB,zqC,i64_w,i32_w];rfl
        refine pure_ (i:=3) (N:=some 53) (v:=?_) (a' := ?_) #[false,false,true,true,false,false,false,false,false,false,false,false] rfl rfl (any_of HT_.out (by kernel_rfl)) (fun _ _ _ h=>h) (Or.inl ⟨by rfl,?_⟩) ?_ ?_
        rotate_left
        ·intro w';go_simp;with_reducible rfl
        rotate_left
        ·simp only [Act.put,zqA,zqB,zqC,i64_w,i32_w];rfl
        refine pure_ (i:=7) (N:=some 57) (v:=?_) (a' := ?_) #[false,false,true,true,false,false,false,true,false,false,false,false] rfl rfl (any_of HT_.out (by kernel_rfl)) (fun _ _ _ h=>h) (Or.inl ⟨by rfl,?_⟩) ?_ ?_
        rotate_left
        ·intro w';go_simp;with_reducible rfl
        rotate_left
        ·simp only [Act.put,zqA,zqB,zqC,i64_w,i32_w];rfl
        refine pure_ (i:=8) (N:=some 58) (v:=?_) (a' := ?_) #[false,false,true,true,false,false,false,true,true,false,false,false] rfl rfl (any_of HT_.out (by kernel_rfl)) (fun _ _ _ h=>h) (Or.inl ⟨by rfl,?_⟩) ?_ ?_
        rotate_left
        ·intro w';go_simp;with_reducible rfl
        rotate_left
        ·simp only [Act.put,zqA,zqB,zqC,i64_w,i32_w];rfl
        refine take_ (i:=0) (N:=some 50) (v:=?_) (a' := ?_) #[true,false,true,true,false,false,false,true,true,false,false,false] rfl rfl (take_ofW HT_.out HW_.out (by kernel_rfl)) (fun _ _ _ h=>h) (Or.inl ⟨by rfl,?_⟩) hHeld ?_ ?_
        rotate_left
        ·rintro w' ⟨s0,s1,s2,s3,s4,s5,s6,s7,s8,s9,s10,s11,s12⟩;go_simp;with_reducible rfl
        rotate_left
        ·simp only [Act.put,zqA,zqB,zqC,i64_w,i32_w];rfl
        refine take_ (i:=1) (N:=some 51) (v:=?_) (a' := ?_) #[true,true,true,true,false,false,false,true,true,false,false,false] rfl rfl (take_ofW HT_.out HW_.out (by kernel_rfl)) (fun _ _ _ h=>h) (Or.inl ⟨by rfl,?_⟩) hHeld ?_ ?_
        rotate_left
        ·rintro w' ⟨s0,s1,s2,s3,s4,s5,s6,s7,s8,s9,s10,s11,s12⟩;go_simp;with_reducible rfl
        rotate_left
        ·simp only [Act.put,zqA,zqB,zqC,i64_w,i32_w];rfl
        refine take_ (i:=5) (N:=some 55) (v:=?_) (a' := ?_) #[true,true,true,true,false,true,false,true,true,false,false,false] rfl rfl (take_ofW HT_.out HW_.out (by kernel_rfl)) (fun _ _ _ h=>h) (Or.inl ⟨by rfl,?_⟩) hHeld ?_ ?_
        rotate_left
        ·rintro w' ⟨s0,s1,s2,s3,s4,s5,s6,s7,s8,s9,s10,s11,s12⟩;go_simp;with_reducible rfl
        rotate_left
        ·simp only [Act.put,zqA,zqB,zqC,i64_w,i32_w];rfl
        refine take_ (i:=6) (N:=some 56) (v:=?_) (a' := ?_) #[true,true,true,true,false,true,true,true,true,false,false,false] rfl rfl (take_ofW HT_.out HW_.out (by kernel_rfl)) (fun _ _ _ h=>h) (Or.inl ⟨by rfl,?_⟩) hHeld ?_ ?_
        rotate_left
        ·rintro w' ⟨s0,s1,s2,s3,s4,s5,s6,s7,s8,s9,s10,s11,s12⟩;go_simp;with_reducible rfl
        rotate_left
        ·simp only [Act.put,zqA,zqB,zqC,i64_w,i32_w];rfl
        refine one_ (i:=4) (N:=some 54) #[true,true,true,true,true,true,true,true,true,false,false,false] rfl rfl (one_of HT_.out (by kernel_rfl)) (by decide) (fun K hK=>?_)
        refine goes_ Tryd.func15 (by kernel_rfl) rfl #[.agg #[.string a0_0,.string a0_1,.int .i64 a0_2,.slice A0_3 l0_3.length c0_3,.slice A0_4 l0_4.length c0_4],.agg #[.slice A1_0 l1_0.length c1_0,.slice A1_1 l1_1.length c1_1,.slice A1_2 l1_2.length c1_2,.slice A1_3 l1_3.length c1_3,.int .i64 a1_4,.int .i64 a1_5,.int .i64 a1_6,.int .i64 a1_7],.string a2,.string a3] (by rfl) rfl rfl (by (try simp only [List.map_toArray,List.map_cons,List.map_nil]);first|done|rfl|(simp only [List.length_drop,List.length_take];rfl)) ?_
        with_reducible refine (scrub_Request.calls k2 a0_0 a0_1 a0_2 _ _ l0_3 _ _ l0_4 _ _ l1_0 _ _ l1_1 _ _ l1_2 _ _ l1_3 a1_4 a1_5 a1_6 a1_7 a2 a3 t68 t69 t70 t71 t72 _ ?side1 ?side2 ?side3 ?side4 ?side5 ?side6 ?side7 ?side8 ?side9 ?side10 ?side11 ?side12 A49.out ?hT).mono ?_;(case hT=>exact HTB.out.below (by repeat (first|(with_reducible first|exact HB.out|apply below_alloc|apply pw_below_drewN|apply below_drew1|refine below_set ?_ GE35.out|refine below_set ?_ GE36.out|refine below_set ?_ GE37.out)|exact HB.out)))
        (case side1=>repeat (first|exact (Kd.C_below HR0_3.out HB.out)|(with_reducible refine Kd.C_alloc ?_ _)|(with_reducible refine Kd.C_drewN ?_ _)|(with_reducible refine Kd.C_drew ?_)))
        (case side2=>exact HC0_3.out)
        (case side3=>repeat (first|exact (Kd.C_below HR0_4.out HB.out)|(with_reducible refine Kd.C_alloc ?_ _)|(with_reducible refine Kd.C_drewN ?_ _)|(with_reducible refine Kd.C_drew ?_)))
        (case side4=>exact HC0_4.out)
        (case side5=>repeat (first|exact (Kd.C_below HR1_0.out HB.out)|(with_reducible refine Kd.C_alloc ?_ _)|(with_reducible refine Kd.C_drewN ?_ _)|(with_reducible refine Kd.C_drew ?_)))
        (case side6=>exact HC1_0.out)
        (case side7=>repeat (first|exact (Kd.C_below HR1_1.out HB.out)|(with_reducible refine Kd.C_alloc ?_ _)|(with_reducible refine Kd.C_drewN ?_ _)|(with_reducible refine Kd.C_drew ?_)))
        (case side8=>exact HC1_1.out)
        (case side9=>repeat (first|exact (Kd.C_below HR1_2.out HB.out)|(with_reducible refine Kd.C_alloc ?_ _)|(with_reducible refine Kd.C_drewN ?_ _)|(with_reducible refine Kd.C_drew ?_)))
        (case side10=>exact HC1_2.out)
        (case side11=>repeat (first|exact (Kd.C_below HR1_3.out HB.out)|(with_reducible refine Kd.C_alloc ?_ _)|(with_reducible refine Kd.C_drewN ?_ _)|(with_reducible refine Kd.C_drew ?_)))
        (case side12=>exact HC1_3.out)
        rintro e w53 ⟨v87,v88,rfl,ho0,ho1,hb⟩
        refine ⟨_,rfl,?_⟩
        have n0_:=Aside0.mk (Kd.R_lower ho0 (below_size (by repeat (first|(with_reducible first|exact HB.out|apply below_alloc|apply pw_below_drewN|apply below_drew1|refine below_set ?_ GE35.out|refine below_set ?_ GE36.out)|exact HB.out))))
        have n1_:=Aside0.mk (Kd.R_lower ho1 (below_size (by repeat (first|(with_reducible first|exact HB.out|apply below_alloc|apply pw_below_drewN|apply below_drew1|refine below_set ?_ GE35.out|refine below_set ?_ GE36.out)|exact HB.out))))
        have n2_:=Aside0.mk (blk_below (g:=gb35) (o:=.cells #[.string a0_0,.string a0_1,.int .i64 a0_2,.slice A0_3 l0_3.length c0_3,.slice A0_4 l0_4.length c0_4] 33 (0,0)) (by (with_reducible repeat (first|refine blk_drewN ?_ _|refine blk_drew ?_|refine blk_alloc ?_ _));exact BK35.out) hb)
        have n3_:=Aside0.mk (blk_below (g:=gb36) (o:=.cells #[.slice A1_0 l1_0.length c1_0,.slice A1_1 l1_1.length c1_1,.slice A1_2 l1_2.length c1_2,.slice A1_3 l1_3.length c1_3,.int .i64 a1_4,.int .i64 a1_5,.int .i64 a1_6,.int .i64 a1_7] 38 (0,0)) (by (with_reducible repeat (first|refine blk_drewN ?_ _|refine blk_drew ?_|refine blk_alloc ?_ _));exact BK36.out) hb)
        have n4_:=Aside0.mk (below_step (by repeat (first|(with_reducible first|exact HB.out|apply below_alloc|apply pw_below_drewN|apply below_drew1|refine below_set ?_ GE35.out|refine below_set ?_ GE36.out)|exact HB.out)) hb)
        clear BK35 BK36 HB
        have HO63:=n0_
        have HO65:=n1_
        have BK35:=n2_
        have BK36:=n3_
        have HB:=n4_
        clear n0_ n1_ n2_ n3_ n4_
        (try clear hb)
        (try clear hb2)
        (try clear hk)
        (try clear hi)
        (try clear ho0)
        (try clear ho1)
        refine hK.out _ _ ⟨(blk_cell BK35.out 0).trans rfl,(blk_cell BK35.out 1).trans rfl,(blk_cell BK35.out 2).trans rfl,(blk_cell BK35.out 3).trans rfl,(blk_cell BK35.out 4).trans rfl,(blk_cell BK36.out 0).trans rfl,(blk_cell BK36.out 1).trans rfl,(blk_cell BK36.out 2).trans rfl,(blk_cell BK36.out 3).trans rfl,(blk_cell BK36.out 4).trans rfl,(blk_cell BK36.out 5).trans rfl,(blk_cell BK36.out 6).trans rfl,(blk_cell BK36.out 7).trans rfl⟩ (fun hHeld=>?_)
        clear hK K
        refine norm_ (a' := ?_) ?_ ?_
        rotate_left
        ·show Act.put _ (some 54) _=_
         simp only [Act.put,zqA,zqB,zqC,i64_w,i32_w]
         rfl
        refine one_ (i:=9) (N:=some 59) #[true,true,true,true,true,true,true,true,true,true,false,false] rfl rfl (one_of HT_.out (by kernel_rfl)) (by decide) (fun K hK=>?_)
        refine goes_ Tryd.func16 (by kernel_rfl) rfl #[.agg #[.string a0_0,.string a0_1,.int .i64 a0_2,.slice A0_3 l0_3.length c0_3,.slice A0_4 l0_4.length c0_4],.agg #[.slice A1_0 l1_0.length c1_0,.slice A1_1 l1_1.length c1_1,.slice A1_2 l1_2.length c1_2,.slice A1_3 l1_3.length c1_3,.int .i64 a1_4,.int .i64 a1_5,.int .i64 a1_6,.int .i64 a1_7],.string a2,.string a3] (by rfl) rfl rfl (by (try simp only [List.map_toArray,List.map_cons,List.map_nil]);first|done|rfl|(simp only [List.length_drop,List.length_take];rfl)) ?_
        with_reducible refine (tollbarref12_Request.calls k2 a0_0 a0_1 a0_2 _ _ l0_3 _ _ l0_4 _ _ l1_0 _ _ l1_1 _ _ l1_2 _ _ l1_3 a1_4 a1_5 a1_6 a1_7 a2 a3 t62 t76 t77 t78 t79 _ ?side1 ?side2 ?side3 ?side4 ?side5 ?side6 ?side7 ?side8 ?side9 ?side10 ?side11 ?side12 A50.out).mono ?_
        (case side1=>repeat (first|exact (Kd.C_below HR0_3.out HB.out)|(with_reducible refine Kd.C_alloc ?_ _)|(with_reducible refine Kd.C_drewN ?_ _)|(with_reducible refine Kd.C_drew ?_)))
        (case side2=>exact HC0_3.out)
        (case side3=>repeat (first|exact (Kd.C_below HR0_4.out HB.out)|(with_reducible refine Kd.C_alloc ?_ _)|(with_reducible refine Kd.C_drewN ?_ _)|(with_reducible refine Kd.C_drew ?_)))
        (case side4=>exact HC0_4.out)
        (case side5=>repeat (first|exact (Kd.C_below HR1_0.out HB.out)|(with_reducible refine Kd.C_alloc ?_ _)|(with_reducible refine Kd.C_drewN ?_ _)|(with_reducible refine Kd.C_drew ?_)))
        (case side6=>exact HC1_0.out)
        (case side7=>repeat (first|exact (Kd.C_below HR1_1.out HB.out)|(with_reducible refine Kd.C_alloc ?_ _)|(with_reducible refine Kd.C_drewN ?_ _)|(with_reducible refine Kd.C_drew ?_)))
        (case side8=>exact HC1_1.out)
        (case side9=>repeat (first|exact (Kd.C_below HR1_2.out HB.out)|(with_reducible refine Kd.C_alloc ?_ _)|(with_reducible refine Kd.C_drewN ?_ _)|(with_reducible refine Kd.C_drew ?_)))
        (case side10=>exact HC1_2.out)
        (case side11=>repeat (first|exact (Kd.C_below HR1_3.out HB.out)|(with_reducible refine Kd.C_alloc ?_ _)|(with_reducible refine Kd.C_drewN ?_ _)|(with_reducible refine Kd.C_drew ?_)))
        (case side12=>exact HC1_3.out)
        rintro e w54 ⟨v89,v90,rfl,ho0,ho1,hb⟩
        refine ⟨_,rfl,?_⟩
        have n0_:=Aside0.mk (Kd.R_elder' (by (with_reducible repeat (first|apply Kd.R_alloc|apply Kd.R_drewN|apply Kd.R_drew));exact HO63.out) (Kd.R_base ho0) hb)
        have n1_:=Aside0.mk (Kd.R_elder' (by (with_reducible repeat (first|apply Kd.R_alloc|apply Kd.R_drewN|apply Kd.R_drew));exact HO65.out) (Kd.R_base ho1) hb)
        have n2_:=Aside0.mk (Kd.R_lower (Kd.R_new' ho0 (Kd.R_lt (by (with_reducible repeat (first|apply Kd.R_alloc|apply Kd.R_drewN|apply Kd.R_drew));exact HO63.out))) (below_size (by repeat (first|(with_reducible first|exact HB.out|apply below_alloc|apply pw_below_drewN|apply below_drew1|refine below_set ?_ GE35.out|refine below_set ?_ GE36.out)|exact HB.out))))
        have n3_:=Aside0.mk (Kd.R_lower (Kd.R_new' ho1 (Kd.R_lt (by (with_reducible repeat (first|apply Kd.R_alloc|apply Kd.R_drewN|apply Kd.R_drew));exact HO65.out))) (below_size (by repeat (first|(with_reducible first|exact HB.out|apply below_alloc|apply pw_below_drewN|apply below_drew1|refine below_set ?_ GE35.out|refine below_set ?_ GE36.out)|exact HB.out))))
        have n4_:=Aside0.mk (blk_below (g:=gb35) (o:=.cells #[.string a0_0,.string a0_1,.int .i64 a0_2,.slice A0_3 l0_3.length c0_3,.slice A0_4 l0_4.length c0_4] 33 (0,0)) (by (with_reducible repeat (first|refine blk_drewN ?_ _|refine blk_drew ?_|refine blk_alloc ?_ _));exact BK35.out) hb)
        have n5_:=Aside0.mk (blk_below (g:=gb36) (o:=.cells #[.slice A1_0 l1_0.length c1_0,.slice A1_1 l1_1.length c1_1,.slice A1_2 l1_2.length c1_2,.slice A1_3 l1_3.length c1_3,.int .i64 a1_4,.int .i64 a1_5,.int .i64 a1_6,.int .i64 a1_7] 38 (0,0)) (by (with_reducible repeat (first|refine blk_drewN ?_ _|refine blk_drew ?_|refine blk_alloc ?_ _));exact BK36.out) hb)
        have n6_:=Aside0.mk (below_step (by repeat (first|(with_reducible first|exact HB.out|apply below_alloc|apply pw_below_drewN|apply below_drew1|refine below_set ?_ GE35.out|refine below_set ?_ GE36.out)|exact HB.out)) hb)
        clear HO63 HO65 BK35 BK36 HB
        have HO63:=n0_
        have HO65:=n1_
        have HO73:=n2_
        have HO74:=n3_
        have BK35:=n4_
        have BK36:=n5_
        have HB:=n6_
        clear n0_ n1_ n2_ n3_ n4_ n5_ n6_
        (try clear hb)
        (try clear hb2)
        (try clear hk)
        (try clear hi)
        (try clear ho0)
        (try clear ho1)
        obtain ⟨Ao55,co55,eo55⟩:=Kd.R_slice HO63.out
        (first|subst eo55|(injection eo55 with f1_ f2_ f3_;have f4_:=f1_.symm;have f5_:=f3_.symm;clear f1_ f2_ f3_;subst f4_;subst f5_))
        obtain ⟨Ao56,co56,eo56⟩:=Kd.R_slice HO65.out
        (first|subst eo56|(injection eo56 with f1_ f2_ f3_;have f4_:=f1_.symm;have f5_:=f3_.symm;clear f1_ f2_ f3_;subst f4_;subst f5_))
        obtain ⟨Ao57,co57,eo57⟩:=Kd.R_slice HO73.out
        (first|subst eo57|(injection eo57 with f1_ f2_ f3_;have f4_:=f1_.symm;have f5_:=f3_.symm;clear f1_ f2_ f3_;subst f4_;subst f5_))
        obtain ⟨Ao58,co58,eo58⟩:=Kd.R_slice HO74.out
        (first|subst eo58|(injection eo58 with f1_ f2_ f3_;have f4_:=f1_.symm;have f5_:=f3_.symm;clear f1_ f2_ f3_;subst f4_;subst f5_))
        refine hK.out _ _ ⟨(blk_cell BK35.out 0).trans rfl,(blk_cell BK35.out 1).trans rfl,(blk_cell BK35.out 2).trans rfl,(blk_cell BK35.out 3).trans rfl,(blk_cell BK35.out 4).trans rfl,(blk_cell BK36.out 0).trans rfl,(blk_cell BK36.out 1).trans rfl,(blk_cell BK36.out 2).trans rfl,(blk_cell BK36.out 3).trans rfl,(blk_cell BK36.out 4).trans rfl,(blk_cell BK36.out 5).trans rfl,(blk_cell BK36.out 6).trans rfl,(blk_cell BK36.out 7).trans rfl⟩ (fun hHeld=>?_)
        clear hK K
        refine norm_ (a' := ?_) ?_ ?_
        rotate_left
        ·show Act.put _ (some 59) _=_
         simp only [Act.put,zqA,zqB,zqC,i64_w,i32_w]
         rfl
        refine one_ (i:=10) (N:=some 60) #[true,true,true,true,true,true,true,true,true,true,true,false] rfl rfl (one_of HT_.out (by kernel_rfl)) (by decide) (fun K hK=>?_)
        refine goes_ Tryd.func14 (by kernel_rfl) rfl #[.agg #[.string t68,.string t69,.int .i64 t70,.slice Ao55 t71.length co55,.slice Ao56 t72.length co56],.agg #[.string t62,.string t76,.int .i64 t77,.slice Ao57 t78.length co57,.slice Ao58 t79.length co58]] (by rfl) rfl rfl (by (try simp only [List.map_toArray,List.map_cons,List.map_nil]);first|done|rfl|(simp only [List.length_drop,List.length_take];rfl)) ?_
        with_reducible refine (tollbarref08_SameReq.calls k2 t68 t69 t70 _ _ t71 _ _ t72 t62 t76 t77 _ _ t78 _ _ t79 t67 _ ?side1 ?side2 ?side3 ?side4 ?side5 ?side6 ?side7 ?side8 A51.out).mono ?_
        (case side1=>repeat (first|exact (Kd.R_reads' HO63.out).2.2|(with_reducible refine Kd.C_alloc ?_ _)|(with_reducible refine Kd.C_drewN ?_ _)|(with_reducible refine Kd.C_drew ?_)))
        (case side2=>exact (Kd.R_reads' HO63.out).2.1)
        (case side3=>repeat (first|exact (Kd.R_reads' HO65.out).2.2|(with_reducible refine Kd.C_alloc ?_ _)|(with_reducible refine Kd.C_drewN ?_ _)|(with_reducible refine Kd.C_drew ?_)))
        (case side4=>exact (Kd.R_reads' HO65.out).2.1)
        (case side5=>repeat (first|exact (Kd.R_reads' HO73.out).2.2|(with_reducible refine Kd.C_alloc ?_ _)|(with_reducible refine Kd.C_drewN ?_ _)|(with_reducible refine Kd.C_drew ?_)))
        (case side6=>exact (Kd.R_reads' HO73.out).2.1)
        (case side7=>repeat (first|exact (Kd.R_reads' HO74.out).2.2|(with_reducible refine Kd.C_alloc ?_ _)|(with_reducible refine Kd.C_drewN ?_ _)|(with_reducible refine Kd.C_drew ?_)))
        (case side8=>exact (Kd.R_reads' HO74.out).2.1)
        rintro e w59 ⟨rfl,hb⟩
        refine ⟨_,rfl,?_⟩
        replace HO63:=Aside0.mk (Kd.R_below (by (with_reducible repeat (first|apply Kd.R_alloc|apply Kd.R_drewN|apply Kd.R_drew));exact HO63.out) hb)
        replace HO65:=Aside0.mk (Kd.R_below (by (with_reducible repeat (first|apply Kd.R_alloc|apply Kd.R_drewN|apply Kd.R_drew));exact HO65.out) hb)
        replace HO73:=Aside0.mk (Kd.R_below (by (with_reducible repeat (first|apply Kd.R_alloc|apply Kd.R_drewN|apply Kd.R_drew));exact HO73.out) hb)
        replace HO74:=Aside0.mk (Kd.R_below (by (with_reducible repeat (first|apply Kd.R_alloc|apply Kd.R_drewN|apply Kd.R_drew));exact HO74.out) hb)
        replace BK35:=Aside0.mk (blk_below (g:=gb35) (o:=.cells #[.string a0_0,.string a0_1,.int .i64 a0_2,.slice A0_3 l0_3.length c0_3,.slice A0_4 l0_4.length c0_4] 33 (0,0)) (by (with_reducible repeat (first|refine blk_drewN ?_ _|refine blk_drew ?_|refine blk_alloc ?_ _));exact BK35.out) hb)
        replace BK36:=Aside0.mk (blk_below (g:=gb36) (o:=.cells #[.slice A1_0 l1_0.length c1_0,.slice A1_1 l1_1.length c1_1,.slice A1_2 l1_2.length c1_2,.slice A1_3 l1_3.length c1_3,.int .i64 a1_4,.int .i64 a1_5,.int .i64 a1_6,.int .i64 a1_7] 38 (0,0)) (by (with_reducible repeat (first|refine blk_drewN ?_ _|refine blk_drew ?_|refine blk_alloc ?_ _));exact BK36.out) hb)
        replace HB:=Aside0.mk (below_step (by repeat (first|(with_reducible first|exact HB.out|apply below_alloc|apply pw_below_drewN|apply below_drew1|refine below_set ?_ GE35.out|refine below_set ?_ GE36.out)|exact HB.out)) hb)
        (try clear hb)
        (try clear hb2)
        (try clear hk)
        (try clear hi)
        refine hK.out _ _ ⟨(blk_cell BK35.out 0).trans rfl,(blk_cell BK35.out 1).trans rfl,(blk_cell BK35.out 2).trans rfl,(blk_cell BK35.out 3).trans rfl,(blk_cell BK35.out 4).trans rfl,(blk_cell BK36.out 0).trans rfl,(blk_cell BK36.out 1).trans rfl,(blk_cell BK36.out 2).trans rfl,(blk_cell BK36.out 3).trans rfl,(blk_cell BK36.out 4).trans rfl,(blk_cell BK36.out 5).trans rfl,(blk_cell BK36.out 6).trans rfl,(blk_cell BK36.out 7).trans rfl⟩ (fun hHeld=>?_)
        clear hK K
        refine norm_ (a' := ?_) ?_ ?_
        rotate_left
        ·show Act.put _ (some 60) _=_
         simp only [Act.put,zqA,zqB,zqC,i64_w,i32_w]
         rfl
        refine pure_ (i:=11) (N:=some 8) (v:=?_) (a' := ?_) #[true,true,true,true,true,true,true,true,true,true,true,true] rfl rfl (any_of HT_.out (by kernel_rfl)) (fun _ _ _ h=>h) (Or.inl ⟨by rfl,?_⟩) ?_ ?_
        rotate_left
        ·intro w';go_simp;with_reducible rfl
        rotate_left
        ·simp only [Act.put,zqA,zqB,zqC,i64_w,i32_w];rfl
        refine done_ (done_of HT_.out (by kernel_rfl)) ?_
        try go_wp2
        go_ret
        exact ⟨by first|rfl|(simp [errW_none,errW_some] <;> rfl)|(simp [*,errW_none,errW_some] <;> rfl),by repeat (first|(with_reducible first|exact HB.out|apply below_alloc|apply pw_below_drewN|apply below_drew1|refine below_set ?_ GE35.out|refine below_set ?_ GE36.out)|exact HB.out)⟩
 ·replace c6:=Bool.eq_false_iff.mpr c6
  subst c6
  have H1:(some false)=some r:=by rw [if_neg (show ¬ (false=true) by decide)] at H;exact H
  clear H
  have H:=H1
  clear H1
  exact absurd ((Option.some.inj H).trans HRT.out) (by decide)
end Go.Proofs.YtfjeinnemimjoaaDoor.P
namespace Go.Proofs.YtfjeinnemimjoaaDoor.Pure
open Go.RowKit Go.Proofs.YtfjeinnemimjoaaDoor.P Go.Proofs.YtfjeinnemimjoaaDoorW.PrintWords Go.Proofs.YtfjeinnemimjoaaDoorW.PrintLast Go.Proofs.YtfjeinnemimjoaaDoorW.PrintMore
set_option linter.unusedVariables false
set_option linter.unusedSimpArgs false
theorem str_append (xs ys : List Int) : strOfNums (xs ++ ys) = strOfNums xs ++ strOfNums ys := by
  apply ByteArray.ext
  simp [strOfNums]
theorem str_size (xs : List Int) : (strOfNums xs).size = xs.length := strOfNums_size xs
theorem w64 {i : Int} {n : Nat} (c : Int) (h0 : 0 ≤ i) (h : i < (n : Int)) (hn : n ≤ 140737488355328) (hc0 : -3 ≤ c) (hc : c ≤ 3) : wrap64 (i + c) = i + c := by
  unfold wrap64; omega
theorem toList_data (s : ByteArray) : s.toList = s.data.toList := by
  simp [ByteArray.toList_eq]
theorem fold_tells (s : ByteArray) (hn : s.size ≤ 140737488355328) : sign_Fold.f s = some (strOfNums ((bytesOf s).map foldC)) := if_pos hn
def Bytes (xs : List Int) : Prop := ∀ x ∈ xs, 0 ≤ x ∧ x ≤ 255
theorem bytes_of (s : ByteArray) : Bytes (bytesOf s) := by
  intro x hx
  obtain ⟨b, _, rfl⟩ := List.mem_map.1 hx
  have := b.toNat_lt
  omega
theorem foldC_byte (x : Int) (h0 : 0 ≤ x) (h1 : x ≤ 255) : 0 ≤ foldC x ∧ foldC x ≤ 255 := by unfold foldC; split <;> omega
theorem bytes_fold {xs : List Int} (h : Bytes xs) : Bytes (xs.map foldC) := by
  intro x hx
  obtain ⟨y, hy, rfl⟩ := List.mem_map.1 hx
  exact foldC_byte y (h y hy).1 (h y hy).2
theorem bytes_str {xs : List Int} (h : Bytes xs) : bytesOf (strOfNums xs) = xs := by
  unfold bytesOf
  rw [strOfNums_data, List.map_map]
  conv => rhs; rw [← List.map_id xs]
  refine List.map_congr_left fun x hx => ?_
  have := h x hx
  show ((UInt8.ofNat x.toNat).toNat : Int) = x
  rw [UInt8.toNat_ofNat']
  omega
theorem str_inj {xs ys : List Int} (hx : Bytes xs) (hy : Bytes ys) : ((strOfNums xs).toList == (strOfNums ys).toList) = decide (xs = ys) := by
  rw [Bool.eq_iff_iff, beq_iff_eq, decide_eq_true_eq]
  refine ⟨fun e => ?_, fun e => by rw [e]⟩
  rw [← bytes_str hx, ← bytes_str hy]
  unfold bytesOf
  rw [← toList_data, ← toList_data, e]
theorem same_tells (a b : ByteArray) (ha : a.size ≤ 140737488355328) (hb : b.size ≤ 140737488355328) : sign_Same.f a b = some (decide ((bytesOf a).map foldC = (bytesOf b).map foldC)) := by
  unfold sign_Same.f
  by_cases h : (a.size : Int) = b.size
  · rw [if_pos h, fold_tells a ha, Option.bind_some, fold_tells b hb, Option.bind_some, str_inj (bytes_fold (bytes_of a)) (bytes_fold (bytes_of b))]
  · rw [if_neg h]
    have hne : ¬ ((bytesOf a).map foldC = (bytesOf b).map foldC) := by
      intro e
      have := congrArg List.length e
      rw [List.length_map, List.length_map, bytesOf_length, bytesOf_length] at this
      omega
    rw [decide_eq_false hne]
def mkS (l : List UInt8) : ByteArray := ⟨l.toArray⟩
theorem mkS_data (l : List UInt8) : (mkS l).data.toList = l := by simp [mkS]
theorem mkS_self (s : ByteArray) : mkS s.data.toList = s := by simp [mkS]
theorem mkS_size (l : List UInt8) : (mkS l).size = l.length := by rw [← data_length, mkS_data]
theorem mkS_toList (l : List UInt8) : (mkS l).toList = l := by rw [toList_data, mkS_data]
theorem wn0 (n : Nat) (h : n ≤ 4398046511104) : wrap64 ((n : Int) + 0) = (n : Int) := by unfold wrap64; omega
theorem wn1 (n : Nat) (h : n ≤ 4398046511104) : wrap64 ((n : Int) + 1) = (n : Int) + 1 := by unfold wrap64; omega
theorem wnm (n : Nat) (h : n ≤ 4398046511104) : wrap64 ((n : Int) + 1 - 1) = (n : Int) := by unfold wrap64; omega
theorem wi1 (i : Int) (h0 : 0 ≤ i) (h : i ≤ 4398046511104) : wrap64 (i + 1) = i + 1 := by unfold wrap64; omega
theorem rdOf_mk (ps : List (List UInt8)) (i : Int) (h0 : 0 ≤ i) (h : i < (ps.length : Int)) : rdOf ByteArray.empty (ps.map mkS) i = mkS (ps.getD i.toNat []) := by
  unfold rdOf
  rw [List.getD_eq_getElem?_getD, List.getElem?_map, List.getD_eq_getElem?_getD, List.getElem?_eq_getElem (by omega)]
  rfl
theorem bt_mk (l : List UInt8) (i : Nat) (h : i < l.length) : bt (mkS l) i = ((l[i]).toNat : Int) := by
  unfold bt
  have hs : (mkS l).size = l.length := mkS_size l
  rw [dif_pos (by rw [Int.toNat_natCast]; omega)]
  have : (mkS l)[((i : Nat) : Int).toNat]'(by rw [Int.toNat_natCast]; omega) = l[i] := by simp [mkS, ByteArray.getElem_eq_getElem_data]
  rw [this]
theorem mkS_extract (l : List UInt8) (a b : Nat) : (mkS l).extract a b = mkS ((l.drop a).take (b - a)) := by
  rw [← mkS_self ((mkS l).extract a b), Lib.extract_data, mkS_data]
theorem seg_split (l : List UInt8) (f i : Nat) (h : f ≤ i) (hi : i < l.length) : l.drop f = (l.drop f).take (i - f) ++ l[i] :: l.drop (i + 1) ∧ (l.drop f).take (i + 1 - f) = (l.drop f).take (i - f) ++ [l[i]] := by
  have e1 : (l.drop f).drop (i - f) = l.drop i := by rw [List.drop_drop]; congr 1; omega
  have e2 : l.drop i = l[i] :: l.drop (i + 1) := List.drop_eq_getElem_cons hi
  refine ⟨?_, ?_⟩
  · rw [← e2, ← e1, List.take_append_drop]
  · have hl : i - f < (l.drop f).length := by rw [List.length_drop]; omega
    rw [show i + 1 - f = i - f + 1 by omega, List.take_succ_eq_append_getElem hl]
    congr 2
    rw [List.getElem_drop]
    congr 1
    omega
/-- How many commas. -/
def cntC (sp : UInt8) : List UInt8 → Nat
  | [] => 0
  | c :: l => if c = sp then cntC sp l + 1 else cntC sp l
theorem cntC_count {sp : UInt8} (l : List UInt8) : l.count sp = cntC sp l := by
  induction l with
  | nil => rfl
  | cons c l ih => rw [List.count_cons, ih]; by_cases hc : c = sp <;> simp [cntC, hc]
theorem cntC_append {sp : UInt8} (a b : List UInt8) : cntC sp (a ++ b) = cntC sp a + cntC sp b := by
  rw [← cntC_count, ← cntC_count, ← cntC_count, List.count_append]
theorem cntC_none {sp : UInt8} (l : List UInt8) : cntC sp l = 0 ↔ sp ∉ l := by rw [← cntC_count]; exact List.count_eq_zero
theorem cntC_le {sp : UInt8} (l : List UInt8) : cntC sp l ≤ l.length := by rw [← cntC_count]; exact List.count_le_length
/-- The parts between commas. -/
def pcs (sp : UInt8) : List UInt8 → List (List UInt8)
  | [] => [[]]
  | c :: l => if c = sp then [] :: pcs sp l else (match pcs sp l with | p :: ps => (c :: p) :: ps | [] => [[c]])
theorem pcs_ne {sp : UInt8} (l : List UInt8) : ∃ p ps, pcs sp l = p :: ps := by
  induction l with
  | nil => exact ⟨[], [], rfl⟩
  | cons c l ih =>
    obtain ⟨p, ps, h⟩ := ih
    by_cases hc : c = sp
    · exact ⟨[], pcs sp l, by simp [pcs, hc]⟩
    · exact ⟨c :: p, ps, by simp [pcs, hc, h]⟩
theorem pcs_none {sp : UInt8} (l : List UInt8) (h : sp ∉ l) : pcs sp l = [l] := by
  induction l with
  | nil => rfl
  | cons c l ih =>
    have hc : c ≠ sp := fun e => h (e ▸ List.mem_cons_self ..)
    simp [pcs, hc, ih (fun e => h (List.mem_cons_of_mem _ e))]
theorem pcs_append {sp : UInt8} (a b : List UInt8) : pcs sp (a ++ sp :: b) = pcs sp a ++ pcs sp b := by
  induction a with
  | nil => simp [pcs]
  | cons c a ih =>
    by_cases hc : c = sp
    · simp [pcs, hc, ih]
    · obtain ⟨p, ps, hp⟩ := pcs_ne (sp := sp) a
      simp [pcs, hc, ih, hp]
theorem pcs_length {sp : UInt8} (l : List UInt8) : (pcs sp l).length = cntC sp l + 1 := by
  induction l with
  | nil => rfl
  | cons c l ih =>
    by_cases hc : c = sp
    · simp [pcs, cntC, hc, ih]
    · obtain ⟨p, ps, hp⟩ := pcs_ne (sp := sp) l
      rw [hp] at ih
      simp only [pcs, hc, if_false, hp, cntC]
      simpa using ih
theorem pcs_le {sp : UInt8} (l : List UInt8) : ∀ p ∈ pcs sp l, p.length ≤ l.length := by
  induction l with
  | nil => intro p hp; simp [pcs] at hp; simp [hp]
  | cons c l ih =>
    intro p hp
    by_cases hc : c = sp
    · simp only [pcs, hc, if_true] at hp
      rcases List.mem_cons.1 hp with rfl | hp
      · simp
      · have := ih p hp; simp; omega
    · obtain ⟨q, qs, hq⟩ := pcs_ne (sp := sp) l
      simp only [pcs, hc, if_false, hq] at hp
      rcases List.mem_cons.1 hp with rfl | hp
      · have := ih q (by rw [hq]; exact List.mem_cons_self ..); simp; omega
      · have := ih p (by rw [hq]; exact List.mem_cons_of_mem _ hp); simp; omega
/-- What Split tells. -/
theorem index_splitC {sp : UInt8} (l : List UInt8) (h : 0 < cntC sp l) : ∃ a b, l = a ++ sp :: b ∧ sp ∉ a ∧ Lib.indexByte l sp = a.length := by
  induction l with
  | nil => simp [cntC] at h
  | cons c l ih =>
    by_cases hc : c = sp
    · exact ⟨[], l, by simp [hc], by simp, by simp [Lib.indexByte, hc]⟩
    · have h' : 0 < cntC sp l := by simpa [cntC, hc] using h
      obtain ⟨a, b, h1, h2, h3⟩ := ih h'
      refine ⟨c :: a, b, by simp [h1], ?_, ?_⟩
      · intro hm
        rcases List.mem_cons.1 hm with e | e
        · exact hc e.symm
        · exact h2 e
      · have hb : (c == sp) = false := by simpa using hc
        have hn : ((a.length : Int) == -1) = false := by simp only [beq_eq_false_iff_ne]; omega
        simp [Lib.indexByte, hb, h3, hn]
theorem gs_endC {sp : UInt8} (k : Nat) (s : ByteArray) (x3 : Int) (x9 : List ByteArray) (i : Nat) (hc : sp ∉ s.data.toList) (hx : x3 = i) (hl : x9.length = i + 1) (hi : i ≤ 4398046511104) :
    strings_genSplit.l0 (k + 1) s ⟨#[sp]⟩ 0 x3 x9 i = some (x9.take i ++ (pcs sp s.data.toList).map mkS) := by
  simp only [strings_genSplit.l0]
  rw [if_neg (by omega), if_pos (by omega), if_pos (by omega), wn1 i hi, if_pos (by omega), if_pos (by omega), pcs_none _ hc]
  have e1 : ((i : Int) + 1).toNat = i + 1 := by omega
  rw [e1, Int.toNat_natCast, List.take_succ_eq_append_getElem (by rw [List.length_set]; omega), List.take_set_of_le (Nat.le_refl _)]
  simp [mkS_self]
theorem extract_midC {sp : UInt8} (s : ByteArray) (a b : List UInt8) (hab : s.data.toList = a ++ sp :: b) : (s.extract (a.length + 1) s.size).data.toList = b ∧ s.extract 0 a.length = mkS a ∧ (s.extract (a.length + 1) s.size).size ≤ s.size := by
  have e2 : (s.extract (a.length + 1) s.size).data.toList = b := by
    rw [Lib.extract_to_end, hab, ← List.drop_drop, List.drop_left]; rfl
  refine ⟨e2, ?_, ?_⟩
  · have : (s.extract 0 a.length).data.toList = a := by
      rw [Lib.extract_data, hab, List.drop_zero, Nat.sub_zero, List.take_left]
    rw [← mkS_self (s.extract 0 _), this]
  · have hlen : a.length + b.length + 1 = s.size := by rw [← data_length, hab]; simp; omega
    rw [← data_length, e2]
    omega
theorem gs_stepC {sp : UInt8} (k : Nat) (s : ByteArray) (x3 : Int) (x9 : List ByteArray) (i : Nat) (a b : List UInt8) (hab : s.data.toList = a ++ sp :: b) (hidx : Lib.indexByte s.data.toList sp = a.length) (hx : (i : Int) < x3) (hl : i < x9.length) (hs : s.size ≤ 4398046511104) (hi : i ≤ 4398046511104) :
    ∀ R, strings_genSplit.l0 k (s.extract (a.length + 1) s.size) ⟨#[sp]⟩ 0 x3 (x9.set i (mkS a)) ((i : Int) + 1) = R → strings_genSplit.l0 (k + 1) s ⟨#[sp]⟩ 0 x3 x9 i = R := by
  intro R hR
  have hlen : a.length + b.length + 1 = s.size := by rw [← data_length, hab]; simp; omega
  have hix : strings_Index.f s ⟨#[sp]⟩ = some (a.length : Int) := by
    show some (Lib.indexByte s.data.toList sp) = _
    rw [hidx]
  have hs1 : ((⟨#[sp]⟩ : ByteArray).size : Int) = 1 := rfl
  have e1 : ((a.length : Int) + 1).toNat = a.length + 1 := by omega
  obtain ⟨_, e3, _⟩ := extract_midC s a b hab
  simp only [strings_genSplit.l0]
  rw [if_pos hx, hix]
  rw [Option.bind_some]
  rw [if_neg (by omega), wn0 _ (by omega), hs1, wn1 _ (by omega), if_pos (by omega), if_pos (by omega), if_pos (by omega), if_pos (by omega), if_pos (by omega), if_pos (by omega), wn1 i hi, e1, Int.toNat_natCast, Int.toNat_natCast, e3]
  exact hR
theorem gs_l0C {sp : UInt8} (d : Nat) : ∀ (k : Nat) (s : ByteArray) (x3 : Int) (x9 : List ByteArray) (i : Nat), cntC sp s.data.toList = d → x3 = i + d → x9.length = i + d + 1 → d + 1 ≤ k → s.size ≤ 4398046511104 →
    i + d ≤ 4398046511104 → strings_genSplit.l0 k s ⟨#[sp]⟩ 0 x3 x9 i = some (x9.take i ++ (pcs sp s.data.toList).map mkS) := by
  induction d with
  | zero =>
    intro k s x3 x9 i hc hx hl hk hs hid
    obtain ⟨k, rfl⟩ : ∃ m, k = m + 1 := ⟨k - 1, by omega⟩
    exact gs_endC k s x3 x9 i ((cntC_none _).1 hc) (by omega) (by omega) (by omega)
  | succ d ih =>
    intro k s x3 x9 i hc hx hl hk hs hid
    obtain ⟨k, rfl⟩ : ∃ m, k = m + 1 := ⟨k - 1, by omega⟩
    obtain ⟨a, b, hab, ha, hidx⟩ := index_splitC (sp := sp) s.data.toList (by omega)
    obtain ⟨e2, _, e4⟩ := extract_midC s a b hab
    have hcb : cntC sp b = d := by
      rw [hab, cntC_append, (cntC_none a).2 ha] at hc
      simp only [cntC, if_true] at hc
      omega
    refine gs_stepC k s x3 x9 i a b hab hidx (by omega) (by omega) hs (by omega) _ ?_
    have := ih k (s.extract (a.length + 1) s.size) x3 (x9.set i (mkS a)) (i + 1) (by rw [e2]; exact hcb) (by omega) (by rw [List.length_set]; omega) (by omega) (by omega) (by omega)
    rw [show (((i + 1 : Nat)) : Int) = (i : Int) + 1 by omega] at this
    rw [this, e2, hab, pcs_append, pcs_none a ha, List.take_succ_eq_append_getElem (by rw [List.length_set]; omega), List.take_set_of_le (Nat.le_refl _)]
    simp
theorem gs_firstC {sp : UInt8} (k : Nat) (s : ByteArray) (hs : s.size ≤ 4398046511103) :
    ∀ R, strings_genSplit.l0 k s ⟨#[sp]⟩ 0 ((cntC sp s.data.toList : Nat) : Int) (List.replicate (cntC sp s.data.toList + 1) (⟨#[]⟩ : ByteArray)) 0 = R → strings_genSplit.f (k + 1) s ⟨#[sp]⟩ 0 (-1) = R := by
  intro R hR
  have hcl := cntC_le (sp := sp) s.data.toList
  rw [data_length] at hcl
  have hcf : strings_Count.f s ⟨#[sp]⟩ = some ((cntC sp s.data.toList : Nat) : Int) := by
    rw [← cntC_count]; rfl
  obtain ⟨c, hc⟩ : ∃ c, c = cntC sp s.data.toList := ⟨_, rfl⟩
  rw [← hc] at hcf hcl hR
  have hm : mn ((c : Int) + 1) ((s.size : Int) + 1) = (c : Int) + 1 := by unfold mn; split <;> omega
  have e1 : ((c : Int) + 1).toNat = c + 1 := by omega
  have hne : ¬ ((⟨#[sp]⟩ : ByteArray).toList = []) := by rw [toList_data]; simp
  unfold strings_genSplit.f
  rw [if_neg (by decide), if_neg hne, if_pos (by decide), hcf]
  rw [Option.bind_some]
  simp only [strings_genSplit.j0]
  rw [wn1 c (by omega), wn1 s.size (by omega), hm, wnm c (by omega), e1, if_pos (by omega), if_pos (by omega)]
  exact hR
theorem Split_fC {sp : UInt8} (s : ByteArray) (hs : s.size ≤ 4398046511103) (k : Nat) (hk : s.size + 3 ≤ k) : strings_Split.f k s ⟨#[sp]⟩ = some ((pcs sp s.data.toList).map mkS) := by
  obtain ⟨k, rfl⟩ : ∃ m, k = m + 1 := ⟨k - 1, by omega⟩
  have hcl := cntC_le (sp := sp) s.data.toList
  rw [data_length] at hcl
  unfold strings_Split.f
  have := gs_l0C (cntC sp s.data.toList) k s ((cntC sp s.data.toList : Nat) : Int) (List.replicate (cntC sp s.data.toList + 1) (⟨#[]⟩ : ByteArray)) 0 rfl (by omega) (by rw [List.length_replicate]; omega) (by omega) (by omega) (by omega)
  rw [show ((0 : Nat) : Int) = 0 from rfl] at this
  rw [gs_firstC k s hs _ this]
  simp
/-- Is a byte a blank? -/
def blk (b : UInt8) : Bool := ([32, 9] : List UInt8).contains b
/-- A text without blanks at its ends. -/
def trm (l : List UInt8) : List UInt8 := (l.reverse.dropWhile blk).reverse.dropWhile blk
/-- No blank at either end. -/
def Clean (l : List UInt8) : Prop := (∀ a, l.head? = some a → blk a = false) ∧ ∀ a, l.getLast? = some a → blk a = false
theorem dw_self {p : UInt8 → Bool} {l : List UInt8} (h : ∀ a, l.head? = some a → p a = false) : l.dropWhile p = l := by
  cases l with
  | nil => rfl
  | cons a l => simp [List.dropWhile, h a rfl]
theorem dw_append {p : UInt8 → Bool} (pre t : List UInt8) (h : ∀ a ∈ pre, p a = true) : (pre ++ t).dropWhile p = t.dropWhile p := by
  induction pre with
  | nil => rfl
  | cons b l ih =>
    simp only [List.cons_append, List.dropWhile, h b (List.mem_cons_self ..)]
    exact ih (fun a ha => h a (List.mem_cons_of_mem _ ha))
theorem trm_around (pre t post : List UInt8) (ht : Clean t) (h1 : ∀ a ∈ pre, blk a = true) (h2 : ∀ a ∈ post, blk a = true) : trm (pre ++ t ++ post) = t := by
  unfold trm
  rw [List.reverse_append, dw_append _ _ (by intro a ha; exact h2 a (List.mem_reverse.1 ha)), List.reverse_append]
  by_cases he : t = []
  · subst he
    have := dw_append (p := blk) pre.reverse [] (by intro a ha; exact h1 a (List.mem_reverse.1 ha))
    simp only [List.append_nil] at this
    simp [this]
  · have : (t.reverse ++ pre.reverse).dropWhile blk = t.reverse ++ pre.reverse := dw_self (by
      intro a ha
      rw [List.head?_append] at ha
      obtain ⟨b, hb⟩ : ∃ b, t.reverse.head? = some b := by
        cases hh : t.reverse with
        | nil => exact absurd (List.reverse_eq_nil_iff.1 hh) he
        | cons b _ => exact ⟨b, rfl⟩
      rw [hb] at ha
      obtain rfl : b = a := by simpa using ha
      rw [List.head?_reverse] at hb
      exact ht.2 _ hb)
    rw [this, List.reverse_append, List.reverse_reverse, List.reverse_reverse, dw_append _ _ h1, dw_self ht.1]
theorem trm_length (l : List UInt8) : (trm l).length ≤ l.length := by
  unfold trm
  have h1 : ((l.reverse.dropWhile blk).reverse.dropWhile blk).length ≤ (l.reverse.dropWhile blk).reverse.length := (List.dropWhile_suffix _).length_le
  have h2 : (l.reverse.dropWhile blk).length ≤ l.reverse.length := (List.dropWhile_suffix _).length_le
  rw [List.length_reverse] at h1 h2
  omega
theorem Trim_f (s : ByteArray) (h : s.size ≤ 9223372036854775807) : sign_Trim.f s = some ⟨(trm s.data.toList).toArray⟩ := by
  unfold sign_Trim.f strings_Trim.f
  rw [if_pos ⟨h, by decide, by decide⟩]
  rfl
/-- The parts of a list: trimmed, the empty ones left out. -/
def commaParts (l : List UInt8) : List (List UInt8) := ((pcs 44 l).map trm).filter (fun p => !p.isEmpty)
theorem comma_append (a b : List UInt8) : commaParts (a ++ 44 :: b) = commaParts a ++ commaParts b := by
  simp [commaParts, pcs_append]
theorem comma_one (l : List UInt8) (h : 44 ∉ l) : commaParts l = if (trm l).isEmpty then [] else [trm l] := by
  rw [commaParts, pcs_none l h]
  cases ht : (trm l).isEmpty <;> simp [ht]
theorem split_step (ps : List (List UInt8)) (i : Int) (h0 : 0 ≤ i) (hlt : i < (ps.length : Int)) : ((ps.drop i.toNat).map trm).filter (fun p => !p.isEmpty) = (if trm (ps.getD i.toNat []) = [] then [] else [trm (ps.getD i.toNat [])]) ++ ((ps.drop (i + 1).toNat).map trm).filter (fun p => !p.isEmpty) := by
  have hl : i.toNat < ps.length := by omega
  have hg : ps.getD i.toNat [] = ps[i.toNat] := by rw [List.getD_eq_getElem?_getD, List.getElem?_eq_getElem hl]; rfl
  rw [hg, List.drop_eq_getElem_cons hl, show (i + 1).toNat = i.toNat + 1 by omega, List.map_cons, List.filter_cons]
  by_cases he : trm ps[i.toNat] = []
  · rw [if_pos he, he]; rfl
  · rw [if_neg he, if_pos (by simpa using he)]; rfl
theorem split_l0 (ps : List (List UInt8)) (hl : ∀ p ∈ ps, p.length ≤ 4398046511104) (hn : ps.length ≤ 4398046511104) (d : Nat) : ∀ (k : Nat) (out : List ByteArray) (i : Int), 0 ≤ i → (ps.length : Int) - i = d → d + 1 ≤ k → (out.length : Int) ≤ i →
    sign_Split.l0 k out (ps.map mkS) (ps.length : Int) i = some (out ++ (((ps.drop i.toNat).map trm).filter (fun p => !p.isEmpty)).map mkS) := by
  induction d with
  | zero =>
    intro k out i h0 hd hk ho
    obtain ⟨k, rfl⟩ : ∃ m, k = m + 1 := ⟨k - 1, by omega⟩
    simp only [sign_Split.l0]
    rw [if_neg (by omega), List.drop_of_length_le (by omega)]
    simp
  | succ d ih =>
    intro k out i h0 hd hk ho
    obtain ⟨k, rfl⟩ : ∃ m, k = m + 1 := ⟨k - 1, by omega⟩
    have hlt : i.toNat < ps.length := by omega
    have hg : ps.getD i.toNat [] = ps[i.toNat] := by rw [List.getD_eq_getElem?_getD, List.getElem?_eq_getElem hlt]; rfl
    have hlp := hl _ (List.getElem_mem hlt)
    rw [← hg] at hlp
    rw [split_step ps i h0 (by omega)]
    simp only [sign_Split.l0]
    rw [if_pos (by omega), if_pos h0, if_pos (by rw [List.length_map]; omega), rdOf_mk ps i h0 (by omega), Trim_f _ (by rw [mkS_size]; omega), mkS_data]
    simp only [Option.bind_some, wi1 i h0 (by omega)]
    rw [show (⟨(trm (ps.getD i.toNat [])).toArray⟩ : ByteArray) = mkS (trm (ps.getD i.toNat [])) from rfl, mkS_toList]
    by_cases he : trm (ps.getD i.toNat []) = []
    · rw [if_pos he, if_pos he, ih k out (i + 1) (by omega) (by omega) (by omega) (by omega)]
      rfl
    · rw [if_neg he, if_neg he, if_pos (by omega), ih k _ (i + 1) (by omega) (by omega) (by omega) (by rw [List.length_append]; simp; omega)]
      simp only [List.map_append, List.map_cons, List.map_nil, List.append_assoc]
theorem signSplit_f (s : ByteArray) (hs : s.size ≤ 4398046511103) (k : Nat) (hk : s.size + 3 ≤ k) : sign_Split.f k s = some ((commaParts s.data.toList).map mkS) := by
  unfold sign_Split.f
  have hpl := pcs_length (sp := 44) s.data.toList
  have hcl := cntC_le (sp := 44) s.data.toList
  rw [data_length] at hcl
  rw [Split_fC s hs k hk]
  simp only [Option.bind_some, List.length_map]
  rw [split_l0 (pcs 44 s.data.toList) (fun p hp => by have := pcs_le _ p hp; rw [data_length] at this; omega) (by omega) (pcs 44 s.data.toList).length k [] 0 (by omega) (by omega) (by omega) (by simp)]
  rfl
theorem rdT_at (xs : List (S41)) (i : Nat) (h : i < xs.length) : rd_T41 xs (i : Int) = xs[i] := by
  unfold rd_T41
  rw [Int.toNat_natCast, List.getD_eq_getElem?_getD, List.getElem?_eq_getElem h]; rfl
theorem rdB_at (xs : List ByteArray) (i : Nat) (h : i < xs.length) : rdOf ByteArray.empty xs (i : Int) = xs[i] := by
  unfold rdOf
  rw [Int.toNat_natCast, List.getD_eq_getElem?_getD, List.getElem?_eq_getElem h]; rfl
/-- The same names. -/
def sameN (a b : ByteArray) : Bool := decide ((bytesOf a).map foldC = (bytesOf b).map foldC)
theorem same_f (a b : ByteArray) (ha : a.size ≤ 140737488355328) (hb : b.size ≤ 140737488355328) : sign_Same.f a b = some (sameN a b) := same_tells a b ha hb
/-- Few fields, of short texts. -/
def FB (fs : List (S41)) : Prop := fs.length ≤ 1000 ∧ ∀ f ∈ fs, f.f0.size ≤ 1048576 ∧ f.f1.size ≤ 1048576
/-- The values of a name. -/
def getS (name : ByteArray) : List (S41) → List ByteArray
  | [] => []
  | f :: r => if sameN f.f0 name = true then f.f1 :: getS name r else getS name r
theorem getS_len (name : ByteArray) : ∀ fs, (getS name fs).length ≤ fs.length
  | [] => Nat.le_refl _
  | f :: r => by rw [getS]; have := getS_len name r; split <;> simp only [List.length_cons] <;> omega
theorem getS_mem (name : ByteArray) : ∀ (fs : List (S41)) (v : ByteArray), v ∈ getS name fs → ∃ f ∈ fs, v = f.f1 ∧ sameN f.f0 name = true
  | [], v, h => by cases h
  | f :: r, v, h => by
    rw [getS] at h
    by_cases hs : sameN f.f0 name = true
    · rw [if_pos hs] at h
      rcases List.mem_cons.1 h with rfl | h
      · exact ⟨f, List.mem_cons_self, rfl, hs⟩
      · obtain ⟨g, hg, e⟩ := getS_mem name r v h; exact ⟨g, List.mem_cons_of_mem _ hg, e⟩
    · rw [if_neg hs] at h
      obtain ⟨g, hg, e⟩ := getS_mem name r v h; exact ⟨g, List.mem_cons_of_mem _ hg, e⟩
theorem get_l0 (name : ByteArray) (hn : name.size ≤ 1048576) (fs : List (S41)) (hf : FB fs) (d : Nat) : ∀ (k i : Nat) (out : List ByteArray), i + d = fs.length → d < k → out.length ≤ i →
    field_Get.l0 k name out fs (fs.length : Int) (i : Int) = some (out ++ getS name (fs.drop i)) := by
  have hfl := hf.1
  induction d with
  | zero =>
    intro k i out hi hk ho
    obtain ⟨k, rfl⟩ : ∃ m, k = m + 1 := ⟨k - 1, by omega⟩
    rw [field_Get.l0, if_neg (by omega), List.drop_of_length_le (by omega), getS, List.append_nil]
  | succ d ih =>
    intro k i out hi hk ho
    obtain ⟨k, rfl⟩ : ∃ m, k = m + 1 := ⟨k - 1, by omega⟩
    have hlt : i < fs.length := by omega
    have hb := hf.2 _ (List.getElem_mem hlt)
    have hw : wrap64 ((i : Int) + 1) = ((i + 1 : Nat) : Int) := by unfold wrap64; omega
    rw [field_Get.l0, if_pos (by omega), if_pos (by omega), if_pos (by omega), rdT_at fs i hlt, same_f _ _ (by omega) (by omega), Option.bind_some, hw, List.drop_eq_getElem_cons hlt, getS]
    by_cases hs : sameN fs[i].f0 name = true
    · rw [if_pos hs, if_pos hs, if_pos (by omega), ih k (i + 1) _ (by omega) (by omega) (by rw [List.length_append]; simp; omega)]
      simp only [List.append_assoc, List.singleton_append]
    · rw [if_neg hs, if_neg hs, ih k (i + 1) _ (by omega) (by omega) (by omega)]
theorem Get_f (fs : List (S41)) (name : ByteArray) (hf : FB fs) (hn : name.size ≤ 1048576) (k : Nat) (hk : fs.length < k) : field_Get.f k fs name = some (getS name fs) := by
  have := get_l0 name hn fs hf fs.length k 0 [] (by omega) hk (Nat.zero_le _)
  rw [List.drop_zero, List.nil_append] at this
  exact this
/-- A value's parts. -/
def partsS (v : ByteArray) : List ByteArray := (commaParts v.data.toList).map mkS
theorem comma_len (l : List UInt8) : (commaParts l).length ≤ l.length + 1 := by
  unfold commaParts
  have h1 := List.length_filter_le (fun p => !p.isEmpty) ((pcs 44 l).map trm)
  rw [List.length_map, pcs_length] at h1
  have h2 := cntC_le (sp := 44) l
  omega
theorem parts_len (v : ByteArray) : (partsS v).length ≤ v.size + 1 := by
  unfold partsS
  rw [List.length_map]
  have := comma_len v.data.toList
  rw [data_length] at this
  exact this
theorem comma_size (l : List UInt8) : ∀ p ∈ commaParts l, p.length ≤ l.length := by
  intro p hp
  unfold commaParts at hp
  obtain ⟨q, hq, rfl⟩ := List.mem_map.1 (List.mem_filter.1 hp).1
  exact Nat.le_trans (trm_length q) (pcs_le l q hq)
theorem parts_size (v : ByteArray) : ∀ p ∈ partsS v, p.size ≤ v.size := by
  intro p hp
  obtain ⟨q, hq, rfl⟩ := List.mem_map.1 hp
  rw [mkS_size, ← data_length]
  exact comma_size _ q hq
theorem list_l0 (vs : List ByteArray) (hl : vs.length ≤ 1000) (hv : ∀ v ∈ vs, v.size ≤ 1048576) (d : Nat) : ∀ (k i : Nat) (out : List ByteArray), i + d = vs.length → d + 1048580 ≤ k → out.length ≤ 1048577 * i →
    field_List.l0 k out vs (vs.length : Int) (i : Int) = some (out ++ (vs.drop i).flatMap partsS) := by
  induction d with
  | zero =>
    intro k i out hi hk ho
    obtain ⟨k, rfl⟩ : ∃ m, k = m + 1 := ⟨k - 1, by omega⟩
    rw [field_List.l0, if_neg (by omega), List.drop_of_length_le (by omega), List.flatMap_nil, List.append_nil]
  | succ d ih =>
    intro k i out hi hk ho
    obtain ⟨k, rfl⟩ : ∃ m, k = m + 1 := ⟨k - 1, by omega⟩
    have hlt : i < vs.length := by omega
    have hb := hv _ (List.getElem_mem hlt)
    have hp := parts_len vs[i]
    have hw : wrap64 ((i : Int) + 1) = ((i + 1 : Nat) : Int) := by unfold wrap64; omega
    rw [field_List.l0, if_pos (by omega), if_pos (by omega), if_pos (by omega), rdB_at vs i hlt, signSplit_f _ (by omega) k (by omega), Option.bind_some, hw, List.drop_eq_getElem_cons hlt, List.flatMap_cons]
    have e : (commaParts vs[i].data.toList).map mkS = partsS vs[i] := rfl
    rw [e, if_pos (by omega), ih k (i + 1) _ (by omega) (by omega) (by rw [List.length_append]; omega), List.append_assoc]
/-- All parts of a name's values. -/
def listS (name : ByteArray) (fs : List (S41)) : List ByteArray := (getS name fs).flatMap partsS
theorem get_bounds (fs : List (S41)) (name : ByteArray) (hf : FB fs) : (getS name fs).length ≤ 1000 ∧ ∀ v ∈ getS name fs, v.size ≤ 1048576 := by
  refine ⟨Nat.le_trans (getS_len name fs) hf.1, fun v hv => ?_⟩
  obtain ⟨f, hm, rfl, _⟩ := getS_mem name fs v hv
  exact (hf.2 f hm).2
theorem List_f (fs : List (S41)) (name : ByteArray) (hf : FB fs) (hn : name.size ≤ 1048576) (k : Nat) (hk : 1049600 ≤ k) : field_List.f k fs name = some (listS name fs) := by
  obtain ⟨h1, h2⟩ := get_bounds fs name hf
  have hfl := hf.1
  unfold field_List.f
  rw [Get_f fs name hf hn k (by omega), Option.bind_some]
  have := list_l0 (getS name fs) h1 h2 (getS name fs).length k 0 [] (by omega) (by omega) (by simp)
  rw [List.drop_zero, List.nil_append] at this
  exact this
theorem flat_len (B : Nat) : ∀ vs : List ByteArray, (∀ v ∈ vs, v.size ≤ B) → (vs.flatMap partsS).length ≤ vs.length * (B + 1)
  | [], _ => by simp
  | v :: r, h => by
    rw [List.flatMap_cons, List.length_append, List.length_cons, Nat.succ_mul]
    have h1 := flat_len B r (fun u hu => h u (List.mem_cons_of_mem _ hu))
    have h2 := parts_len v
    have h3 := h v List.mem_cons_self
    omega
theorem list_bounds (fs : List (S41)) (name : ByteArray) (hf : FB fs) : (listS name fs).length ≤ 1048577000 ∧ ∀ p ∈ listS name fs, p.size ≤ 1048576 := by
  obtain ⟨h1, h2⟩ := get_bounds fs name hf
  refine ⟨?_, fun p hp => ?_⟩
  · have h3 := flat_len 1048576 (getS name fs) h2
    unfold listS
    have h4 : (getS name fs).length * 1048577 ≤ 1000 * 1048577 := Nat.mul_le_mul_right _ h1
    omega
  · unfold listS at hp
    obtain ⟨v, hv, hp⟩ := List.mem_flatMap.1 hp
    exact Nat.le_trans (parts_size v p hp) (h2 v hv)
theorem any_f (q : ByteArray → Option Bool) (p : ByteArray → Bool) : ∀ l : List ByteArray, (∀ x ∈ l, q x = some (p x)) → anyO q l = some (l.any p)
  | [], _ => rfl
  | x :: r, h => by
    rw [anyO, h x List.mem_cons_self, Option.bind_some, List.any_cons]
    cases hp : p x
    · simp only [Bool.false_eq_true, if_false, Bool.false_or]
      exact any_f q p r (fun y hy => h y (List.mem_cons_of_mem _ hy))
    · simp
/-- Is a part among a name's? -/
def hasS (fs : List (S41)) (name part : ByteArray) : Bool := (listS name fs).any (fun p => sameN p part)
theorem Has_f (fs : List (S41)) (name part : ByteArray) (hf : FB fs) (hn : name.size ≤ 1048576) (hp : part.size ≤ 1048576) (k : Nat) (hk : 1049600 ≤ k) : field_Has.f k fs name part = some (hasS fs name part) := by
  unfold field_Has.f
  rw [List_f fs name hf hn k hk, Option.bind_some]
  exact any_f _ _ _ (fun x hx => same_f x part (by have := (list_bounds fs name hf).2 x hx; omega) (by omega))
theorem refFold_l0 (s : ByteArray) (hn : s.size ≤ 140737488355327) (d : Nat) : ∀ (k : Nat) (out : List Int) (i : Int), 0 ≤ i → (s.size : Int) - i = d → d + 1 ≤ k → (out.length : Int) = i →
    tollbarref02_Fold.l0 k s out i = some (strOfNums (out ++ ((bytesOf s).drop i.toNat).map foldC)) := by
  induction d with
  | zero =>
    intro k out i h0 hd hk ho
    obtain ⟨k, rfl⟩ : ∃ m, k = m + 1 := ⟨k - 1, by omega⟩
    simp only [tollbarref02_Fold.l0]
    rw [if_neg (by omega), List.drop_of_length_le (by rw [bytesOf_length]; omega), List.map_nil, List.append_nil]
  | succ d ih =>
    intro k out i h0 hd hk ho
    obtain ⟨k, rfl⟩ : ∃ m, k = m + 1 := ⟨k - 1, by omega⟩
    have hlt : i < (s.size : Int) := by omega
    have hl : i.toNat < (bytesOf s).length := by rw [bytesOf_length]; omega
    have hg : (bytesOf s)[i.toNat] = bt s i := by rw [← rd_bytesOf]; simp [rd, List.getD_eq_getElem?_getD, List.getElem?_eq_getElem hl]
    have hr := bt_range s i
    have ih' := fun v => ih k (out ++ [v]) (i + 1) (by omega) (by omega) (by omega) (by rw [List.length_append]; simp; omega)
    have e1 : (i + 1).toNat = i.toNat + 1 := by omega
    rw [List.drop_eq_getElem_cons hl, hg, List.map_cons]
    simp only [tollbarref02_Fold.l0]
    rw [if_pos hlt, if_pos h0, show wrap64 (i + 1) = i + 1 by unfold wrap64; omega]
    have hf : ∀ v, v = foldC (bt s i) → some (strOfNums (out ++ [v] ++ ((bytesOf s).drop (i.toNat + 1)).map foldC)) = some (strOfNums (out ++ foldC (bt s i) :: ((bytesOf s).drop (i.toNat + 1)).map foldC)) := by
      intro v hv
      rw [hv, List.append_assoc]
      rfl
    have ho2 : out.length < 140737488355328 := by omega
    by_cases h1 : bt s i ≥ 65
    · rw [if_pos h1]
      by_cases h2 : bt s i ≤ 90
      · rw [if_pos h2, if_pos ho2, ih', e1]; exact hf _ (by unfold foldC; rw [if_pos ⟨h1, h2⟩]; omega)
      · rw [if_neg h2, if_pos ho2, ih', e1]; exact hf _ (by unfold foldC; rw [if_neg (by omega)])
    · rw [if_neg h1, if_pos ho2, ih', e1]; exact hf _ (by unfold foldC; rw [if_neg (by omega)])
theorem refFold_f (s : ByteArray) (hn : s.size ≤ 140737488355327) (k : Nat) (hk : s.size + 1 ≤ k) : tollbarref02_Fold.f k s = sign_Fold.f s := by
  unfold tollbarref02_Fold.f sign_Fold.f
  rw [refFold_l0 s hn s.size k [] 0 (by omega) (by omega) hk rfl, if_pos (by omega)]
  rfl
theorem Fold_f (s : ByteArray) (hn : s.size ≤ 140737488355328) : sign_Fold.f s = some (strOfNums ((bytesOf s).map foldC)) := if_pos hn
theorem str_len (xs : List Int) : (strOfNums xs).size = xs.length := str_size xs
theorem blank_tells (b : UInt8) : tollbarref02_blank.f (b.toNat : Int) = some (blk b) := by
  have h : ∀ n : Fin 256, tollbarref02_blank.f (n.val : Int) = some (blk (UInt8.ofNat n.val)) := by decide +kernel
  have := h ⟨b.toNat, b.toNat_lt⟩
  rw [this]
  congr 2
  exact UInt8.ofNat_toNat
theorem trimR_ref (d : Nat) : ∀ (k : Nat) (x : List UInt8), x.length = d → x.length ≤ 4398046511104 → d + 1 ≤ k → (∀ a, x.head? = some a → blk a = false) →
    ∃ r post, tollbarref02_Trim.l1 k (mkS x) = some (mkS r) ∧ x = r ++ post ∧ Clean r ∧ ∀ a ∈ post, blk a = true := by
  induction d with
  | zero =>
    intro k x hx hn hk hh
    obtain ⟨k, rfl⟩ : ∃ m, k = m + 1 := ⟨k - 1, by omega⟩
    obtain rfl : x = [] := List.eq_nil_of_length_eq_zero hx
    refine ⟨[], [], ?_, rfl, ⟨by simp, by simp⟩, by simp⟩
    simp only [tollbarref02_Trim.l1]
    rw [if_neg (by rw [mkS_size]; simp)]
  | succ d ih =>
    intro k x hx hn hk hh
    obtain ⟨k, rfl⟩ : ∃ m, k = m + 1 := ⟨k - 1, by omega⟩
    obtain ⟨y, b, rfl⟩ : ∃ y b, x = y ++ [b] := ⟨x.dropLast, x.getLast (by intro e; simp [e] at hx), (List.dropLast_concat_getLast _).symm⟩
    have hy : y.length = d := by simpa using hx
    have hs : (mkS (y ++ [b])).size = d + 1 := by rw [mkS_size]; simp [hy]
    have hw : wrap64 (((d + 1 : Nat) : Int) - 1) = ((d : Nat) : Int) := by unfold wrap64; omega
    have hb : bt (mkS (y ++ [b])) ((d : Nat) : Int) = (b.toNat : Int) := by
      rw [bt_mk _ d (by simp; omega)]
      simp [← hy]
    have hex : (mkS (y ++ [b])).extract 0 d = mkS y := by
      rw [mkS_extract, List.drop_zero, Nat.sub_zero, ← hy, List.take_left]
    simp only [tollbarref02_Trim.l1]
    rw [hs, if_pos (by omega), hw, if_pos (by omega), if_pos (by omega), hb, blank_tells, Option.bind_some, Int.toNat_natCast, hex]
    cases hbl : blk b
    · rw [if_neg (by simp)]
      exact ⟨y ++ [b], [], rfl, by simp, ⟨hh, by intro a ha; simp at ha; rw [← ha]; exact hbl⟩, by simp⟩
    · rw [if_pos rfl, if_pos (by omega)]
      obtain ⟨r, post, h1, h2, h3, h4⟩ := ih k y hy (by omega) (by omega) (by
        intro a ha
        refine hh a ?_
        rw [List.head?_append, ha]
        rfl)
      refine ⟨r, post ++ [b], h1, by rw [h2]; simp, h3, fun a ha => ?_⟩
      rcases List.mem_append.1 ha with ha | ha
      · exact h4 a ha
      · rw [List.mem_singleton.1 ha]; exact hbl
theorem trimL_ref (n : Nat) (hn : n ≤ 4398046511104) (d : Nat) : ∀ (k : Nat) (x : List UInt8), x.length = d → d ≤ n → d + n + 4 ≤ k →
    ∃ r pre post, tollbarref02_Trim.l0 k (mkS x) = some (mkS r) ∧ x = pre ++ r ++ post ∧ Clean r ∧ (∀ a ∈ pre, blk a = true) ∧ ∀ a ∈ post, blk a = true := by
  induction d with
  | zero =>
    intro k x hx hd hk
    obtain ⟨k, rfl⟩ : ∃ m, k = m + 2 := ⟨k - 2, by omega⟩
    obtain rfl : x = [] := List.eq_nil_of_length_eq_zero hx
    obtain ⟨r, post, h1, h2, h3, h4⟩ := trimR_ref 0 k [] rfl (by simp) (by omega) (by simp)
    refine ⟨r, [], post, ?_, by simpa using h2, h3, by simp, h4⟩
    simp only [tollbarref02_Trim.l0]
    rw [if_neg (by rw [mkS_size]; simp)]
    simp only [tollbarref02_Trim.j1]
    exact h1
  | succ d ih =>
    intro k x hx hd hk
    obtain ⟨k, rfl⟩ : ∃ m, k = m + 2 := ⟨k - 2, by omega⟩
    obtain ⟨b, y, rfl⟩ : ∃ b y, x = b :: y := by
      cases x with
      | nil => simp at hx
      | cons b y => exact ⟨b, y, rfl⟩
    have hy : y.length = d := by simpa using hx
    have hs : (mkS (b :: y)).size = d + 1 := by rw [mkS_size]; simp [hy]
    have hb : bt (mkS (b :: y)) 0 = (b.toNat : Int) := bt_mk (b :: y) 0 (by simp)
    have hex : (mkS (b :: y)).extract 1 (d + 1) = mkS y := by
      rw [mkS_extract]
      simp [← hy]
    simp only [tollbarref02_Trim.l0]
    rw [hs, if_pos (by omega), if_pos (by omega), hb, blank_tells, Option.bind_some]
    cases hbl : blk b
    · rw [if_neg (by simp)]
      obtain ⟨r, post, h1, h2, h3, h4⟩ := trimR_ref (d + 1) k (b :: y) hx (by omega) (by omega) (by intro a ha; simp at ha; rw [← ha]; exact hbl)
      refine ⟨r, [], post, ?_, by simpa using h2, h3, by simp, h4⟩
      simp only [tollbarref02_Trim.j1]
      exact h1
    · rw [if_pos rfl, if_pos (by omega), hex]
      obtain ⟨r, pre, post, h1, h2, h3, h4, h5⟩ := ih (k + 1) y hy (by omega) (by omega)
      refine ⟨r, b :: pre, post, h1, by rw [h2]; simp, h3, fun a ha => ?_, h5⟩
      rcases List.mem_cons.1 ha with rfl | ha
      · exact hbl
      · exact h4 a ha
theorem refTrim_mk (x : List UInt8) (hn : x.length ≤ 4398046511104) (k : Nat) (hk : 2 * x.length + 4 ≤ k) : tollbarref02_Trim.f k (mkS x) = some (mkS (trm x)) := by
  obtain ⟨r, pre, post, h1, h2, h3, h4, h5⟩ := trimL_ref x.length hn x.length k x rfl (Nat.le_refl _) (by omega)
  unfold tollbarref02_Trim.f
  rw [h1, h2, trm_around pre r post h3 h4 h5]
/-- One part ends: what is told of it. -/
theorem part_ends (out : List ByteArray) (seg : List UInt8) (h : 44 ∉ seg) (ho : out.length < 8796093022208) (R : List ByteArray → Option (List ByteArray)) :
    (if (mkS (trm seg)).toList = ([] : List UInt8) then R out else (if out.length < 8796093022208 then R (out ++ [mkS (trm seg)]) else none)) = R (out ++ (commaParts seg).map mkS) := by
  rw [comma_one seg h, mkS_toList]
  by_cases he : trm seg = []
  · rw [if_pos he, if_pos (by simpa using he)]; simp
  · rw [if_neg he, if_pos ho, if_neg (by simpa using he)]; rfl
theorem refSplit_l0 (l : List UInt8) (hn : l.length ≤ 1048580) (d : Nat) : ∀ (k : Nat) (out : List ByteArray) (f i : Nat), f ≤ i → i + d = l.length → 44 ∉ (l.drop f).take (i - f) → out.length ≤ 2 * i → 3 * d + 2 * l.length + 20 ≤ k →
    tollbarref02_Split.l0 k (mkS l) out f i = some (out ++ (commaParts (l.drop f)).map mkS) := by
  induction d with
  | zero =>
    intro k out f i hf hi hs ho hk
    obtain ⟨k, rfl⟩ : ∃ m, k = m + 3 := ⟨k - 3, by omega⟩
    have hz : (mkS l).size = l.length := mkS_size l
    have hw : wrap64 ((i : Int) + 1) = (i : Int) + 1 := wn1 i (by omega)
    have ht : (l.drop f).take (i - f) = l.drop f := List.take_of_length_le (by rw [List.length_drop]; omega)
    have hend : ∀ o : List ByteArray, tollbarref02_Split.l0 (k + 1) (mkS l) o ((i : Int) + 1) ((i : Int) + 1) = some o := by
      intro o
      simp only [tollbarref02_Split.l0]
      rw [if_neg (by omega)]
    simp only [tollbarref02_Split.l0]
    rw [hz, if_pos (by omega), if_pos (by omega)]
    simp only [tollbarref02_Split.j1]
    rw [if_pos trivial, if_pos (by omega), if_pos (by omega), hz, if_pos (by omega), Int.toNat_natCast, Int.toNat_natCast, mkS_extract, refTrim_mk _ (by rw [List.length_take, List.length_drop]; omega) _ (by rw [List.length_take, List.length_drop]; omega), Option.bind_some, hw, hend, hend]
    rw [ht] at hs ⊢
    exact part_ends out _ hs (by omega) (fun o => some o)
  | succ d ih =>
    intro k out f i hf hi hs ho hk
    obtain ⟨k, rfl⟩ : ∃ m, k = m + 2 := ⟨k - 2, by omega⟩
    have hlt : i < l.length := by omega
    have hz : (mkS l).size = l.length := mkS_size l
    have hw : wrap64 ((i : Int) + 1) = ((i + 1 : Nat) : Int) := by rw [wn1 i (by omega)]; omega
    obtain ⟨e1, e2⟩ := seg_split l f i hf hlt
    have ih1 := fun o (h : o.length ≤ 2 * (i + 1)) => ih k o (i + 1) (i + 1) (Nat.le_refl _) (by omega) (by simp) h (by omega)
    have ih2 := fun h => ih k out f (i + 1) (by omega) (by omega) h (by omega) (by omega)
    simp only [tollbarref02_Split.l0]
    rw [hz, if_pos (by omega), if_neg (by omega), if_pos (by omega), if_pos (by omega), bt_mk l i hlt]
    simp only [tollbarref02_Split.j1]
    by_cases hc : l[i] = 44
    · have hb : (((l[i]).toNat : Int) == 44) = true := by rw [hc]; rfl
      rw [hb, if_pos rfl, if_pos (by omega), if_pos (by omega), hz, if_pos (by omega), Int.toNat_natCast, Int.toNat_natCast, mkS_extract, refTrim_mk _ (by rw [List.length_take, List.length_drop]; omega) _ (by rw [List.length_take, List.length_drop]; omega), Option.bind_some, hw]
      have hp := part_ends out ((l.drop f).take (i - f)) hs (by omega) (fun o => tollbarref02_Split.l0 k (mkS l) o ((i + 1 : Nat) : Int) ((i + 1 : Nat) : Int))
      refine hp.trans ?_
      have hlen : (commaParts ((l.drop f).take (i - f))).length ≤ 1 := by rw [comma_one _ hs]; split <;> simp
      rw [ih1 _ (by rw [List.length_append, List.length_map]; omega)]
      have e3 : commaParts (l.drop f) = commaParts ((l.drop f).take (i - f)) ++ commaParts (l.drop (i + 1)) := by
        rw [← comma_append]
        congr 1
        rw [← hc]
        exact e1
      rw [e3, List.map_append, List.append_assoc]
    · have hb : (((l[i]).toNat : Int) == 44) = false := by
        rw [beq_eq_false_iff_ne]
        intro e
        exact hc (UInt8.toNat_inj.1 (by show _ = 44; omega))
      rw [hb, if_neg (by simp), hw]
      refine ih2 ?_
      rw [e2]
      intro hm
      rcases List.mem_append.1 hm with hm | hm
      · exact hs hm
      · exact hc (List.mem_singleton.1 hm).symm
theorem refSplit_f (l : List UInt8) (hn : l.length ≤ 1048580) (k : Nat) (hk : 5 * l.length + 20 ≤ k) : tollbarref02_Split.f k (mkS l) = some ((commaParts l).map mkS) := by
  have := refSplit_l0 l hn l.length k [] 0 0 (Nat.le_refl _) (by omega) (by simp) (by simp) (by omega)
  unfold tollbarref02_Split.f
  rw [show ((0 : Nat) : Int) = 0 from rfl] at this
  rw [this]
  rfl
theorem refSame_f (a b : ByteArray) (ha : a.size ≤ 1048576) (hb : b.size ≤ 1048576) (k : Nat) (hk : 1048578 ≤ k) : tollbarref04_same.f k a b = some (sameN a b) := by
  unfold tollbarref04_same.f
  rw [refFold_f a (by omega) k (by omega), refFold_f b (by omega) k (by omega), Fold_f a (by omega), Fold_f b (by omega), Option.bind_some, Option.bind_some, str_inj (bytes_fold (bytes_of a)) (bytes_fold (bytes_of b))]
  rfl
theorem refGet_l0 (name : ByteArray) (hn : name.size ≤ 1048576) (fs : List (S41)) (hf : FB fs) (d : Nat) : ∀ (k i : Nat) (out : List ByteArray), i + d = fs.length → d + 1048580 ≤ k → out.length ≤ i →
    tollbarref04_Get.l0 k fs name out (i : Int) = some (out ++ getS name (fs.drop i)) := by
  have hfl := hf.1
  induction d with
  | zero =>
    intro k i out hi hk ho
    obtain ⟨k, rfl⟩ : ∃ m, k = m + 1 := ⟨k - 1, by omega⟩
    rw [tollbarref04_Get.l0, if_neg (by omega), List.drop_of_length_le (by omega), getS, List.append_nil]
  | succ d ih =>
    intro k i out hi hk ho
    obtain ⟨k, rfl⟩ : ∃ m, k = m + 1 := ⟨k - 1, by omega⟩
    have hlt : i < fs.length := by omega
    have hb := hf.2 _ (List.getElem_mem hlt)
    have hw : wrap64 ((i : Int) + 1) = ((i + 1 : Nat) : Int) := by unfold wrap64; omega
    rw [tollbarref04_Get.l0, if_pos (by omega), if_pos (by omega), rdT_at fs i hlt, refSame_f _ _ (by omega) (by omega) k (by omega), Option.bind_some, hw, List.drop_eq_getElem_cons hlt, getS]
    by_cases hs : sameN fs[i].f0 name = true
    · rw [if_pos hs, if_pos hs, if_pos (by omega), ih k (i + 1) _ (by omega) (by omega) (by rw [List.length_append]; simp; omega)]
      simp only [List.append_assoc, List.singleton_append]
    · rw [if_neg hs, if_neg hs, ih k (i + 1) _ (by omega) (by omega) (by omega)]
theorem refGet_f (fs : List (S41)) (name : ByteArray) (hf : FB fs) (hn : name.size ≤ 1048576) (k : Nat) (hk : 1049600 ≤ k) : tollbarref04_Get.f k fs name = some (getS name fs) := by
  have hfl := hf.1
  have := refGet_l0 name hn fs hf fs.length k 0 [] (by omega) (by omega) (Nat.zero_le _)
  rw [List.drop_zero, List.nil_append] at this
  exact this
theorem refList_l1 (vs : List ByteArray) (x7 : Int) (ps : List ByteArray) (hpl : ps.length ≤ 2000000) (R : Nat → List ByteArray → Option (List ByteArray)) (hR : ∀ k out, R k out = tollbarref04_List.l0 k out vs (wrap64 (x7 + 1))) (d : Nat) : ∀ (k i : Nat) (out : List ByteArray), i + d = ps.length → out.length + d < 8796093022208 →
    tollbarref04_List.l1 (k + 1 + d) out vs x7 ps (i : Int) = R k (out ++ ps.drop i) := by
  induction d with
  | zero =>
    intro k i out hi ho
    rw [Nat.add_zero, tollbarref04_List.l1, if_neg (by omega), List.drop_of_length_le (by omega), List.append_nil, hR]
  | succ d ih =>
    intro k i out hi ho
    have hlt : i < ps.length := by omega
    have hw : wrap64 ((i : Int) + 1) = ((i + 1 : Nat) : Int) := by unfold wrap64; omega
    rw [show k + 1 + (d + 1) = (k + 1 + d) + 1 by omega, tollbarref04_List.l1, if_pos (by omega), if_pos (by omega), if_pos (by omega), rdB_at ps i hlt, hw, ih k (i + 1) _ (by omega) (by rw [List.length_append]; simp; omega), List.drop_eq_getElem_cons hlt]
    simp only [List.append_assoc, List.singleton_append]
theorem refList_l0 (vs : List ByteArray) (hl : vs.length ≤ 1000) (hv : ∀ v ∈ vs, v.size ≤ 1048576) (C E : Nat) (hC : 1048580 ≤ C) (hE : 8000000 ≤ E) (d : Nat) : ∀ (k i : Nat) (out : List ByteArray), i + d = vs.length → d * C + E ≤ k → out.length ≤ 1048577 * i →
    tollbarref04_List.l0 k out vs (i : Int) = some (out ++ (vs.drop i).flatMap partsS) := by
  induction d with
  | zero =>
    intro k i out hi hk ho
    obtain ⟨k, rfl⟩ : ∃ m, k = m + 1 := ⟨k - 1, by omega⟩
    rw [tollbarref04_List.l0, if_neg (by omega), List.drop_of_length_le (by omega), List.flatMap_nil, List.append_nil]
  | succ d ih =>
    intro k i out hi hk ho
    rw [Nat.succ_mul] at hk
    obtain ⟨X, hX⟩ : ∃ X, X = d * C := ⟨_, rfl⟩
    rw [← hX] at hk
    have HX := Aside0.mk hX
    clear hX
    obtain ⟨k, rfl⟩ : ∃ m, k = m + 1 := ⟨k - 1, by omega⟩
    have hlt : i < vs.length := by omega
    have hw : wrap64 ((i : Int) + 1) = ((i + 1 : Nat) : Int) := by unfold wrap64; omega
    have HW := Aside0.mk hw
    clear hw
    have hb := hv _ (List.getElem_mem hlt)
    have hp := parts_len vs[i]
    have hsp := refSplit_f vs[i].data.toList (by rw [data_length]; omega) k (by rw [data_length]; omega)
    rw [mkS_self] at hsp
    have e : (commaParts vs[i].data.toList).map mkS = partsS vs[i] := rfl
    rw [tollbarref04_List.l0, if_pos (Int.ofNat_lt.2 hlt), if_pos (Int.natCast_nonneg i), rdB_at vs i hlt, hsp, Option.bind_some, List.drop_eq_getElem_cons hlt, List.flatMap_cons, e]
    obtain ⟨j, hj⟩ : ∃ j, k = j + 1 + (partsS vs[i]).length := ⟨k - 1 - (partsS vs[i]).length, by omega⟩
    have h1 := refList_l1 vs (i : Int) (partsS vs[i]) (by omega) _ (fun _ _ => rfl) (partsS vs[i]).length j 0 out (by omega) (by omega)
    rw [← hj, List.drop_zero] at h1
    have h2 : tollbarref04_List.l1 k out vs (i : Int) (partsS vs[i]) 0 = tollbarref04_List.l0 j (out ++ partsS vs[i]) vs (wrap64 ((i : Int) + 1)) := h1
    have hj2 : d * C + E ≤ j := by rw [← HX.out]; omega
    have h3 := ih j (i + 1) (out ++ partsS vs[i]) (by omega) hj2 (by have hla := @List.length_append _ out (partsS vs[i]); omega)
    rw [h2, HW.out, h3, List.append_assoc]
theorem refList_f (fs : List (S41)) (name : ByteArray) (hf : FB fs) (hn : name.size ≤ 1048576) (k : Nat) (hk : 1057000000 ≤ k) : tollbarref04_List.f k fs name = some (listS name fs) := by
  obtain ⟨h1, h2⟩ := get_bounds fs name hf
  unfold tollbarref04_List.f
  rw [refGet_f fs name hf hn k (by omega), Option.bind_some]
  obtain ⟨C, hC⟩ : ∃ C, C = 1048580 := ⟨_, rfl⟩
  obtain ⟨E, hE⟩ : ∃ E, E = 8000000 := ⟨_, rfl⟩
  have h3 : (getS name fs).length * C ≤ 1000 * C := Nat.mul_le_mul_right _ h1
  have h4 : (getS name fs).length * C + E ≤ k := by
    have h5 : 1000 * C = 1048580000 := by rw [hC]
    omega
  have := refList_l0 (getS name fs) h1 h2 C E (by omega) (by omega) (getS name fs).length k 0 [] (by omega) h4 (by simp)
  rw [List.drop_zero, List.nil_append] at this
  exact this
theorem refIn_l0 (name : ByteArray) (hn : name.size ≤ 1048576) (ns : List ByteArray) (hl : ns.length ≤ 2000000000) (hs : ∀ n ∈ ns, n.size ≤ 1048576) (d : Nat) : ∀ (k i : Nat), i + d = ns.length → d + 1048580 ≤ k →
    tollbarref04_In.l0 k ns name (i : Int) = some ((ns.drop i).any (fun p => sameN p name)) := by
  induction d with
  | zero =>
    intro k i hi hk
    obtain ⟨k, rfl⟩ : ∃ m, k = m + 1 := ⟨k - 1, by omega⟩
    rw [tollbarref04_In.l0, if_neg (by omega), List.drop_of_length_le (by omega), List.any_nil]
  | succ d ih =>
    intro k i hi hk
    obtain ⟨k, rfl⟩ : ∃ m, k = m + 1 := ⟨k - 1, by omega⟩
    have hlt : i < ns.length := by omega
    have hb := hs _ (List.getElem_mem hlt)
    have hw : wrap64 ((i : Int) + 1) = ((i + 1 : Nat) : Int) := by unfold wrap64; omega
    rw [tollbarref04_In.l0, if_pos (by omega), if_pos (by omega), rdB_at ns i hlt, refSame_f _ _ (by omega) (by omega) k (by omega), Option.bind_some, hw, List.drop_eq_getElem_cons hlt, List.any_cons, ih k (i + 1) (by omega) (by omega)]
    cases sameN ns[i] name <;> simp
theorem refIn_f (ns : List ByteArray) (name : ByteArray) (hl : ns.length ≤ 2000000000) (hs : ∀ n ∈ ns, n.size ≤ 1048576) (hn : name.size ≤ 1048576) (k : Nat) (hk : ns.length + 1048580 ≤ k) : tollbarref04_In.f k ns name = some (ns.any (fun p => sameN p name)) := by
  have := refIn_l0 name hn ns hl hs ns.length k 0 (by omega) (by omega)
  rw [List.drop_zero] at this
  exact this
theorem fold_is (a p : ByteArray) (hp : (strOfNums ((bytesOf p).map foldC)).toList = p.toList) : ((strOfNums ((bytesOf a).map foldC)).toList = p.toList) = (sameN p a = true) := by
  have h := str_inj (bytes_fold (bytes_of a)) (bytes_fold (bytes_of p))
  rw [hp] at h
  unfold sameN
  rw [decide_eq_true_eq]
  apply propext
  constructor
  · intro e
    have : decide ((bytesOf a).map foldC = (bytesOf p).map foldC) = true := by rw [← h]; exact beq_iff_eq.2 e
    exact (of_decide_eq_true this).symm
  · intro e
    have : ((strOfNums ((bytesOf a).map foldC)).toList == p.toList) = true := by rw [h]; exact decide_eq_true e.symm
    exact beq_iff_eq.1 this
theorem some_or (b c : Bool) : (if b = true then some true else some c) = some (b || c) := by cases b <;> rfl
/-- The kept names. -/
def keptNames : List ByteArray := [⟨#[104, 111, 115, 116]⟩, ⟨#[99, 111, 110, 116, 101, 110, 116, 45, 108, 101, 110, 103, 116, 104]⟩, ⟨#[116, 114, 97, 110, 115, 102, 101, 114, 45, 101, 110, 99, 111, 100, 105, 110, 103]⟩, ⟨#[99, 111, 110, 110, 101, 99, 116, 105, 111, 110]⟩, ⟨#[107, 101, 101, 112, 45, 97, 108, 105, 118, 101]⟩, ⟨#[112, 114, 111, 120, 121, 45, 99, 111, 110, 110, 101, 99, 116, 105, 111, 110]⟩, ⟨#[116, 101]⟩, ⟨#[116, 114, 97, 105, 108, 101, 114]⟩, ⟨#[117, 112, 103, 114, 97, 100, 101]⟩, ⟨#[101, 120, 112, 101, 99, 116]⟩, ⟨#[118, 105, 97]⟩]
def keptN (a : ByteArray) : Bool := keptNames.any (fun p => sameN p a)
theorem Kept_f (a : ByteArray) (ha : a.size ≤ 1048576) : conf_Kept.f a = some (keptN a) := by
  unfold conf_Kept.f
  rw [Fold_f a (by omega), Option.bind_some]
  have e : ∀ (p : ByteArray), p ∈ keptNames → ((strOfNums ((bytesOf a).map foldC)).toList = p.toList) = (sameN p a = true) := by
    intro p hp
    refine fold_is a p ?_
    have : ∀ p ∈ keptNames, (strOfNums ((bytesOf p).map foldC)).data = p.data := by decide +kernel
    rw [toList_data, toList_data, this p hp]
  have l : ∀ (p : ByteArray) (q : List UInt8), p ∈ keptNames → p.toList = q → ((strOfNums ((bytesOf a).map foldC)).toList = q) = (sameN p a = true) := fun p q hp hq => by rw [← hq]; exact e p hp
  have e0 := l ⟨#[104, 111, 115, 116]⟩ [104, 111, 115, 116] (by simp [keptNames]) (toList_data _)
  have e1 := l ⟨#[99, 111, 110, 116, 101, 110, 116, 45, 108, 101, 110, 103, 116, 104]⟩ [99, 111, 110, 116, 101, 110, 116, 45, 108, 101, 110, 103, 116, 104] (by simp [keptNames]) (toList_data _)
  have e2 := l ⟨#[116, 114, 97, 110, 115, 102, 101, 114, 45, 101, 110, 99, 111, 100, 105, 110, 103]⟩ [116, 114, 97, 110, 115, 102, 101, 114, 45, 101, 110, 99, 111, 100, 105, 110, 103] (by simp [keptNames]) (toList_data _)
  have e3 := l ⟨#[99, 111, 110, 110, 101, 99, 116, 105, 111, 110]⟩ [99, 111, 110, 110, 101, 99, 116, 105, 111, 110] (by simp [keptNames]) (toList_data _)
  have e4 := l ⟨#[107, 101, 101, 112, 45, 97, 108, 105, 118, 101]⟩ [107, 101, 101, 112, 45, 97, 108, 105, 118, 101] (by simp [keptNames]) (toList_data _)
  have e5 := l ⟨#[112, 114, 111, 120, 121, 45, 99, 111, 110, 110, 101, 99, 116, 105, 111, 110]⟩ [112, 114, 111, 120, 121, 45, 99, 111, 110, 110, 101, 99, 116, 105, 111, 110] (by simp [keptNames]) (toList_data _)
  have e6 := l ⟨#[116, 101]⟩ [116, 101] (by simp [keptNames]) (toList_data _)
  have e7 := l ⟨#[116, 114, 97, 105, 108, 101, 114]⟩ [116, 114, 97, 105, 108, 101, 114] (by simp [keptNames]) (toList_data _)
  have e8 := l ⟨#[117, 112, 103, 114, 97, 100, 101]⟩ [117, 112, 103, 114, 97, 100, 101] (by simp [keptNames]) (toList_data _)
  have e9 := l ⟨#[101, 120, 112, 101, 99, 116]⟩ [101, 120, 112, 101, 99, 116] (by simp [keptNames]) (toList_data _)
  have e10 := l ⟨#[118, 105, 97]⟩ [118, 105, 97] (by simp [keptNames]) (toList_data _)
  simp only [e0, e1, e2, e3, e4, e5, e6, e7, e8, e9, e10]
  simp only [some_or]
  rfl
theorem refKept_f (a : ByteArray) (ha : a.size ≤ 1048576) (k : Nat) (hk : 1049600 ≤ k) : tollbarref10_Kept.f k a = some (keptN a) := by
  unfold tollbarref10_Kept.f
  have h := refIn_f keptNames a (by decide) (by decide) ha k (by have : keptNames.length = 11 := rfl; omega)
  have h' : tollbarref04_In.f k [⟨#[104, 111, 115, 116]⟩, ⟨#[99, 111, 110, 116, 101, 110, 116, 45, 108, 101, 110, 103, 116, 104]⟩, ⟨#[116, 114, 97, 110, 115, 102, 101, 114, 45, 101, 110, 99, 111, 100, 105, 110, 103]⟩, ⟨#[99, 111, 110, 110, 101, 99, 116, 105, 111, 110]⟩, ⟨#[107, 101, 101, 112, 45, 97, 108, 105, 118, 101]⟩, ⟨#[112, 114, 111, 120, 121, 45, 99, 111, 110, 110, 101, 99, 116, 105, 111, 110]⟩, ⟨#[116, 101]⟩, ⟨#[116, 114, 97, 105, 108, 101, 114]⟩, ⟨#[117, 112, 103, 114, 97, 100, 101]⟩, ⟨#[101, 120, 112, 101, 99, 116]⟩, ⟨#[118, 105, 97]⟩] a = some (keptN a) := h
  rw [h', Option.bind_some]
theorem sameN_name (x p q : ByteArray) (h : (bytesOf p).map foldC = (bytesOf q).map foldC) : sameN x p = sameN x q := by unfold sameN; rw [h]
theorem getS_name (p q : ByteArray) (h : (bytesOf p).map foldC = (bytesOf q).map foldC) : ∀ fs, getS p fs = getS q fs
  | [] => rfl
  | f :: r => by rw [getS, getS, sameN_name _ p q h, getS_name p q h r]
theorem listS_name (p q : ByteArray) (h : (bytesOf p).map foldC = (bytesOf q).map foldC) (fs : List (S41)) : listS p fs = listS q fs := by unfold listS; rw [getS_name p q h]
def connN : ByteArray := ⟨#[99, 111, 110, 110, 101, 99, 116, 105, 111, 110]⟩
theorem conn_has (fs : List (S41)) (a : ByteArray) : hasS fs (⟨#[67, 111, 110, 110, 101, 99, 116, 105, 111, 110]⟩ : ByteArray) a = hasS fs connN a := by
  unfold hasS
  rw [listS_name ⟨#[67, 111, 110, 110, 101, 99, 116, 105, 111, 110]⟩ connN (by decide +kernel)]
/-- Does a name begin with x-tollbar-? -/
def ownN (a : ByteArray) : Bool := decide (10 ≤ a.size) && ((strOfNums ((bytesOf a).map foldC)).extract 0 10).toList == [120, 45, 116, 111, 108, 108, 98, 97, 114, 45]
/-- Does a field of a name not go on? -/
def hopS (fs : List (S41)) (a : ByteArray) : Bool := keptN a || (ownN a || hasS fs connN a)
theorem fold_size (a : ByteArray) : (strOfNums ((bytesOf a).map foldC)).size = a.size := by rw [str_len, List.length_map, bytesOf_length]
theorem Hop_f (fs : List (S41)) (a : ByteArray) (hf : FB fs) (ha : a.size ≤ 1048576) (k : Nat) (hk : 1049600 ≤ k) : scrub_Hop.f k fs a = some (hopS fs a) := by
  unfold scrub_Hop.f hopS
  rw [Kept_f a ha, Option.bind_some]
  cases keptN a
  · rw [if_neg (by simp), Fold_f a (by omega), Option.bind_some, Bool.false_or]
    have hp : strings_HasPrefix.f (strOfNums ((bytesOf a).map foldC)) (⟨#[120, 45, 116, 111, 108, 108, 98, 97, 114, 45]⟩ : ByteArray) = some (ownN a) := by
      have hs : (⟨#[120, 45, 116, 111, 108, 108, 98, 97, 114, 45]⟩ : ByteArray).size = 10 := rfl
      unfold strings_HasPrefix.f stringslite_HasPrefix.f ownN
      rw [hs, fold_size]
      by_cases h : 10 ≤ a.size
      · rw [if_pos (by omega), if_pos (by omega), if_pos (by omega), decide_eq_true h, toList_data (⟨#[120, 45, 116, 111, 108, 108, 98, 97, 114, 45]⟩ : ByteArray)]; rfl
      · rw [if_neg (by omega), decide_eq_false h]; rfl
    rw [hp, Option.bind_some]
    cases ownN a
    · rw [if_neg (by simp), Has_f fs _ a hf (by decide) ha k hk, Option.bind_some, conn_has, Bool.false_or]
    · rw [if_pos rfl, Bool.true_or]
  · rw [if_pos rfl, Bool.true_or]
theorem refHop_f (fs : List (S41)) (a : ByteArray) (hf : FB fs) (ha : a.size ≤ 1048576) (k : Nat) (hk : 1060000000 ≤ k) : tollbarref12_Hop.f k fs a = some (hopS fs a) := by
  obtain ⟨k, rfl⟩ : ∃ m, k = m + 1 := ⟨k - 1, by omega⟩
  have hlb := list_bounds fs connN hf
  have hin : (tollbarref04_List.f k fs (⟨#[99, 111, 110, 110, 101, 99, 116, 105, 111, 110]⟩ : ByteArray)).bind (fun t => (tollbarref04_In.f k t a).bind fun u => some u) = some (hasS fs connN a) := by
    have e1 : tollbarref04_List.f k fs (⟨#[99, 111, 110, 110, 101, 99, 116, 105, 111, 110]⟩ : ByteArray) = some (listS connN fs) := refList_f fs connN hf (by decide) k (by omega)
    rw [e1, Option.bind_some, refIn_f (listS connN fs) a (by omega) hlb.2 ha k (by omega), Option.bind_some]
    rfl
  unfold tollbarref12_Hop.f hopS
  rw [refFold_f a (by omega) (k + 1) (by omega), Fold_f a (by omega), Option.bind_some, refKept_f a ha (k + 1) (by omega), Option.bind_some]
  cases keptN a
  · rw [if_neg (by simp), fold_size, Bool.false_or]
    unfold ownN
    by_cases h : 10 ≤ a.size
    · rw [if_pos (by omega), if_pos (by omega), if_pos (by omega), decide_eq_true h, Bool.true_and, tollbarref12_Hop.j0]
      cases ((strOfNums ((bytesOf a).map foldC)).extract 0 10).toList == [120, 45, 116, 111, 108, 108, 98, 97, 114, 45]
      · rw [if_neg (by simp), hin, Bool.false_or]
      · rw [if_pos rfl, Bool.true_or]
    · rw [if_neg (by omega), decide_eq_false h, Bool.false_and, tollbarref12_Hop.j0, if_neg (by simp), hin, Bool.false_or]
  · rw [if_pos rfl, tollbarref12_Hop.j0, if_pos rfl, Bool.true_or]
/-- The fields that go on. -/
def onwS (fs : List (S41)) : List (S41) := fs.filter (fun f => !hopS fs f.f0)
theorem onw_l0 (fs : List (S41)) (hf : FB fs) (d : Nat) : ∀ (k i : Nat) (out : List (S41)), i + d = fs.length → d + 1049600 ≤ k → out.length ≤ i →
    scrub_onward.l0 k fs out fs (fs.length : Int) (i : Int) = some (out ++ (fs.drop i).filter (fun f => !hopS fs f.f0)) := by
  have hfl := hf.1
  induction d with
  | zero =>
    intro k i out hi hk ho
    obtain ⟨k, rfl⟩ : ∃ m, k = m + 1 := ⟨k - 1, by omega⟩
    rw [scrub_onward.l0, if_neg (by omega), List.drop_of_length_le (by omega), List.filter_nil, List.append_nil]
  | succ d ih =>
    intro k i out hi hk ho
    obtain ⟨k, rfl⟩ : ∃ m, k = m + 1 := ⟨k - 1, by omega⟩
    have hlt : i < fs.length := by omega
    have hb := hf.2 _ (List.getElem_mem hlt)
    have hw : wrap64 ((i : Int) + 1) = ((i + 1 : Nat) : Int) := by unfold wrap64; omega
    rw [scrub_onward.l0, if_pos (by omega), if_pos (by omega), if_pos (by omega), rdT_at fs i hlt, Hop_f fs _ hf hb.1 k (by omega), Option.bind_some, hw, List.drop_eq_getElem_cons hlt, List.filter_cons]
    cases hs : hopS fs fs[i].f0
    · rw [if_neg (by simp), if_pos (by omega), if_pos (by simp), ih k (i + 1) _ (by omega) (by omega) (by rw [List.length_append]; simp; omega)]
      simp only [List.append_assoc, List.singleton_append]
    · rw [if_pos rfl, if_neg (by simp), ih k (i + 1) _ (by omega) (by omega) (by omega)]
theorem onward_f (fs : List (S41)) (hf : FB fs) (k : Nat) (hk : 1050600 ≤ k) : scrub_onward.f k fs = some (onwS fs) := by
  have hfl := hf.1
  have := onw_l0 fs hf fs.length k 0 [] (by omega) (by omega) (Nat.zero_le _)
  rw [List.drop_zero, List.nil_append] at this
  exact this
theorem refOnw_l0 (fs : List (S41)) (hf : FB fs) (d : Nat) : ∀ (k i : Nat) (out : List (S41)), i + d = fs.length → d + 1060000000 ≤ k → out.length ≤ i →
    tollbarref12_onward.l0 k fs out (i : Int) = some (out ++ (fs.drop i).filter (fun f => !hopS fs f.f0)) := by
  have hfl := hf.1
  induction d with
  | zero =>
    intro k i out hi hk ho
    obtain ⟨k, rfl⟩ : ∃ m, k = m + 1 := ⟨k - 1, by omega⟩
    rw [tollbarref12_onward.l0, if_neg (by omega), List.drop_of_length_le (by omega), List.filter_nil, List.append_nil]
  | succ d ih =>
    intro k i out hi hk ho
    obtain ⟨k, rfl⟩ : ∃ m, k = m + 1 := ⟨k - 1, by omega⟩
    have hlt : i < fs.length := by omega
    have hb := hf.2 _ (List.getElem_mem hlt)
    have hw : wrap64 ((i : Int) + 1) = ((i + 1 : Nat) : Int) := by unfold wrap64; omega
    rw [tollbarref12_onward.l0, if_pos (by omega), if_pos (by omega), rdT_at fs i hlt, refHop_f fs _ hf hb.1 k (by omega), Option.bind_some, hw, List.drop_eq_getElem_cons hlt, List.filter_cons]
    cases hs : hopS fs fs[i].f0
    · rw [if_neg (by simp), if_pos (by omega), if_pos (by simp), ih k (i + 1) _ (by omega) (by omega) (by rw [List.length_append]; simp; omega)]
      simp only [List.append_assoc, List.singleton_append]
    · rw [if_pos rfl, if_neg (by simp), ih k (i + 1) _ (by omega) (by omega) (by omega)]
theorem refOnward_f (fs : List (S41)) (hf : FB fs) (k : Nat) (hk : 1060001000 ≤ k) : tollbarref12_onward.f k fs = some (onwS fs) := by
  have hfl := hf.1
  have := refOnw_l0 fs hf fs.length k 0 [] (by omega) (by omega) (Nat.zero_le _)
  rw [List.drop_zero, List.nil_append] at this
  exact this
theorem onwS_FB (fs : List (S41)) (hf : FB fs) : FB (onwS fs) := ⟨Nat.le_trans (List.length_filter_le _ _) hf.1, fun f h => hf.2 f (List.mem_filter.1 h).1⟩
/-- Fields but those of some names. -/
def withoutS (fs : List (S41)) (ns : List ByteArray) : List (S41) := fs.filter (fun f => !(ns.any (fun n => sameN n f.f0)))
theorem wo_l0 (fs : List (S41)) (ns : List ByteArray) (hf : FB fs) (hn : ∀ n ∈ ns, n.size ≤ 1048576) (d : Nat) : ∀ (k i : Nat) (out : List (S41)), i + d = fs.length → d < k → out.length ≤ i →
    field_Without.l0 k fs ns out (i : Int) = some (out ++ (fs.drop i).filter (fun f => !(ns.any (fun n => sameN n f.f0)))) := by
  have hfl := hf.1
  induction d with
  | zero =>
    intro k i out hi hk ho
    obtain ⟨k, rfl⟩ : ∃ m, k = m + 1 := ⟨k - 1, by omega⟩
    rw [field_Without.l0, if_neg (by omega), List.drop_of_length_le (by omega), List.filter_nil, List.append_nil]
  | succ d ih =>
    intro k i out hi hk ho
    obtain ⟨k, rfl⟩ : ∃ m, k = m + 1 := ⟨k - 1, by omega⟩
    have hlt : i < fs.length := by omega
    have hb := hf.2 _ (List.getElem_mem hlt)
    have hw : wrap64 ((i : Int) + 1) = ((i + 1 : Nat) : Int) := by unfold wrap64; omega
    have ha : anyO (fun n => sign_Same.f n (rd_T41 fs (i : Int)).f0) ns = some (ns.any (fun n => sameN n fs[i].f0)) := by
      rw [rdT_at fs i hlt]
      exact any_f _ _ _ (fun x hx => same_f x _ (by have := hn x hx; omega) (by omega))
    rw [field_Without.l0, if_pos (by omega), if_pos (by omega), ha, Option.bind_some, hw, List.drop_eq_getElem_cons hlt, List.filter_cons, rdT_at fs i hlt]
    cases hs : ns.any (fun n => sameN n fs[i].f0)
    · rw [if_neg (by simp), if_pos (by omega), if_pos (by simp), ih k (i + 1) _ (by omega) (by omega) (by rw [List.length_append]; simp; omega)]
      simp only [List.append_assoc, List.singleton_append]
    · rw [if_pos rfl, if_neg (by simp), ih k (i + 1) _ (by omega) (by omega) (by omega)]
theorem Without_f (fs : List (S41)) (ns : List ByteArray) (hf : FB fs) (hn : ∀ n ∈ ns, n.size ≤ 1048576) (k : Nat) (hk : fs.length < k) : field_Without.f k fs ns = some (withoutS fs ns) := by
  have := wo_l0 fs ns hf hn fs.length k 0 [] (by omega) hk (Nat.zero_le _)
  rw [List.drop_zero, List.nil_append] at this
  exact this
theorem sameB_l0 (xs : List Int) (hn : xs.length ≤ 4398046511104) (d : Nat) : ∀ (k : Nat) (i : Int), 0 ≤ i → (xs.length : Int) - i = d → d + 1 ≤ k → tollbarref01_SameBytes.l0 k xs xs i = some true := by
  induction d with
  | zero =>
    intro k i h0 hd hk
    obtain ⟨k, rfl⟩ : ∃ m, k = m + 1 := ⟨k - 1, by omega⟩
    simp only [tollbarref01_SameBytes.l0]
    rw [if_neg (by omega)]
  | succ d ih =>
    intro k i h0 hd hk
    obtain ⟨k, rfl⟩ : ∃ m, k = m + 1 := ⟨k - 1, by omega⟩
    simp only [tollbarref01_SameBytes.l0]
    rw [if_pos (by omega), if_pos h0, if_pos (by omega), if_pos trivial, show wrap64 (i + 1) = i + 1 by unfold wrap64; omega]
    exact ih k (i + 1) (by omega) (by omega) (by omega)
theorem sameB_eq (xs : List Int) (hn : xs.length ≤ 4398046511104) (k : Nat) (hk : xs.length + 1 ≤ k) : tollbarref01_SameBytes.f k xs xs = some true := by
  unfold tollbarref01_SameBytes.f
  rw [if_pos rfl]
  exact sameB_l0 xs hn xs.length k 0 (by omega) (by omega) hk
theorem sameF_l0 (xs : List (S41)) (hn : xs.length ≤ 1000000) (d : Nat) : ∀ (k i : Nat), i + d = xs.length → d < k → tollbarref04_Same.l0 k xs xs (i : Int) = some true := by
  induction d with
  | zero =>
    intro k i hi hk
    obtain ⟨k, rfl⟩ : ∃ m, k = m + 1 := ⟨k - 1, by omega⟩
    rw [tollbarref04_Same.l0, if_neg (by omega)]
  | succ d ih =>
    intro k i hi hk
    obtain ⟨k, rfl⟩ : ∃ m, k = m + 1 := ⟨k - 1, by omega⟩
    rw [tollbarref04_Same.l0, if_pos (by omega), if_pos (by omega), if_pos (by omega), if_pos rfl, if_pos rfl, show wrap64 ((i : Int) + 1) = ((i + 1 : Nat) : Int) by unfold wrap64; omega]
    exact ih k (i + 1) (by omega) (by omega)
theorem sameF_eq (xs : List (S41)) (hn : xs.length ≤ 1000000) (k : Nat) (hk : xs.length < k) : tollbarref04_Same.f k xs xs = some true := by
  unfold tollbarref04_Same.f
  rw [if_pos rfl]
  exact sameF_l0 xs hn xs.length k 0 (by omega) hk
theorem join_l1 (b : List Int) (hb : b.length < 140737488355328) (d : Nat) : ∀ (k : Nat) (out : List Int) (i : Nat), i + d = b.length → d < k → out.length + d < 140737488355328 → tollbarref01_Join.l1 k b out (i : Int) = some (out ++ b.drop i) := by
  induction d with
  | zero =>
    intro k out i hi hk ho
    obtain ⟨k, rfl⟩ : ∃ m, k = m + 1 := ⟨k - 1, by omega⟩
    simp only [tollbarref01_Join.l1]
    rw [if_neg (by omega), List.drop_of_length_le (by omega), List.append_nil]
  | succ d ih =>
    intro k out i hi hk ho
    obtain ⟨k, rfl⟩ : ∃ m, k = m + 1 := ⟨k - 1, by omega⟩
    have hlt : i < b.length := by omega
    simp only [tollbarref01_Join.l1]
    rw [if_pos (by omega), if_pos (by omega), if_pos (by omega), show wrap64 ((i : Int) + 1) = ((i + 1 : Nat) : Int) by unfold wrap64; omega, ih k _ (i + 1) (by omega) (by omega) (by rw [List.length_append]; simp; omega), List.append_assoc, List.drop_eq_getElem_cons hlt]
    simp [rd, List.getD_eq_getElem?_getD, List.getElem?_eq_getElem hlt]
theorem join_l0 (a b : List Int) (ha : a.length < 140737488355328) (hb : b.length < 140737488355328) (d : Nat) : ∀ (k : Nat) (out : List Int) (i : Nat), i + d = a.length → d + b.length + 1 < k → out.length + d + b.length < 140737488355328 → tollbarref01_Join.l0 k a b out (i : Int) = some (out ++ a.drop i ++ b) := by
  induction d with
  | zero =>
    intro k out i hi hk ho
    obtain ⟨k, rfl⟩ : ∃ m, k = m + 1 := ⟨k - 1, by omega⟩
    simp only [tollbarref01_Join.l0]
    rw [if_neg (by omega), List.drop_of_length_le (by omega), List.append_nil]
    have := join_l1 b hb b.length k out 0 (by omega) (by omega) (by omega)
    rw [List.drop_zero] at this
    exact this
  | succ d ih =>
    intro k out i hi hk ho
    obtain ⟨k, rfl⟩ : ∃ m, k = m + 1 := ⟨k - 1, by omega⟩
    have hlt : i < a.length := by omega
    simp only [tollbarref01_Join.l0]
    rw [if_pos (by omega), if_pos (by omega), if_pos (by omega), show wrap64 ((i : Int) + 1) = ((i + 1 : Nat) : Int) by unfold wrap64; omega, ih k _ (i + 1) (by omega) (by omega) (by rw [List.length_append]; simp; omega), List.append_assoc out, List.drop_eq_getElem_cons hlt]
    simp [rd, List.getD_eq_getElem?_getD, List.getElem?_eq_getElem hlt]
theorem Join_f (a b : List Int) (k : Nat) (hk : a.length + b.length + 2 ≤ k) (hl : a.length + b.length < 140737488355328) : tollbarref01_Join.f k a b = some (a ++ b) := by
  unfold tollbarref01_Join.f
  have := join_l0 a b (by omega) (by omega) a.length k [] 0 (by omega) (by omega) (by simpa using hl)
  rw [List.drop_zero, List.nil_append] at this
  exact this
/-- The decimal digits, as numbers. -/
def decI (u : Nat) : List Int := (Lib.decDigits u).map fun b => (b.toNat : Int)
theorem decI_small (u : Nat) (h : u < 10) : decI u = [48 + (u : Int)] := by
  unfold decI
  rw [Lib.decDigits_one h, List.map_cons, List.map_nil]
  congr 1
  rw [UInt8.toNat_ofNat']
  omega
theorem decI_big (u : Nat) (h : 10 ≤ u) : decI u = decI (u / 10) ++ [48 + ((u % 10 : Nat) : Int)] := by
  unfold decI
  rw [Lib.decDigits, dif_neg (by omega), List.map_append, List.map_cons, List.map_nil]
  congr 2
  rw [UInt8.toNat_ofNat']
  omega
theorem dec_str (u : Nat) : (⟨(Lib.decDigits u).toArray⟩ : ByteArray) = strOfNums (decI u) := by
  unfold decI strOfNums
  congr 2
  rw [List.map_map]
  conv => lhs; rw [← List.map_id (Lib.decDigits u)]
  exact List.map_congr_left fun b _ => by simp
theorem dec_len (d : Nat) : ∀ u, u < 10 ^ (d + 1) → 1 ≤ (decI u).length ∧ (decI u).length ≤ d + 1 := by
  induction d with
  | zero => intro u h; rw [decI_small u (by simpa using h)]; simp
  | succ d ih =>
    intro u h
    by_cases h1 : u < 10
    · rw [decI_small u h1]; simp
    · have h2 : u / 10 < 10 ^ (d + 1) := (Nat.div_lt_iff_lt_mul (by decide)).2 (by rwa [← Nat.pow_succ])
      have := ih _ h2
      rw [decI_big u (by omega), List.length_append]
      simp
      omega
end Go.Proofs.YtfjeinnemimjoaaDoor.Pure
namespace Go.Proofs.YtfjeinnemimjoaaDoor.P
open Go.RowKit Go.Proofs.YtfjeinnemimjoaaDoorW.PrintWords Go.Proofs.YtfjeinnemimjoaaDoorW.PrintLast Go.Proofs.YtfjeinnemimjoaaDoorW.PrintMore
attribute [local go_sem] max2_int min2_int max_two min_two max_three min_three max_four min_four
set_option linter.unusedVariables false
set_option linter.unusedSimpArgs false
end Go.Proofs.YtfjeinnemimjoaaDoor.P
namespace Go.Proofs.YtfjeinnemimjoaaDoor.Pure
open Go.RowKit Go.Proofs.YtfjeinnemimjoaaDoor.P Go.Proofs.YtfjeinnemimjoaaDoorW.PrintWords Go.Proofs.YtfjeinnemimjoaaDoorW.PrintLast Go.Proofs.YtfjeinnemimjoaaDoorW.PrintMore
set_option linter.unusedVariables false
set_option linter.unusedSimpArgs false
theorem Text_f (n : Int) (h0 : -9223372036854775808 ≤ n) (h1 : n ≤ 9223372036854775807) : sign_Text.f n = some ⟨(Lib.itoa n).toArray⟩ := by
  unfold sign_Text.f strconv_FormatInt_78.f strconv_FormatInt_97.f
  rw [if_pos rfl, if_pos ⟨h0, h1⟩]
  rfl
theorem str_ne (xs : List Int) (h : xs ≠ []) : ¬ ((strOfNums xs).toList = []) := by
  intro e
  rw [toList_data] at e
  have := data_length (strOfNums xs)
  rw [e, str_size] at this
  exact h (List.eq_nil_of_length_eq_zero this.symm)
theorem refText_step (k u : Nat) (xs : List Int) (hx : xs.length ≤ 100) (hu : u ≤ 9223372036854775807) (hp : xs = [] ∨ 0 < u) :
    ∀ R, tollbarref02_Text.l0 k ((u / 10 : Nat) : Int) (strOfNums ((48 + ((u % 10 : Nat) : Int)) :: xs)) = R → tollbarref02_Text.l0 (k + 1) (u : Int) (strOfNums xs) = R := by
  intro R hR
  have e1 : Int.tmod (u : Int) 10 = ((u % 10 : Nat) : Int) := by rw [Int.tmod_eq_emod_of_nonneg (by omega)]; omega
  have e2 : Int.tdiv (u : Int) 10 = ((u / 10 : Nat) : Int) := by rw [Int.tdiv_eq_ediv_of_nonneg (by omega)]; omega
  have e3 : wrap64 (48 + ((u % 10 : Nat) : Int)) % 256 = 48 + ((u % 10 : Nat) : Int) := by unfold wrap64; omega
  have e4 : wrap64 ((u / 10 : Nat) : Int) = ((u / 10 : Nat) : Int) := by unfold wrap64; omega
  have e5 : strOfNums [48 + ((u % 10 : Nat) : Int)] ++ strOfNums xs = strOfNums ((48 + ((u % 10 : Nat) : Int)) :: xs) := by rw [← str_append]; rfl
  have e6 : (strOfNums [48 + ((u % 10 : Nat) : Int)]).size + (strOfNums xs).size ≤ 9223372036854775807 := by rw [str_size, str_size, List.length_singleton]; omega
  simp only [tollbarref02_Text.l0]
  rw [e1, e2, e3, e4, Option.bind_some, if_pos e6, e5, hR]
  rcases hp with hp | hp
  · rw [if_pos (by rw [hp, toList_data]; rfl)]
  · rw [if_pos (show (u : Int) > 0 by omega)]
    split <;> rfl
theorem refText_end (k : Nat) (xs : List Int) (hx : xs ≠ []) : tollbarref02_Text.l0 (k + 1) 0 (strOfNums xs) = some (strOfNums xs) := by
  simp only [tollbarref02_Text.l0]
  rw [if_neg (str_ne xs hx), if_neg (by decide)]
theorem refText_l0 (d : Nat) : ∀ (k u : Nat) (xs : List Int), u < 10 ^ d → d + 1 ≤ k → u ≤ 9223372036854775807 → xs.length + d ≤ 100 → xs ≠ [] →
    tollbarref02_Text.l0 k (u : Int) (strOfNums xs) = some (strOfNums ((if u = 0 then [] else decI u) ++ xs)) := by
  induction d with
  | zero =>
    intro k u xs hu hk hb hx hne
    obtain ⟨k, rfl⟩ : ∃ m, k = m + 1 := ⟨k - 1, by omega⟩
    obtain rfl : u = 0 := by simpa using hu
    rw [if_pos rfl]
    exact refText_end k xs hne
  | succ d ih =>
    intro k u xs hu hk hb hx hne
    obtain ⟨k, rfl⟩ : ∃ m, k = m + 1 := ⟨k - 1, by omega⟩
    by_cases h0 : u = 0
    · subst h0
      rw [if_pos rfl]
      exact refText_end k xs hne
    · refine refText_step k u xs (by omega) hb (Or.inr (by omega)) _ ?_
      have h2 : u / 10 < 10 ^ d := (Nat.div_lt_iff_lt_mul (by decide)).2 (by rwa [← Nat.pow_succ])
      rw [ih k (u / 10) _ h2 (by omega) (by omega) (by rw [List.length_cons]; omega) (by simp), if_neg h0]
      by_cases h1 : u < 10
      · rw [if_pos (by omega), decI_small u h1, show u % 10 = u by omega]
        rfl
      · rw [if_neg (by omega), decI_big u (by omega), List.append_assoc]
        rfl
theorem refText_nat (k u : Nat) (hk : 30 ≤ k) (hu : u ≤ 9223372036854775807) : tollbarref02_Text.l0 k (u : Int) (⟨#[]⟩ : ByteArray) = some (strOfNums (decI u)) := by
  obtain ⟨k, rfl⟩ : ∃ m, k = m + 1 := ⟨k - 1, by omega⟩
  have hs : (⟨#[]⟩ : ByteArray) = strOfNums [] := rfl
  rw [hs]
  refine refText_step k u [] (by simp) hu (Or.inl rfl) _ ?_
  have h3 : (10 : Nat) ^ 19 = 10000000000000000000 := by decide
  rw [refText_l0 19 k (u / 10) _ (by omega) (by omega) (by omega) (by simp) (by simp)]
  by_cases h1 : u < 10
  · rw [if_pos (by omega), decI_small u h1, show u % 10 = u by omega]
    rfl
  · rw [if_neg (by omega), decI_big u (by omega)]
theorem itoa_least : (⟨(Lib.itoa (-9223372036854775808)).toArray⟩ : ByteArray) = ⟨#[45, 57, 50, 50, 51, 51, 55, 50, 48, 51, 54, 56, 53, 52, 55, 55, 53, 56, 48, 56]⟩ := by
  simp [Lib.itoa, Lib.decDigits]
theorem refText_f (k : Nat) (hk : 60 ≤ k) (n : Int) (h0 : -9223372036854775808 ≤ n) (h1 : n ≤ 9223372036854775807) : tollbarref02_Text.f k n = sign_Text.f n := by
  rw [Text_f n h0 h1]
  obtain ⟨k, rfl⟩ : ∃ m, k = m + 2 := ⟨k - 2, by omega⟩
  by_cases hm : n = -9223372036854775808
  · subst hm
    rw [tollbarref02_Text.f, if_pos rfl, itoa_least]
  · by_cases h : n < 0
    · have hw : wrap64 (-n) = ((n.natAbs : Nat) : Int) := by unfold wrap64; omega
      have hi : Lib.itoa n = 45 :: Lib.decDigits n.natAbs := by unfold Lib.itoa; rw [if_pos h]
      rw [tollbarref02_Text.f, if_neg hm, if_pos h, hw, tollbarref02_Text.f, if_neg (by omega), if_neg (by omega), refText_nat k n.natAbs (by omega) (by omega), Option.bind_some]
      have hl := dec_len 18 n.natAbs (by have : (10 : Nat) ^ 19 = 10000000000000000000 := by decide
                                         show n.natAbs < 10 ^ 19; omega)
      rw [if_pos (by rw [str_size]; omega), ← dec_str, hi]
      congr 1
    · have hi : Lib.itoa n = Lib.decDigits n.toNat := by unfold Lib.itoa; rw [if_neg h]
      have := refText_nat (k + 1) n.toNat (by omega) (by omega)
      rw [show ((n.toNat : Nat) : Int) = n by omega] at this
      rw [tollbarref02_Text.f, if_neg hm, if_neg h, this, hi, dec_str]
def lenN : ByteArray := ⟨#[67, 111, 110, 116, 101, 110, 116, 45, 76, 101, 110, 103, 116, 104]⟩
/-- The field that tells a body's length. -/
def lenF (n : Int) : S41 := ⟨lenN, ⟨(Lib.itoa n).toArray⟩⟩
theorem length_f (n : Int) (h0 : -9223372036854775808 ≤ n) (h1 : n ≤ 9223372036854775807) : scrub_length.f n = some ((lenF n).f0, (lenF n).f1) := by
  unfold scrub_length.f
  rw [Text_f n h0 h1, Option.bind_some]
  rfl
theorem refLength_f (n : Int) (h0 : -9223372036854775808 ≤ n) (h1 : n ≤ 9223372036854775807) (k : Nat) (hk : 60 ≤ k) : tollbarref12_length.f k n = some ((lenF n).f0, (lenF n).f1) := by
  unfold tollbarref12_length.f
  rw [refText_f k hk n h0 h1, Text_f n h0 h1, Option.bind_some]
  rfl
/-- Is a body's length told? -/
def needS (m : ByteArray) (b : List Int) : Bool := decide ((b.length : Int) > 0) || ((m.toList == [80, 79, 83, 84]) || ((m.toList == [80, 85, 84]) || (m.toList == [80, 65, 84, 67, 72])))
def reqFields (m : ByteArray) (fs : List (S41)) (b : List Int) (set : List (S41)) (drop : List ByteArray) (h : ByteArray) : List (S41) :=
  (((⟨(⟨#[72, 111, 115, 116]⟩ : ByteArray), h⟩ : S41) :: withoutS (onwS fs) (drop ++ set.map (·.f0))) ++ set) ++ (if needS m b = true then [lenF (b.length : Int)] else [])
theorem req_names (h t : ByteArray) (set : List (S41)) (hs : set.length ≤ 1000) (m tg : ByteArray) (mi : Int) (fs : List (S41)) (b : List Int) (us : List (S175)) (rts : List (S177)) (set2 : List (S41)) (drop : List ByteArray) (n4 n5 n6 n7 : Int) (d : Nat) :
    ∀ (K i : Nat) (x9 : List ByteArray), i + d = set.length → x9.length + d ≤ 100000 → scrub_Request.l0 (K + d) h t x9 set (set.length : Int) (i : Int) m tg mi fs b us rts set2 drop n4 n5 n6 n7 = scrub_Request.l0 K h t (x9 ++ (set.drop i).map (·.f0)) set (set.length : Int) (set.length : Int) m tg mi fs b us rts set2 drop n4 n5 n6 n7 := by
  induction d with
  | zero => intro K i x9 hi _; obtain rfl : i = set.length := by omega
            rw [List.drop_of_length_le (Nat.le_refl _), List.map_nil, List.append_nil, Nat.add_zero]
  | succ d ih =>
    intro K i x9 hi hx
    have hlt : i < set.length := by omega
    have hw : wrap64 ((i : Int) + 1) = ((i + 1 : Nat) : Int) := by unfold wrap64; omega
    rw [show K + (d + 1) = (K + d) + 1 by omega, scrub_Request.l0, if_pos (by omega), if_pos (by omega), if_pos (by omega), if_pos (by omega), rdT_at set i hlt, hw, ih K (i + 1) _ (by omega) (by rw [List.length_append]; simp; omega), List.drop_eq_getElem_cons hlt, List.map_cons, List.append_assoc]
    rfl
theorem req_j1 (t : ByteArray) (fs : List (S41)) (hfl : fs.length ≤ 100000) (m tg : ByteArray) (mi : Int) (ofs : List (S41)) (b : List Int) (hb : b.length ≤ 100000) (need : Bool) (k : Nat) :
    scrub_Request.j1 (k + 1) t fs need m tg mi ofs b = some (m, t, 1, fs ++ (if need = true then [lenF (b.length : Int)] else []), b) := by
  have hcl : bytes_Clone.f b = some b := if_pos (by omega)
  rw [scrub_Request.j1]
  cases need
  · rw [if_neg (by simp), hcl, Option.bind_some, if_neg (by simp), List.append_nil]
  · rw [if_pos rfl, length_f _ (by omega) (by omega), Option.bind_some, if_pos (by omega), hcl, Option.bind_some, if_pos rfl]
theorem Request12_f (m tg : ByteArray) (mi : Int) (fs : List (S41)) (b : List Int) (us : List (S175)) (rts : List (S177)) (set : List (S41)) (drop : List ByteArray) (n4 n5 n6 n7 : Int) (h t : ByteArray)
    (hf : FB fs) (hs : FB set) (hd : drop.length ≤ 1000 ∧ ∀ n ∈ drop, n.size ≤ 1048576) (hb : b.length ≤ 100000) (k : Nat) (hk : 1060000 ≤ k) :
    scrub_Request.f k m tg mi fs b us rts set drop n4 n5 n6 n7 h t = some (m, t, 1, reqFields m fs b set drop h, b) := by
  have hsl := hs.1
  have hof := onwS_FB fs hf
  have hol := hof.1
  have hcl : slices_Clone_string_string.f drop = some drop := if_pos (by omega)
  have hgone : ∀ n ∈ drop ++ set.map (·.f0), n.size ≤ 1048576 := by
    intro n hn
    rcases List.mem_append.1 hn with hn | hn
    · exact hd.2 n hn
    · obtain ⟨f, hm, rfl⟩ := List.mem_map.1 hn; exact (hs.2 f hm).1
  obtain ⟨K, rfl⟩ : ∃ K, k = (K + 2) + set.length := ⟨k - 2 - set.length, by omega⟩
  have hw : (withoutS (onwS fs) (drop ++ set.map (·.f0))).length ≤ 1000 := Nat.le_trans (List.length_filter_le _ _) hol
  have h1 := req_names h t set hsl m tg mi fs b us rts set drop n4 n5 n6 n7 set.length (K + 2) 0 drop (by omega) (by omega)
  rw [List.drop_zero] at h1
  unfold scrub_Request.f
  rw [hcl, Option.bind_some]
  refine Eq.trans h1 ?_
  have hh1 : ∀ y : List (S41), (y = [(⟨(⟨#[72, 111, 115, 116]⟩ : ByteArray), h⟩ : S41)]) → y.length = 1 := fun y e => by rw [e]; rfl
  rw [scrub_Request.l0, if_neg (by omega), Option.bind_some, onward_f fs hf (K + 1) (by omega), Option.bind_some, Without_f (onwS fs) _ hof hgone (K + 1) (by omega), Option.bind_some, if_pos (by simp only [List.length_cons, List.length_nil]; omega), Option.bind_some,
    if_pos (by simp only [List.length_append, List.length_cons, List.length_nil]; omega), Option.bind_some]
  have hbig : (([(⟨(⟨#[72, 111, 115, 116]⟩ : ByteArray), h⟩ : S41)] ++ withoutS (onwS fs) (drop ++ set.map (·.f0))) ++ set).length ≤ 100000 := by simp only [List.length_append, List.length_cons, List.length_nil]; omega
  unfold reqFields needS
  by_cases c1 : (b.length : Int) > 0
  · rw [if_pos c1, decide_eq_true c1, req_j1 t _ hbig m tg mi fs b hb true K, Bool.true_or]
    rfl
  · rw [if_neg c1, decide_eq_false c1, Bool.false_or]
    by_cases c2 : m.toList = [80, 79, 83, 84]
    · rw [if_pos c2, req_j1 t _ hbig m tg mi fs b hb _ K, beq_iff_eq.2 c2, Bool.true_or]
      rfl
    · rw [if_neg c2, beq_eq_false_iff_ne.2 c2, Bool.false_or]
      by_cases c3 : m.toList = [80, 85, 84]
      · rw [if_pos c3, req_j1 t _ hbig m tg mi fs b hb _ K, beq_iff_eq.2 c3, Bool.true_or]
        rfl
      · rw [if_neg c3, req_j1 t _ hbig m tg mi fs b hb _ K, beq_eq_false_iff_ne.2 c3, Bool.false_or]
        rfl
theorem ref_names (on : List (S41)) (m tg : ByteArray) (mi : Int) (fs : List (S41)) (b : List Int) (us : List (S175)) (rts : List (S177)) (set : List (S41)) (hs : set.length ≤ 1000) (drop : List ByteArray) (n4 n5 n6 n7 : Int) (m2 t2 : ByteArray) (mi2 : Int) (o2 : List (S41)) (b2 : List Int) (d : Nat) :
    ∀ (K i : Nat) (x11 : List ByteArray), i + d = set.length → x11.length ≤ i → tollbarref12_Request.l0 (K + 1 + d) on x11 (i : Int) m tg mi fs b us rts set drop n4 n5 n6 n7 m2 t2 mi2 o2 b2 = tollbarref12_Request.l1 K on (x11 ++ (set.drop i).map (·.f0)) 0 m tg mi fs b us rts set drop n4 n5 n6 n7 m2 t2 mi2 o2 b2 := by
  induction d with
  | zero => intro K i x11 hi _
            rw [Nat.add_zero, tollbarref12_Request.l0, if_neg (by omega), List.drop_of_length_le (by omega), List.map_nil, List.append_nil]
  | succ d ih =>
    intro K i x11 hi hx
    have hlt : i < set.length := by omega
    have hw : wrap64 ((i : Int) + 1) = ((i + 1 : Nat) : Int) := by unfold wrap64; omega
    rw [show K + 1 + (d + 1) = (K + 1 + d) + 1 by omega, tollbarref12_Request.l0, if_pos (by omega), if_pos (by omega), if_pos (by omega), rdT_at set i hlt, hw, ih K (i + 1) _ (by omega) (by rw [List.length_append]; simp; omega), List.drop_eq_getElem_cons hlt, List.map_cons, List.append_assoc]
    rfl
theorem ref_keep (on : List (S41)) (hon : FB on) (ns : List ByteArray) (hns : ns.length ≤ 1000 ∧ ∀ n ∈ ns, n.size ≤ 1048576) (m tg : ByteArray) (mi : Int) (fs : List (S41)) (b : List Int) (us : List (S175)) (rts : List (S177)) (set : List (S41)) (drop : List ByteArray) (hd : drop.length ≤ 1000 ∧ ∀ n ∈ drop, n.size ≤ 1048576) (n4 n5 n6 n7 : Int) (m2 t2 : ByteArray) (mi2 : Int) (b2 : List Int) (d : Nat) :
    ∀ (K i : Nat) (o2 : List (S41)), i + d = on.length → 1060000 ≤ K → o2.length + d ≤ 100000 → tollbarref12_Request.l1 (K + 1 + d) on ns (i : Int) m tg mi fs b us rts set drop n4 n5 n6 n7 m2 t2 mi2 o2 b2 = tollbarref12_Request.l2 K 0 m tg mi fs b us rts set drop n4 n5 n6 n7 m2 t2 mi2 (o2 ++ withoutS (on.drop i) (drop ++ ns)) b2 := by
  have hl := hon.1
  induction d with
  | zero => intro K i o2 hi _ _
            rw [Nat.add_zero, tollbarref12_Request.l1, if_neg (by omega), List.drop_of_length_le (by omega)]
            unfold withoutS
            rw [List.filter_nil, List.append_nil]
  | succ d ih =>
    intro K i o2 hi hK ho
    have hlt : i < on.length := by omega
    have hb := (hon.2 _ (List.getElem_mem hlt)).1
    have hw : wrap64 ((i : Int) + 1) = ((i + 1 : Nat) : Int) := by unfold wrap64; omega
    have h1 := refIn_f drop on[i].f0 (by omega) hd.2 hb (K + 1 + d) (by omega)
    have h2 := refIn_f ns on[i].f0 (by omega) hns.2 hb (K + 1 + d) (by omega)
    have hc : withoutS (on.drop i) (drop ++ ns) = (if (drop.any (fun n => sameN n on[i].f0) || ns.any (fun n => sameN n on[i].f0)) = true then [] else [on[i]]) ++ withoutS (on.drop (i + 1)) (drop ++ ns) := by
      unfold withoutS
      rw [List.drop_eq_getElem_cons hlt, List.filter_cons, List.any_append]
      cases drop.any (fun n => sameN n on[i].f0) || ns.any (fun n => sameN n on[i].f0) <;> simp
    rw [show K + 1 + (d + 1) = (K + 1 + d) + 1 by omega, tollbarref12_Request.l1, if_pos (by omega), if_pos (by omega), rdT_at on i hlt, h1, Option.bind_some, hc, hw]
    cases hA : drop.any (fun n => sameN n on[i].f0)
    · rw [if_neg (by simp), h2, Option.bind_some]
      cases hB : ns.any (fun n => sameN n on[i].f0)
      · rw [if_neg (by simp), if_pos (by omega), ih K (i + 1) _ (by omega) hK (by rw [List.length_append]; simp; omega), if_neg (by simp), List.append_assoc]
      · rw [if_pos rfl, ih K (i + 1) _ (by omega) hK (by omega), if_pos (by simp), List.nil_append]
    · rw [if_pos rfl, ih K (i + 1) _ (by omega) hK (by omega), if_pos (by simp), List.nil_append]
theorem ref_set (m tg : ByteArray) (mi : Int) (fs : List (S41)) (b : List Int) (hb : b.length ≤ 100000) (us : List (S175)) (rts : List (S177)) (set : List (S41)) (hs : set.length ≤ 1000) (drop : List ByteArray) (n4 n5 n6 n7 : Int) (m2 t2 : ByteArray) (mi2 : Int) (b2 : List Int) (d : Nat) :
    ∀ (K i : Nat) (o2 : List (S41)), i + d = set.length → 60 ≤ K → o2.length + d ≤ 100000 → tollbarref12_Request.l2 (K + 1 + d) (i : Int) m tg mi fs b us rts set drop n4 n5 n6 n7 m2 t2 mi2 o2 b2 = some (m2, t2, mi2, (o2 ++ set.drop i) ++ (if needS m b = true then [lenF (b.length : Int)] else []), b2) := by
  induction d with
  | zero =>
    intro K i o2 hi hK ho
    rw [Nat.add_zero, tollbarref12_Request.l2, if_neg (by omega), List.drop_of_length_le (by omega), List.append_nil]
    have hlen : (tollbarref12_length.f K (b.length : Int)).bind (fun bt => if o2.length < 4398046511104 then some (m2, t2, mi2, o2 ++ [(⟨bt.1, bt.2⟩ : S41)], b2) else none) = some (m2, t2, mi2, o2 ++ [lenF (b.length : Int)], b2) := by
      rw [refLength_f _ (by omega) (by omega) K hK, Option.bind_some, if_pos (by omega)]
    unfold needS
    by_cases c1 : (b.length : Int) > 0
    · rw [if_pos c1, hlen, decide_eq_true c1, Bool.true_or, if_pos rfl]
    · rw [if_neg c1, decide_eq_false c1, Bool.false_or]
      by_cases c2 : m.toList = [80, 79, 83, 84]
      · rw [if_pos c2, hlen, beq_iff_eq.2 c2, Bool.true_or, if_pos rfl]
      · rw [if_neg c2, beq_eq_false_iff_ne.2 c2, Bool.false_or]
        by_cases c3 : m.toList = [80, 85, 84]
        · rw [if_pos c3, hlen, beq_iff_eq.2 c3, Bool.true_or, if_pos rfl]
        · rw [if_neg c3, beq_eq_false_iff_ne.2 c3, Bool.false_or]
          by_cases c4 : m.toList = [80, 65, 84, 67, 72]
          · rw [if_pos c4, hlen, beq_iff_eq.2 c4, if_pos rfl]
          · rw [if_neg c4, beq_eq_false_iff_ne.2 c4, if_neg (by simp), List.append_nil]
  | succ d ih =>
    intro K i o2 hi hK ho
    have hlt : i < set.length := by omega
    have hw : wrap64 ((i : Int) + 1) = ((i + 1 : Nat) : Int) := by unfold wrap64; omega
    rw [show K + 1 + (d + 1) = (K + 1 + d) + 1 by omega, tollbarref12_Request.l2, if_pos (by omega), if_pos (by omega), if_pos (by omega), rdT_at set i hlt, hw, ih K (i + 1) _ (by omega) hK (by rw [List.length_append]; simp; omega), List.drop_eq_getElem_cons hlt]
    simp only [List.append_assoc, List.singleton_append]
theorem refRequest12_f (m tg : ByteArray) (mi : Int) (fs : List (S41)) (b : List Int) (us : List (S175)) (rts : List (S177)) (set : List (S41)) (drop : List ByteArray) (n4 n5 n6 n7 : Int) (h t : ByteArray)
    (hf : FB fs) (hs : FB set) (hd : drop.length ≤ 1000 ∧ ∀ n ∈ drop, n.size ≤ 1048576) (hb : b.length ≤ 100000) (k : Nat) (hk : 1061000000 ≤ k) :
    tollbarref12_Request.f k m tg mi fs b us rts set drop n4 n5 n6 n7 h t = some (m, t, 1, reqFields m fs b set drop h, b) := by
  have hsl := hs.1
  have hof := onwS_FB fs hf
  have hol := hof.1
  unfold tollbarref12_Request.f
  rw [Join_f b [] k (by simp; omega) (by simp; omega), Option.bind_some, List.append_nil, refOnward_f fs hf k (by omega), Option.bind_some]
  obtain ⟨K, rfl⟩ : ∃ K, k = ((K + 1 + set.length) + 1 + (onwS fs).length) + 1 + set.length := ⟨k - 3 - (onwS fs).length - 2 * set.length, by omega⟩
  have hns : (set.map (·.f0)).length ≤ 1000 ∧ ∀ n ∈ set.map (·.f0), n.size ≤ 1048576 := ⟨by rw [List.length_map]; exact hsl, fun n hn => by obtain ⟨f, hm, rfl⟩ := List.mem_map.1 hn; exact (hs.2 f hm).1⟩
  have h1 := ref_names (onwS fs) m tg mi fs b us rts set hsl drop n4 n5 n6 n7 m t 1 [(⟨(⟨#[72, 111, 115, 116]⟩ : ByteArray), h⟩ : S41)] b set.length ((K + 1 + set.length) + 1 + (onwS fs).length) 0 [] (by omega) (by simp)
  rw [List.drop_zero, List.nil_append] at h1
  have h2 := ref_keep (onwS fs) hof (set.map (·.f0)) hns m tg mi fs b us rts set drop hd n4 n5 n6 n7 m t 1 b (onwS fs).length (K + 1 + set.length) 0 [(⟨(⟨#[72, 111, 115, 116]⟩ : ByteArray), h⟩ : S41)] (by omega) (by omega) (by simp only [List.length_cons, List.length_nil]; omega)
  rw [List.drop_zero] at h2
  have hwl : (withoutS (onwS fs) (drop ++ set.map (·.f0))).length ≤ 1000 := Nat.le_trans (List.length_filter_le _ _) hol
  have h3 := ref_set m tg mi fs b hb us rts set hsl drop n4 n5 n6 n7 m t 1 b set.length K 0 ([(⟨(⟨#[72, 111, 115, 116]⟩ : ByteArray), h⟩ : S41)] ++ withoutS (onwS fs) (drop ++ set.map (·.f0))) (by omega) (by omega) (by simp only [List.length_append, List.length_cons, List.length_nil]; omega)
  rw [List.drop_zero] at h3
  exact (h1.trans h2).trans h3
theorem scrubReq_l0 (h t m tg : ByteArray) (mi : Int) (fs : List (S41)) (b : List Int) (us : List (S175)) (rts : List (S177)) (set : List (S41)) (drop : List ByteArray) (n4 n5 n6 n7 : Int)
    (hf : FB fs) (hs : FB set) (hd : drop.length ≤ 1000 ∧ ∀ n ∈ drop, n.size ≤ 1048576) (hb : b.length ≤ 100000) (d : Nat) : ∀ (k i : Nat), i + d = fs.length → d + 1100000000 ≤ k →
    tollbarlaw12_ScrubRequests.l0 k h t fs (fs.length : Int) (i : Int) m tg mi fs b us rts set drop n4 n5 n6 n7 = some true := by
  have hfl := hf.1
  have hsl := hs.1
  induction d with
  | zero =>
    intro k i hi hk
    obtain ⟨k, rfl⟩ : ∃ m, k = m + 1 := ⟨k - 1, by omega⟩
    have hol := (onwS_FB fs hf).1
    have hw : (withoutS (onwS fs) (drop ++ set.map (·.f0))).length ≤ 1000 := Nat.le_trans (List.length_filter_le _ _) hol
    have hlen : (reqFields m fs b set drop h).length ≤ 100000 := by
      unfold reqFields
      split <;> simp only [List.length_append, List.length_cons, List.length_nil] <;> omega
    rw [tollbarlaw12_ScrubRequests.l0, if_neg (by omega), Request12_f m tg mi fs b us rts set drop n4 n5 n6 n7 h t hf hs hd hb k (by omega), Option.bind_some, refRequest12_f m tg mi fs b us rts set drop n4 n5 n6 n7 h t hf hs hd hb k (by omega), Option.bind_some]
    simp only
    unfold tollbarref08_SameReq.f
    rw [if_pos rfl, if_pos rfl, if_pos rfl, sameF_eq _ (by omega) k (by omega), Option.bind_some, if_pos rfl, sameB_eq b (by omega) k (by omega), Option.bind_some, Option.bind_some]
  | succ d ih =>
    intro k i hi hk
    obtain ⟨k, rfl⟩ : ∃ m, k = m + 1 := ⟨k - 1, by omega⟩
    have hlt : i < fs.length := by omega
    have hbb := hf.2 _ (List.getElem_mem hlt)
    rw [tollbarlaw12_ScrubRequests.l0, if_pos (by omega), if_pos (by omega), if_pos (by omega), rdT_at fs i hlt, Hop_f fs _ hf hbb.1 k (by omega), Option.bind_some, refHop_f fs _ hf hbb.1 k (by omega), Option.bind_some, if_neg (by simp), show wrap64 ((i : Int) + 1) = ((i + 1 : Nat) : Int) by unfold wrap64; omega]
    exact ih k (i + 1) (by omega) (by omega)
theorem ScrubRequestsU (m tg : ByteArray) (mi : Int) (fs : List (S41)) (b : List Int) (us : List (S175)) (rts : List (S177)) (set : List (S41)) (drop : List ByteArray) (n4 n5 n6 n7 : Int) (h t : ByteArray)
    (h0 : (m.size ≤ 1048576 ∧ m.size ≤ maxLen) ∧ ((tg.size ≤ 1048576 ∧ tg.size ≤ maxLen) ∧ ((Lit.int .i64 mi).wf = true ∧ ((fs.length ≤ 1048576 ∧ fs.length ≤ maxLen ∧ ∀ x ∈ fs, (x.f0.size ≤ 1048576 ∧ x.f0.size ≤ maxLen) ∧ (x.f1.size ≤ 1048576 ∧ x.f1.size ≤ maxLen)) ∧ (b.length ≤ 1048576 ∧ b.length ≤ maxLen ∧ ∀ x ∈ b, (Lit.int .u8 x).wf = true)))))
    (h1 : (us.length ≤ 1048576 ∧ us.length ≤ maxLen ∧ ∀ x ∈ us, (x.f0.size ≤ 1048576 ∧ x.f0.size ≤ maxLen) ∧ (x.f1.length ≤ 1048576 ∧ x.f1.length ≤ maxLen ∧ ∀ y ∈ x.f1, y.size ≤ 1048576 ∧ y.size ≤ maxLen)) ∧
      ((rts.length ≤ 1048576 ∧ rts.length ≤ maxLen ∧ ∀ x ∈ rts, (x.f0.size ≤ 1048576 ∧ x.f0.size ≤ maxLen) ∧ ((x.f1.size ≤ 1048576 ∧ x.f1.size ≤ maxLen) ∧ (x.f2.size ≤ 1048576 ∧ x.f2.size ≤ maxLen))) ∧
      ((set.length ≤ 1048576 ∧ set.length ≤ maxLen ∧ ∀ x ∈ set, (x.f0.size ≤ 1048576 ∧ x.f0.size ≤ maxLen) ∧ (x.f1.size ≤ 1048576 ∧ x.f1.size ≤ maxLen)) ∧
      ((drop.length ≤ 1048576 ∧ drop.length ≤ maxLen ∧ ∀ y ∈ drop, y.size ≤ 1048576 ∧ y.size ≤ maxLen) ∧
      ((Lit.int .i64 n4).wf = true ∧ ((Lit.int .i64 n5).wf = true ∧ ((Lit.int .i64 n6).wf = true ∧ (Lit.int .i64 n7).wf = true)))))))
    (_ : h.size ≤ 1048576) (_ : t.size ≤ 1048576) : ∃ k, tollbarlaw12_ScrubRequests.f k m tg mi fs b us rts set drop n4 n5 n6 n7 h t = some true := by
  refine ⟨1200000000, ?_⟩
  obtain ⟨_, _, _, ⟨_, _, hfs⟩, _⟩ := h0
  obtain ⟨_, _, ⟨_, _, hset⟩, ⟨_, _, hdrop⟩, _⟩ := h1
  have ht : tollbarlaw12_ScrubRequests.j0 1200000000 h t true m tg mi fs b us rts set drop n4 n5 n6 n7 = some true := by
    rw [show 1200000000 = 1199999999 + 1 from rfl, tollbarlaw12_ScrubRequests.j0, if_pos rfl]
  unfold tollbarlaw12_ScrubRequests.f
  rw [show tollbarlaw12_alive.f = some true from rfl, Option.bind_some, if_pos rfl]
  unfold tollbarlaw12_few.f
  by_cases c1 : (fs.length : Int) ≤ 60
  · rw [if_pos c1, Option.bind_some]
    by_cases c2 : (drop.length : Int) ≤ 60
    · rw [decide_eq_true c2, if_pos rfl]
      by_cases c3 : (set.length : Int) ≤ 60
      · rw [if_pos c3, Option.bind_some, if_pos (by decide)]
        by_cases c4 : (b.length : Int) > 5000
        · rw [decide_eq_true c4, ht]
        · rw [decide_eq_false c4, show 1200000000 = 1199999999 + 1 from rfl, tollbarlaw12_ScrubRequests.j0, if_neg (by simp)]
          exact scrubReq_l0 h t m tg mi fs b us rts set drop n4 n5 n6 n7 ⟨by omega, fun f hf => ⟨(hfs f hf).1.1, (hfs f hf).2.1⟩⟩ ⟨by omega, fun f hf => ⟨(hset f hf).1.1, (hset f hf).2.1⟩⟩ ⟨by omega, fun n hn => (hdrop n hn).1⟩ (by omega) fs.length 1199999999 0 (by omega) (by omega)
      · rw [if_neg c3, Option.bind_some, if_neg (by simp), ht]
    · rw [decide_eq_false c2, if_neg (by simp), ht]
  · rw [if_neg c1, Option.bind_some, if_neg (by simp), ht]
end Go.Proofs.YtfjeinnemimjoaaDoor.Pure
