/- Each function below answers as its Lean twin says; plain lemmas; a row where its theorem stands. No further condition. (Laid by this repo's pack.py out of its texts and of the print's words.) -/
import Derived.Test.YtfjeinnemimjoaaGreatDoorZ82d83582
import Derived.Test.YtfjeinnemimjoaaGreatDoorZ07f8021a
import Derived.Test.YtfjeinnemimjoaaGreatDoorZ5721e4a3
import Derived.Test.YtfjeinnemimjoaaGreatDoorZ4e30dcf2
import Derived.Lib.IndexBytes
import Derived.Lib.Strings
import Derived.Shelf.Strings.SlTrimAscii
namespace Go.Proofs.YtfjeinnemimjoaaGreatDoor.P
open Go.RowKit Go.Proofs.YtfjeinnemimjoaaGreatDoorW.PrintWords Go.Proofs.YtfjeinnemimjoaaGreatDoorW.PrintLast Go.Proofs.YtfjeinnemimjoaaGreatDoorW.PrintMore
attribute [local go_sem] max2_int min2_int max_two min_two max_three min_three max_four min_four
set_option linter.unusedVariables false
set_option linter.unusedSimpArgs false
def tollbarref12_Response.j0:Nat → Bool → Bool → Int → ByteArray → Int → List (S55) → List Int → Int → ByteArray → Int → List (S55) → Option (Int × ByteArray × Int × (List (S55)) × List Int)
 | 0,_,_,_,_,_,_,_,_,_,_,_=>none
 | k + 1,x2,x31,x469000,x469001,x469002,x469003,x469004,x474000,x474001,x474002,x474003=>if x31=true then ((tollbarref01_Join.f k x469004 (([]:List Int))).bind fun t480=>((tollbarref12_length.f k (x469004.length:Int)).bind fun bt483=>(if x474003.length < 4398046511104 then ((some (x474003 ++ [(⟨bt483.1,bt483.2⟩:S55)]:List (S55))).bind fun y485=>(if x2=true then (if y485.length < 4398046511104 then (some (x474000,x474001,x474002,(y485 ++ [(⟨(⟨#[67,111,110,110,101,99,116,105,111,110]⟩:ByteArray),(⟨#[99,108,111,115,101]⟩:ByteArray)⟩:S55)]),t480)) else (none)) else (some (x474000,x474001,x474002,y485,t480)))) else (none)))) else (if x2=true then (if x474003.length < 4398046511104 then (some (x474000,x474001,x474002,(x474003 ++ [(⟨(⟨#[67,111,110,110,101,99,116,105,111,110]⟩:ByteArray),(⟨#[99,108,111,115,101]⟩:ByteArray)⟩:S55)]),([]:List Int))) else (none)) else (some (x474000,x474001,x474002,x474003,([]:List Int))))
def tollbarref12_Response.f (k:Nat) (a0_0:Int) (a0_1:ByteArray) (a0_2:Int) (l0_3:List (S55)) (l0_4:List Int) (a1:ByteArray) (a2:Bool):Option (Int × ByteArray × Int × (List (S55)) × List Int):=(tollbarref12_onward.f k l0_3).bind fun t470=>((tollbarref07_Response.f k a1 a0_0 a0_1 a0_2 l0_3 l0_4).bind fun bt474=>(if bt474.1=0 then (tollbarref12_Response.j0 k a2 (!bt474.2.2) a0_0 a0_1 a0_2 l0_3 l0_4 a0_0 a0_1 1 t470) else (tollbarref12_Response.j0 k a2 true a0_0 a0_1 a0_2 l0_3 l0_4 a0_0 a0_1 1 t470)))
def tollbarref12_Response.T1:Bool × List (List Nat × List Nat):=(true,[([],[]),([0],[0]),([],[]),([2],[2]),([],[]),([4],[4]),([5],[5]),([1,3,6],[1,3,6]),([],[]),([8,7,6,0,1,2,3,4,5,6,7,8],[7,8])])
def tollbarref12_Response.B1:List Nat:=[0,1,0,4,0,16,48,127,0,511]
theorem tollbarref12_Response.tab1:rtab .any (opsOf Tryz.f16 1)=tollbarref12_Response.T1:=by kernel_rfl
theorem tollbarref12_Response.bits1:waitsOk tollbarref12_Response.T1.2 tollbarref12_Response.B1=true:=by kernel_rfl
def tollbarref12_Response.T5:Bool × List (List Nat × List Nat):=(true,[([],[]),([0],[0]),([],[]),([2],[2]),([3],[3]),([4],[4]),([5],[5]),([1,6,5],[1,6]),([0,1,2,3,4,5,6,7],[]),([8,7,7,0,1,2,3,4,5,6,7],[7,8])])
def tollbarref12_Response.B5:List Nat:=[0,1,0,4,12,28,60,127,255,511]
theorem tollbarref12_Response.tab5:rtab .any (opsOf Tryz.f16 5)=tollbarref12_Response.T5:=by kernel_rfl
theorem tollbarref12_Response.bits5:waitsOk tollbarref12_Response.T5.2 tollbarref12_Response.B5=true:=by kernel_rfl
set_option maxHeartbeats 8000000 in
set_option maxRecDepth 100000 in
theorem tollbarref12_Response.calls (k:Nat) (a0_0:Int) (a0_1:ByteArray) (a0_2:Int) (A0_3:Option Addr) (c0_3:Nat) (l0_3:List (S55)) (A0_4:Option Addr) (c0_4:Nat) (l0_4:List Int) (a1:ByteArray) (a2:Bool) (r1:Int) (r2:ByteArray) (r3:Int) (r4:List (S55)) (r5:List Int) (w:World) (hr0_3:Kd.C k55 w A0_3 l0_3.length l0_3) (hc0_3:l0_3.length ≤ c0_3) (hr0_4:Kd.C (Kd.int .u8) w A0_4 l0_4.length l0_4) (hc0_4:l0_4.length ≤ c0_4) (h:tollbarref12_Response.f k a0_0 a0_1 a0_2 l0_3 l0_4 a1 a2=some (r1,r2,r3,r4,r5)) :
  Calls Tryz.prog 16 #[.agg #[.int .i64 a0_0,.string a0_1,.int .i64 a0_2,.slice A0_3 l0_3.length c0_3,.slice A0_4 l0_4.length c0_4],.string a1,.bool a2] w fun e w' => ∃ v3_ v4_:Value,e = .returned (.agg #[.int .i64 r1,.string r2,.int .i64 r3,v3_,v4_])∧Kd.R k55 55 w' w.heap.size (fun _=>True) v3_ r4∧Kd.R (Kd.int .u8) 5 w' w.heap.size (fun _=>True) v4_ r5∧Below w.heap.size w w' := by
 have hu25:=Tryz.underlying25
 have hu55:=Tryz.underlying55
 have HR0_3:=Aside0.mk hr0_3
 have HC0_3:=Aside0.mk hc0_3
 clear hr0_3 hc0_3
 have HR0_4:=Aside0.mk hr0_4
 have HC0_4:=Aside0.mk hc0_4
 clear hr0_4 hc0_4
 have HB:=Aside0.mk (Below.refl w.heap.size w)
 have H:((tollbarref12_onward.f k l0_3).bind fun t89=>((tollbarref07_Response.f k a1 a0_0 a0_1 a0_2 l0_3 l0_4).bind fun bt98=>(if bt98.1=0 then (tollbarref12_Response.j0 k a2 (!bt98.2.2) a0_0 a0_1 a0_2 l0_3 l0_4 a0_0 a0_1 1 t89) else (tollbarref12_Response.j0 k a2 true a0_0 a0_1 a0_2 l0_3 l0_4 a0_0 a0_1 1 t89))))=some (r1,r2,r3,r4,r5):=h
 clear h
 replace H:=Option.bind_eq_some_iff.mp H
 obtain ⟨t89,A40,H⟩:=H
 replace H:((tollbarref07_Response.f k a1 a0_0 a0_1 a0_2 l0_3 l0_4).bind fun bt98=>(if bt98.1=0 then (tollbarref12_Response.j0 k a2 (!bt98.2.2) a0_0 a0_1 a0_2 l0_3 l0_4 a0_0 a0_1 1 t89) else (tollbarref12_Response.j0 k a2 true a0_0 a0_1 a0_2 l0_3 l0_4 a0_0 a0_1 1 t89)))=some (r1,r2,r3,r4,r5):=H
 have A4:=Aside0.mk A40
 clear A40
 replace H:=Option.bind_eq_some_iff.mp H
 obtain ⟨⟨t98,t475,t476⟩,A50,H⟩:=H
 replace H:(if t98=0 then (tollbarref12_Response.j0 k a2 (!t476) a0_0 a0_1 a0_2 l0_3 l0_4 a0_0 a0_1 1 t89) else (tollbarref12_Response.j0 k a2 true a0_0 a0_1 a0_2 l0_3 l0_4 a0_0 a0_1 1 t89))=some (r1,r2,r3,r4,r5):=H
 have A5:=Aside0.mk A50
 clear A50
 have HC6:=Aside0.mk H
 clear H
 go_enter Tryz.func16,Tryz.ntmps16
 try go_wp2_with (first|((with_reducible refine gate_dst (N:=3) rfl ?_);refine box_event ?hg (N:=3) ?hd (cs:=#[.int .i64 a0_0,.string a0_1,.int .i64 a0_2,.slice A0_3 l0_3.length c0_3,.slice A0_4 l0_4.length c0_4]) (t:=25) ?hr ?_;(case hd=>rfl);(case hg=>rfl);(case hr=>first|(go_simp;done)|(go_simp;rfl));intro gb86 hg w7 hbox hb;have n0_:=Aside0.mk (below_step (by repeat (first|(with_reducible first|exact HB.out|apply below_alloc|apply pw_below_drewN|apply below_drew1)|exact HB.out)) hb);have n1_:=Aside0.mk (hbox);have n2_:=Aside0.mk ((by rw [hg];exact (below_size (by repeat (first|(with_reducible first|exact HB.out|apply below_alloc|apply pw_below_drewN|apply below_drew1)|exact HB.out))):w.heap.size ≤ gb86));have n3_:=Aside0.mk ((by rw [hg];exact (below_size (by repeat (first|(with_reducible first|exact HB.out|apply below_alloc|apply pw_below_drewN|apply below_drew1)|exact HB.out))):w.heap.size ≤ gb86));clear HB;have HB:=n0_;have BK86:=n1_;have GW86:=n2_;have GE86:=n3_;clear n0_ n1_ n2_ n3_;clear hb hbox hg)|((with_reducible refine gate_dst (N:=6) rfl ?_);refine box_event ?hg (N:=6) ?hd (cs:=#[.int .i64 0,.string (⟨#[]⟩:ByteArray),.int .i64 0,.slice none 0 0,.slice none 0 0]) (t:=25) ?hr ?_;(case hd=>rfl);(case hg=>rfl);(case hr=>first|(go_simp;done)|(go_simp;rfl));intro gb87 hg w8 hbox hb;have n0_:=Aside0.mk (blk_below (g:=gb86) (o:=.cells #[.int .i64 a0_0,.string a0_1,.int .i64 a0_2,.slice A0_3 l0_3.length c0_3,.slice A0_4 l0_4.length c0_4] 25 (0,0)) (by (with_reducible repeat (first|refine blk_drewN ?_ _|refine blk_drew ?_|refine blk_alloc ?_ _));exact BK86.out) hb);have n1_:=Aside0.mk (below_step (by repeat (first|(with_reducible first|exact HB.out|apply below_alloc|apply pw_below_drewN|apply below_drew1|refine below_set ?_ GE86.out)|exact HB.out)) hb);have n2_:=Aside0.mk (hbox);have n3_:=Aside0.mk ((by rw [hg];exact (below_size (by repeat (first|(with_reducible first|exact HB.out|apply below_alloc|apply pw_below_drewN|apply below_drew1|refine below_set ?_ GE86.out)|exact HB.out))):w.heap.size ≤ gb87));have n4_:=Aside0.mk ((by rw [hg];exact (below_size (by repeat (first|(with_reducible first|exact HB.out|apply below_alloc|apply pw_below_drewN|apply below_drew1|refine below_set ?_ GE86.out)|exact HB.out))):w.heap.size ≤ gb87));have n5_:=Aside0.mk ((by rw [hg];exact Nat.ne_of_lt (blk_lt (g:=gb86) (o:=.cells #[.int .i64 a0_0,.string a0_1,.int .i64 a0_2,.slice A0_3 l0_3.length c0_3,.slice A0_4 l0_4.length c0_4] 25 (0,0)) (by (with_reducible repeat (first|refine blk_drewN ?_ _|refine blk_drew ?_|refine blk_alloc ?_ _));exact BK86.out)):gb86 ≠ gb87));have n6_:=Aside0.mk ((by rw [hg];exact Nat.ne_of_gt (blk_lt (g:=gb86) (o:=.cells #[.int .i64 a0_0,.string a0_1,.int .i64 a0_2,.slice A0_3 l0_3.length c0_3,.slice A0_4 l0_4.length c0_4] 25 (0,0)) (by (with_reducible repeat (first|refine blk_drewN ?_ _|refine blk_drew ?_|refine blk_alloc ?_ _));exact BK86.out)):gb87 ≠ gb86));clear BK86;clear HB;have BK86:=n0_;have HB:=n1_;have BK87:=n2_;have GW87:=n3_;have GE87:=n4_;have NB86_469:=n5_;have NB87_468:=n6_;clear n0_ n1_ n2_ n3_ n4_ n5_ n6_;clear hb hbox hg))
 replace BK86:=Aside0.mk (blk_drew BK86.out)
 replace BK87:=Aside0.mk (blk_drew BK87.out)
 replace HB:=Aside0.mk (below_drew1 HB.out)
 refine start_ (n:=10) (S:=fun w' => w'.cell? ⟨gb86,0,none⟩=some (.int .i64 a0_0)∧w'.cell? ⟨gb86,1,none⟩=some (.string a0_1)∧w'.cell? ⟨gb86,2,none⟩=some (.int .i64 a0_2)∧w'.cell? ⟨gb86,3,none⟩=some (.slice A0_3 l0_3.length c0_3)∧w'.cell? ⟨gb86,4,none⟩=some (.slice A0_4 l0_4.length c0_4)) (ds:=[]) #[false,false,false,false,false,false,false,false,false,false] (by kernel_rfl) rfl rfl ⟨(blk_cell BK86.out 0).trans rfl,(blk_cell BK86.out 1).trans rfl,(blk_cell BK86.out 2).trans rfl,(blk_cell BK86.out 3).trans rfl,(blk_cell BK86.out 4).trans rfl⟩ (fun hHeld=>?_);refine with_tabW tollbarref12_Response.tab1 tollbarref12_Response.bits1 (fun HT_ HW_=>?_)
 generalize w8.drew=w9 at BK86 BK87 HB hHeld ⊢
 refine pure_ (i:=0) (N:=some 11) (v:=?_) (a' := ?_) #[true,false,false,false,false,false,false,false,false,false] rfl rfl (any_of HT_.out (by kernel_rfl)) (fun _ _ _ h=>h) (Or.inl ⟨by rfl,?_⟩) ?_ ?_
 rotate_left
 ·intro w';go_simp;with_reducible rfl
 rotate_left
 ·simp only [Act.put,zqA,zqB,zqC,i64_w,i32_w];rfl
 refine pure_ (i:=2) (N:=some 13) (v:=?_) (a' := ?_) #[true,false,true,false,false,false,false,false,false,false] rfl rfl (any_of HT_.out (by kernel_rfl)) (fun _ _ _ h=>h) (Or.inl ⟨by rfl,?_⟩) ?_ ?_
 rotate_left
 ·intro w';go_simp;with_reducible rfl
 rotate_left
 ·simp only [Act.put,zqA,zqB,zqC,i64_w,i32_w];rfl
 refine pure_ (i:=4) (N:=some 15) (v:=?_) (a' := ?_) #[true,false,true,false,true,false,false,false,false,false] rfl rfl (any_of HT_.out (by kernel_rfl)) (fun _ _ _ h=>h) (Or.inl ⟨by rfl,?_⟩) ?_ ?_
 rotate_left
 ·intro w';go_simp;with_reducible rfl
 rotate_left
 ·simp only [Act.put,zqA,zqB,zqC,i64_w,i32_w];rfl
 refine take_ (i:=1) (N:=some 12) (v:=?_) (a' := ?_) #[true,true,true,false,true,false,false,false,false,false] rfl rfl (take_ofW HT_.out HW_.out (by kernel_rfl)) (fun _ _ _ h=>h) (Or.inl ⟨by rfl,?_⟩) hHeld ?_ ?_
 rotate_left
 ·rintro w' ⟨s0,s1,s2,s3,s4⟩;go_simp;with_reducible rfl
 rotate_left
 ·simp only [Act.put,zqA,zqB,zqC,i64_w,i32_w];rfl
 refine take_ (i:=3) (N:=some 14) (v:=?_) (a' := ?_) #[true,true,true,true,true,false,false,false,false,false] rfl rfl (take_ofW HT_.out HW_.out (by kernel_rfl)) (fun _ _ _ h=>h) (Or.inl ⟨by rfl,?_⟩) hHeld ?_ ?_
 rotate_left
 ·rintro w' ⟨s0,s1,s2,s3,s4⟩;go_simp;with_reducible rfl
 rotate_left
 ·simp only [Act.put,zqA,zqB,zqC,i64_w,i32_w];rfl
 refine take_ (i:=5) (N:=some 16) (v:=?_) (a' := ?_) #[true,true,true,true,true,true,false,false,false,false] rfl rfl (take_ofW HT_.out HW_.out (by kernel_rfl)) (fun _ _ _ h=>h) (Or.inl ⟨by rfl,?_⟩) hHeld ?_ ?_
 rotate_left
 ·rintro w' ⟨s0,s1,s2,s3,s4⟩;go_simp;with_reducible rfl
 rotate_left
 ·simp only [Act.put,zqA,zqB,zqC,i64_w,i32_w];rfl
 refine join_ (σ:=Value × Nat) 1 #[true,true,true,true,true,true,true,true,true,false] (fun s_=>[(17,s_.1),(7,.pointer (some ⟨s_.2,0,none⟩)),(18,.agg #[.int .i64 a0_0,.string a0_1,.int .i64 1,s_.1,.slice none 0 0])]) (fun s_ w' => (w'.cell? ⟨gb86,0,none⟩=some (.int .i64 a0_0)∧w'.cell? ⟨gb86,1,none⟩=some (.string a0_1)∧w'.cell? ⟨gb86,2,none⟩=some (.int .i64 a0_2)∧w'.cell? ⟨gb86,3,none⟩=some (.slice A0_3 l0_3.length c0_3)∧w'.cell? ⟨gb86,4,none⟩=some (.slice A0_4 l0_4.length c0_4))∧(Kd.R k55 55 w' w.heap.size (fun _=>True) s_.1 t89)∧(w'.heap[gb86]? = some (.cells #[.int .i64 a0_0,.string a0_1,.int .i64 a0_2,.slice A0_3 l0_3.length c0_3,.slice A0_4 l0_4.length c0_4] 25 (0,0)))∧(w'.heap[gb87]? = some (.cells #[.int .i64 0,.string (⟨#[]⟩:ByteArray),.int .i64 0,.slice none 0 0,.slice none 0 0] 25 (0,0)))∧(w'.heap[s_.2]? = some (.cells #[.int .i64 0,.string (⟨#[]⟩:ByteArray),.int .i64 0,.slice none 0 0,.slice none 0 0] 25 (0,0)))∧(w.heap.size ≤ s_.2)∧(w.heap.size ≤ s_.2)∧(gb86 ≠ s_.2)∧(s_.2 ≠ gb86)∧(gb87 ≠ s_.2)∧(s_.2 ≠ gb87)∧(Below w.heap.size w w')) ?_ ?_
 rotate_left
 ·intro hCont
  refine two_ (i:=6) (j:=8) (Ni:=some 17) (Nj:=some 7) #[true,true,true,true,true,true,true,false,false,false] #[true,true,true,true,true,true,false,false,true,false] rfl rfl rfl rfl (two_of HT_.out (by kernel_rfl)) (by decide) (by decide) (fun K hK=>?_) (fun K hK=>?_)
  ·skip
   refine goes_ Tryz.func48 (by kernel_rfl) rfl #[.slice A0_3 l0_3.length c0_3] (by rfl) rfl rfl (by (try simp only [List.map_toArray,List.map_cons,List.map_nil]);first|done|rfl|(simp only [List.length_drop,List.length_take];rfl)) ?_
   with_reducible refine (tollbarref12_onward.calls k _ _ l0_3 t89 _ ?side1 ?side2 A4.out).mono ?_
   (case side1=>repeat (first|exact (Kd.C_below HR0_3.out HB.out)|(with_reducible refine Kd.C_alloc ?_ _)|(with_reducible refine Kd.C_drewN ?_ _)|(with_reducible refine Kd.C_drew ?_)))
   (case side2=>exact HC0_3.out)
   rintro e w10 ⟨v471,rfl,ho0,hb⟩
   refine ⟨_,rfl,?_⟩
   have n0_:=Aside0.mk (Kd.R_lower ho0 (below_size (by repeat (first|(with_reducible first|exact HB.out|apply below_alloc|apply pw_below_drewN|apply below_drew1|refine below_set ?_ GE86.out|refine below_set ?_ GE87.out)|exact HB.out))))
   have n1_:=Aside0.mk (blk_below (g:=gb86) (o:=.cells #[.int .i64 a0_0,.string a0_1,.int .i64 a0_2,.slice A0_3 l0_3.length c0_3,.slice A0_4 l0_4.length c0_4] 25 (0,0)) (by (with_reducible repeat (first|refine blk_drewN ?_ _|refine blk_drew ?_|refine blk_alloc ?_ _));exact BK86.out) hb)
   have n2_:=Aside0.mk (blk_below (g:=gb87) (o:=.cells #[.int .i64 0,.string (⟨#[]⟩:ByteArray),.int .i64 0,.slice none 0 0,.slice none 0 0] 25 (0,0)) (by (with_reducible repeat (first|refine blk_drewN ?_ _|refine blk_drew ?_|refine blk_alloc ?_ _));exact BK87.out) hb)
   have n3_:=Aside0.mk (below_step (by repeat (first|(with_reducible first|exact HB.out|apply below_alloc|apply pw_below_drewN|apply below_drew1|refine below_set ?_ GE86.out|refine below_set ?_ GE87.out)|exact HB.out)) hb)
   clear BK86 BK87 HB
   have HO96:=n0_
   have BK86:=n1_
   have BK87:=n2_
   have HB:=n3_
   clear n0_ n1_ n2_ n3_
   (try clear hb)
   (try clear hb2)
   (try clear hk)
   (try clear hi)
   (try clear ho0)
   obtain ⟨Ao11,co11,eo11⟩:=Kd.R_slice HO96.out
   (first|subst eo11|(injection eo11 with f1_ f2_ f3_;have f4_:=f1_.symm;have f5_:=f3_.symm;clear f1_ f2_ f3_;subst f4_;subst f5_))
   refine hK.out _ _ ⟨(blk_cell BK86.out 0).trans rfl,(blk_cell BK86.out 1).trans rfl,(blk_cell BK86.out 2).trans rfl,(blk_cell BK86.out 3).trans rfl,(blk_cell BK86.out 4).trans rfl⟩ (fun hHeld=>?_)
   clear hK K
   refine norm_ (a' := ?_) ?_ ?_
   rotate_left
   ·show Act.put _ (some 17) _=_
    simp only [Act.put,zqA,zqB,zqC,i64_w,i32_w]
    rfl
   refine pure_ (i:=7) (N:=some 18) (v:=?_) (a' := ?_) #[true,true,true,true,true,true,true,true,false,false] rfl rfl (any_of HT_.out (by kernel_rfl)) (fun _ _ _ h=>h) (Or.inl ⟨by rfl,?_⟩) ?_ ?_
   rotate_left
   ·intro w';go_simp;with_reducible rfl
   rotate_left
   ·simp only [Act.put,zqA,zqB,zqC,i64_w,i32_w];rfl
   refine one_ (i:=8) (N:=some 7) #[true,true,true,true,true,true,true,true,true,false] rfl rfl (one_of HT_.out (by kernel_rfl)) (by decide) (fun K hK=>?_)
   refine box_step ?hg (N:=7) ?hd (cs:=#[.int .i64 0,.string (⟨#[]⟩:ByteArray),.int .i64 0,.slice none 0 0,.slice none 0 0]) (t:=25) ?hr ?_;(case hd=>rfl);(case hg=>rfl);(case hr=>first|(go_simp;done)|(go_simp;rfl))
   intro gb85 hg w12 hbox hb
   have n0_:=Aside0.mk (Kd.R_below (by (with_reducible repeat (first|apply Kd.R_alloc|apply Kd.R_drewN|apply Kd.R_drew));exact HO96.out) hb)
   have n1_:=Aside0.mk (blk_below (g:=gb86) (o:=.cells #[.int .i64 a0_0,.string a0_1,.int .i64 a0_2,.slice A0_3 l0_3.length c0_3,.slice A0_4 l0_4.length c0_4] 25 (0,0)) (by (with_reducible repeat (first|refine blk_drewN ?_ _|refine blk_drew ?_|refine blk_alloc ?_ _));exact BK86.out) hb)
   have n2_:=Aside0.mk (blk_below (g:=gb87) (o:=.cells #[.int .i64 0,.string (⟨#[]⟩:ByteArray),.int .i64 0,.slice none 0 0,.slice none 0 0] 25 (0,0)) (by (with_reducible repeat (first|refine blk_drewN ?_ _|refine blk_drew ?_|refine blk_alloc ?_ _));exact BK87.out) hb)
   have n3_:=Aside0.mk (below_step (by repeat (first|(with_reducible first|exact HB.out|apply below_alloc|apply pw_below_drewN|apply below_drew1|refine below_set ?_ GE86.out|refine below_set ?_ GE87.out)|exact HB.out)) hb)
   have n4_:=Aside0.mk (hbox)
   have n5_:=Aside0.mk ((by rw [hg];exact (below_size (by repeat (first|(with_reducible first|exact HB.out|apply below_alloc|apply pw_below_drewN|apply below_drew1|refine below_set ?_ GE86.out|refine below_set ?_ GE87.out)|exact HB.out))):w.heap.size ≤ gb85))
   have n6_:=Aside0.mk ((by rw [hg];exact (below_size (by repeat (first|(with_reducible first|exact HB.out|apply below_alloc|apply pw_below_drewN|apply below_drew1|refine below_set ?_ GE86.out|refine below_set ?_ GE87.out)|exact HB.out))):w.heap.size ≤ gb85))
   have n7_:=Aside0.mk ((by rw [hg];exact Nat.ne_of_lt (blk_lt (g:=gb86) (o:=.cells #[.int .i64 a0_0,.string a0_1,.int .i64 a0_2,.slice A0_3 l0_3.length c0_3,.slice A0_4 l0_4.length c0_4] 25 (0,0)) (by (with_reducible repeat (first|refine blk_drewN ?_ _|refine blk_drew ?_|refine blk_alloc ?_ _));exact BK86.out)):gb86 ≠ gb85))
   have n8_:=Aside0.mk ((by rw [hg];exact Nat.ne_of_gt (blk_lt (g:=gb86) (o:=.cells #[.int .i64 a0_0,.string a0_1,.int .i64 a0_2,.slice A0_3 l0_3.length c0_3,.slice A0_4 l0_4.length c0_4] 25 (0,0)) (by (with_reducible repeat (first|refine blk_drewN ?_ _|refine blk_drew ?_|refine blk_alloc ?_ _));exact BK86.out)):gb85 ≠ gb86))
   have n9_:=Aside0.mk ((by rw [hg];exact Nat.ne_of_lt (blk_lt (g:=gb87) (o:=.cells #[.int .i64 0,.string (⟨#[]⟩:ByteArray),.int .i64 0,.slice none 0 0,.slice none 0 0] 25 (0,0)) (by (with_reducible repeat (first|refine blk_drewN ?_ _|refine blk_drew ?_|refine blk_alloc ?_ _));exact BK87.out)):gb87 ≠ gb85))
   have n10_:=Aside0.mk ((by rw [hg];exact Nat.ne_of_gt (blk_lt (g:=gb87) (o:=.cells #[.int .i64 0,.string (⟨#[]⟩:ByteArray),.int .i64 0,.slice none 0 0,.slice none 0 0] 25 (0,0)) (by (with_reducible repeat (first|refine blk_drewN ?_ _|refine blk_drew ?_|refine blk_alloc ?_ _));exact BK87.out)):gb85 ≠ gb87))
   clear HO96 BK86 BK87 HB
   have HO96:=n0_
   have BK86:=n1_
   have BK87:=n2_
   have HB:=n3_
   have BK85:=n4_
   have GW85:=n5_
   have GE85:=n6_
   have NB86_473:=n7_
   have NB85_468:=n8_
   have NB87_473:=n9_
   have NB85_469:=n10_
   clear n0_ n1_ n2_ n3_ n4_ n5_ n6_ n7_ n8_ n9_ n10_ hb hbox hg
   refine hK.out _ _ ⟨(blk_cell BK86.out 0).trans rfl,(blk_cell BK86.out 1).trans rfl,(blk_cell BK86.out 2).trans rfl,(blk_cell BK86.out 3).trans rfl,(blk_cell BK86.out 4).trans rfl⟩ (fun hHeld=>?_)
   clear hK K
   refine norm_ (a' := ?_) ?_ ?_
   rotate_left
   ·show Act.put _ (some 7) _=_
    simp only [Act.put,zqA,zqB,zqC,i64_w,i32_w]
    rfl
   exact norm_ (by simp only [putAll,Act.put,zqA,zqB,zqC]) (hCont (.slice Ao11 t89.length co11,gb85) _ ⟨hHeld,(by (with_reducible repeat (first|apply Kd.R_alloc|apply Kd.R_drewN|apply Kd.R_drew));exact HO96.out),(by (with_reducible repeat (first|refine blk_drewN ?_ _|refine blk_drew ?_|refine blk_alloc ?_ _));exact BK86.out),(by (with_reducible repeat (first|refine blk_drewN ?_ _|refine blk_drew ?_|refine blk_alloc ?_ _));exact BK87.out),(by (with_reducible repeat (first|refine blk_drewN ?_ _|refine blk_drew ?_|refine blk_alloc ?_ _));exact BK85.out),GW85.out,GE85.out,NB86_473.out,NB85_468.out,NB87_473.out,NB85_469.out,(by repeat (first|(with_reducible first|exact HB.out|apply below_alloc|apply pw_below_drewN|apply below_drew1|refine below_set ?_ GE86.out|refine below_set ?_ GE87.out|refine below_set ?_ GE85.out)|exact HB.out))⟩)
  ·skip
   refine box_step ?hg (N:=7) ?hd (cs:=#[.int .i64 0,.string (⟨#[]⟩:ByteArray),.int .i64 0,.slice none 0 0,.slice none 0 0]) (t:=25) ?hr ?_;(case hd=>rfl);(case hg=>rfl);(case hr=>first|(go_simp;done)|(go_simp;rfl))
   intro gb85 hg w10 hbox hb
   have n0_:=Aside0.mk (blk_below (g:=gb86) (o:=.cells #[.int .i64 a0_0,.string a0_1,.int .i64 a0_2,.slice A0_3 l0_3.length c0_3,.slice A0_4 l0_4.length c0_4] 25 (0,0)) (by (with_reducible repeat (first|refine blk_drewN ?_ _|refine blk_drew ?_|refine blk_alloc ?_ _));exact BK86.out) hb)
   have n1_:=Aside0.mk (blk_below (g:=gb87) (o:=.cells #[.int .i64 0,.string (⟨#[]⟩:ByteArray),.int .i64 0,.slice none 0 0,.slice none 0 0] 25 (0,0)) (by (with_reducible repeat (first|refine blk_drewN ?_ _|refine blk_drew ?_|refine blk_alloc ?_ _));exact BK87.out) hb)
   have n2_:=Aside0.mk (below_step (by repeat (first|(with_reducible first|exact HB.out|apply below_alloc|apply pw_below_drewN|apply below_drew1|refine below_set ?_ GE86.out|refine below_set ?_ GE87.out)|exact HB.out)) hb)
   have n3_:=Aside0.mk (hbox)
   have n4_:=Aside0.mk ((by rw [hg];exact (below_size (by repeat (first|(with_reducible first|exact HB.out|apply below_alloc|apply pw_below_drewN|apply below_drew1|refine below_set ?_ GE86.out|refine below_set ?_ GE87.out)|exact HB.out))):w.heap.size ≤ gb85))
   have n5_:=Aside0.mk ((by rw [hg];exact (below_size (by repeat (first|(with_reducible first|exact HB.out|apply below_alloc|apply pw_below_drewN|apply below_drew1|refine below_set ?_ GE86.out|refine below_set ?_ GE87.out)|exact HB.out))):w.heap.size ≤ gb85))
   have n6_:=Aside0.mk ((by rw [hg];exact Nat.ne_of_lt (blk_lt (g:=gb86) (o:=.cells #[.int .i64 a0_0,.string a0_1,.int .i64 a0_2,.slice A0_3 l0_3.length c0_3,.slice A0_4 l0_4.length c0_4] 25 (0,0)) (by (with_reducible repeat (first|refine blk_drewN ?_ _|refine blk_drew ?_|refine blk_alloc ?_ _));exact BK86.out)):gb86 ≠ gb85))
   have n7_:=Aside0.mk ((by rw [hg];exact Nat.ne_of_gt (blk_lt (g:=gb86) (o:=.cells #[.int .i64 a0_0,.string a0_1,.int .i64 a0_2,.slice A0_3 l0_3.length c0_3,.slice A0_4 l0_4.length c0_4] 25 (0,0)) (by (with_reducible repeat (first|refine blk_drewN ?_ _|refine blk_drew ?_|refine blk_alloc ?_ _));exact BK86.out)):gb85 ≠ gb86))
   have n8_:=Aside0.mk ((by rw [hg];exact Nat.ne_of_lt (blk_lt (g:=gb87) (o:=.cells #[.int .i64 0,.string (⟨#[]⟩:ByteArray),.int .i64 0,.slice none 0 0,.slice none 0 0] 25 (0,0)) (by (with_reducible repeat (first|refine blk_drewN ?_ _|refine blk_drew ?_|refine blk_alloc ?_ _));exact BK87.out)):gb87 ≠ gb85))
   have n9_:=Aside0.mk ((by rw [hg];exact Nat.ne_of_gt (blk_lt (g:=gb87) (o:=.cells #[.int .i64 0,.string (⟨#[]⟩:ByteArray),.int .i64 0,.slice none 0 0,.slice none 0 0] 25 (0,0)) (by (with_reducible repeat (first|refine blk_drewN ?_ _|refine blk_drew ?_|refine blk_alloc ?_ _));exact BK87.out)):gb85 ≠ gb87))
   clear BK86 BK87 HB
   have BK86:=n0_
   have BK87:=n1_
   have HB:=n2_
   have BK85:=n3_
   have GW85:=n4_
   have GE85:=n5_
   have NB86_473:=n6_
   have NB85_468:=n7_
   have NB87_473:=n8_
   have NB85_469:=n9_
   clear n0_ n1_ n2_ n3_ n4_ n5_ n6_ n7_ n8_ n9_ hb hbox hg
   refine hK.out _ _ ⟨(blk_cell BK86.out 0).trans rfl,(blk_cell BK86.out 1).trans rfl,(blk_cell BK86.out 2).trans rfl,(blk_cell BK86.out 3).trans rfl,(blk_cell BK86.out 4).trans rfl⟩ (fun hHeld=>?_)
   clear hK K
   refine norm_ (a' := ?_) ?_ ?_
   rotate_left
   ·show Act.put _ (some 7) _=_
    simp only [Act.put,zqA,zqB,zqC,i64_w,i32_w]
    rfl
   refine one_ (i:=6) (N:=some 17) #[true,true,true,true,true,true,true,false,true,false] rfl rfl (one_of HT_.out (by kernel_rfl)) (by decide) (fun K hK=>?_)
   refine goes_ Tryz.func48 (by kernel_rfl) rfl #[.slice A0_3 l0_3.length c0_3] (by rfl) rfl rfl (by (try simp only [List.map_toArray,List.map_cons,List.map_nil]);first|done|rfl|(simp only [List.length_drop,List.length_take];rfl)) ?_
   with_reducible refine (tollbarref12_onward.calls k _ _ l0_3 t89 _ ?side1 ?side2 A4.out).mono ?_
   (case side1=>repeat (first|exact (Kd.C_below HR0_3.out HB.out)|(with_reducible refine Kd.C_alloc ?_ _)|(with_reducible refine Kd.C_drewN ?_ _)|(with_reducible refine Kd.C_drew ?_)))
   (case side2=>exact HC0_3.out)
   rintro e w11 ⟨v471,rfl,ho0,hb⟩
   refine ⟨_,rfl,?_⟩
   have n0_:=Aside0.mk (Kd.R_lower ho0 (below_size (by repeat (first|(with_reducible first|exact HB.out|apply below_alloc|apply pw_below_drewN|apply below_drew1|refine below_set ?_ GE86.out|refine below_set ?_ GE87.out|refine below_set ?_ GE85.out)|exact HB.out))))
   have n1_:=Aside0.mk (blk_below (g:=gb86) (o:=.cells #[.int .i64 a0_0,.string a0_1,.int .i64 a0_2,.slice A0_3 l0_3.length c0_3,.slice A0_4 l0_4.length c0_4] 25 (0,0)) (by (with_reducible repeat (first|refine blk_drewN ?_ _|refine blk_drew ?_|refine blk_alloc ?_ _));exact BK86.out) hb)
   have n2_:=Aside0.mk (blk_below (g:=gb87) (o:=.cells #[.int .i64 0,.string (⟨#[]⟩:ByteArray),.int .i64 0,.slice none 0 0,.slice none 0 0] 25 (0,0)) (by (with_reducible repeat (first|refine blk_drewN ?_ _|refine blk_drew ?_|refine blk_alloc ?_ _));exact BK87.out) hb)
   have n3_:=Aside0.mk (blk_below (g:=gb85) (o:=.cells #[.int .i64 0,.string (⟨#[]⟩:ByteArray),.int .i64 0,.slice none 0 0,.slice none 0 0] 25 (0,0)) (by (with_reducible repeat (first|refine blk_drewN ?_ _|refine blk_drew ?_|refine blk_alloc ?_ _));exact BK85.out) hb)
   have n4_:=Aside0.mk (below_step (by repeat (first|(with_reducible first|exact HB.out|apply below_alloc|apply pw_below_drewN|apply below_drew1|refine below_set ?_ GE86.out|refine below_set ?_ GE87.out|refine below_set ?_ GE85.out)|exact HB.out)) hb)
   clear BK86 BK87 BK85 HB
   have HO96:=n0_
   have BK86:=n1_
   have BK87:=n2_
   have BK85:=n3_
   have HB:=n4_
   clear n0_ n1_ n2_ n3_ n4_
   (try clear hb)
   (try clear hb2)
   (try clear hk)
   (try clear hi)
   (try clear ho0)
   obtain ⟨Ao12,co12,eo12⟩:=Kd.R_slice HO96.out
   (first|subst eo12|(injection eo12 with f1_ f2_ f3_;have f4_:=f1_.symm;have f5_:=f3_.symm;clear f1_ f2_ f3_;subst f4_;subst f5_))
   refine hK.out _ _ ⟨(blk_cell BK86.out 0).trans rfl,(blk_cell BK86.out 1).trans rfl,(blk_cell BK86.out 2).trans rfl,(blk_cell BK86.out 3).trans rfl,(blk_cell BK86.out 4).trans rfl⟩ (fun hHeld=>?_)
   clear hK K
   refine norm_ (a' := ?_) ?_ ?_
   rotate_left
   ·show Act.put _ (some 17) _=_
    simp only [Act.put,zqA,zqB,zqC,i64_w,i32_w]
    rfl
   refine pure_ (i:=7) (N:=some 18) (v:=?_) (a' := ?_) #[true,true,true,true,true,true,true,true,true,false] rfl rfl (any_of HT_.out (by kernel_rfl)) (fun _ _ _ h=>h) (Or.inl ⟨by rfl,?_⟩) ?_ ?_
   rotate_left
   ·intro w';go_simp;with_reducible rfl
   rotate_left
   ·simp only [Act.put,zqA,zqB,zqC,i64_w,i32_w];rfl
   exact norm_ (by simp only [putAll,Act.put,zqA,zqB,zqC]) (hCont (.slice Ao12 t89.length co12,gb85) _ ⟨hHeld,(by (with_reducible repeat (first|apply Kd.R_alloc|apply Kd.R_drewN|apply Kd.R_drew));exact HO96.out),(by (with_reducible repeat (first|refine blk_drewN ?_ _|refine blk_drew ?_|refine blk_alloc ?_ _));exact BK86.out),(by (with_reducible repeat (first|refine blk_drewN ?_ _|refine blk_drew ?_|refine blk_alloc ?_ _));exact BK87.out),(by (with_reducible repeat (first|refine blk_drewN ?_ _|refine blk_drew ?_|refine blk_alloc ?_ _));exact BK85.out),GW85.out,GE85.out,NB86_473.out,NB85_468.out,NB87_473.out,NB85_469.out,(by repeat (first|(with_reducible first|exact HB.out|apply below_alloc|apply pw_below_drewN|apply below_drew1|refine below_set ?_ GE86.out|refine below_set ?_ GE87.out|refine below_set ?_ GE85.out)|exact HB.out))⟩)
 rintro ⟨v471,gb85⟩ w13 ⟨hS_,h0_,h1_,h2_,h3_,h4_,h5_,h6_,h7_,h8_,h9_,h10_⟩
 have n0_:Aside0 (Kd.R k55 55 w13 w.heap.size (fun _=>True) v471 t89):=⟨h0_⟩
 have n1_:Aside0 (w13.heap[gb86]? = some (.cells #[.int .i64 a0_0,.string a0_1,.int .i64 a0_2,.slice A0_3 l0_3.length c0_3,.slice A0_4 l0_4.length c0_4] 25 (0,0))):=⟨h1_⟩
 have n2_:Aside0 (w13.heap[gb87]? = some (.cells #[.int .i64 0,.string (⟨#[]⟩:ByteArray),.int .i64 0,.slice none 0 0,.slice none 0 0] 25 (0,0))):=⟨h2_⟩
 have n3_:Aside0 (w13.heap[gb85]? = some (.cells #[.int .i64 0,.string (⟨#[]⟩:ByteArray),.int .i64 0,.slice none 0 0,.slice none 0 0] 25 (0,0))):=⟨h3_⟩
 have n4_:Aside0 (w.heap.size ≤ gb85):=⟨h4_⟩
 have n5_:Aside0 (w.heap.size ≤ gb85):=⟨h5_⟩
 have n6_:Aside0 (gb86 ≠ gb85):=⟨h6_⟩
 have n7_:Aside0 (gb85 ≠ gb86):=⟨h7_⟩
 have n8_:Aside0 (gb87 ≠ gb85):=⟨h8_⟩
 have n9_:Aside0 (gb85 ≠ gb87):=⟨h9_⟩
 have n10_:Aside0 (Below w.heap.size w w13):=⟨h10_⟩
 clear BK86 BK87 HB h0_ h1_ h2_ h3_ h4_ h5_ h6_ h7_ h8_ h9_ h10_
 have HO96:=n0_
 have BK86:=n1_
 have BK87:=n2_
 have BK85:=n3_
 have GW85:=n4_
 have GE85:=n5_
 have NB86_473:=n6_
 have NB85_468:=n7_
 have NB87_473:=n8_
 have NB85_469:=n9_
 have HB:=n10_
 clear n0_ n1_ n2_ n3_ n4_ n5_ n6_ n7_ n8_ n9_ n10_
 have hHeld:w13.cell? ⟨gb86,0,none⟩=some (.int .i64 a0_0)∧w13.cell? ⟨gb86,1,none⟩=some (.string a0_1)∧w13.cell? ⟨gb86,2,none⟩=some (.int .i64 a0_2)∧w13.cell? ⟨gb86,3,none⟩=some (.slice A0_3 l0_3.length c0_3)∧w13.cell? ⟨gb86,4,none⟩=some (.slice A0_4 l0_4.length c0_4):=hS_
 obtain ⟨Ao14,co14,eo14⟩:=Kd.R_slice HO96.out
 (first|subst eo14|(injection eo14 with f1_ f2_ f3_;have f4_:=f1_.symm;have f5_:=f3_.symm;clear f1_ f2_ f3_;subst f4_;subst f5_))
 refine norm_ (a' := ?_) ?_ ?_
 rotate_left
 ·simp only [putAll,Act.put,zqA,zqB,zqC];rfl
 refine one_ (i:=9) (N:=none) #[true,true,true,true,true,true,true,true,true,true] rfl rfl (one_of HT_.out (by kernel_rfl)) (by decide) (fun K hK=>?_)
 have hs15:w13.cell? ⟨gb85,0,none⟩=some (.int .i64 0):=(blk_cell BK85.out 0).trans rfl
 have hfs15:=blk_frozen BK85.out 0
 have hns15_0:=NB86_473.out
 have hns15_1:=NB87_473.out
 have hms15_0:=NB85_468.out
 have hms15_1:=NB85_469.out
 have hs16:w13.cell? ⟨gb85,1,none⟩=some (.string (⟨#[]⟩:ByteArray)):=(blk_cell BK85.out 1).trans rfl
 have hfs16:=blk_frozen BK85.out 1
 have hns16_0:=NB86_473.out
 have hns16_1:=NB87_473.out
 have hms16_0:=NB85_468.out
 have hms16_1:=NB85_469.out
 have hs17:w13.cell? ⟨gb85,2,none⟩=some (.int .i64 0):=(blk_cell BK85.out 2).trans rfl
 have hfs17:=blk_frozen BK85.out 2
 have hns17_0:=NB86_473.out
 have hns17_1:=NB87_473.out
 have hms17_0:=NB85_468.out
 have hms17_1:=NB85_469.out
 have hs18:w13.cell? ⟨gb85,3,none⟩=some (.slice none 0 0):=(blk_cell BK85.out 3).trans rfl
 have hfs18:=blk_frozen BK85.out 3
 have hns18_0:=NB86_473.out
 have hns18_1:=NB87_473.out
 have hms18_0:=NB85_468.out
 have hms18_1:=NB85_469.out
 have hs19:w13.cell? ⟨gb85,4,none⟩=some (.slice none 0 0):=(blk_cell BK85.out 4).trans rfl
 have hfs19:=blk_frozen BK85.out 4
 have hns19_0:=NB86_473.out
 have hns19_1:=NB87_473.out
 have hms19_0:=NB85_468.out
 have hms19_1:=NB85_469.out
 refine skip_ (w1:=?_) (by rfl) rfl ?_ ?_
 rotate_left
 ·go_simp
  rfl
 refine hK.out _ _ ⟨((cell_far (p:=⟨gb85,_,none⟩) NB86_473.out _).trans (((cell_far (p:=⟨gb85,_,none⟩) NB86_473.out _).trans (((cell_far (p:=⟨gb85,_,none⟩) NB86_473.out _).trans (((cell_far (p:=⟨gb85,_,none⟩) NB86_473.out _).trans (((cell_far (p:=⟨gb85,_,none⟩) NB86_473.out _).trans (hHeld.1)))))))))),((cell_far (p:=⟨gb85,_,none⟩) NB86_473.out _).trans (((cell_far (p:=⟨gb85,_,none⟩) NB86_473.out _).trans (((cell_far (p:=⟨gb85,_,none⟩) NB86_473.out _).trans (((cell_far (p:=⟨gb85,_,none⟩) NB86_473.out _).trans (((cell_far (p:=⟨gb85,_,none⟩) NB86_473.out _).trans (hHeld.2.1)))))))))),((cell_far (p:=⟨gb85,_,none⟩) NB86_473.out _).trans (((cell_far (p:=⟨gb85,_,none⟩) NB86_473.out _).trans (((cell_far (p:=⟨gb85,_,none⟩) NB86_473.out _).trans (((cell_far (p:=⟨gb85,_,none⟩) NB86_473.out _).trans (((cell_far (p:=⟨gb85,_,none⟩) NB86_473.out _).trans (hHeld.2.2.1)))))))))),((cell_far (p:=⟨gb85,_,none⟩) NB86_473.out _).trans (((cell_far (p:=⟨gb85,_,none⟩) NB86_473.out _).trans (((cell_far (p:=⟨gb85,_,none⟩) NB86_473.out _).trans (((cell_far (p:=⟨gb85,_,none⟩) NB86_473.out _).trans (((cell_far (p:=⟨gb85,_,none⟩) NB86_473.out _).trans (hHeld.2.2.2.1)))))))))),((cell_far (p:=⟨gb85,_,none⟩) NB86_473.out _).trans (((cell_far (p:=⟨gb85,_,none⟩) NB86_473.out _).trans (((cell_far (p:=⟨gb85,_,none⟩) NB86_473.out _).trans (((cell_far (p:=⟨gb85,_,none⟩) NB86_473.out _).trans (((cell_far (p:=⟨gb85,_,none⟩) NB86_473.out _).trans (hHeld.2.2.2.2))))))))))⟩ (fun hHeld=>?_)
 clear hK K
 refine done_ (done_of HT_.out (by kernel_rfl)) ?_
 have hnb20:=NB86_469.out
 have hnc20:=NB87_468.out
 have hnb21:=NB86_473.out
 have hnc21:=NB85_468.out
 have hcz22_0:w13.cell? ⟨gb86,0,none⟩=some (.int .i64 a0_0):=(blk_cell BK86.out 0).trans rfl
 have hcz22_1:w13.cell? ⟨gb86,1,none⟩=some (.string a0_1):=(blk_cell BK86.out 1).trans rfl
 have hcz22_2:w13.cell? ⟨gb86,2,none⟩=some (.int .i64 a0_2):=(blk_cell BK86.out 2).trans rfl
 have hcz22_3:w13.cell? ⟨gb86,3,none⟩=some (.slice A0_3 l0_3.length c0_3):=(blk_cell BK86.out 3).trans rfl
 have hcz22_4:w13.cell? ⟨gb86,4,none⟩=some (.slice A0_4 l0_4.length c0_4):=(blk_cell BK86.out 4).trans rfl
 have hfz22_0:=blk_frozen BK86.out 0
 have hfz22_1:=blk_frozen BK86.out 1
 have hfz22_2:=blk_frozen BK86.out 2
 have hfz22_3:=blk_frozen BK86.out 3
 have hfz22_4:=blk_frozen BK86.out 4
 go_upto_region 3 with (first|((with_reducible refine gate_callee (f:=49) rfl ?_);refine goesL_ (some 22) rfl rfl Tryz.func49 (by kernel_rfl) rfl #[.string a1,.agg #[.int .i64 a0_0,.string a0_1,.int .i64 a0_2,.slice A0_3 l0_3.length c0_3,.slice A0_4 l0_4.length c0_4]] rfl (by (try simp only [List.map_toArray,List.map_cons,List.map_nil]);first|done|rfl|(simp only [List.length_drop,List.length_take];rfl)) ?_;(with_reducible refine (tollbarref07_Response.calls k a1 a0_0 a0_1 a0_2 _ _ l0_3 _ _ l0_4 t98 t475 t476 _ ?side1 ?side2 ?side3 ?side4 A5.out).mono ?_);(case side1=>exact Kd.C_below HR0_3.out (by repeat (first|(with_reducible first|exact HB.out|apply below_alloc|apply pw_below_drewN|apply below_drew1|refine below_set ?_ GE86.out|refine below_set ?_ GE87.out|refine below_set ?_ GE85.out)|exact HB.out)));(case side2=>exact HC0_3.out);(case side3=>exact Kd.C_below HR0_4.out (by repeat (first|(with_reducible first|exact HB.out|apply below_alloc|apply pw_below_drewN|apply below_drew1|refine below_set ?_ GE86.out|refine below_set ?_ GE87.out|refine below_set ?_ GE85.out)|exact HB.out)));(case side4=>exact HC0_4.out);rintro e w23 ⟨rfl,hb⟩;refine ⟨_,rfl,?_⟩;have n0_:=Aside0.mk (Kd.R_below (by (with_reducible repeat (first|apply Kd.R_alloc|apply Kd.R_drewN|apply Kd.R_drew));exact (Kd.R_mono (Kd.R_far (p:=⟨gb85,4,none⟩) (Kd.R_far (p:=⟨gb85,3,none⟩) (Kd.R_far (p:=⟨gb85,2,none⟩) (Kd.R_far (p:=⟨gb85,1,none⟩) (Kd.R_far (p:=⟨gb85,0,none⟩) (Kd.R_types HO96.out BK85.out (by decide)) (fun _ hk=>hk.2) (.int .i64 a0_0)) (fun _ hk=>hk.2) (.string a0_1)) (fun _ hk=>hk.2) (.int .i64 1)) (fun _ hk=>hk.2) (.slice Ao14 t89.length co14)) (fun _ hk=>hk.2) (.slice none 0 0)) (fun _ h_=>h_.1))) hb);have n1_:=Aside0.mk (blk_below (g:=gb86) (o:=.cells #[.int .i64 a0_0,.string a0_1,.int .i64 a0_2,.slice A0_3 l0_3.length c0_3,.slice A0_4 l0_4.length c0_4] 25 (0,0)) (by (with_reducible repeat (first|refine blk_drewN ?_ _|refine blk_drew ?_|refine blk_alloc ?_ _));refine blk_far ?_ NB86_473.out _;(with_reducible repeat (first|refine blk_drewN ?_ _|refine blk_drew ?_|refine blk_alloc ?_ _));refine blk_far ?_ NB86_473.out _;(with_reducible repeat (first|refine blk_drewN ?_ _|refine blk_drew ?_|refine blk_alloc ?_ _));refine blk_far ?_ NB86_473.out _;(with_reducible repeat (first|refine blk_drewN ?_ _|refine blk_drew ?_|refine blk_alloc ?_ _));refine blk_far ?_ NB86_473.out _;(with_reducible repeat (first|refine blk_drewN ?_ _|refine blk_drew ?_|refine blk_alloc ?_ _));refine blk_far ?_ NB86_473.out _;(with_reducible repeat (first|refine blk_drewN ?_ _|refine blk_drew ?_|refine blk_alloc ?_ _));exact BK86.out) hb);have n2_:=Aside0.mk (blk_below (g:=gb87) (o:=.cells #[.int .i64 0,.string (⟨#[]⟩:ByteArray),.int .i64 0,.slice none 0 0,.slice none 0 0] 25 (0,0)) (by (with_reducible repeat (first|refine blk_drewN ?_ _|refine blk_drew ?_|refine blk_alloc ?_ _));refine blk_far ?_ NB87_473.out _;(with_reducible repeat (first|refine blk_drewN ?_ _|refine blk_drew ?_|refine blk_alloc ?_ _));refine blk_far ?_ NB87_473.out _;(with_reducible repeat (first|refine blk_drewN ?_ _|refine blk_drew ?_|refine blk_alloc ?_ _));refine blk_far ?_ NB87_473.out _;(with_reducible repeat (first|refine blk_drewN ?_ _|refine blk_drew ?_|refine blk_alloc ?_ _));refine blk_far ?_ NB87_473.out _;(with_reducible repeat (first|refine blk_drewN ?_ _|refine blk_drew ?_|refine blk_alloc ?_ _));refine blk_far ?_ NB87_473.out _;(with_reducible repeat (first|refine blk_drewN ?_ _|refine blk_drew ?_|refine blk_alloc ?_ _));exact BK87.out) hb);have n3_:=Aside0.mk (blk_below (g:=gb85) (o:=.cells #[.int .i64 a0_0,.string a0_1,.int .i64 1,.slice Ao14 t89.length co14,.slice none 0 0] 25 (0,0)) (by (with_reducible repeat (first|refine blk_drewN ?_ _|refine blk_drew ?_|refine blk_alloc ?_ _));refine blk_put (cs:=#[.int .i64 a0_0,.string a0_1,.int .i64 1,.slice Ao14 t89.length co14,.slice none 0 0]) ?_ 4 _ rfl;(with_reducible repeat (first|refine blk_drewN ?_ _|refine blk_drew ?_|refine blk_alloc ?_ _));refine blk_put (cs:=#[.int .i64 a0_0,.string a0_1,.int .i64 1,.slice none 0 0,.slice none 0 0]) ?_ 3 _ rfl;(with_reducible repeat (first|refine blk_drewN ?_ _|refine blk_drew ?_|refine blk_alloc ?_ _));refine blk_put (cs:=#[.int .i64 a0_0,.string a0_1,.int .i64 0,.slice none 0 0,.slice none 0 0]) ?_ 2 _ rfl;(with_reducible repeat (first|refine blk_drewN ?_ _|refine blk_drew ?_|refine blk_alloc ?_ _));refine blk_put (cs:=#[.int .i64 a0_0,.string (⟨#[]⟩:ByteArray),.int .i64 0,.slice none 0 0,.slice none 0 0]) ?_ 1 _ rfl;(with_reducible repeat (first|refine blk_drewN ?_ _|refine blk_drew ?_|refine blk_alloc ?_ _));refine blk_put (cs:=#[.int .i64 0,.string (⟨#[]⟩:ByteArray),.int .i64 0,.slice none 0 0,.slice none 0 0]) ?_ 0 _ rfl;(with_reducible repeat (first|refine blk_drewN ?_ _|refine blk_drew ?_|refine blk_alloc ?_ _));exact BK85.out) hb);have n4_:=Aside0.mk (below_step (by repeat (first|(with_reducible first|exact HB.out|apply below_alloc|apply pw_below_drewN|apply below_drew1|refine below_set ?_ GE86.out|refine below_set ?_ GE87.out|refine below_set ?_ GE85.out)|exact HB.out)) hb);clear HO96;clear BK86;clear BK87;clear BK85;clear HB;have HO96:=n0_;have BK86:=n1_;have BK87:=n2_;have BK85:=n3_;have HB:=n4_;clear n0_ n1_ n2_ n3_ n4_;(try clear hb);(try clear hb2);(try clear hk);(try clear hi)))
 (try simp only [Act.put,zqA,zqB,zqC])
 go_cut [31] (fun v31 wc => ∃ (kq:Nat) (x31_5:Bool),v31 = .bool x31_5∧Aside0 (tollbarref12_Response.j0 kq a2 x31_5 a0_0 a0_1 a0_2 l0_3 l0_4 a0_0 a0_1 1 t89=some (r1,r2,r3,r4,r5))∧Aside0 (kq ≤ k)∧Aside0 (Kd.R k55 55 wc w.heap.size (fun _=>True) (.slice Ao14 t89.length co14) t89)∧Aside0 (wc.heap[gb86]? = some (.cells #[.int .i64 a0_0,.string a0_1,.int .i64 a0_2,(.slice A0_3 l0_3.length c0_3),(.slice A0_4 l0_4.length c0_4)] 25 (0,0)))∧Aside0 (wc.heap[gb87]? = some (.cells #[.int .i64 0,.string (⟨#[]⟩:ByteArray),.int .i64 0,(.slice none 0 0),(.slice none 0 0)] 25 (0,0)))∧Aside0 (wc.heap[gb85]? = some (.cells #[.int .i64 a0_0,.string a0_1,.int .i64 1,(.slice Ao14 t89.length co14),(.slice none 0 0)] 25 (0,0)))∧Aside0 (Below w.heap.size w wc))
 case first =>
  have H:=HC6.out
  clear HC6
  by_cases c24:t98=0
  ·rw [if_pos c24] at H
   have c24b0:(t98 == 0)=true:=beq_iff_eq.mpr c24
   have c24b1:(t98 != 0)=false:=bne_eq_false_iff_eq.mpr c24
   clear c24
   (first|rw [c24b0]|(simp only [i64_w,i32_w];rw [c24b0])|rw [c24b1]|skip)
   have H' := Aside0.mk H
   clear H
   go_wp2
   go_meet
   case rel=>exact ⟨_,(!t476),(by first|rfl|(simp;done)|(simp [*];done)),H',⟨by first|omega|exact Nat.le_refl _⟩,⟨by (with_reducible repeat (first|apply Kd.R_alloc|apply Kd.R_drewN|apply Kd.R_drew));exact HO96.out⟩,⟨by (with_reducible repeat (first|refine blk_drewN ?_ _|refine blk_drew ?_|refine blk_alloc ?_ _));exact BK86.out⟩,⟨by (with_reducible repeat (first|refine blk_drewN ?_ _|refine blk_drew ?_|refine blk_alloc ?_ _));exact BK87.out⟩,⟨by (with_reducible repeat (first|refine blk_drewN ?_ _|refine blk_drew ?_|refine blk_alloc ?_ _));exact BK85.out⟩,⟨by repeat (first|(with_reducible first|exact HB.out|apply below_alloc|apply pw_below_drewN|apply below_drew1|refine below_set ?_ GE86.out|refine below_set ?_ GE87.out|refine below_set ?_ GE85.out)|exact HB.out)⟩⟩
  ·rw [if_neg c24] at H
   have c24b0:(t98 == 0)=false:=beq_eq_false_iff_ne.mpr c24
   have c24b1:(t98 != 0)=true:=bne_iff_ne.mpr c24
   (first|rw [c24b0]|(simp only [i64_w,i32_w];rw [c24b0])|rw [c24b1]|skip)
   have H' := Aside0.mk H
   clear H
   go_wp2
   go_meet
   case rel=>exact ⟨_,(true),(by first|rfl|(simp;done)|(simp [*];done)),H',⟨by first|omega|exact Nat.le_refl _⟩,⟨by (with_reducible repeat (first|apply Kd.R_alloc|apply Kd.R_drewN|apply Kd.R_drew));exact HO96.out⟩,⟨by (with_reducible repeat (first|refine blk_drewN ?_ _|refine blk_drew ?_|refine blk_alloc ?_ _));exact BK86.out⟩,⟨by (with_reducible repeat (first|refine blk_drewN ?_ _|refine blk_drew ?_|refine blk_alloc ?_ _));exact BK87.out⟩,⟨by (with_reducible repeat (first|refine blk_drewN ?_ _|refine blk_drew ?_|refine blk_alloc ?_ _));exact BK85.out⟩,⟨by repeat (first|(with_reducible first|exact HB.out|apply below_alloc|apply pw_below_drewN|apply below_drew1|refine below_set ?_ GE86.out|refine below_set ?_ GE87.out|refine below_set ?_ GE85.out)|exact HB.out)⟩⟩
 case rest =>
  clear HC6
  try clear c1
  try clear c2
  try clear p2
  try clear c4
  try clear c16
  try clear c20
  try clear c21
  try clear c24
  try clear c24b0
  try clear c24b1
  try clear hcz22_0
  try clear hcz22_1
  try clear hcz22_2
  try clear hcz22_3
  try clear hcz22_4
  try clear hfz22_0
  try clear hfz22_1
  try clear hfz22_2
  try clear hfz22_3
  try clear hfz22_4
  obtain ⟨kq,x31_5,rfl,HA,HJ5,HO_88,BK86,BK87,BK85,HB⟩:=hcut
  cases kq with
  | zero=>exact absurd HA.out (by simp [tollbarref12_Response.j0])
  | succ kj5 =>
   have H:=HA.out
   clear HA
   simp only [tollbarref12_Response.j0] at H
   by_cases c25:x31_5=true
   ·subst c25
    have H1:((tollbarref01_Join.f kj5 l0_4 (([]:List Int))).bind fun t90=>((tollbarref12_length.f kj5 (l0_4.length:Int)).bind fun bt95=>(if t89.length < 4398046511104 then ((some (t89 ++ [(⟨bt95.1,bt95.2⟩:S55)]:List (S55))).bind fun y91=>(if a2=true then (if y91.length < 4398046511104 then (some (a0_0,a0_1,1,(y91 ++ [(⟨(⟨#[67,111,110,110,101,99,116,105,111,110]⟩:ByteArray),(⟨#[99,108,111,115,101]⟩:ByteArray)⟩:S55)]),t90)) else (none)) else (some (a0_0,a0_1,1,y91,t90)))) else (none))))=some (r1,r2,r3,r4,r5):=by rw [if_pos rfl] at H;exact H
    clear H
    have H:=H1
    clear H1
    obtain ⟨y94,hy94⟩ : ∃ y_:List Int,y_=(([]:List Int)):=⟨_,rfl⟩
    replace H:((tollbarref01_Join.f kj5 l0_4 y94).bind fun t90=>((tollbarref12_length.f kj5 (l0_4.length:Int)).bind fun bt95=>(if t89.length < 4398046511104 then ((some (t89 ++ [(⟨bt95.1,bt95.2⟩:S55)]:List (S55))).bind fun y91=>(if a2=true then (if y91.length < 4398046511104 then (some (a0_0,a0_1,1,(y91 ++ [(⟨(⟨#[67,111,110,110,101,99,116,105,111,110]⟩:ByteArray),(⟨#[99,108,111,115,101]⟩:ByteArray)⟩:S55)]),t90)) else (none)) else (some (a0_0,a0_1,1,y91,t90)))) else (none))))=some (r1,r2,r3,r4,r5):=by first|(rw [hy94];with_reducible exact H)|(have H2_:=(Option.bind_some _ _).symm.trans H;rw [hy94];with_reducible exact H2_)|(have H2_:=(Option.bind_some _ _).symm.trans H;with_reducible exact H2_)|with_reducible exact H|(rw [hy94];exact H)|exact H
    have Ny94:=Aside0.mk hy94
    clear hy94
    replace H:=Option.bind_eq_some_iff.mp H
    obtain ⟨t90,A260,H⟩:=H
    replace H:((tollbarref12_length.f kj5 (l0_4.length:Int)).bind fun bt95=>(if t89.length < 4398046511104 then ((some (t89 ++ [(⟨bt95.1,bt95.2⟩:S55)]:List (S55))).bind fun y91=>(if a2=true then (if y91.length < 4398046511104 then (some (a0_0,a0_1,1,(y91 ++ [(⟨(⟨#[67,111,110,110,101,99,116,105,111,110]⟩:ByteArray),(⟨#[99,108,111,115,101]⟩:ByteArray)⟩:S55)]),t90)) else (none)) else (some (a0_0,a0_1,1,y91,t90)))) else (none)))=some (r1,r2,r3,r4,r5):=H
    have A26:=Aside0.mk A260
    clear A260
    replace H:=Option.bind_eq_some_iff.mp H
    obtain ⟨⟨t95,t484⟩,A270,H⟩:=H
    replace H:(if t89.length < 4398046511104 then ((some (t89 ++ [(⟨t95,t484⟩:S55)]:List (S55))).bind fun y91=>(if a2=true then (if y91.length < 4398046511104 then (some (a0_0,a0_1,1,(y91 ++ [(⟨(⟨#[67,111,110,110,101,99,116,105,111,110]⟩:ByteArray),(⟨#[99,108,111,115,101]⟩:ByteArray)⟩:S55)]),t90)) else (none)) else (some (a0_0,a0_1,1,y91,t90)))) else (none))=some (r1,r2,r3,r4,r5):=H
    have A27:=Aside0.mk A270
    clear A270
    by_cases c28:t89.length < 4398046511104
    ·rw [if_pos c28] at H
     have LMc28:=Aside0.mk c28
     clear c28
     obtain ⟨y91,hy91⟩ : ∃ y_:List (S55),y_=(t89 ++ [(⟨t95,t484⟩:S55)]):=⟨_,rfl⟩
     replace H:(if a2=true then (if y91.length < 4398046511104 then (some (a0_0,a0_1,1,(y91 ++ [(⟨(⟨#[67,111,110,110,101,99,116,105,111,110]⟩:ByteArray),(⟨#[99,108,111,115,101]⟩:ByteArray)⟩:S55)]),t90)) else (none)) else (some (a0_0,a0_1,1,y91,t90)))=some (r1,r2,r3,r4,r5):=by first|(rw [hy91];with_reducible exact H)|(have H2_:=(Option.bind_some _ _).symm.trans H;rw [hy91];with_reducible exact H2_)|(have H2_:=(Option.bind_some _ _).symm.trans H;with_reducible exact H2_)|with_reducible exact H|(rw [hy91];exact H)|exact H
     have Ny91:=Aside0.mk hy91
     clear hy91
     by_cases c29:a2=true
     ·subst c29
      have H1:(if y91.length < 4398046511104 then (some (a0_0,a0_1,1,(y91 ++ [(⟨(⟨#[67,111,110,110,101,99,116,105,111,110]⟩:ByteArray),(⟨#[99,108,111,115,101]⟩:ByteArray)⟩:S55)]),t90)) else (none))=some (r1,r2,r3,r4,r5):=by rw [if_pos rfl] at H;exact H
      clear H
      have H:=H1
      clear H1
      by_cases c30:y91.length < 4398046511104
      ·rw [if_pos c30] at H
       have LMc30:=Aside0.mk c30
       clear c30
       obtain ⟨y97,hy97⟩ : ∃ y_:List (S55),y_=(y91 ++ [(⟨(⟨#[67,111,110,110,101,99,116,105,111,110]⟩:ByteArray),(⟨#[99,108,111,115,101]⟩:ByteArray)⟩:S55)]):=⟨_,rfl⟩
       replace H:(some (a0_0,a0_1,1,y97,t90))=some (r1,r2,r3,r4,r5):=by first|(rw [hy97];with_reducible exact H)|(have H2_:=(Option.bind_some _ _).symm.trans H;rw [hy97];with_reducible exact H2_)|(have H2_:=(Option.bind_some _ _).symm.trans H;with_reducible exact H2_)|with_reducible exact H|(rw [hy97];exact H)|exact H
       have Ny97:=Aside0.mk hy97
       clear hy97
       simp only [Option.some.injEq,Prod.mk.injEq] at H
       obtain ⟨rfl,rfl,rfl,rfl,rfl⟩:=H
       have hnb31:=NB86_469.out
       have hnc31:=NB87_468.out
       have hnb32:=NB86_473.out
       have hnc32:=NB85_468.out
       have hcz33_0:wc.cell? ⟨gb86,0,none⟩=some (.int .i64 a0_0):=(blk_cell BK86.out 0).trans rfl
       have hcz33_1:wc.cell? ⟨gb86,1,none⟩=some (.string a0_1):=(blk_cell BK86.out 1).trans rfl
       have hcz33_2:wc.cell? ⟨gb86,2,none⟩=some (.int .i64 a0_2):=(blk_cell BK86.out 2).trans rfl
       have hcz33_3:wc.cell? ⟨gb86,3,none⟩=some (.slice A0_3 l0_3.length c0_3):=(blk_cell BK86.out 3).trans rfl
       have hcz33_4:wc.cell? ⟨gb86,4,none⟩=some (.slice A0_4 l0_4.length c0_4):=(blk_cell BK86.out 4).trans rfl
       have hfz33_0:=blk_frozen BK86.out 0
       have hfz33_1:=blk_frozen BK86.out 1
       have hfz33_2:=blk_frozen BK86.out 2
       have hfz33_3:=blk_frozen BK86.out 3
       have hfz33_4:=blk_frozen BK86.out 4
       try go_wp2_with (first|((with_reducible refine gate_dst (N:=34) rfl ?_);refine Kd.R_lit (Kd.int .u8) _ 5 ?hg (N:=34) ?hd (xs:=([]:List Int)) (inner:=[]) (ok:=fun _=>True) (okp:=fun _=>True) ?hr ?hp (fun _ hk=>hk) trivial (Below.refl _ _) (Nat.le_refl _) (by simp) ?_;(case hd=>rfl);(case hg=>rfl);(case hr=>first|(go_simp;done)|(go_simp;rfl));(case hp=>exact (Reps.none _ _));intro v478 w34 ho35 hb hg_ hnew_;clear hg_ hnew_;(first|rw [← Ny94.out] at ho35|(simp only [Int.reduceToNat] at ho35;rw [← Ny94.out] at ho35));have n0_:=Aside0.mk (Kd.R_below (by (with_reducible repeat (first|apply Kd.R_alloc|apply Kd.R_drewN|apply Kd.R_drew));exact HO_88.out) hb);have n1_:=Aside0.mk (Kd.R_lower ho35 (below_size (by repeat (first|(with_reducible first|exact HB.out|apply below_alloc|apply pw_below_drewN|apply below_drew1|refine below_set ?_ GE86.out|refine below_set ?_ GE87.out|refine below_set ?_ GE85.out)|exact HB.out))));have n2_:=Aside0.mk (blk_below (g:=gb86) (o:=.cells #[.int .i64 a0_0,.string a0_1,.int .i64 a0_2,.slice A0_3 l0_3.length c0_3,.slice A0_4 l0_4.length c0_4] 25 (0,0)) (by (with_reducible repeat (first|refine blk_drewN ?_ _|refine blk_drew ?_|refine blk_alloc ?_ _));exact BK86.out) hb);have n3_:=Aside0.mk (blk_below (g:=gb87) (o:=.cells #[.int .i64 0,.string (⟨#[]⟩:ByteArray),.int .i64 0,.slice none 0 0,.slice none 0 0] 25 (0,0)) (by (with_reducible repeat (first|refine blk_drewN ?_ _|refine blk_drew ?_|refine blk_alloc ?_ _));exact BK87.out) hb);have n4_:=Aside0.mk (blk_below (g:=gb85) (o:=.cells #[.int .i64 a0_0,.string a0_1,.int .i64 1,.slice Ao14 t89.length co14,.slice none 0 0] 25 (0,0)) (by (with_reducible repeat (first|refine blk_drewN ?_ _|refine blk_drew ?_|refine blk_alloc ?_ _));exact BK85.out) hb);have n5_:=Aside0.mk (below_step (by repeat (first|(with_reducible first|exact HB.out|apply below_alloc|apply pw_below_drewN|apply below_drew1|refine below_set ?_ GE86.out|refine below_set ?_ GE87.out|refine below_set ?_ GE85.out)|exact HB.out)) hb);clear HO_88;clear BK86;clear BK87;clear BK85;clear HB;have HO_88:=n0_;have HO92:=n1_;have BK86:=n2_;have BK87:=n3_;have BK85:=n4_;have HB:=n5_;clear n0_ n1_ n2_ n3_ n4_ n5_;clear hb ho35;obtain ⟨Ao36,co36,eo36⟩:=Kd.R_slice HO92.out;subst eo36)|((with_reducible refine gate_callee (f:=50) rfl ?_);refine goesL_ (some 35) rfl rfl Tryz.func50 (by kernel_rfl) rfl #[.slice A0_4 l0_4.length c0_4,.slice Ao36 y94.length co36] rfl (by (try simp only [List.map_toArray,List.map_cons,List.map_nil]);first|done|rfl|(simp only [List.length_drop,List.length_take];rfl)) ?_;(with_reducible refine (tollbarref01_Join.calls kj5 _ _ l0_4 _ _ y94 t90 _ ?side1 ?side2 ?side3 ?side4 A26.out).mono ?_);(case side1=>repeat (first|exact (Kd.C_below HR0_4.out HB.out)|(with_reducible refine Kd.C_alloc ?_ _)|(with_reducible refine Kd.C_drewN ?_ _)|(with_reducible refine Kd.C_drew ?_)));(case side2=>exact HC0_4.out);(case side3=>repeat (first|exact (Kd.R_reads' HO92.out).2.2|(with_reducible refine Kd.C_alloc ?_ _)|(with_reducible refine Kd.C_drewN ?_ _)|(with_reducible refine Kd.C_drew ?_)));(case side4=>exact (Kd.R_reads' HO92.out).2.1);rintro e w37 ⟨v481,rfl,ho0,hb⟩;(try clear A26);refine ⟨_,rfl,?_⟩;have n0_:=Aside0.mk (Kd.R_below (by (with_reducible repeat (first|apply Kd.R_alloc|apply Kd.R_drewN|apply Kd.R_drew));exact HO_88.out) hb);have n1_:=Aside0.mk (Kd.R_elder' (by (with_reducible repeat (first|apply Kd.R_alloc|apply Kd.R_drewN|apply Kd.R_drew));exact HO92.out) (Kd.R_base ho0) hb);have n2_:=Aside0.mk (Kd.R_lower (Kd.R_new' ho0 (Kd.R_lt (by (with_reducible repeat (first|apply Kd.R_alloc|apply Kd.R_drewN|apply Kd.R_drew));exact HO92.out))) (below_size (by repeat (first|(with_reducible first|exact HB.out|apply below_alloc|apply pw_below_drewN|apply below_drew1|refine below_set ?_ GE86.out|refine below_set ?_ GE87.out|refine below_set ?_ GE85.out)|exact HB.out))));have n3_:=Aside0.mk (blk_below (g:=gb86) (o:=.cells #[.int .i64 a0_0,.string a0_1,.int .i64 a0_2,.slice A0_3 l0_3.length c0_3,.slice A0_4 l0_4.length c0_4] 25 (0,0)) (by (with_reducible repeat (first|refine blk_drewN ?_ _|refine blk_drew ?_|refine blk_alloc ?_ _));exact BK86.out) hb);have n4_:=Aside0.mk (blk_below (g:=gb87) (o:=.cells #[.int .i64 0,.string (⟨#[]⟩:ByteArray),.int .i64 0,.slice none 0 0,.slice none 0 0] 25 (0,0)) (by (with_reducible repeat (first|refine blk_drewN ?_ _|refine blk_drew ?_|refine blk_alloc ?_ _));exact BK87.out) hb);have n5_:=Aside0.mk (blk_below (g:=gb85) (o:=.cells #[.int .i64 a0_0,.string a0_1,.int .i64 1,.slice Ao14 t89.length co14,.slice none 0 0] 25 (0,0)) (by (with_reducible repeat (first|refine blk_drewN ?_ _|refine blk_drew ?_|refine blk_alloc ?_ _));exact BK85.out) hb);have n6_:=Aside0.mk (below_step (by repeat (first|(with_reducible first|exact HB.out|apply below_alloc|apply pw_below_drewN|apply below_drew1|refine below_set ?_ GE86.out|refine below_set ?_ GE87.out|refine below_set ?_ GE85.out)|exact HB.out)) hb);clear HO_88;clear HO92;clear BK86;clear BK87;clear BK85;clear HB;have HO_88:=n0_;have HO92:=n1_;have HO93:=n2_;have BK86:=n3_;have BK87:=n4_;have BK85:=n5_;have HB:=n6_;clear n0_ n1_ n2_ n3_ n4_ n5_ n6_;(try clear hb);(try clear hb2);(try clear hk);(try clear hi);(try clear ho0);obtain ⟨Ao38,co38,eo38⟩:=Kd.R_slice HO93.out;subst eo38;have hnb39:=NB85_469.out;have hnc39:=NB87_473.out;have hcz40_0:w37.cell? ⟨gb85,0,none⟩=some (.int .i64 a0_0):=(blk_cell BK85.out 0).trans rfl;have hcz40_1:w37.cell? ⟨gb85,1,none⟩=some (.string a0_1):=(blk_cell BK85.out 1).trans rfl;have hcz40_2:w37.cell? ⟨gb85,2,none⟩=some (.int .i64 1):=(blk_cell BK85.out 2).trans rfl;have hcz40_3:w37.cell? ⟨gb85,3,none⟩=some (.slice Ao14 t89.length co14):=(blk_cell BK85.out 3).trans rfl;have hcz40_4:w37.cell? ⟨gb85,4,none⟩=some (.slice none 0 0):=(blk_cell BK85.out 4).trans rfl;have hfz40_0:=blk_frozen BK85.out 0;have hfz40_1:=blk_frozen BK85.out 1;have hfz40_2:=blk_frozen BK85.out 2;have hfz40_3:=blk_frozen BK85.out 3;have hfz40_4:=blk_frozen BK85.out 4))
       have n0_:Aside0 (Kd.R k55 55 (w37.setCell ⟨gb85,4,none⟩ (.slice Ao38 t90.length co38)) w.heap.size (fun _=>True) (.slice Ao14 t89.length co14) t89):=⟨by (with_reducible repeat (first|apply Kd.R_alloc|apply Kd.R_drewN|apply Kd.R_drew));exact Kd.R_mono (Kd.R_far (p:=⟨gb85,4,none⟩) (Kd.R_types HO_88.out BK85.out (by decide)) (fun _ hk=>hk.2) (.slice Ao38 t90.length co38)) (fun _ hk=>trivial)⟩
       have n1_:Aside0 (Kd.R (Kd.int .u8) 5 (w37.setCell ⟨gb85,4,none⟩ (.slice Ao38 t90.length co38)) w.heap.size (fun k_=>some k_ ≠ (.slice Ao38 t90.length co38:Value).ownBlock) (.slice Ao36 y94.length co36) y94):=⟨by (with_reducible repeat (first|apply Kd.R_alloc|apply Kd.R_drewN|apply Kd.R_drew));exact Kd.R_mono (Kd.R_far (p:=⟨gb85,4,none⟩) (Kd.R_types HO92.out BK85.out (by decide)) (fun _ hk=>hk.2) (.slice Ao38 t90.length co38)) (fun _ hk=>hk.1.2)⟩
       have n2_:Aside0 (Kd.R (Kd.int .u8) 5 (w37.setCell ⟨gb85,4,none⟩ (.slice Ao38 t90.length co38)) w.heap.size (fun k_=>some k_ ≠ (.slice Ao36 y94.length co36:Value).ownBlock) (.slice Ao38 t90.length co38) t90):=⟨by (with_reducible repeat (first|apply Kd.R_alloc|apply Kd.R_drewN|apply Kd.R_drew));exact Kd.R_mono (Kd.R_far (p:=⟨gb85,4,none⟩) (Kd.R_types HO93.out BK85.out (by decide)) (fun _ hk=>hk.2) (.slice Ao38 t90.length co38)) (fun _ hk=>hk.1.2)⟩
       have n3_:Aside0 ((w37.setCell ⟨gb85,4,none⟩ (.slice Ao38 t90.length co38)).heap[gb86]? = some (.cells #[.int .i64 a0_0,.string a0_1,.int .i64 a0_2,.slice A0_3 l0_3.length c0_3,.slice A0_4 l0_4.length c0_4] 25 (0,0))):=⟨by (with_reducible repeat (first|refine blk_drewN ?_ _|refine blk_drew ?_|refine blk_alloc ?_ _));refine blk_far ?_ NB86_473.out _;(with_reducible repeat (first|refine blk_drewN ?_ _|refine blk_drew ?_|refine blk_alloc ?_ _));exact BK86.out⟩
       have n4_:Aside0 ((w37.setCell ⟨gb85,4,none⟩ (.slice Ao38 t90.length co38)).heap[gb87]? = some (.cells #[.int .i64 0,.string (⟨#[]⟩:ByteArray),.int .i64 0,.slice none 0 0,.slice none 0 0] 25 (0,0))):=⟨by (with_reducible repeat (first|refine blk_drewN ?_ _|refine blk_drew ?_|refine blk_alloc ?_ _));refine blk_far ?_ NB87_473.out _;(with_reducible repeat (first|refine blk_drewN ?_ _|refine blk_drew ?_|refine blk_alloc ?_ _));exact BK87.out⟩
       have n5_:Aside0 ((w37.setCell ⟨gb85,4,none⟩ (.slice Ao38 t90.length co38)).heap[gb85]? = some (.cells #[.int .i64 a0_0,.string a0_1,.int .i64 1,.slice Ao14 t89.length co14,.slice Ao38 t90.length co38] 25 (0,0))):=⟨by (with_reducible repeat (first|refine blk_drewN ?_ _|refine blk_drew ?_|refine blk_alloc ?_ _));refine blk_put (cs:=#[.int .i64 a0_0,.string a0_1,.int .i64 1,.slice Ao14 t89.length co14,.slice none 0 0]) ?_ 4 _ rfl;(with_reducible repeat (first|refine blk_drewN ?_ _|refine blk_drew ?_|refine blk_alloc ?_ _));exact BK85.out⟩
       have n6_:Aside0 (Below w.heap.size w (w37.setCell ⟨gb85,4,none⟩ (.slice Ao38 t90.length co38))):=⟨by repeat (first|(with_reducible first|exact HB.out|apply below_alloc|apply pw_below_drewN|apply below_drew1|refine below_set ?_ GE86.out|refine below_set ?_ GE87.out|refine below_set ?_ GE85.out)|exact HB.out)⟩
       (try clear HO_88)
       (try clear HO92)
       (try clear HO93)
       (try clear BK86)
       (try clear BK87)
       (try clear BK85)
       (try clear HB)
       generalize (w37.setCell ⟨gb85,4,none⟩ (.slice Ao38 t90.length co38))=w41 at n0_ n1_ n2_ n3_ n4_ n5_ n6_ ⊢
       have HO_88:=n0_
       have HO92:=n1_
       have HO93:=n2_
       have BK86:=n3_
       have BK87:=n4_
       have BK85:=n5_
       have HB:=n6_
       clear n0_ n1_ n2_ n3_ n4_ n5_ n6_
       replace HO_88:=Aside0.mk (Kd.R_drew HO_88.out)
       replace HO92:=Aside0.mk (Kd.R_drew HO92.out)
       replace HO93:=Aside0.mk (Kd.R_drew HO93.out)
       replace BK86:=Aside0.mk (blk_drew BK86.out)
       replace BK87:=Aside0.mk (blk_drew BK87.out)
       replace BK85:=Aside0.mk (blk_drew BK85.out)
       replace HB:=Aside0.mk (below_drew1 HB.out)
       refine start_ (n:=10) (S:=fun w' => w'.cell? ⟨gb85,0,none⟩=some (.int .i64 a0_0)∧w'.cell? ⟨gb85,1,none⟩=some (.string a0_1)∧w'.cell? ⟨gb85,2,none⟩=some (.int .i64 1)∧w'.cell? ⟨gb85,3,none⟩=some (.slice Ao14 t89.length co14)∧w'.cell? ⟨gb85,4,none⟩=some (.slice Ao38 t90.length co38)∧w'.cell? ⟨gb86,0,none⟩=some (.int .i64 a0_0)∧w'.cell? ⟨gb86,1,none⟩=some (.string a0_1)∧w'.cell? ⟨gb86,2,none⟩=some (.int .i64 a0_2)∧w'.cell? ⟨gb86,3,none⟩=some (.slice A0_3 l0_3.length c0_3)∧w'.cell? ⟨gb86,4,none⟩=some (.slice A0_4 l0_4.length c0_4)) (ds:=[9]) #[false,false,false,false,false,false,false,false,false,false] (by kernel_rfl) rfl rfl ⟨(blk_cell BK85.out 0).trans rfl,(blk_cell BK85.out 1).trans rfl,(blk_cell BK85.out 2).trans rfl,(blk_cell BK85.out 3).trans rfl,(blk_cell BK85.out 4).trans rfl,(blk_cell BK86.out 0).trans rfl,(blk_cell BK86.out 1).trans rfl,(blk_cell BK86.out 2).trans rfl,(blk_cell BK86.out 3).trans rfl,(blk_cell BK86.out 4).trans rfl⟩ (fun hHeld=>?_);refine with_tabW tollbarref12_Response.tab5 tollbarref12_Response.bits5 (fun HT_ HW_=>?_)
       generalize w41.drew=w42 at HO_88 HO92 HO93 BK86 BK87 BK85 HB hHeld ⊢
       refine pure_ (i:=0) (N:=some 37) (v:=?_) (a' := ?_) #[true,false,false,false,false,false,false,false,false,false] rfl rfl (any_of HT_.out (by kernel_rfl)) (fun _ _ _ h=>h) (Or.inl ⟨by rfl,?_⟩) ?_ ?_
       rotate_left
       ·intro w';go_simp;with_reducible rfl
       rotate_left
       ·simp only [Act.put,zqA,zqB,zqC,i64_w,i32_w];rfl
       refine pure_ (i:=2) (N:=some 39) (v:=?_) (a' := ?_) #[true,false,true,false,false,false,false,false,false,false] rfl rfl (any_of HT_.out (by kernel_rfl)) (fun _ _ _ h=>h) (Or.inl ⟨by rfl,?_⟩) ?_ ?_
       rotate_left
       ·intro w';go_simp;with_reducible rfl
       rotate_left
       ·simp only [Act.put,zqA,zqB,zqC,i64_w,i32_w];rfl
       refine take_ (i:=1) (N:=some 38) (v:=?_) (a' := ?_) #[true,true,true,false,false,false,false,false,false,false] rfl rfl (take_ofW HT_.out HW_.out (by kernel_rfl)) (fun _ _ _ h=>h) (Or.inl ⟨by rfl,?_⟩) hHeld ?_ ?_
       rotate_left
       ·rintro w' ⟨s0,s1,s2,s3,s4,s5,s6,s7,s8,s9⟩;go_simp;with_reducible rfl
       rotate_left
       ·simp only [Act.put,zqA,zqB,zqC,i64_w,i32_w];rfl
       refine take_ (i:=3) (N:=some 40) (v:=?_) (a' := ?_) #[true,true,true,true,false,false,false,false,false,false] rfl rfl (take_ofW HT_.out HW_.out (by kernel_rfl)) (fun _ _ _ h=>h) (Or.inl ⟨by rfl,?_⟩) hHeld ?_ ?_
       rotate_left
       ·rintro w' ⟨s0,s1,s2,s3,s4,s5,s6,s7,s8,s9⟩;go_simp;with_reducible rfl
       rotate_left
       ·simp only [Act.put,zqA,zqB,zqC,i64_w,i32_w];rfl
       refine pure_ (i:=4) (N:=some 41) (v:=?_) (a' := ?_) #[true,true,true,true,true,false,false,false,false,false] rfl rfl (any_of HT_.out (by kernel_rfl)) (fun _ _ _ h=>h) (Or.inl ⟨by rfl,?_⟩) ?_ ?_
       rotate_left
       ·intro w';go_simp;with_reducible rfl
       rotate_left
       ·simp only [Act.put,zqA,zqB,zqC,i64_w,i32_w];rfl
       refine one_ (i:=5) (N:=some 42) #[true,true,true,true,true,true,false,false,false,false] rfl rfl (one_of HT_.out (by kernel_rfl)) (by decide) (fun K hK=>?_)
       refine goes_ Tryz.func51 (by kernel_rfl) rfl #[.int .i64 (l0_4.length:Int)] (by rfl) rfl rfl (by (try simp only [List.map_toArray,List.map_cons,List.map_nil]);first|done|rfl|(simp only [List.length_drop,List.length_take];rfl)) ?_
       with_reducible refine (tollbarref12_length.calls kj5 (l0_4.length:Int) t95 t484 _ A27.out).mono ?_
       rintro e w43 ⟨rfl,hb⟩
       refine ⟨_,rfl,?_⟩
       replace HO_88:=Aside0.mk (Kd.R_below (by (with_reducible repeat (first|apply Kd.R_alloc|apply Kd.R_drewN|apply Kd.R_drew));exact HO_88.out) hb)
       replace HO92:=Aside0.mk (Kd.R_below (by (with_reducible repeat (first|apply Kd.R_alloc|apply Kd.R_drewN|apply Kd.R_drew));exact HO92.out) hb)
       replace HO93:=Aside0.mk (Kd.R_below (by (with_reducible repeat (first|apply Kd.R_alloc|apply Kd.R_drewN|apply Kd.R_drew));exact HO93.out) hb)
       replace BK86:=Aside0.mk (blk_below (g:=gb86) (o:=.cells #[.int .i64 a0_0,.string a0_1,.int .i64 a0_2,.slice A0_3 l0_3.length c0_3,.slice A0_4 l0_4.length c0_4] 25 (0,0)) (by (with_reducible repeat (first|refine blk_drewN ?_ _|refine blk_drew ?_|refine blk_alloc ?_ _));exact BK86.out) hb)
       replace BK87:=Aside0.mk (blk_below (g:=gb87) (o:=.cells #[.int .i64 0,.string (⟨#[]⟩:ByteArray),.int .i64 0,.slice none 0 0,.slice none 0 0] 25 (0,0)) (by (with_reducible repeat (first|refine blk_drewN ?_ _|refine blk_drew ?_|refine blk_alloc ?_ _));exact BK87.out) hb)
       replace BK85:=Aside0.mk (blk_below (g:=gb85) (o:=.cells #[.int .i64 a0_0,.string a0_1,.int .i64 1,.slice Ao14 t89.length co14,.slice Ao38 t90.length co38] 25 (0,0)) (by (with_reducible repeat (first|refine blk_drewN ?_ _|refine blk_drew ?_|refine blk_alloc ?_ _));exact BK85.out) hb)
       replace HB:=Aside0.mk (below_step (by repeat (first|(with_reducible first|exact HB.out|apply below_alloc|apply pw_below_drewN|apply below_drew1|refine below_set ?_ GE86.out|refine below_set ?_ GE87.out|refine below_set ?_ GE85.out)|exact HB.out)) hb)
       (try clear hb)
       (try clear hb2)
       (try clear hk)
       (try clear hi)
       refine hK.out _ _ ⟨(blk_cell BK85.out 0).trans rfl,(blk_cell BK85.out 1).trans rfl,(blk_cell BK85.out 2).trans rfl,(blk_cell BK85.out 3).trans rfl,(blk_cell BK85.out 4).trans rfl,(blk_cell BK86.out 0).trans rfl,(blk_cell BK86.out 1).trans rfl,(blk_cell BK86.out 2).trans rfl,(blk_cell BK86.out 3).trans rfl,(blk_cell BK86.out 4).trans rfl⟩ (fun hHeld=>?_)
       clear hK K
       refine norm_ (a' := ?_) ?_ ?_
       rotate_left
       ·show Act.put _ (some 42) _=_
        simp only [Act.put,zqA,zqB,zqC,i64_w,i32_w]
        rfl
       refine one_ (i:=6) (N:=some 43) #[true,true,true,true,true,true,true,false,false,false] rfl rfl (one_of HT_.out (by kernel_rfl)) (by decide) (fun K hK=>?_)
       refine value_ (w1:=?_) (v:=?_) (by rfl) rfl ?_ ?_
       rotate_left 2
       ·go_simp
        constructor
        ·rfl
        ·rfl
       refine hK.out _ _ ⟨(blk_cell (blk_alloc BK85.out _) 0).trans rfl,(blk_cell (blk_alloc BK85.out _) 1).trans rfl,(blk_cell (blk_alloc BK85.out _) 2).trans rfl,(blk_cell (blk_alloc BK85.out _) 3).trans rfl,(blk_cell (blk_alloc BK85.out _) 4).trans rfl,(blk_cell (blk_alloc BK86.out _) 0).trans rfl,(blk_cell (blk_alloc BK86.out _) 1).trans rfl,(blk_cell (blk_alloc BK86.out _) 2).trans rfl,(blk_cell (blk_alloc BK86.out _) 3).trans rfl,(blk_cell (blk_alloc BK86.out _) 4).trans rfl⟩ (fun hHeld=>?_)
       clear hK K
       refine norm_ (a' := ?_) ?_ ?_
       rotate_left
       ·show Act.put _ (some 43) _=_
        simp only [Act.put,zqA,zqB,zqC,i64_w,i32_w]
        rfl
       refine one_ (i:=7) (N:=some 44) #[true,true,true,true,true,true,true,true,false,false] rfl rfl (one_of HT_.out (by kernel_rfl)) (by decide) (fun K hK=>?_)
       refine Kd.R_append_step k55 (w0:=w) w.heap.size (by rfl) (.tmp 38) (.tmp 43) 22 55 (.agg #[(.string ⟨#[]⟩),(.string ⟨#[]⟩)]) 32 rfl Tryz.underlying22 info55 rfl (by decide) (by omega) (.slice Ao14 t89.length co14) t89 (⟨t95,t484⟩:S55) [.string t95,.string t484] (fun _=>True) (fun _=>False) rfl rfl ?aP (fun _ hk=>hk.elim) ?aF ?aO ?aB ?aS ?aL ?_
       (case aP=>exact k55_mkM _ _ _ (⟨t95,t484⟩:S55))
       (case aB=>exact (by repeat (first|(with_reducible first|exact HB.out|apply below_alloc|apply pw_below_drewN|apply below_drew1|refine below_set ?_ GE86.out|refine below_set ?_ GE87.out|refine below_set ?_ GE85.out)|exact HB.out)))
       (case aF=>exact (fun _ _=>trivial))
       (case aO=>exact (by (with_reducible repeat (first|apply Kd.R_alloc|apply Kd.R_drewN|apply Kd.R_drew));exact HO_88.out))
       (case aS=>exact (below_size (by repeat (first|(with_reducible first|exact HB.out|apply below_alloc|apply pw_below_drewN|apply below_drew1|refine below_set ?_ GE86.out|refine below_set ?_ GE87.out|refine below_set ?_ GE85.out)|exact HB.out))))
       (case aL=>have:=LMc28.out;omega)
       intro v486 w44 ho hb hg hat
       rw [← Ny91.out] at ho
       have n0_:=Aside0.mk (blk_grown (g:=gb86) (o:=.cells #[.int .i64 a0_0,.string a0_1,.int .i64 a0_2,.slice A0_3 l0_3.length c0_3,.slice A0_4 l0_4.length c0_4] 25 (0,0)) (by (with_reducible repeat (first|refine blk_drewN ?_ _|refine blk_drew ?_|refine blk_alloc ?_ _));exact BK86.out) hg (Kd.R_ne HO_88.out BK86.out (by decide)))
       have n1_:=Aside0.mk (blk_grown (g:=gb87) (o:=.cells #[.int .i64 0,.string (⟨#[]⟩:ByteArray),.int .i64 0,.slice none 0 0,.slice none 0 0] 25 (0,0)) (by (with_reducible repeat (first|refine blk_drewN ?_ _|refine blk_drew ?_|refine blk_alloc ?_ _));exact BK87.out) hg (Kd.R_ne HO_88.out BK87.out (by decide)))
       have n2_:=Aside0.mk (blk_grown (g:=gb85) (o:=.cells #[.int .i64 a0_0,.string a0_1,.int .i64 1,.slice Ao14 t89.length co14,.slice Ao38 t90.length co38] 25 (0,0)) (by (with_reducible repeat (first|refine blk_drewN ?_ _|refine blk_drew ?_|refine blk_alloc ?_ _));exact BK85.out) hg (Kd.R_ne HO_88.out BK85.out (by decide)))
       have n3_:=Aside0.mk (Kd.R_over' (by (with_reducible repeat (first|apply Kd.R_alloc|apply Kd.R_drewN|apply Kd.R_drew));exact HO92.out) (Kd.R_typed (by (with_reducible repeat (first|apply Kd.R_alloc|apply Kd.R_drewN|apply Kd.R_drew));exact HO_88.out)) (by decide) hg)
       have n4_:=Aside0.mk (Kd.R_over' (by (with_reducible repeat (first|apply Kd.R_alloc|apply Kd.R_drewN|apply Kd.R_drew));exact HO93.out) (Kd.R_typed (by (with_reducible repeat (first|apply Kd.R_alloc|apply Kd.R_drewN|apply Kd.R_drew));exact HO_88.out)) (by decide) hg)
       have n5_:=Aside0.mk (hb)
       have n6_:=Aside0.mk (ho)
       clear BK86 BK87 BK85 HO92 HO93 HB HO_88
       have BK86:=n0_
       have BK87:=n1_
       have BK85:=n2_
       have HO92:=n3_
       have HO93:=n4_
       have HB:=n5_
       have HO487:=n6_
       clear n0_ n1_ n2_ n3_ n4_ n5_ n6_ ho hb hg hat
       obtain ⟨Ao45,co45,eo45⟩:=Kd.R_slice HO487.out
       (first|subst eo45|(injection eo45 with f1_ f2_ f3_;have f4_:=f1_.symm;have f5_:=f3_.symm;clear f1_ f2_ f3_;subst f4_;subst f5_))
       refine hK.out _ _ ⟨(blk_cell BK85.out 0).trans rfl,(blk_cell BK85.out 1).trans rfl,(blk_cell BK85.out 2).trans rfl,(blk_cell BK85.out 3).trans rfl,(blk_cell BK85.out 4).trans rfl,(blk_cell BK86.out 0).trans rfl,(blk_cell BK86.out 1).trans rfl,(blk_cell BK86.out 2).trans rfl,(blk_cell BK86.out 3).trans rfl,(blk_cell BK86.out 4).trans rfl⟩ (fun hHeld=>?_)
       clear hK K
       refine norm_ (a' := ?_) ?_ ?_
       rotate_left
       ·show Act.put _ (some 44) _=_
        simp only [Act.put,zqA,zqB,zqC,i64_w,i32_w]
        rfl
       refine pure_ (i:=8) (N:=some 45) (v:=?_) (a' := ?_) #[true,true,true,true,true,true,true,true,true,false] rfl rfl (any_of HT_.out (by kernel_rfl)) (fun _ _ _ h=>h) (Or.inl ⟨by rfl,?_⟩) ?_ ?_
       rotate_left
       ·intro w';go_simp;with_reducible rfl
       rotate_left
       ·simp only [Act.put,zqA,zqB,zqC,i64_w,i32_w];rfl
       refine last_ (i:=9) (N:=none) #[true,true,true,true,true,true,true,true,true,true] rfl rfl (one_of HT_.out (by kernel_rfl)) (by decide) (fun K hK=>?_)
       have hs46:w44.cell? ⟨gb85,3,none⟩=some (.slice Ao14 t89.length co14):=(blk_cell BK85.out 3).trans rfl
       have hfs46:=blk_frozen BK85.out 3
       have hns46_0:=NB86_473.out
       have hns46_1:=NB87_473.out
       have hms46_0:=NB85_468.out
       have hms46_1:=NB85_469.out
       refine skip_ (w1:=?_) (by rfl) rfl ?_ ?_
       rotate_left
       ·go_simp
        rfl
       refine hK.out _ _ ?_
       clear hK K
       refine done_ (done_of HT_.out (by kernel_rfl)) ?_
       have hcz47_0:w44.cell? ⟨gb85,0,none⟩=some (.int .i64 a0_0):=(blk_cell BK85.out 0).trans rfl
       have hcz47_1:w44.cell? ⟨gb85,1,none⟩=some (.string a0_1):=(blk_cell BK85.out 1).trans rfl
       have hcz47_2:w44.cell? ⟨gb85,2,none⟩=some (.int .i64 1):=(blk_cell BK85.out 2).trans rfl
       have hcz47_3:w44.cell? ⟨gb85,3,none⟩=some (.slice Ao14 t89.length co14):=(blk_cell BK85.out 3).trans rfl
       have hcz47_4:w44.cell? ⟨gb85,4,none⟩=some (.slice Ao38 t90.length co38):=(blk_cell BK85.out 4).trans rfl
       have hfz47_0:=blk_frozen BK85.out 0
       have hfz47_1:=blk_frozen BK85.out 1
       have hfz47_2:=blk_frozen BK85.out 2
       have hfz47_3:=blk_frozen BK85.out 3
       have hfz47_4:=blk_frozen BK85.out 4
       try go_wp2_with (first|((with_reducible refine gate_builtin (b:=.append) (xs:=#[.tmp 48,.tmp 50]) rfl ?_);at_builtin;refine Kd.R_append k55 (w0:=w) w.heap.size rfl (.tmp 48) (.tmp 50) 22 55 (.agg #[(.string ⟨#[]⟩),(.string ⟨#[]⟩)]) 32 rfl Tryz.underlying22 info55 rfl (by decide) (by omega) (.slice Ao45 y91.length co45) y91 (⟨(⟨#[67,111,110,110,101,99,116,105,111,110]⟩:ByteArray),(⟨#[99,108,111,115,101]⟩:ByteArray)⟩:S55) [.string (⟨#[67,111,110,110,101,99,116,105,111,110]⟩:ByteArray),.string (⟨#[99,108,111,115,101]⟩:ByteArray)] (fun _=>True) (fun _=>False) rfl (by first|(go_simp;done)|(go_simp;rfl)) ?aP (fun _ hk=>hk.elim) ?aF ?aO ?aB ?aS ?aL ?_;(case aP=>exact k55_mkM _ _ _ (⟨(⟨#[67,111,110,110,101,99,116,105,111,110]⟩:ByteArray),(⟨#[99,108,111,115,101]⟩:ByteArray)⟩:S55));(case aB=>exact (by repeat (first|(with_reducible first|exact HB.out|apply below_alloc|apply pw_below_drewN|apply below_drew1|refine below_set ?_ GE86.out|refine below_set ?_ GE87.out|refine below_set ?_ GE85.out)|exact HB.out)));(case aF=>exact (fun _ _=>trivial));(case aO=>exact (by (with_reducible repeat (first|apply Kd.R_alloc|apply Kd.R_drewN|apply Kd.R_drew));exact Kd.R_mono (Kd.R_far (p:=⟨gb85,3,none⟩) (Kd.R_types HO487.out BK85.out (by decide)) (fun _ hk=>hk.2) (.slice Ao45 y91.length co45)) (fun _ hk=>trivial)));(case aS=>exact (below_size (by repeat (first|(with_reducible first|exact HB.out|apply below_alloc|apply pw_below_drewN|apply below_drew1|refine below_set ?_ GE86.out|refine below_set ?_ GE87.out|refine below_set ?_ GE85.out)|exact HB.out))));(case aL=>have:=LMc30.out;omega);intro v489 w48 ho hb hg hat;rw [← Ny97.out] at ho;have n0_:=Aside0.mk (blk_grown (g:=gb86) (o:=.cells #[.int .i64 a0_0,.string a0_1,.int .i64 a0_2,.slice A0_3 l0_3.length c0_3,.slice A0_4 l0_4.length c0_4] 25 (0,0)) (by (with_reducible repeat (first|refine blk_drewN ?_ _|refine blk_drew ?_|refine blk_alloc ?_ _));refine blk_far ?_ NB86_473.out _;(with_reducible repeat (first|refine blk_drewN ?_ _|refine blk_drew ?_|refine blk_alloc ?_ _));exact BK86.out) hg (Kd.R_ne HO487.out BK86.out (by decide)));have n1_:=Aside0.mk (blk_grown (g:=gb87) (o:=.cells #[.int .i64 0,.string (⟨#[]⟩:ByteArray),.int .i64 0,.slice none 0 0,.slice none 0 0] 25 (0,0)) (by (with_reducible repeat (first|refine blk_drewN ?_ _|refine blk_drew ?_|refine blk_alloc ?_ _));refine blk_far ?_ NB87_473.out _;(with_reducible repeat (first|refine blk_drewN ?_ _|refine blk_drew ?_|refine blk_alloc ?_ _));exact BK87.out) hg (Kd.R_ne HO487.out BK87.out (by decide)));have n2_:=Aside0.mk (blk_grown (g:=gb85) (o:=.cells #[.int .i64 a0_0,.string a0_1,.int .i64 1,.slice Ao45 y91.length co45,.slice Ao38 t90.length co38] 25 (0,0)) (by (with_reducible repeat (first|refine blk_drewN ?_ _|refine blk_drew ?_|refine blk_alloc ?_ _));refine blk_put (cs:=#[.int .i64 a0_0,.string a0_1,.int .i64 1,.slice Ao14 t89.length co14,.slice Ao38 t90.length co38]) ?_ 3 _ rfl;(with_reducible repeat (first|refine blk_drewN ?_ _|refine blk_drew ?_|refine blk_alloc ?_ _));exact BK85.out) hg (Kd.R_ne HO487.out BK85.out (by decide)));have n3_:=Aside0.mk (Kd.R_over' (by (with_reducible repeat (first|apply Kd.R_alloc|apply Kd.R_drewN|apply Kd.R_drew));exact (Kd.R_mono (Kd.R_far (p:=⟨gb85,3,none⟩) (Kd.R_types HO92.out BK85.out (by decide)) (fun _ hk=>hk.2) (.slice Ao45 y91.length co45)) (fun _ h_=>h_.1))) (Kd.R_typed (by (with_reducible repeat (first|apply Kd.R_alloc|apply Kd.R_drewN|apply Kd.R_drew));exact (Kd.R_mono (Kd.R_far (p:=⟨gb85,3,none⟩) (Kd.R_types HO487.out BK85.out (by decide)) (fun _ hk=>hk.2) (.slice Ao45 y91.length co45)) (fun _ h_=>h_.1)))) (by decide) hg);have n4_:=Aside0.mk (Kd.R_over' (by (with_reducible repeat (first|apply Kd.R_alloc|apply Kd.R_drewN|apply Kd.R_drew));exact (Kd.R_mono (Kd.R_far (p:=⟨gb85,3,none⟩) (Kd.R_types HO93.out BK85.out (by decide)) (fun _ hk=>hk.2) (.slice Ao45 y91.length co45)) (fun _ h_=>h_.1))) (Kd.R_typed (by (with_reducible repeat (first|apply Kd.R_alloc|apply Kd.R_drewN|apply Kd.R_drew));exact (Kd.R_mono (Kd.R_far (p:=⟨gb85,3,none⟩) (Kd.R_types HO487.out BK85.out (by decide)) (fun _ hk=>hk.2) (.slice Ao45 y91.length co45)) (fun _ h_=>h_.1)))) (by decide) hg);have n5_:=Aside0.mk (hb);have n6_:=Aside0.mk (ho);clear BK86;clear BK87;clear BK85;clear HO92;clear HO93;clear HB;clear HO487;have BK86:=n0_;have BK87:=n1_;have BK85:=n2_;have HO92:=n3_;have HO93:=n4_;have HB:=n5_;have HO490:=n6_;clear n0_ n1_ n2_ n3_ n4_ n5_ n6_;clear ho hb hg hat;obtain ⟨Ao49,co49,eo49⟩:=Kd.R_slice HO490.out;subst eo49;have hcz50_0:w48.cell? ⟨gb85,0,none⟩=some (.int .i64 a0_0):=(blk_cell BK85.out 0).trans rfl;have hcz50_1:w48.cell? ⟨gb85,1,none⟩=some (.string a0_1):=(blk_cell BK85.out 1).trans rfl;have hcz50_2:w48.cell? ⟨gb85,2,none⟩=some (.int .i64 1):=(blk_cell BK85.out 2).trans rfl;have hcz50_3:w48.cell? ⟨gb85,3,none⟩=some (.slice Ao45 y91.length co45):=(blk_cell BK85.out 3).trans rfl;have hcz50_4:w48.cell? ⟨gb85,4,none⟩=some (.slice Ao38 t90.length co38):=(blk_cell BK85.out 4).trans rfl;have hfz50_0:=blk_frozen BK85.out 0;have hfz50_1:=blk_frozen BK85.out 1;have hfz50_2:=blk_frozen BK85.out 2;have hfz50_3:=blk_frozen BK85.out 3;have hfz50_4:=blk_frozen BK85.out 4;have hcz51_0:w48.cell? ⟨gb87,0,none⟩=some (.int .i64 0):=(blk_cell BK87.out 0).trans rfl;have hcz51_1:w48.cell? ⟨gb87,1,none⟩=some (.string (⟨#[]⟩:ByteArray)):=(blk_cell BK87.out 1).trans rfl;have hcz51_2:w48.cell? ⟨gb87,2,none⟩=some (.int .i64 0):=(blk_cell BK87.out 2).trans rfl;have hcz51_3:w48.cell? ⟨gb87,3,none⟩=some (.slice none 0 0):=(blk_cell BK87.out 3).trans rfl;have hcz51_4:w48.cell? ⟨gb87,4,none⟩=some (.slice none 0 0):=(blk_cell BK87.out 4).trans rfl;have hfz51_0:=blk_frozen BK87.out 0;have hfz51_1:=blk_frozen BK87.out 1;have hfz51_2:=blk_frozen BK87.out 2;have hfz51_3:=blk_frozen BK87.out 3;have hfz51_4:=blk_frozen BK87.out 4))
       refine bodyPost_ret (results_cell_row rfl _ _ gb87 25 #[.int .i64 a0_0,.string a0_1,.int .i64 1,.slice Ao49 y97.length co49,.slice Ao38 t90.length co38] (0,0) _ rfl (by (with_reducible repeat (first|refine blk_drewN ?_ _|refine blk_drew ?_|refine blk_alloc ?_ _));refine blk_put (cs:=#[.int .i64 a0_0,.string a0_1,.int .i64 1,.slice Ao49 y97.length co49,.slice none 0 0]) ?_ 4 _ rfl;(with_reducible repeat (first|refine blk_drewN ?_ _|refine blk_drew ?_|refine blk_alloc ?_ _));refine blk_put (cs:=#[.int .i64 a0_0,.string a0_1,.int .i64 1,.slice none 0 0,.slice none 0 0]) ?_ 3 _ rfl;(with_reducible repeat (first|refine blk_drewN ?_ _|refine blk_drew ?_|refine blk_alloc ?_ _));refine blk_put (cs:=#[.int .i64 a0_0,.string a0_1,.int .i64 0,.slice none 0 0,.slice none 0 0]) ?_ 2 _ rfl;(with_reducible repeat (first|refine blk_drewN ?_ _|refine blk_drew ?_|refine blk_alloc ?_ _));refine blk_put (cs:=#[.int .i64 a0_0,.string (⟨#[]⟩:ByteArray),.int .i64 0,.slice none 0 0,.slice none 0 0]) ?_ 1 _ rfl;(with_reducible repeat (first|refine blk_drewN ?_ _|refine blk_drew ?_|refine blk_alloc ?_ _));refine blk_put (cs:=#[.int .i64 0,.string (⟨#[]⟩:ByteArray),.int .i64 0,.slice none 0 0,.slice none 0 0]) ?_ 0 _ rfl;(with_reducible repeat (first|refine blk_drewN ?_ _|refine blk_drew ?_|refine blk_alloc ?_ _));refine blk_far ?_ NB87_473.out _;(with_reducible repeat (first|refine blk_drewN ?_ _|refine blk_drew ?_|refine blk_alloc ?_ _));exact BK87.out) Tryz.underlying25 rfl (by kernel_rfl)) rfl ?_
       exact ⟨_,_,by first|rfl|(simp [errW_none,errW_some] <;> rfl)|(simp [*,errW_none,errW_some] <;> rfl),by (with_reducible repeat (first|apply Kd.R_alloc|apply Kd.R_drewN|apply Kd.R_drew));exact Kd.R_mono (Kd.R_far (p:=⟨gb87,4,none⟩) (Kd.R_far (p:=⟨gb87,3,none⟩) (Kd.R_far (p:=⟨gb87,2,none⟩) (Kd.R_far (p:=⟨gb87,1,none⟩) (Kd.R_far (p:=⟨gb87,0,none⟩) (Kd.R_far (p:=⟨gb85,3,none⟩) (Kd.R_types (Kd.R_types HO490.out BK85.out (by decide)) BK87.out (by decide)) (fun _ hk=>hk.1.2) (.slice Ao49 y97.length co49)) (fun _ hk=>hk.2) (.int .i64 a0_0)) (fun _ hk=>hk.2) (.string a0_1)) (fun _ hk=>hk.2) (.int .i64 1)) (fun _ hk=>hk.2) (.slice Ao49 y97.length co49)) (fun _ hk=>hk.2) (.slice Ao38 t90.length co38)) (fun _ hk=>trivial),by (with_reducible repeat (first|apply Kd.R_alloc|apply Kd.R_drewN|apply Kd.R_drew));exact Kd.R_mono (Kd.R_far (p:=⟨gb87,4,none⟩) (Kd.R_far (p:=⟨gb87,3,none⟩) (Kd.R_far (p:=⟨gb87,2,none⟩) (Kd.R_far (p:=⟨gb87,1,none⟩) (Kd.R_far (p:=⟨gb87,0,none⟩) (Kd.R_far (p:=⟨gb85,3,none⟩) (Kd.R_types (Kd.R_types HO93.out BK85.out (by decide)) BK87.out (by decide)) (fun _ hk=>hk.1.2) (.slice Ao49 y97.length co49)) (fun _ hk=>hk.2) (.int .i64 a0_0)) (fun _ hk=>hk.2) (.string a0_1)) (fun _ hk=>hk.2) (.int .i64 1)) (fun _ hk=>hk.2) (.slice Ao49 y97.length co49)) (fun _ hk=>hk.2) (.slice Ao38 t90.length co38)) (fun _ hk=>trivial),by repeat (first|(with_reducible first|exact HB.out|apply below_alloc|apply pw_below_drewN|apply below_drew1|refine below_set ?_ GE86.out|refine below_set ?_ GE87.out|refine below_set ?_ GE85.out)|exact HB.out)⟩
      ·rw [if_neg c30] at H
       exact absurd H (by simp)
     ·replace c29:=Bool.eq_false_iff.mpr c29
      subst c29
      have H1:(some (a0_0,a0_1,1,y91,t90))=some (r1,r2,r3,r4,r5):=by rw [if_neg (show ¬ (false=true) by decide)] at H;exact H
      clear H
      have H:=H1
      clear H1
      simp only [Option.some.injEq,Prod.mk.injEq] at H
      obtain ⟨rfl,rfl,rfl,rfl,rfl⟩:=H
      have hnb52:=NB86_469.out
      have hnc52:=NB87_468.out
      have hnb53:=NB86_473.out
      have hnc53:=NB85_468.out
      have hcz54_0:wc.cell? ⟨gb86,0,none⟩=some (.int .i64 a0_0):=(blk_cell BK86.out 0).trans rfl
      have hcz54_1:wc.cell? ⟨gb86,1,none⟩=some (.string a0_1):=(blk_cell BK86.out 1).trans rfl
      have hcz54_2:wc.cell? ⟨gb86,2,none⟩=some (.int .i64 a0_2):=(blk_cell BK86.out 2).trans rfl
      have hcz54_3:wc.cell? ⟨gb86,3,none⟩=some (.slice A0_3 l0_3.length c0_3):=(blk_cell BK86.out 3).trans rfl
      have hcz54_4:wc.cell? ⟨gb86,4,none⟩=some (.slice A0_4 l0_4.length c0_4):=(blk_cell BK86.out 4).trans rfl
      have hfz54_0:=blk_frozen BK86.out 0
      have hfz54_1:=blk_frozen BK86.out 1
      have hfz54_2:=blk_frozen BK86.out 2
      have hfz54_3:=blk_frozen BK86.out 3
      have hfz54_4:=blk_frozen BK86.out 4
      try go_wp2_with (first|((with_reducible refine gate_dst (N:=34) rfl ?_);refine Kd.R_lit (Kd.int .u8) _ 5 ?hg (N:=34) ?hd (xs:=([]:List Int)) (inner:=[]) (ok:=fun _=>True) (okp:=fun _=>True) ?hr ?hp (fun _ hk=>hk) trivial (Below.refl _ _) (Nat.le_refl _) (by simp) ?_;(case hd=>rfl);(case hg=>rfl);(case hr=>first|(go_simp;done)|(go_simp;rfl));(case hp=>exact (Reps.none _ _));intro v478 w55 ho56 hb hg_ hnew_;clear hg_ hnew_;(first|rw [← Ny94.out] at ho56|(simp only [Int.reduceToNat] at ho56;rw [← Ny94.out] at ho56));have n0_:=Aside0.mk (Kd.R_below (by (with_reducible repeat (first|apply Kd.R_alloc|apply Kd.R_drewN|apply Kd.R_drew));exact HO_88.out) hb);have n1_:=Aside0.mk (Kd.R_lower ho56 (below_size (by repeat (first|(with_reducible first|exact HB.out|apply below_alloc|apply pw_below_drewN|apply below_drew1|refine below_set ?_ GE86.out|refine below_set ?_ GE87.out|refine below_set ?_ GE85.out)|exact HB.out))));have n2_:=Aside0.mk (blk_below (g:=gb86) (o:=.cells #[.int .i64 a0_0,.string a0_1,.int .i64 a0_2,.slice A0_3 l0_3.length c0_3,.slice A0_4 l0_4.length c0_4] 25 (0,0)) (by (with_reducible repeat (first|refine blk_drewN ?_ _|refine blk_drew ?_|refine blk_alloc ?_ _));exact BK86.out) hb);have n3_:=Aside0.mk (blk_below (g:=gb87) (o:=.cells #[.int .i64 0,.string (⟨#[]⟩:ByteArray),.int .i64 0,.slice none 0 0,.slice none 0 0] 25 (0,0)) (by (with_reducible repeat (first|refine blk_drewN ?_ _|refine blk_drew ?_|refine blk_alloc ?_ _));exact BK87.out) hb);have n4_:=Aside0.mk (blk_below (g:=gb85) (o:=.cells #[.int .i64 a0_0,.string a0_1,.int .i64 1,.slice Ao14 t89.length co14,.slice none 0 0] 25 (0,0)) (by (with_reducible repeat (first|refine blk_drewN ?_ _|refine blk_drew ?_|refine blk_alloc ?_ _));exact BK85.out) hb);have n5_:=Aside0.mk (below_step (by repeat (first|(with_reducible first|exact HB.out|apply below_alloc|apply pw_below_drewN|apply below_drew1|refine below_set ?_ GE86.out|refine below_set ?_ GE87.out|refine below_set ?_ GE85.out)|exact HB.out)) hb);clear HO_88;clear BK86;clear BK87;clear BK85;clear HB;have HO_88:=n0_;have HO92:=n1_;have BK86:=n2_;have BK87:=n3_;have BK85:=n4_;have HB:=n5_;clear n0_ n1_ n2_ n3_ n4_ n5_;clear hb ho56;obtain ⟨Ao57,co57,eo57⟩:=Kd.R_slice HO92.out;subst eo57)|((with_reducible refine gate_callee (f:=50) rfl ?_);refine goesL_ (some 35) rfl rfl Tryz.func50 (by kernel_rfl) rfl #[.slice A0_4 l0_4.length c0_4,.slice Ao57 y94.length co57] rfl (by (try simp only [List.map_toArray,List.map_cons,List.map_nil]);first|done|rfl|(simp only [List.length_drop,List.length_take];rfl)) ?_;(with_reducible refine (tollbarref01_Join.calls kj5 _ _ l0_4 _ _ y94 t90 _ ?side1 ?side2 ?side3 ?side4 A26.out).mono ?_);(case side1=>repeat (first|exact (Kd.C_below HR0_4.out HB.out)|(with_reducible refine Kd.C_alloc ?_ _)|(with_reducible refine Kd.C_drewN ?_ _)|(with_reducible refine Kd.C_drew ?_)));(case side2=>exact HC0_4.out);(case side3=>repeat (first|exact (Kd.R_reads' HO92.out).2.2|(with_reducible refine Kd.C_alloc ?_ _)|(with_reducible refine Kd.C_drewN ?_ _)|(with_reducible refine Kd.C_drew ?_)));(case side4=>exact (Kd.R_reads' HO92.out).2.1);rintro e w58 ⟨v481,rfl,ho0,hb⟩;(try clear A26);refine ⟨_,rfl,?_⟩;have n0_:=Aside0.mk (Kd.R_below (by (with_reducible repeat (first|apply Kd.R_alloc|apply Kd.R_drewN|apply Kd.R_drew));exact HO_88.out) hb);have n1_:=Aside0.mk (Kd.R_elder' (by (with_reducible repeat (first|apply Kd.R_alloc|apply Kd.R_drewN|apply Kd.R_drew));exact HO92.out) (Kd.R_base ho0) hb);have n2_:=Aside0.mk (Kd.R_lower (Kd.R_new' ho0 (Kd.R_lt (by (with_reducible repeat (first|apply Kd.R_alloc|apply Kd.R_drewN|apply Kd.R_drew));exact HO92.out))) (below_size (by repeat (first|(with_reducible first|exact HB.out|apply below_alloc|apply pw_below_drewN|apply below_drew1|refine below_set ?_ GE86.out|refine below_set ?_ GE87.out|refine below_set ?_ GE85.out)|exact HB.out))));have n3_:=Aside0.mk (blk_below (g:=gb86) (o:=.cells #[.int .i64 a0_0,.string a0_1,.int .i64 a0_2,.slice A0_3 l0_3.length c0_3,.slice A0_4 l0_4.length c0_4] 25 (0,0)) (by (with_reducible repeat (first|refine blk_drewN ?_ _|refine blk_drew ?_|refine blk_alloc ?_ _));exact BK86.out) hb);have n4_:=Aside0.mk (blk_below (g:=gb87) (o:=.cells #[.int .i64 0,.string (⟨#[]⟩:ByteArray),.int .i64 0,.slice none 0 0,.slice none 0 0] 25 (0,0)) (by (with_reducible repeat (first|refine blk_drewN ?_ _|refine blk_drew ?_|refine blk_alloc ?_ _));exact BK87.out) hb);have n5_:=Aside0.mk (blk_below (g:=gb85) (o:=.cells #[.int .i64 a0_0,.string a0_1,.int .i64 1,.slice Ao14 t89.length co14,.slice none 0 0] 25 (0,0)) (by (with_reducible repeat (first|refine blk_drewN ?_ _|refine blk_drew ?_|refine blk_alloc ?_ _));exact BK85.out) hb);have n6_:=Aside0.mk (below_step (by repeat (first|(with_reducible first|exact HB.out|apply below_alloc|apply pw_below_drewN|apply below_drew1|refine below_set ?_ GE86.out|refine below_set ?_ GE87.out|refine below_set ?_ GE85.out)|exact HB.out)) hb);clear HO_88;clear HO92;clear BK86;clear BK87;clear BK85;clear HB;have HO_88:=n0_;have HO92:=n1_;have HO93:=n2_;have BK86:=n3_;have BK87:=n4_;have BK85:=n5_;have HB:=n6_;clear n0_ n1_ n2_ n3_ n4_ n5_ n6_;(try clear hb);(try clear hb2);(try clear hk);(try clear hi);(try clear ho0);obtain ⟨Ao59,co59,eo59⟩:=Kd.R_slice HO93.out;subst eo59;have hnb60:=NB85_469.out;have hnc60:=NB87_473.out;have hcz61_0:w58.cell? ⟨gb85,0,none⟩=some (.int .i64 a0_0):=(blk_cell BK85.out 0).trans rfl;have hcz61_1:w58.cell? ⟨gb85,1,none⟩=some (.string a0_1):=(blk_cell BK85.out 1).trans rfl;have hcz61_2:w58.cell? ⟨gb85,2,none⟩=some (.int .i64 1):=(blk_cell BK85.out 2).trans rfl;have hcz61_3:w58.cell? ⟨gb85,3,none⟩=some (.slice Ao14 t89.length co14):=(blk_cell BK85.out 3).trans rfl;have hcz61_4:w58.cell? ⟨gb85,4,none⟩=some (.slice none 0 0):=(blk_cell BK85.out 4).trans rfl;have hfz61_0:=blk_frozen BK85.out 0;have hfz61_1:=blk_frozen BK85.out 1;have hfz61_2:=blk_frozen BK85.out 2;have hfz61_3:=blk_frozen BK85.out 3;have hfz61_4:=blk_frozen BK85.out 4))
      have n0_:Aside0 (Kd.R k55 55 (w58.setCell ⟨gb85,4,none⟩ (.slice Ao59 t90.length co59)) w.heap.size (fun _=>True) (.slice Ao14 t89.length co14) t89):=⟨by (with_reducible repeat (first|apply Kd.R_alloc|apply Kd.R_drewN|apply Kd.R_drew));exact Kd.R_mono (Kd.R_far (p:=⟨gb85,4,none⟩) (Kd.R_types HO_88.out BK85.out (by decide)) (fun _ hk=>hk.2) (.slice Ao59 t90.length co59)) (fun _ hk=>trivial)⟩
      have n1_:Aside0 (Kd.R (Kd.int .u8) 5 (w58.setCell ⟨gb85,4,none⟩ (.slice Ao59 t90.length co59)) w.heap.size (fun k_=>some k_ ≠ (.slice Ao59 t90.length co59:Value).ownBlock) (.slice Ao57 y94.length co57) y94):=⟨by (with_reducible repeat (first|apply Kd.R_alloc|apply Kd.R_drewN|apply Kd.R_drew));exact Kd.R_mono (Kd.R_far (p:=⟨gb85,4,none⟩) (Kd.R_types HO92.out BK85.out (by decide)) (fun _ hk=>hk.2) (.slice Ao59 t90.length co59)) (fun _ hk=>hk.1.2)⟩
      have n2_:Aside0 (Kd.R (Kd.int .u8) 5 (w58.setCell ⟨gb85,4,none⟩ (.slice Ao59 t90.length co59)) w.heap.size (fun k_=>some k_ ≠ (.slice Ao57 y94.length co57:Value).ownBlock) (.slice Ao59 t90.length co59) t90):=⟨by (with_reducible repeat (first|apply Kd.R_alloc|apply Kd.R_drewN|apply Kd.R_drew));exact Kd.R_mono (Kd.R_far (p:=⟨gb85,4,none⟩) (Kd.R_types HO93.out BK85.out (by decide)) (fun _ hk=>hk.2) (.slice Ao59 t90.length co59)) (fun _ hk=>hk.1.2)⟩
      have n3_:Aside0 ((w58.setCell ⟨gb85,4,none⟩ (.slice Ao59 t90.length co59)).heap[gb86]? = some (.cells #[.int .i64 a0_0,.string a0_1,.int .i64 a0_2,.slice A0_3 l0_3.length c0_3,.slice A0_4 l0_4.length c0_4] 25 (0,0))):=⟨by (with_reducible repeat (first|refine blk_drewN ?_ _|refine blk_drew ?_|refine blk_alloc ?_ _));refine blk_far ?_ NB86_473.out _;(with_reducible repeat (first|refine blk_drewN ?_ _|refine blk_drew ?_|refine blk_alloc ?_ _));exact BK86.out⟩
      have n4_:Aside0 ((w58.setCell ⟨gb85,4,none⟩ (.slice Ao59 t90.length co59)).heap[gb87]? = some (.cells #[.int .i64 0,.string (⟨#[]⟩:ByteArray),.int .i64 0,.slice none 0 0,.slice none 0 0] 25 (0,0))):=⟨by (with_reducible repeat (first|refine blk_drewN ?_ _|refine blk_drew ?_|refine blk_alloc ?_ _));refine blk_far ?_ NB87_473.out _;(with_reducible repeat (first|refine blk_drewN ?_ _|refine blk_drew ?_|refine blk_alloc ?_ _));exact BK87.out⟩
      have n5_:Aside0 ((w58.setCell ⟨gb85,4,none⟩ (.slice Ao59 t90.length co59)).heap[gb85]? = some (.cells #[.int .i64 a0_0,.string a0_1,.int .i64 1,.slice Ao14 t89.length co14,.slice Ao59 t90.length co59] 25 (0,0))):=⟨by (with_reducible repeat (first|refine blk_drewN ?_ _|refine blk_drew ?_|refine blk_alloc ?_ _));refine blk_put (cs:=#[.int .i64 a0_0,.string a0_1,.int .i64 1,.slice Ao14 t89.length co14,.slice none 0 0]) ?_ 4 _ rfl;(with_reducible repeat (first|refine blk_drewN ?_ _|refine blk_drew ?_|refine blk_alloc ?_ _));exact BK85.out⟩
      have n6_:Aside0 (Below w.heap.size w (w58.setCell ⟨gb85,4,none⟩ (.slice Ao59 t90.length co59))):=⟨by repeat (first|(with_reducible first|exact HB.out|apply below_alloc|apply pw_below_drewN|apply below_drew1|refine below_set ?_ GE86.out|refine below_set ?_ GE87.out|refine below_set ?_ GE85.out)|exact HB.out)⟩
      (try clear HO_88)
      (try clear HO92)
      (try clear HO93)
      (try clear BK86)
      (try clear BK87)
      (try clear BK85)
      (try clear HB)
      generalize (w58.setCell ⟨gb85,4,none⟩ (.slice Ao59 t90.length co59))=w62 at n0_ n1_ n2_ n3_ n4_ n5_ n6_ ⊢
      have HO_88:=n0_
      have HO92:=n1_
      have HO93:=n2_
      have BK86:=n3_
      have BK87:=n4_
      have BK85:=n5_
      have HB:=n6_
      clear n0_ n1_ n2_ n3_ n4_ n5_ n6_
      replace HO_88:=Aside0.mk (Kd.R_drew HO_88.out)
      replace HO92:=Aside0.mk (Kd.R_drew HO92.out)
      replace HO93:=Aside0.mk (Kd.R_drew HO93.out)
      replace BK86:=Aside0.mk (blk_drew BK86.out)
      replace BK87:=Aside0.mk (blk_drew BK87.out)
      replace BK85:=Aside0.mk (blk_drew BK85.out)
      replace HB:=Aside0.mk (below_drew1 HB.out)
      refine start_ (n:=10) (S:=fun w' => w'.cell? ⟨gb85,0,none⟩=some (.int .i64 a0_0)∧w'.cell? ⟨gb85,1,none⟩=some (.string a0_1)∧w'.cell? ⟨gb85,2,none⟩=some (.int .i64 1)∧w'.cell? ⟨gb85,3,none⟩=some (.slice Ao14 t89.length co14)∧w'.cell? ⟨gb85,4,none⟩=some (.slice Ao59 t90.length co59)∧w'.cell? ⟨gb86,0,none⟩=some (.int .i64 a0_0)∧w'.cell? ⟨gb86,1,none⟩=some (.string a0_1)∧w'.cell? ⟨gb86,2,none⟩=some (.int .i64 a0_2)∧w'.cell? ⟨gb86,3,none⟩=some (.slice A0_3 l0_3.length c0_3)∧w'.cell? ⟨gb86,4,none⟩=some (.slice A0_4 l0_4.length c0_4)) (ds:=[9]) #[false,false,false,false,false,false,false,false,false,false] (by kernel_rfl) rfl rfl ⟨(blk_cell BK85.out 0).trans rfl,(blk_cell BK85.out 1).trans rfl,(blk_cell BK85.out 2).trans rfl,(blk_cell BK85.out 3).trans rfl,(blk_cell BK85.out 4).trans rfl,(blk_cell BK86.out 0).trans rfl,(blk_cell BK86.out 1).trans rfl,(blk_cell BK86.out 2).trans rfl,(blk_cell BK86.out 3).trans rfl,(blk_cell BK86.out 4).trans rfl⟩ (fun hHeld=>?_);refine with_tabW tollbarref12_Response.tab5 tollbarref12_Response.bits5 (fun HT_ HW_=>?_)
      generalize w62.drew=w63 at HO_88 HO92 HO93 BK86 BK87 BK85 HB hHeld ⊢
      refine pure_ (i:=0) (N:=some 37) (v:=?_) (a' := ?_) #[true,false,false,false,false,false,false,false,false,false] rfl rfl (any_of HT_.out (by kernel_rfl)) (fun _ _ _ h=>h) (Or.inl ⟨by rfl,?_⟩) ?_ ?_
      rotate_left
      ·intro w';go_simp;with_reducible rfl
      rotate_left
      ·simp only [Act.put,zqA,zqB,zqC,i64_w,i32_w];rfl
      refine pure_ (i:=2) (N:=some 39) (v:=?_) (a' := ?_) #[true,false,true,false,false,false,false,false,false,false] rfl rfl (any_of HT_.out (by kernel_rfl)) (fun _ _ _ h=>h) (Or.inl ⟨by rfl,?_⟩) ?_ ?_
      rotate_left
      ·intro w';go_simp;with_reducible rfl
      rotate_left
      ·simp only [Act.put,zqA,zqB,zqC,i64_w,i32_w];rfl
      refine take_ (i:=1) (N:=some 38) (v:=?_) (a' := ?_) #[true,true,true,false,false,false,false,false,false,false] rfl rfl (take_ofW HT_.out HW_.out (by kernel_rfl)) (fun _ _ _ h=>h) (Or.inl ⟨by rfl,?_⟩) hHeld ?_ ?_
      rotate_left
      ·rintro w' ⟨s0,s1,s2,s3,s4,s5,s6,s7,s8,s9⟩;go_simp;with_reducible rfl
      rotate_left
      ·simp only [Act.put,zqA,zqB,zqC,i64_w,i32_w];rfl
      refine take_ (i:=3) (N:=some 40) (v:=?_) (a' := ?_) #[true,true,true,true,false,false,false,false,false,false] rfl rfl (take_ofW HT_.out HW_.out (by kernel_rfl)) (fun _ _ _ h=>h) (Or.inl ⟨by rfl,?_⟩) hHeld ?_ ?_
      rotate_left
      ·rintro w' ⟨s0,s1,s2,s3,s4,s5,s6,s7,s8,s9⟩;go_simp;with_reducible rfl
      rotate_left
      ·simp only [Act.put,zqA,zqB,zqC,i64_w,i32_w];rfl
      refine pure_ (i:=4) (N:=some 41) (v:=?_) (a' := ?_) #[true,true,true,true,true,false,false,false,false,false] rfl rfl (any_of HT_.out (by kernel_rfl)) (fun _ _ _ h=>h) (Or.inl ⟨by rfl,?_⟩) ?_ ?_
      rotate_left
      ·intro w';go_simp;with_reducible rfl
      rotate_left
      ·simp only [Act.put,zqA,zqB,zqC,i64_w,i32_w];rfl
      refine one_ (i:=5) (N:=some 42) #[true,true,true,true,true,true,false,false,false,false] rfl rfl (one_of HT_.out (by kernel_rfl)) (by decide) (fun K hK=>?_)
      refine goes_ Tryz.func51 (by kernel_rfl) rfl #[.int .i64 (l0_4.length:Int)] (by rfl) rfl rfl (by (try simp only [List.map_toArray,List.map_cons,List.map_nil]);first|done|rfl|(simp only [List.length_drop,List.length_take];rfl)) ?_
      with_reducible refine (tollbarref12_length.calls kj5 (l0_4.length:Int) t95 t484 _ A27.out).mono ?_
      rintro e w64 ⟨rfl,hb⟩
      refine ⟨_,rfl,?_⟩
      replace HO_88:=Aside0.mk (Kd.R_below (by (with_reducible repeat (first|apply Kd.R_alloc|apply Kd.R_drewN|apply Kd.R_drew));exact HO_88.out) hb)
      replace HO92:=Aside0.mk (Kd.R_below (by (with_reducible repeat (first|apply Kd.R_alloc|apply Kd.R_drewN|apply Kd.R_drew));exact HO92.out) hb)
      replace HO93:=Aside0.mk (Kd.R_below (by (with_reducible repeat (first|apply Kd.R_alloc|apply Kd.R_drewN|apply Kd.R_drew));exact HO93.out) hb)
      replace BK86:=Aside0.mk (blk_below (g:=gb86) (o:=.cells #[.int .i64 a0_0,.string a0_1,.int .i64 a0_2,.slice A0_3 l0_3.length c0_3,.slice A0_4 l0_4.length c0_4] 25 (0,0)) (by (with_reducible repeat (first|refine blk_drewN ?_ _|refine blk_drew ?_|refine blk_alloc ?_ _));exact BK86.out) hb)
      replace BK87:=Aside0.mk (blk_below (g:=gb87) (o:=.cells #[.int .i64 0,.string (⟨#[]⟩:ByteArray),.int .i64 0,.slice none 0 0,.slice none 0 0] 25 (0,0)) (by (with_reducible repeat (first|refine blk_drewN ?_ _|refine blk_drew ?_|refine blk_alloc ?_ _));exact BK87.out) hb)
      replace BK85:=Aside0.mk (blk_below (g:=gb85) (o:=.cells #[.int .i64 a0_0,.string a0_1,.int .i64 1,.slice Ao14 t89.length co14,.slice Ao59 t90.length co59] 25 (0,0)) (by (with_reducible repeat (first|refine blk_drewN ?_ _|refine blk_drew ?_|refine blk_alloc ?_ _));exact BK85.out) hb)
      replace HB:=Aside0.mk (below_step (by repeat (first|(with_reducible first|exact HB.out|apply below_alloc|apply pw_below_drewN|apply below_drew1|refine below_set ?_ GE86.out|refine below_set ?_ GE87.out|refine below_set ?_ GE85.out)|exact HB.out)) hb)
      (try clear hb)
      (try clear hb2)
      (try clear hk)
      (try clear hi)
      refine hK.out _ _ ⟨(blk_cell BK85.out 0).trans rfl,(blk_cell BK85.out 1).trans rfl,(blk_cell BK85.out 2).trans rfl,(blk_cell BK85.out 3).trans rfl,(blk_cell BK85.out 4).trans rfl,(blk_cell BK86.out 0).trans rfl,(blk_cell BK86.out 1).trans rfl,(blk_cell BK86.out 2).trans rfl,(blk_cell BK86.out 3).trans rfl,(blk_cell BK86.out 4).trans rfl⟩ (fun hHeld=>?_)
      clear hK K
      refine norm_ (a' := ?_) ?_ ?_
      rotate_left
      ·show Act.put _ (some 42) _=_
       simp only [Act.put,zqA,zqB,zqC,i64_w,i32_w]
       rfl
      refine one_ (i:=6) (N:=some 43) #[true,true,true,true,true,true,true,false,false,false] rfl rfl (one_of HT_.out (by kernel_rfl)) (by decide) (fun K hK=>?_)
      refine value_ (w1:=?_) (v:=?_) (by rfl) rfl ?_ ?_
      rotate_left 2
      ·go_simp
       constructor
       ·rfl
       ·rfl
      refine hK.out _ _ ⟨(blk_cell (blk_alloc BK85.out _) 0).trans rfl,(blk_cell (blk_alloc BK85.out _) 1).trans rfl,(blk_cell (blk_alloc BK85.out _) 2).trans rfl,(blk_cell (blk_alloc BK85.out _) 3).trans rfl,(blk_cell (blk_alloc BK85.out _) 4).trans rfl,(blk_cell (blk_alloc BK86.out _) 0).trans rfl,(blk_cell (blk_alloc BK86.out _) 1).trans rfl,(blk_cell (blk_alloc BK86.out _) 2).trans rfl,(blk_cell (blk_alloc BK86.out _) 3).trans rfl,(blk_cell (blk_alloc BK86.out _) 4).trans rfl⟩ (fun hHeld=>?_)
      clear hK K
      refine norm_ (a' := ?_) ?_ ?_
      rotate_left
      ·show Act.put _ (some 43) _=_
       simp only [Act.put,zqA,zqB,zqC,i64_w,i32_w]
       rfl
      refine one_ (i:=7) (N:=some 44) #[true,true,true,true,true,true,true,true,false,false] rfl rfl (one_of HT_.out (by kernel_rfl)) (by decide) (fun K hK=>?_)
      refine Kd.R_append_step k55 (w0:=w) w.heap.size (by rfl) (.tmp 38) (.tmp 43) 22 55 (.agg #[(.string ⟨#[]⟩),(.string ⟨#[]⟩)]) 32 rfl Tryz.underlying22 info55 rfl (by decide) (by omega) (.slice Ao14 t89.length co14) t89 (⟨t95,t484⟩:S55) [.string t95,.string t484] (fun _=>True) (fun _=>False) rfl rfl ?aP (fun _ hk=>hk.elim) ?aF ?aO ?aB ?aS ?aL ?_
      (case aP=>exact k55_mkM _ _ _ (⟨t95,t484⟩:S55))
      (case aB=>exact (by repeat (first|(with_reducible first|exact HB.out|apply below_alloc|apply pw_below_drewN|apply below_drew1|refine below_set ?_ GE86.out|refine below_set ?_ GE87.out|refine below_set ?_ GE85.out)|exact HB.out)))
      (case aF=>exact (fun _ _=>trivial))
      (case aO=>exact (by (with_reducible repeat (first|apply Kd.R_alloc|apply Kd.R_drewN|apply Kd.R_drew));exact HO_88.out))
      (case aS=>exact (below_size (by repeat (first|(with_reducible first|exact HB.out|apply below_alloc|apply pw_below_drewN|apply below_drew1|refine below_set ?_ GE86.out|refine below_set ?_ GE87.out|refine below_set ?_ GE85.out)|exact HB.out))))
      (case aL=>have:=LMc28.out;omega)
      intro v486 w65 ho hb hg hat
      rw [← Ny91.out] at ho
      have n0_:=Aside0.mk (blk_grown (g:=gb86) (o:=.cells #[.int .i64 a0_0,.string a0_1,.int .i64 a0_2,.slice A0_3 l0_3.length c0_3,.slice A0_4 l0_4.length c0_4] 25 (0,0)) (by (with_reducible repeat (first|refine blk_drewN ?_ _|refine blk_drew ?_|refine blk_alloc ?_ _));exact BK86.out) hg (Kd.R_ne HO_88.out BK86.out (by decide)))
      have n1_:=Aside0.mk (blk_grown (g:=gb87) (o:=.cells #[.int .i64 0,.string (⟨#[]⟩:ByteArray),.int .i64 0,.slice none 0 0,.slice none 0 0] 25 (0,0)) (by (with_reducible repeat (first|refine blk_drewN ?_ _|refine blk_drew ?_|refine blk_alloc ?_ _));exact BK87.out) hg (Kd.R_ne HO_88.out BK87.out (by decide)))
      have n2_:=Aside0.mk (blk_grown (g:=gb85) (o:=.cells #[.int .i64 a0_0,.string a0_1,.int .i64 1,.slice Ao14 t89.length co14,.slice Ao59 t90.length co59] 25 (0,0)) (by (with_reducible repeat (first|refine blk_drewN ?_ _|refine blk_drew ?_|refine blk_alloc ?_ _));exact BK85.out) hg (Kd.R_ne HO_88.out BK85.out (by decide)))
      have n3_:=Aside0.mk (Kd.R_over' (by (with_reducible repeat (first|apply Kd.R_alloc|apply Kd.R_drewN|apply Kd.R_drew));exact HO92.out) (Kd.R_typed (by (with_reducible repeat (first|apply Kd.R_alloc|apply Kd.R_drewN|apply Kd.R_drew));exact HO_88.out)) (by decide) hg)
      have n4_:=Aside0.mk (Kd.R_over' (by (with_reducible repeat (first|apply Kd.R_alloc|apply Kd.R_drewN|apply Kd.R_drew));exact HO93.out) (Kd.R_typed (by (with_reducible repeat (first|apply Kd.R_alloc|apply Kd.R_drewN|apply Kd.R_drew));exact HO_88.out)) (by decide) hg)
      have n5_:=Aside0.mk (hb)
      have n6_:=Aside0.mk (ho)
      clear BK86 BK87 BK85 HO92 HO93 HB HO_88
      have BK86:=n0_
      have BK87:=n1_
      have BK85:=n2_
      have HO92:=n3_
      have HO93:=n4_
      have HB:=n5_
      have HO487:=n6_
      clear n0_ n1_ n2_ n3_ n4_ n5_ n6_ ho hb hg hat
      obtain ⟨Ao66,co66,eo66⟩:=Kd.R_slice HO487.out
      (first|subst eo66|(injection eo66 with f1_ f2_ f3_;have f4_:=f1_.symm;have f5_:=f3_.symm;clear f1_ f2_ f3_;subst f4_;subst f5_))
      refine hK.out _ _ ⟨(blk_cell BK85.out 0).trans rfl,(blk_cell BK85.out 1).trans rfl,(blk_cell BK85.out 2).trans rfl,(blk_cell BK85.out 3).trans rfl,(blk_cell BK85.out 4).trans rfl,(blk_cell BK86.out 0).trans rfl,(blk_cell BK86.out 1).trans rfl,(blk_cell BK86.out 2).trans rfl,(blk_cell BK86.out 3).trans rfl,(blk_cell BK86.out 4).trans rfl⟩ (fun hHeld=>?_)
      clear hK K
      refine norm_ (a' := ?_) ?_ ?_
      rotate_left
      ·show Act.put _ (some 44) _=_
       simp only [Act.put,zqA,zqB,zqC,i64_w,i32_w]
       rfl
      refine pure_ (i:=8) (N:=some 45) (v:=?_) (a' := ?_) #[true,true,true,true,true,true,true,true,true,false] rfl rfl (any_of HT_.out (by kernel_rfl)) (fun _ _ _ h=>h) (Or.inl ⟨by rfl,?_⟩) ?_ ?_
      rotate_left
      ·intro w';go_simp;with_reducible rfl
      rotate_left
      ·simp only [Act.put,zqA,zqB,zqC,i64_w,i32_w];rfl
      refine last_ (i:=9) (N:=none) #[true,true,true,true,true,true,true,true,true,true] rfl rfl (one_of HT_.out (by kernel_rfl)) (by decide) (fun K hK=>?_)
      have hs67:w65.cell? ⟨gb85,3,none⟩=some (.slice Ao14 t89.length co14):=(blk_cell BK85.out 3).trans rfl
      have hfs67:=blk_frozen BK85.out 3
      have hns67_0:=NB86_473.out
      have hns67_1:=NB87_473.out
      have hms67_0:=NB85_468.out
      have hms67_1:=NB85_469.out
      refine skip_ (w1:=?_) (by rfl) rfl ?_ ?_
      rotate_left
      ·go_simp
       rfl
      refine hK.out _ _ ?_
      clear hK K
      refine done_ (done_of HT_.out (by kernel_rfl)) ?_
      have hcz68_0:w65.cell? ⟨gb85,0,none⟩=some (.int .i64 a0_0):=(blk_cell BK85.out 0).trans rfl
      have hcz68_1:w65.cell? ⟨gb85,1,none⟩=some (.string a0_1):=(blk_cell BK85.out 1).trans rfl
      have hcz68_2:w65.cell? ⟨gb85,2,none⟩=some (.int .i64 1):=(blk_cell BK85.out 2).trans rfl
      have hcz68_3:w65.cell? ⟨gb85,3,none⟩=some (.slice Ao14 t89.length co14):=(blk_cell BK85.out 3).trans rfl
      have hcz68_4:w65.cell? ⟨gb85,4,none⟩=some (.slice Ao59 t90.length co59):=(blk_cell BK85.out 4).trans rfl
      have hfz68_0:=blk_frozen BK85.out 0
      have hfz68_1:=blk_frozen BK85.out 1
      have hfz68_2:=blk_frozen BK85.out 2
      have hfz68_3:=blk_frozen BK85.out 3
      have hfz68_4:=blk_frozen BK85.out 4
      have hcz69_0:w65.cell? ⟨gb87,0,none⟩=some (.int .i64 0):=(blk_cell BK87.out 0).trans rfl
      have hcz69_1:w65.cell? ⟨gb87,1,none⟩=some (.string (⟨#[]⟩:ByteArray)):=(blk_cell BK87.out 1).trans rfl
      have hcz69_2:w65.cell? ⟨gb87,2,none⟩=some (.int .i64 0):=(blk_cell BK87.out 2).trans rfl
      have hcz69_3:w65.cell? ⟨gb87,3,none⟩=some (.slice none 0 0):=(blk_cell BK87.out 3).trans rfl
      have hcz69_4:w65.cell? ⟨gb87,4,none⟩=some (.slice none 0 0):=(blk_cell BK87.out 4).trans rfl
      have hfz69_0:=blk_frozen BK87.out 0
      have hfz69_1:=blk_frozen BK87.out 1
      have hfz69_2:=blk_frozen BK87.out 2
      have hfz69_3:=blk_frozen BK87.out 3
      have hfz69_4:=blk_frozen BK87.out 4
      try go_wp2
      refine bodyPost_ret (results_cell_row rfl _ _ gb87 25 #[.int .i64 a0_0,.string a0_1,.int .i64 1,.slice Ao66 y91.length co66,.slice Ao59 t90.length co59] (0,0) _ rfl (by (with_reducible repeat (first|refine blk_drewN ?_ _|refine blk_drew ?_|refine blk_alloc ?_ _));refine blk_put (cs:=#[.int .i64 a0_0,.string a0_1,.int .i64 1,.slice Ao66 y91.length co66,.slice none 0 0]) ?_ 4 _ rfl;(with_reducible repeat (first|refine blk_drewN ?_ _|refine blk_drew ?_|refine blk_alloc ?_ _));refine blk_put (cs:=#[.int .i64 a0_0,.string a0_1,.int .i64 1,.slice none 0 0,.slice none 0 0]) ?_ 3 _ rfl;(with_reducible repeat (first|refine blk_drewN ?_ _|refine blk_drew ?_|refine blk_alloc ?_ _));refine blk_put (cs:=#[.int .i64 a0_0,.string a0_1,.int .i64 0,.slice none 0 0,.slice none 0 0]) ?_ 2 _ rfl;(with_reducible repeat (first|refine blk_drewN ?_ _|refine blk_drew ?_|refine blk_alloc ?_ _));refine blk_put (cs:=#[.int .i64 a0_0,.string (⟨#[]⟩:ByteArray),.int .i64 0,.slice none 0 0,.slice none 0 0]) ?_ 1 _ rfl;(with_reducible repeat (first|refine blk_drewN ?_ _|refine blk_drew ?_|refine blk_alloc ?_ _));refine blk_put (cs:=#[.int .i64 0,.string (⟨#[]⟩:ByteArray),.int .i64 0,.slice none 0 0,.slice none 0 0]) ?_ 0 _ rfl;(with_reducible repeat (first|refine blk_drewN ?_ _|refine blk_drew ?_|refine blk_alloc ?_ _));refine blk_far ?_ NB87_473.out _;(with_reducible repeat (first|refine blk_drewN ?_ _|refine blk_drew ?_|refine blk_alloc ?_ _));exact BK87.out) Tryz.underlying25 rfl (by kernel_rfl)) rfl ?_
      exact ⟨_,_,by first|rfl|(simp [errW_none,errW_some] <;> rfl)|(simp [*,errW_none,errW_some] <;> rfl),by (with_reducible repeat (first|apply Kd.R_alloc|apply Kd.R_drewN|apply Kd.R_drew));exact Kd.R_mono (Kd.R_far (p:=⟨gb87,4,none⟩) (Kd.R_far (p:=⟨gb87,3,none⟩) (Kd.R_far (p:=⟨gb87,2,none⟩) (Kd.R_far (p:=⟨gb87,1,none⟩) (Kd.R_far (p:=⟨gb87,0,none⟩) (Kd.R_far (p:=⟨gb85,3,none⟩) (Kd.R_types (Kd.R_types HO487.out BK85.out (by decide)) BK87.out (by decide)) (fun _ hk=>hk.1.2) (.slice Ao66 y91.length co66)) (fun _ hk=>hk.2) (.int .i64 a0_0)) (fun _ hk=>hk.2) (.string a0_1)) (fun _ hk=>hk.2) (.int .i64 1)) (fun _ hk=>hk.2) (.slice Ao66 y91.length co66)) (fun _ hk=>hk.2) (.slice Ao59 t90.length co59)) (fun _ hk=>trivial),by (with_reducible repeat (first|apply Kd.R_alloc|apply Kd.R_drewN|apply Kd.R_drew));exact Kd.R_mono (Kd.R_far (p:=⟨gb87,4,none⟩) (Kd.R_far (p:=⟨gb87,3,none⟩) (Kd.R_far (p:=⟨gb87,2,none⟩) (Kd.R_far (p:=⟨gb87,1,none⟩) (Kd.R_far (p:=⟨gb87,0,none⟩) (Kd.R_far (p:=⟨gb85,3,none⟩) (Kd.R_types (Kd.R_types HO93.out BK85.out (by decide)) BK87.out (by decide)) (fun _ hk=>hk.1.2) (.slice Ao66 y91.length co66)) (fun _ hk=>hk.2) (.int .i64 a0_0)) (fun _ hk=>hk.2) (.string a0_1)) (fun _ hk=>hk.2) (.int .i64 1)) (fun _ hk=>hk.2) (.slice Ao66 y91.length co66)) (fun _ hk=>hk.2) (.slice Ao59 t90.length co59)) (fun _ hk=>trivial),by repeat (first|(with_reducible first|exact HB.out|apply below_alloc|apply pw_below_drewN|apply below_drew1|refine below_set ?_ GE86.out|refine below_set ?_ GE87.out|refine below_set ?_ GE85.out)|exact HB.out)⟩
    ·rw [if_neg c28] at H
     exact absurd H (by simp)
   ·replace c25:=Bool.eq_false_iff.mpr c25
    subst c25
    have H1:(if a2=true then (if t89.length < 4398046511104 then (some (a0_0,a0_1,1,(t89 ++ [(⟨(⟨#[67,111,110,110,101,99,116,105,111,110]⟩:ByteArray),(⟨#[99,108,111,115,101]⟩:ByteArray)⟩:S55)]),([]:List Int))) else (none)) else (some (a0_0,a0_1,1,t89,([]:List Int))))=some (r1,r2,r3,r4,r5):=by rw [if_neg (show ¬ (false=true) by decide)] at H;exact H
    clear H
    have H:=H1
    clear H1
    by_cases c70:a2=true
    ·subst c70
     have H1:(if t89.length < 4398046511104 then (some (a0_0,a0_1,1,(t89 ++ [(⟨(⟨#[67,111,110,110,101,99,116,105,111,110]⟩:ByteArray),(⟨#[99,108,111,115,101]⟩:ByteArray)⟩:S55)]),([]:List Int))) else (none))=some (r1,r2,r3,r4,r5):=by rw [if_pos rfl] at H;exact H
     clear H
     have H:=H1
     clear H1
     by_cases c71:t89.length < 4398046511104
     ·rw [if_pos c71] at H
      have LMc71:=Aside0.mk c71
      clear c71
      obtain ⟨y99,hy99⟩ : ∃ y_:List (S55),y_=(t89 ++ [(⟨(⟨#[67,111,110,110,101,99,116,105,111,110]⟩:ByteArray),(⟨#[99,108,111,115,101]⟩:ByteArray)⟩:S55)]):=⟨_,rfl⟩
      replace H:(some (a0_0,a0_1,1,y99,([]:List Int)))=some (r1,r2,r3,r4,r5):=by first|(rw [hy99];with_reducible exact H)|(have H2_:=(Option.bind_some _ _).symm.trans H;rw [hy99];with_reducible exact H2_)|(have H2_:=(Option.bind_some _ _).symm.trans H;with_reducible exact H2_)|with_reducible exact H|(rw [hy99];exact H)|exact H
      have Ny99:=Aside0.mk hy99
      clear hy99
      simp only [Option.some.injEq,Prod.mk.injEq] at H
      obtain ⟨rfl,rfl,rfl,rfl,rfl⟩:=H
      have hnb72:=NB85_468.out
      have hnc72:=NB86_473.out
      have hnb73:=NB85_469.out
      have hnc73:=NB87_473.out
      have hcz74_0:wc.cell? ⟨gb85,0,none⟩=some (.int .i64 a0_0):=(blk_cell BK85.out 0).trans rfl
      have hcz74_1:wc.cell? ⟨gb85,1,none⟩=some (.string a0_1):=(blk_cell BK85.out 1).trans rfl
      have hcz74_2:wc.cell? ⟨gb85,2,none⟩=some (.int .i64 1):=(blk_cell BK85.out 2).trans rfl
      have hcz74_3:wc.cell? ⟨gb85,3,none⟩=some (.slice Ao14 t89.length co14):=(blk_cell BK85.out 3).trans rfl
      have hcz74_4:wc.cell? ⟨gb85,4,none⟩=some (.slice none 0 0):=(blk_cell BK85.out 4).trans rfl
      have hfz74_0:=blk_frozen BK85.out 0
      have hfz74_1:=blk_frozen BK85.out 1
      have hfz74_2:=blk_frozen BK85.out 2
      have hfz74_3:=blk_frozen BK85.out 3
      have hfz74_4:=blk_frozen BK85.out 4
      go_wp2_with (first|((with_reducible refine gate_builtin (b:=.append) (xs:=#[.tmp 48,.tmp 50]) rfl ?_);at_builtin;refine Kd.R_append k55 (w0:=w) w.heap.size rfl (.tmp 48) (.tmp 50) 22 55 (.agg #[(.string ⟨#[]⟩),(.string ⟨#[]⟩)]) 32 rfl Tryz.underlying22 info55 rfl (by decide) (by omega) (.slice Ao14 t89.length co14) t89 (⟨(⟨#[67,111,110,110,101,99,116,105,111,110]⟩:ByteArray),(⟨#[99,108,111,115,101]⟩:ByteArray)⟩:S55) [.string (⟨#[67,111,110,110,101,99,116,105,111,110]⟩:ByteArray),.string (⟨#[99,108,111,115,101]⟩:ByteArray)] (fun _=>True) (fun _=>False) rfl rfl ?aP (fun _ hk=>hk.elim) ?aF ?aO ?aB ?aS ?aL ?_;(case aP=>exact k55_mkM _ _ _ (⟨(⟨#[67,111,110,110,101,99,116,105,111,110]⟩:ByteArray),(⟨#[99,108,111,115,101]⟩:ByteArray)⟩:S55));(case aB=>exact (by repeat (first|(with_reducible first|exact HB.out|apply below_alloc|apply pw_below_drewN|apply below_drew1|refine below_set ?_ GE86.out|refine below_set ?_ GE87.out|refine below_set ?_ GE85.out)|exact HB.out)));(case aF=>exact (fun _ _=>trivial));(case aO=>exact (by (with_reducible repeat (first|apply Kd.R_alloc|apply Kd.R_drewN|apply Kd.R_drew));exact HO_88.out));(case aS=>exact (below_size (by repeat (first|(with_reducible first|exact HB.out|apply below_alloc|apply pw_below_drewN|apply below_drew1|refine below_set ?_ GE86.out|refine below_set ?_ GE87.out|refine below_set ?_ GE85.out)|exact HB.out))));(case aL=>have:=LMc71.out;omega);intro v492 w75 ho hb hg hat;rw [← Ny99.out] at ho;have n0_:=Aside0.mk (blk_grown (g:=gb86) (o:=.cells #[.int .i64 a0_0,.string a0_1,.int .i64 a0_2,.slice A0_3 l0_3.length c0_3,.slice A0_4 l0_4.length c0_4] 25 (0,0)) (by (with_reducible repeat (first|refine blk_drewN ?_ _|refine blk_drew ?_|refine blk_alloc ?_ _));exact BK86.out) hg (Kd.R_ne HO_88.out BK86.out (by decide)));have n1_:=Aside0.mk (blk_grown (g:=gb87) (o:=.cells #[.int .i64 0,.string (⟨#[]⟩:ByteArray),.int .i64 0,.slice none 0 0,.slice none 0 0] 25 (0,0)) (by (with_reducible repeat (first|refine blk_drewN ?_ _|refine blk_drew ?_|refine blk_alloc ?_ _));exact BK87.out) hg (Kd.R_ne HO_88.out BK87.out (by decide)));have n2_:=Aside0.mk (blk_grown (g:=gb85) (o:=.cells #[.int .i64 a0_0,.string a0_1,.int .i64 1,.slice Ao14 t89.length co14,.slice none 0 0] 25 (0,0)) (by (with_reducible repeat (first|refine blk_drewN ?_ _|refine blk_drew ?_|refine blk_alloc ?_ _));exact BK85.out) hg (Kd.R_ne HO_88.out BK85.out (by decide)));have n3_:=Aside0.mk (hb);have n4_:=Aside0.mk (ho);clear BK86;clear BK87;clear BK85;clear HB;clear HO_88;have BK86:=n0_;have BK87:=n1_;have BK85:=n2_;have HB:=n3_;have HO493:=n4_;clear n0_ n1_ n2_ n3_ n4_;clear ho hb hg hat;obtain ⟨Ao76,co76,eo76⟩:=Kd.R_slice HO493.out;subst eo76;have hcz77_0:w75.cell? ⟨gb85,0,none⟩=some (.int .i64 a0_0):=(blk_cell BK85.out 0).trans rfl;have hcz77_1:w75.cell? ⟨gb85,1,none⟩=some (.string a0_1):=(blk_cell BK85.out 1).trans rfl;have hcz77_2:w75.cell? ⟨gb85,2,none⟩=some (.int .i64 1):=(blk_cell BK85.out 2).trans rfl;have hcz77_3:w75.cell? ⟨gb85,3,none⟩=some (.slice Ao14 t89.length co14):=(blk_cell BK85.out 3).trans rfl;have hcz77_4:w75.cell? ⟨gb85,4,none⟩=some (.slice none 0 0):=(blk_cell BK85.out 4).trans rfl;have hfz77_0:=blk_frozen BK85.out 0;have hfz77_1:=blk_frozen BK85.out 1;have hfz77_2:=blk_frozen BK85.out 2;have hfz77_3:=blk_frozen BK85.out 3;have hfz77_4:=blk_frozen BK85.out 4;have hnb78:=NB87_468.out;have hnc78:=NB86_469.out;have hcz79_0:w75.cell? ⟨gb87,0,none⟩=some (.int .i64 0):=(blk_cell BK87.out 0).trans rfl;have hcz79_1:w75.cell? ⟨gb87,1,none⟩=some (.string (⟨#[]⟩:ByteArray)):=(blk_cell BK87.out 1).trans rfl;have hcz79_2:w75.cell? ⟨gb87,2,none⟩=some (.int .i64 0):=(blk_cell BK87.out 2).trans rfl;have hcz79_3:w75.cell? ⟨gb87,3,none⟩=some (.slice none 0 0):=(blk_cell BK87.out 3).trans rfl;have hcz79_4:w75.cell? ⟨gb87,4,none⟩=some (.slice none 0 0):=(blk_cell BK87.out 4).trans rfl;have hfz79_0:=blk_frozen BK87.out 0;have hfz79_1:=blk_frozen BK87.out 1;have hfz79_2:=blk_frozen BK87.out 2;have hfz79_3:=blk_frozen BK87.out 3;have hfz79_4:=blk_frozen BK87.out 4))
      refine bodyPost_ret (results_cell_row rfl _ _ gb87 25 #[.int .i64 a0_0,.string a0_1,.int .i64 1,.slice Ao76 y99.length co76,.slice none 0 0] (0,0) _ rfl (by (with_reducible repeat (first|refine blk_drewN ?_ _|refine blk_drew ?_|refine blk_alloc ?_ _));refine blk_put (cs:=#[.int .i64 a0_0,.string a0_1,.int .i64 1,.slice Ao76 y99.length co76,.slice none 0 0]) ?_ 4 _ rfl;(with_reducible repeat (first|refine blk_drewN ?_ _|refine blk_drew ?_|refine blk_alloc ?_ _));refine blk_put (cs:=#[.int .i64 a0_0,.string a0_1,.int .i64 1,.slice none 0 0,.slice none 0 0]) ?_ 3 _ rfl;(with_reducible repeat (first|refine blk_drewN ?_ _|refine blk_drew ?_|refine blk_alloc ?_ _));refine blk_put (cs:=#[.int .i64 a0_0,.string a0_1,.int .i64 0,.slice none 0 0,.slice none 0 0]) ?_ 2 _ rfl;(with_reducible repeat (first|refine blk_drewN ?_ _|refine blk_drew ?_|refine blk_alloc ?_ _));refine blk_put (cs:=#[.int .i64 a0_0,.string (⟨#[]⟩:ByteArray),.int .i64 0,.slice none 0 0,.slice none 0 0]) ?_ 1 _ rfl;(with_reducible repeat (first|refine blk_drewN ?_ _|refine blk_drew ?_|refine blk_alloc ?_ _));refine blk_put (cs:=#[.int .i64 0,.string (⟨#[]⟩:ByteArray),.int .i64 0,.slice none 0 0,.slice none 0 0]) ?_ 0 _ rfl;(with_reducible repeat (first|refine blk_drewN ?_ _|refine blk_drew ?_|refine blk_alloc ?_ _));refine blk_far ?_ NB87_473.out _;(with_reducible repeat (first|refine blk_drewN ?_ _|refine blk_drew ?_|refine blk_alloc ?_ _));exact BK87.out) Tryz.underlying25 rfl (by kernel_rfl)) rfl ?_
      exact ⟨_,_,by first|rfl|(simp [errW_none,errW_some] <;> rfl)|(simp [*,errW_none,errW_some] <;> rfl),by (with_reducible repeat (first|apply Kd.R_alloc|apply Kd.R_drewN|apply Kd.R_drew));exact Kd.R_mono (Kd.R_far (p:=⟨gb87,4,none⟩) (Kd.R_far (p:=⟨gb87,3,none⟩) (Kd.R_far (p:=⟨gb87,2,none⟩) (Kd.R_far (p:=⟨gb87,1,none⟩) (Kd.R_far (p:=⟨gb87,0,none⟩) (Kd.R_far (p:=⟨gb85,3,none⟩) (Kd.R_types (Kd.R_types HO493.out BK85.out (by decide)) BK87.out (by decide)) (fun _ hk=>hk.1.2) (.slice Ao76 y99.length co76)) (fun _ hk=>hk.2) (.int .i64 a0_0)) (fun _ hk=>hk.2) (.string a0_1)) (fun _ hk=>hk.2) (.int .i64 1)) (fun _ hk=>hk.2) (.slice Ao76 y99.length co76)) (fun _ hk=>hk.2) (.slice none 0 0)) (fun _ hk=>trivial),by first|exact Kd.R_nil _ _ _ _ _|exact Kd.N_nil _ _ _ _ _|exact Kd.V_nil _ _ _ _ _|exact Kd.Q_nil _ _ _ _ _|exact Kd.S_nil _ _ _ _ _,by repeat (first|(with_reducible first|exact HB.out|apply below_alloc|apply pw_below_drewN|apply below_drew1|refine below_set ?_ GE86.out|refine below_set ?_ GE87.out|refine below_set ?_ GE85.out)|exact HB.out)⟩
     ·rw [if_neg c71] at H
      exact absurd H (by simp)
    ·replace c70:=Bool.eq_false_iff.mpr c70
     subst c70
     have H1:(some (a0_0,a0_1,1,t89,([]:List Int)))=some (r1,r2,r3,r4,r5):=by rw [if_neg (show ¬ (false=true) by decide)] at H;exact H
     clear H
     have H:=H1
     clear H1
     simp only [Option.some.injEq,Prod.mk.injEq] at H
     obtain ⟨rfl,rfl,rfl,rfl,rfl⟩:=H
     have hnb80:=NB85_468.out
     have hnc80:=NB86_473.out
     have hnb81:=NB85_469.out
     have hnc81:=NB87_473.out
     have hcz82_0:wc.cell? ⟨gb85,0,none⟩=some (.int .i64 a0_0):=(blk_cell BK85.out 0).trans rfl
     have hcz82_1:wc.cell? ⟨gb85,1,none⟩=some (.string a0_1):=(blk_cell BK85.out 1).trans rfl
     have hcz82_2:wc.cell? ⟨gb85,2,none⟩=some (.int .i64 1):=(blk_cell BK85.out 2).trans rfl
     have hcz82_3:wc.cell? ⟨gb85,3,none⟩=some (.slice Ao14 t89.length co14):=(blk_cell BK85.out 3).trans rfl
     have hcz82_4:wc.cell? ⟨gb85,4,none⟩=some (.slice none 0 0):=(blk_cell BK85.out 4).trans rfl
     have hfz82_0:=blk_frozen BK85.out 0
     have hfz82_1:=blk_frozen BK85.out 1
     have hfz82_2:=blk_frozen BK85.out 2
     have hfz82_3:=blk_frozen BK85.out 3
     have hfz82_4:=blk_frozen BK85.out 4
     have hnb83:=NB87_468.out
     have hnc83:=NB86_469.out
     have hcz84_0:wc.cell? ⟨gb87,0,none⟩=some (.int .i64 0):=(blk_cell BK87.out 0).trans rfl
     have hcz84_1:wc.cell? ⟨gb87,1,none⟩=some (.string (⟨#[]⟩:ByteArray)):=(blk_cell BK87.out 1).trans rfl
     have hcz84_2:wc.cell? ⟨gb87,2,none⟩=some (.int .i64 0):=(blk_cell BK87.out 2).trans rfl
     have hcz84_3:wc.cell? ⟨gb87,3,none⟩=some (.slice none 0 0):=(blk_cell BK87.out 3).trans rfl
     have hcz84_4:wc.cell? ⟨gb87,4,none⟩=some (.slice none 0 0):=(blk_cell BK87.out 4).trans rfl
     have hfz84_0:=blk_frozen BK87.out 0
     have hfz84_1:=blk_frozen BK87.out 1
     have hfz84_2:=blk_frozen BK87.out 2
     have hfz84_3:=blk_frozen BK87.out 3
     have hfz84_4:=blk_frozen BK87.out 4
     go_wp2
     refine bodyPost_ret (results_cell_row rfl _ _ gb87 25 #[.int .i64 a0_0,.string a0_1,.int .i64 1,.slice Ao14 t89.length co14,.slice none 0 0] (0,0) _ rfl (by (with_reducible repeat (first|refine blk_drewN ?_ _|refine blk_drew ?_|refine blk_alloc ?_ _));refine blk_put (cs:=#[.int .i64 a0_0,.string a0_1,.int .i64 1,.slice Ao14 t89.length co14,.slice none 0 0]) ?_ 4 _ rfl;(with_reducible repeat (first|refine blk_drewN ?_ _|refine blk_drew ?_|refine blk_alloc ?_ _));refine blk_put (cs:=#[.int .i64 a0_0,.string a0_1,.int .i64 1,.slice none 0 0,.slice none 0 0]) ?_ 3 _ rfl;(with_reducible repeat (first|refine blk_drewN ?_ _|refine blk_drew ?_|refine blk_alloc ?_ _));refine blk_put (cs:=#[.int .i64 a0_0,.string a0_1,.int .i64 0,.slice none 0 0,.slice none 0 0]) ?_ 2 _ rfl;(with_reducible repeat (first|refine blk_drewN ?_ _|refine blk_drew ?_|refine blk_alloc ?_ _));refine blk_put (cs:=#[.int .i64 a0_0,.string (⟨#[]⟩:ByteArray),.int .i64 0,.slice none 0 0,.slice none 0 0]) ?_ 1 _ rfl;(with_reducible repeat (first|refine blk_drewN ?_ _|refine blk_drew ?_|refine blk_alloc ?_ _));refine blk_put (cs:=#[.int .i64 0,.string (⟨#[]⟩:ByteArray),.int .i64 0,.slice none 0 0,.slice none 0 0]) ?_ 0 _ rfl;(with_reducible repeat (first|refine blk_drewN ?_ _|refine blk_drew ?_|refine blk_alloc ?_ _));exact BK87.out) Tryz.underlying25 rfl (by kernel_rfl)) rfl ?_
     exact ⟨_,_,by first|rfl|(simp [errW_none,errW_some] <;> rfl)|(simp [*,errW_none,errW_some] <;> rfl),by (with_reducible repeat (first|apply Kd.R_alloc|apply Kd.R_drewN|apply Kd.R_drew));exact Kd.R_mono (Kd.R_far (p:=⟨gb87,4,none⟩) (Kd.R_far (p:=⟨gb87,3,none⟩) (Kd.R_far (p:=⟨gb87,2,none⟩) (Kd.R_far (p:=⟨gb87,1,none⟩) (Kd.R_far (p:=⟨gb87,0,none⟩) (Kd.R_types HO_88.out BK87.out (by decide)) (fun _ hk=>hk.2) (.int .i64 a0_0)) (fun _ hk=>hk.2) (.string a0_1)) (fun _ hk=>hk.2) (.int .i64 1)) (fun _ hk=>hk.2) (.slice Ao14 t89.length co14)) (fun _ hk=>hk.2) (.slice none 0 0)) (fun _ hk=>trivial),by first|exact Kd.R_nil _ _ _ _ _|exact Kd.N_nil _ _ _ _ _|exact Kd.V_nil _ _ _ _ _|exact Kd.Q_nil _ _ _ _ _|exact Kd.S_nil _ _ _ _ _,by repeat (first|(with_reducible first|exact HB.out|apply below_alloc|apply pw_below_drewN|apply below_drew1|refine below_set ?_ GE86.out|refine below_set ?_ GE87.out|refine below_set ?_ GE85.out)|exact HB.out)⟩
def tollbarlaw12_ScrubResponses.j0:Nat → ByteArray → Bool → Bool → Int → ByteArray → Int → List (S55) → List Int → Option (Bool)
 | 0,_,_,_,_,_,_,_,_=>none
 | k + 1,x1,x2,x18,x514000,x514001,x514002,x514003,x514004=>if x18=true then (some true) else ((scrub_Response.f k x514000 x514001 x514002 x514003 x514004 x1 x2).bind fun bt516=>((tollbarref12_Response.f k x514000 x514001 x514002 x514003 x514004 x1 x2).bind fun bt525=>((tollbarref08_SameResp.f k bt516.1 bt516.2.1 bt516.2.2.1 bt516.2.2.2.1 bt516.2.2.2.2 bt525.1 bt525.2.1 bt525.2.2.1 bt525.2.2.2.1 bt525.2.2.2.2).bind fun t534=>(if t534=true then ((scrub_Own.f x514000 x2).bind fun bt535=>((tollbarref12_Own.f k x514000 x2).bind fun bt544=>((tollbarref08_SameResp.f k bt535.1 bt535.2.1 bt535.2.2.1 bt535.2.2.2.1 bt535.2.2.2.2 bt544.1 bt544.2.1 bt544.2.2.1 bt544.2.2.2.1 bt544.2.2.2.2).bind fun t553=>(some t553)))) else (some false)))))
def tollbarlaw12_ScrubResponses.f (k:Nat) (a0_0:Int) (a0_1:ByteArray) (a0_2:Int) (l0_3:List (S55)) (l0_4:List Int) (a1:ByteArray) (a2:Bool):Option (Bool):=(tollbarlaw12_alive.f).bind fun t514=>(if t514=true then ((tollbarlaw12_few.f l0_3 ([]:List ByteArray)).bind fun t515=>(if t515=true then (tollbarlaw12_ScrubResponses.j0 k a1 a2 (decide ((l0_4.length:Int) > 5000)) a0_0 a0_1 a0_2 l0_3 l0_4) else (tollbarlaw12_ScrubResponses.j0 k a1 a2 true a0_0 a0_1 a0_2 l0_3 l0_4))) else (some false))
def tollbarlaw12_ScrubResponses.T5:Bool × List (List Nat × List Nat):=(true,[([],[]),([],[]),([],[]),([0,1,2],[0,1,2]),([],[]),([],[]),([],[]),([4,5,6,3],[4,5,6]),([3,7,7],[3,7]),([8,8],[8]),([9],[9]),([10,9],[9,10]),([9],[9]),([11,12,9,9],[9,11,12]),([9],[9]),([14,9],[9,14]),([9],[9]),([15,16,13,9],[9,15,16]),([13,17,17,9],[9,13,17]),([9,18],[9,18]),([19,18,0,1,2,3,4,5,6,7,8,9,10,11,12,13,14,15,16,17,18,19],[19])])
def tollbarlaw12_ScrubResponses.B5:List Nat:=[0,0,0,7,0,0,0,127,255,511,1023,2047,1023,8191,1023,17407,1023,131071,262143,524287,1048575]
theorem tollbarlaw12_ScrubResponses.tab5:rtab .any (opsOf Tryz.f3 5)=tollbarlaw12_ScrubResponses.T5:=by kernel_rfl
theorem tollbarlaw12_ScrubResponses.bits5:waitsOk tollbarlaw12_ScrubResponses.T5.2 tollbarlaw12_ScrubResponses.B5=true:=by kernel_rfl
set_option maxHeartbeats 8000000 in
set_option maxRecDepth 100000 in
theorem tollbarlaw12_ScrubResponses.calls (k:Nat) (a0_0:Int) (a0_1:ByteArray) (a0_2:Int) (A0_3:Option Addr) (c0_3:Nat) (l0_3:List (S55)) (A0_4:Option Addr) (c0_4:Nat) (l0_4:List Int) (a1:ByteArray) (a2:Bool) (r:Bool) (w:World) (hr0_3:Kd.C k55 w A0_3 l0_3.length l0_3) (hc0_3:l0_3.length ≤ c0_3) (hr0_4:Kd.C (Kd.int .u8) w A0_4 l0_4.length l0_4) (hc0_4:l0_4.length ≤ c0_4) (h:tollbarlaw12_ScrubResponses.f k a0_0 a0_1 a0_2 l0_3 l0_4 a1 a2=some r) (hr:r=true) (ht:Tabs w) :
  Calls Tryz.prog 3 #[.agg #[.int .i64 a0_0,.string a0_1,.int .i64 a0_2,.slice A0_3 l0_3.length c0_3,.slice A0_4 l0_4.length c0_4],.string a1,.bool a2] w fun e w' => e = .returned (.bool r)∧Below w.heap.size w w' := by
 have HTB:=Aside0.mk ht
 clear ht
 have HRT:=Aside0.mk hr
 clear hr
 have hu25:=Tryz.underlying25
 have HR0_3:=Aside0.mk hr0_3
 have HC0_3:=Aside0.mk hc0_3
 clear hr0_3 hc0_3
 have HR0_4:=Aside0.mk hr0_4
 have HC0_4:=Aside0.mk hc0_4
 clear hr0_4 hc0_4
 have HB:=Aside0.mk (Below.refl w.heap.size w)
 have H:((tollbarlaw12_alive.f).bind fun t62=>(if t62=true then ((tollbarlaw12_few.f l0_3 ([]:List ByteArray)).bind fun t49=>(if t49=true then (tollbarlaw12_ScrubResponses.j0 k a1 a2 (decide ((l0_4.length:Int) > 5000)) a0_0 a0_1 a0_2 l0_3 l0_4) else (tollbarlaw12_ScrubResponses.j0 k a1 a2 true a0_0 a0_1 a0_2 l0_3 l0_4))) else (some false)))=some r:=h
 clear h
 replace H:=Option.bind_eq_some_iff.mp H
 obtain ⟨t62,A40,H⟩:=H
 replace H:(if t62=true then ((tollbarlaw12_few.f l0_3 ([]:List ByteArray)).bind fun t49=>(if t49=true then (tollbarlaw12_ScrubResponses.j0 k a1 a2 (decide ((l0_4.length:Int) > 5000)) a0_0 a0_1 a0_2 l0_3 l0_4) else (tollbarlaw12_ScrubResponses.j0 k a1 a2 true a0_0 a0_1 a0_2 l0_3 l0_4))) else (some false))=some r:=H
 have A4:=Aside0.mk A40
 clear A40
 by_cases c5:t62=true
 ·subst c5
  have H1:((tollbarlaw12_few.f l0_3 ([]:List ByteArray)).bind fun t49=>(if t49=true then (tollbarlaw12_ScrubResponses.j0 k a1 a2 (decide ((l0_4.length:Int) > 5000)) a0_0 a0_1 a0_2 l0_3 l0_4) else (tollbarlaw12_ScrubResponses.j0 k a1 a2 true a0_0 a0_1 a0_2 l0_3 l0_4)))=some r:=by rw [if_pos rfl] at H;exact H
  clear H
  have H:=H1
  clear H1
  have HC6:=Aside0.mk H
  clear H
  go_enter Tryz.func3,Tryz.ntmps3
  go_upto_region 3 with (first|((with_reducible refine gate_dst (N:=3) rfl ?_);(try (refine gate_guard (by rfl) ?_;dsimp only));refine box_event ?hg (N:=3) ?hd (cs:=#[.int .i64 a0_0,.string a0_1,.int .i64 a0_2,.slice A0_3 l0_3.length c0_3,.slice A0_4 l0_4.length c0_4]) (t:=25) ?hr ?_;(case hd=>rfl);(case hg=>rfl);(case hr=>first|(go_simp;done)|(go_simp;rfl));intro gb36 hg w7 hbox hb;have n0_:=Aside0.mk (below_step (by repeat (first|(with_reducible first|exact HB.out|apply below_alloc|apply pw_below_drewN|apply below_drew1)|exact HB.out)) hb);have n1_:=Aside0.mk (hbox);have n2_:=Aside0.mk ((by rw [hg];exact (below_size (by repeat (first|(with_reducible first|exact HB.out|apply below_alloc|apply pw_below_drewN|apply below_drew1)|exact HB.out))):w.heap.size ≤ gb36));have n3_:=Aside0.mk ((by rw [hg];exact (below_size (by repeat (first|(with_reducible first|exact HB.out|apply below_alloc|apply pw_below_drewN|apply below_drew1)|exact HB.out))):w.heap.size ≤ gb36));clear HB;have HB:=n0_;have BK36:=n1_;have GW36:=n2_;have GE36:=n3_;clear n0_ n1_ n2_ n3_;clear hb hbox hg)|((with_reducible refine gate_callee (f:=12) rfl ?_);refine goesL_ (some 7) rfl rfl Tryz.func12 (by kernel_rfl) rfl #[] rfl (by (try simp only [List.map_toArray,List.map_cons,List.map_nil]);first|done|rfl|(simp only [List.length_drop,List.length_take];rfl)) ?_;(with_reducible refine (tollbarlaw12_alive.calls  true _ A4.out ?hT).mono ?_);(case hT=>exact HTB.out.below (by repeat (first|(with_reducible first|exact HB.out|apply below_alloc|apply pw_below_drewN|apply below_drew1|refine below_set ?_ GE36.out)|exact HB.out)));rintro e w8 ⟨rfl,hb⟩;refine ⟨_,rfl,?_⟩;have n0_:=Aside0.mk (blk_below (g:=gb36) (o:=.cells #[.int .i64 a0_0,.string a0_1,.int .i64 a0_2,.slice A0_3 l0_3.length c0_3,.slice A0_4 l0_4.length c0_4] 25 (0,0)) (by (with_reducible repeat (first|refine blk_drewN ?_ _|refine blk_drew ?_|refine blk_alloc ?_ _));exact BK36.out) hb);have n1_:=Aside0.mk (below_step (by repeat (first|(with_reducible first|exact HB.out|apply below_alloc|apply pw_below_drewN|apply below_drew1|refine below_set ?_ GE36.out)|exact HB.out)) hb);clear BK36;clear HB;have BK36:=n0_;have HB:=n1_;clear n0_ n1_;(try clear hb);(try clear hb2);(try clear hk);(try clear hi)))
  (try simp only [Act.put,zqA,zqB,zqC])
  go_cut [18] (fun v18 wc => ∃ (kq:Nat) (x18_5:Bool),v18 = .bool x18_5∧Aside0 (tollbarlaw12_ScrubResponses.j0 kq a1 a2 x18_5 a0_0 a0_1 a0_2 l0_3 l0_4=some r)∧Aside0 (kq ≤ k)∧Aside0 (wc.heap[gb36]? = some (.cells #[.int .i64 a0_0,.string a0_1,.int .i64 a0_2,(.slice A0_3 l0_3.length c0_3),(.slice A0_4 l0_4.length c0_4)] 25 (0,0)))∧Aside0 (Below w.heap.size w wc))
  case first =>
   have H:=HC6.out
   clear HC6
   replace H:=Option.bind_eq_some_iff.mp H
   obtain ⟨t49,A90,H⟩:=H
   replace H:(if t49=true then (tollbarlaw12_ScrubResponses.j0 k a1 a2 (decide ((l0_4.length:Int) > 5000)) a0_0 a0_1 a0_2 l0_3 l0_4) else (tollbarlaw12_ScrubResponses.j0 k a1 a2 true a0_0 a0_1 a0_2 l0_3 l0_4))=some r:=H
   have A9:=Aside0.mk A90
   clear A90
   by_cases c10:t49=true
   ·subst c10
    have H1:(tollbarlaw12_ScrubResponses.j0 k a1 a2 (decide ((l0_4.length:Int) > 5000)) a0_0 a0_1 a0_2 l0_3 l0_4)=some r:=by rw [if_pos rfl] at H;exact H
    clear H
    have H:=H1
    clear H1
    have H' := Aside0.mk H
    clear H
    have hcz11_0:w8.cell? ⟨gb36,0,none⟩=some (.int .i64 a0_0):=(blk_cell BK36.out 0).trans rfl
    have hcz11_1:w8.cell? ⟨gb36,1,none⟩=some (.string a0_1):=(blk_cell BK36.out 1).trans rfl
    have hcz11_2:w8.cell? ⟨gb36,2,none⟩=some (.int .i64 a0_2):=(blk_cell BK36.out 2).trans rfl
    have hcz11_3:w8.cell? ⟨gb36,3,none⟩=some (.slice A0_3 l0_3.length c0_3):=(blk_cell BK36.out 3).trans rfl
    have hcz11_4:w8.cell? ⟨gb36,4,none⟩=some (.slice A0_4 l0_4.length c0_4):=(blk_cell BK36.out 4).trans rfl
    have hfz11_0:=blk_frozen BK36.out 0
    have hfz11_1:=blk_frozen BK36.out 1
    have hfz11_2:=blk_frozen BK36.out 2
    have hfz11_3:=blk_frozen BK36.out 3
    have hfz11_4:=blk_frozen BK36.out 4
    go_wp2_with (first|((with_reducible refine gate_callee (f:=13) rfl ?_);refine goesL_ (some 11) rfl rfl Tryz.func13 (by kernel_rfl) rfl #[.slice A0_3 l0_3.length c0_3,.slice none 0 0] rfl (by (try simp only [List.map_toArray,List.map_cons,List.map_nil]);first|done|rfl|(simp only [List.length_drop,List.length_take];rfl)) ?_;(refine (tollbarlaw12_few.calls _ _ l0_3 _ _ ([]:List ByteArray) true _ ?side1 ?side2 ?side3 ?side4 A9.out).mono ?_);(case side1=>repeat (first|exact (Kd.C_below HR0_3.out HB.out)|(with_reducible refine Kd.C_alloc ?_ _)|(with_reducible refine Kd.C_drewN ?_ _)|(with_reducible refine Kd.C_drew ?_)));(case side2=>exact HC0_3.out);(case side3=>exact Kd.C_nil _ _);(case side4=>exact Nat.le_refl _);rintro e w' ⟨rfl,⟨nd,rfl⟩⟩;(try clear A9);refine ⟨_,rfl,?_⟩))
    go_meet
    case rel=>exact ⟨_,(decide ((l0_4.length:Int) > 5000)),(by first|rfl|(simp;done)|(simp [*];done)),H',⟨by first|omega|exact Nat.le_refl _⟩,⟨by (with_reducible repeat (first|refine blk_drewN ?_ _|refine blk_drew ?_|refine blk_alloc ?_ _));exact BK36.out⟩,⟨by repeat (first|(with_reducible first|exact HB.out|apply below_alloc|apply pw_below_drewN|apply below_drew1|refine below_set ?_ GE36.out)|exact HB.out)⟩⟩
   ·replace c10:=Bool.eq_false_iff.mpr c10
    subst c10
    have H1:(tollbarlaw12_ScrubResponses.j0 k a1 a2 true a0_0 a0_1 a0_2 l0_3 l0_4)=some r:=by rw [if_neg (show ¬ (false=true) by decide)] at H;exact H
    clear H
    have H:=H1
    clear H1
    have H' := Aside0.mk H
    clear H
    have hcz12_0:w8.cell? ⟨gb36,0,none⟩=some (.int .i64 a0_0):=(blk_cell BK36.out 0).trans rfl
    have hcz12_1:w8.cell? ⟨gb36,1,none⟩=some (.string a0_1):=(blk_cell BK36.out 1).trans rfl
    have hcz12_2:w8.cell? ⟨gb36,2,none⟩=some (.int .i64 a0_2):=(blk_cell BK36.out 2).trans rfl
    have hcz12_3:w8.cell? ⟨gb36,3,none⟩=some (.slice A0_3 l0_3.length c0_3):=(blk_cell BK36.out 3).trans rfl
    have hcz12_4:w8.cell? ⟨gb36,4,none⟩=some (.slice A0_4 l0_4.length c0_4):=(blk_cell BK36.out 4).trans rfl
    have hfz12_0:=blk_frozen BK36.out 0
    have hfz12_1:=blk_frozen BK36.out 1
    have hfz12_2:=blk_frozen BK36.out 2
    have hfz12_3:=blk_frozen BK36.out 3
    have hfz12_4:=blk_frozen BK36.out 4
    go_wp2_with (first|((with_reducible refine gate_callee (f:=13) rfl ?_);refine goesL_ (some 11) rfl rfl Tryz.func13 (by kernel_rfl) rfl #[.slice A0_3 l0_3.length c0_3,.slice none 0 0] rfl (by (try simp only [List.map_toArray,List.map_cons,List.map_nil]);first|done|rfl|(simp only [List.length_drop,List.length_take];rfl)) ?_;(refine (tollbarlaw12_few.calls _ _ l0_3 _ _ ([]:List ByteArray) false _ ?side1 ?side2 ?side3 ?side4 A9.out).mono ?_);(case side1=>repeat (first|exact (Kd.C_below HR0_3.out HB.out)|(with_reducible refine Kd.C_alloc ?_ _)|(with_reducible refine Kd.C_drewN ?_ _)|(with_reducible refine Kd.C_drew ?_)));(case side2=>exact HC0_3.out);(case side3=>exact Kd.C_nil _ _);(case side4=>exact Nat.le_refl _);rintro e w' ⟨rfl,⟨nd,rfl⟩⟩;(try clear A9);refine ⟨_,rfl,?_⟩))
    go_meet
    case rel=>exact ⟨_,(true),(by first|rfl|(simp;done)|(simp [*];done)),H',⟨by first|omega|exact Nat.le_refl _⟩,⟨by (with_reducible repeat (first|refine blk_drewN ?_ _|refine blk_drew ?_|refine blk_alloc ?_ _));exact BK36.out⟩,⟨by repeat (first|(with_reducible first|exact HB.out|apply below_alloc|apply pw_below_drewN|apply below_drew1|refine below_set ?_ GE36.out)|exact HB.out)⟩⟩
  case rest =>
   clear HC6
   try clear c1
   try clear p2
   try clear c3
   try clear c5
   try clear c10
   try clear c12
   try clear hcz11_0
   try clear hcz11_1
   try clear hcz11_2
   try clear hcz11_3
   try clear hcz11_4
   try clear hcz12_0
   try clear hcz12_1
   try clear hcz12_2
   try clear hcz12_3
   try clear hcz12_4
   try clear hfz11_0
   try clear hfz11_1
   try clear hfz11_2
   try clear hfz11_3
   try clear hfz11_4
   try clear hfz12_0
   try clear hfz12_1
   try clear hfz12_2
   try clear hfz12_3
   try clear hfz12_4
   obtain ⟨kq,x18_5,rfl,HA,HJ5,BK36,HB⟩:=hcut
   cases kq with
   | zero=>exact absurd HA.out (by simp [tollbarlaw12_ScrubResponses.j0])
   | succ kj5 =>
    have H:=HA.out
    clear HA
    simp only [tollbarlaw12_ScrubResponses.j0] at H
    by_cases c13:x18_5=true
    ·subst c13
     have H1:(some true)=some r:=by rw [if_pos rfl] at H;exact H
     clear H
     have H:=H1
     clear H1
     obtain rfl:=Option.some.inj H
     go_wp2
     go_ret
     exact ⟨by first|rfl|(simp [errW_none,errW_some] <;> rfl)|(simp [*,errW_none,errW_some] <;> rfl),by repeat (first|(with_reducible first|exact HB.out|apply below_alloc|apply pw_below_drewN|apply below_drew1|refine below_set ?_ GE36.out)|exact HB.out)⟩
    ·replace c13:=Bool.eq_false_iff.mpr c13
     subst c13
     have H1:((scrub_Response.f kj5 a0_0 a0_1 a0_2 l0_3 l0_4 a1 a2).bind fun bt46=>((tollbarref12_Response.f kj5 a0_0 a0_1 a0_2 l0_3 l0_4 a1 a2).bind fun bt42=>((tollbarref08_SameResp.f kj5 bt46.1 bt46.2.1 bt46.2.2.1 bt46.2.2.2.1 bt46.2.2.2.2 bt42.1 bt42.2.1 bt42.2.2.1 bt42.2.2.2.1 bt42.2.2.2.2).bind fun t50=>(if t50=true then ((scrub_Own.f a0_0 a2).bind fun bt38=>((tollbarref12_Own.f kj5 a0_0 a2).bind fun bt37=>((tollbarref08_SameResp.f kj5 bt38.1 bt38.2.1 bt38.2.2.1 bt38.2.2.2.1 bt38.2.2.2.2 bt37.1 bt37.2.1 bt37.2.2.1 bt37.2.2.2.1 bt37.2.2.2.2).bind fun t43=>(some t43)))) else (some false)))))=some r:=by rw [if_neg (show ¬ (false=true) by decide)] at H;exact H
     clear H
     have H:=H1
     clear H1
     replace H:=Option.bind_eq_some_iff.mp H
     obtain ⟨⟨t46,t51,t52,t53,t54⟩,A72,H⟩:=H
     replace H:((tollbarref12_Response.f kj5 a0_0 a0_1 a0_2 l0_3 l0_4 a1 a2).bind fun bt42=>((tollbarref08_SameResp.f kj5 t46 t51 t52 t53 t54 bt42.1 bt42.2.1 bt42.2.2.1 bt42.2.2.2.1 bt42.2.2.2.2).bind fun t50=>(if t50=true then ((scrub_Own.f a0_0 a2).bind fun bt38=>((tollbarref12_Own.f kj5 a0_0 a2).bind fun bt37=>((tollbarref08_SameResp.f kj5 bt38.1 bt38.2.1 bt38.2.2.1 bt38.2.2.2.1 bt38.2.2.2.2 bt37.1 bt37.2.1 bt37.2.2.1 bt37.2.2.2.1 bt37.2.2.2.2).bind fun t43=>(some t43)))) else (some false))))=some r:=H
     have A14:=Aside0.mk A72
     clear A72
     replace H:=Option.bind_eq_some_iff.mp H
     obtain ⟨⟨t42,t63,t65,t66,t67⟩,A73,H⟩:=H
     replace H:((tollbarref08_SameResp.f kj5 t46 t51 t52 t53 t54 t42 t63 t65 t66 t67).bind fun t50=>(if t50=true then ((scrub_Own.f a0_0 a2).bind fun bt38=>((tollbarref12_Own.f kj5 a0_0 a2).bind fun bt37=>((tollbarref08_SameResp.f kj5 bt38.1 bt38.2.1 bt38.2.2.1 bt38.2.2.2.1 bt38.2.2.2.2 bt37.1 bt37.2.1 bt37.2.2.1 bt37.2.2.2.1 bt37.2.2.2.2).bind fun t43=>(some t43)))) else (some false)))=some r:=H
     have A15:=Aside0.mk A73
     clear A73
     replace H:=Option.bind_eq_some_iff.mp H
     obtain ⟨t50,A74,H⟩:=H
     replace H:(if t50=true then ((scrub_Own.f a0_0 a2).bind fun bt38=>((tollbarref12_Own.f kj5 a0_0 a2).bind fun bt37=>((tollbarref08_SameResp.f kj5 bt38.1 bt38.2.1 bt38.2.2.1 bt38.2.2.2.1 bt38.2.2.2.2 bt37.1 bt37.2.1 bt37.2.2.1 bt37.2.2.2.1 bt37.2.2.2.2).bind fun t43=>(some t43)))) else (some false))=some r:=H
     have A16:=Aside0.mk A74
     clear A74
     by_cases c17:t50=true
     ·subst c17
      have H1:((scrub_Own.f a0_0 a2).bind fun bt38=>((tollbarref12_Own.f kj5 a0_0 a2).bind fun bt37=>((tollbarref08_SameResp.f kj5 bt38.1 bt38.2.1 bt38.2.2.1 bt38.2.2.2.1 bt38.2.2.2.2 bt37.1 bt37.2.1 bt37.2.2.1 bt37.2.2.2.1 bt37.2.2.2.2).bind fun t43=>(some t43))))=some r:=by rw [if_pos rfl] at H;exact H
      clear H
      have H:=H1
      clear H1
      replace H:=Option.bind_eq_some_iff.mp H
      obtain ⟨⟨t38,t56,t57,t58,t59⟩,A75,H⟩:=H
      replace H:((tollbarref12_Own.f kj5 a0_0 a2).bind fun bt37=>((tollbarref08_SameResp.f kj5 t38 t56 t57 t58 t59 bt37.1 bt37.2.1 bt37.2.2.1 bt37.2.2.2.1 bt37.2.2.2.2).bind fun t43=>(some t43)))=some r:=H
      have A18:=Aside0.mk A75
      clear A75
      replace H:=Option.bind_eq_some_iff.mp H
      obtain ⟨⟨t37,t68,t69,t70,t71⟩,A76,H⟩:=H
      replace H:((tollbarref08_SameResp.f kj5 t38 t56 t57 t58 t59 t37 t68 t69 t70 t71).bind fun t43=>(some t43))=some r:=H
      have A19:=Aside0.mk A76
      clear A76
      replace H:=Option.bind_eq_some_iff.mp H
      obtain ⟨t43,A77,H⟩:=H
      replace H:(some t43)=some r:=H
      have A20:=Aside0.mk A77
      clear A77
      obtain rfl:=Option.some.inj H
      try go_wp2
      replace BK36:=Aside0.mk (blk_drew BK36.out)
      replace HB:=Aside0.mk (below_drew1 HB.out)
      refine start_ (n:=21) (S:=fun w' => w'.cell? ⟨gb36,0,none⟩=some (.int .i64 a0_0)∧w'.cell? ⟨gb36,1,none⟩=some (.string a0_1)∧w'.cell? ⟨gb36,2,none⟩=some (.int .i64 a0_2)∧w'.cell? ⟨gb36,3,none⟩=some (.slice A0_3 l0_3.length c0_3)∧w'.cell? ⟨gb36,4,none⟩=some (.slice A0_4 l0_4.length c0_4)) (ds:=[]) #[false,false,false,false,false,false,false,false,false,false,false,false,false,false,false,false,false,false,false,false,false] (by kernel_rfl) rfl rfl ⟨(blk_cell BK36.out 0).trans rfl,(blk_cell BK36.out 1).trans rfl,(blk_cell BK36.out 2).trans rfl,(blk_cell BK36.out 3).trans rfl,(blk_cell BK36.out 4).trans rfl⟩ (fun hHeld=>?_);refine with_tabW tollbarlaw12_ScrubResponses.tab5 tollbarlaw12_ScrubResponses.bits5 (fun HT_ HW_=>?_)
      generalize wc.drew=w21 at BK36 HB hHeld ⊢
      refine pure_ (i:=1) (N:=some 20) (v:=?_) (a' := ?_) #[false,true,false,false,false,false,false,false,false,false,false,false,false,false,false,false,false,false,false,false,false] rfl rfl (any_of HT_.out (by kernel_rfl)) (fun _ _ _ h=>h) (Or.inl ⟨by rfl,?_⟩) ?_ ?_
      rotate_left
      ·intro w';go_simp;with_reducible rfl
      rotate_left
      ·simp only [Act.put,zqA,zqB,zqC,i64_w,i32_w];rfl
      refine pure_ (i:=2) (N:=some 21) (v:=?_) (a' := ?_) #[false,true,true,false,false,false,false,false,false,false,false,false,false,false,false,false,false,false,false,false,false] rfl rfl (any_of HT_.out (by kernel_rfl)) (fun _ _ _ h=>h) (Or.inl ⟨by rfl,?_⟩) ?_ ?_
      rotate_left
      ·intro w';go_simp;with_reducible rfl
      rotate_left
      ·simp only [Act.put,zqA,zqB,zqC,i64_w,i32_w];rfl
      refine pure_ (i:=5) (N:=some 24) (v:=?_) (a' := ?_) #[false,true,true,false,false,true,false,false,false,false,false,false,false,false,false,false,false,false,false,false,false] rfl rfl (any_of HT_.out (by kernel_rfl)) (fun _ _ _ h=>h) (Or.inl ⟨by rfl,?_⟩) ?_ ?_
      rotate_left
      ·intro w';go_simp;with_reducible rfl
      rotate_left
      ·simp only [Act.put,zqA,zqB,zqC,i64_w,i32_w];rfl
      refine pure_ (i:=6) (N:=some 25) (v:=?_) (a' := ?_) #[false,true,true,false,false,true,true,false,false,false,false,false,false,false,false,false,false,false,false,false,false] rfl rfl (any_of HT_.out (by kernel_rfl)) (fun _ _ _ h=>h) (Or.inl ⟨by rfl,?_⟩) ?_ ?_
      rotate_left
      ·intro w';go_simp;with_reducible rfl
      rotate_left
      ·simp only [Act.put,zqA,zqB,zqC,i64_w,i32_w];rfl
      refine take_ (i:=0) (N:=some 19) (v:=?_) (a' := ?_) #[true,true,true,false,false,true,true,false,false,false,false,false,false,false,false,false,false,false,false,false,false] rfl rfl (take_ofW HT_.out HW_.out (by kernel_rfl)) (fun _ _ _ h=>h) (Or.inl ⟨by rfl,?_⟩) hHeld ?_ ?_
      rotate_left
      ·rintro w' ⟨s0,s1,s2,s3,s4⟩;go_simp;with_reducible rfl
      rotate_left
      ·simp only [Act.put,zqA,zqB,zqC,i64_w,i32_w];rfl
      refine take_ (i:=4) (N:=some 23) (v:=?_) (a' := ?_) #[true,true,true,false,true,true,true,false,false,false,false,false,false,false,false,false,false,false,false,false,false] rfl rfl (take_ofW HT_.out HW_.out (by kernel_rfl)) (fun _ _ _ h=>h) (Or.inl ⟨by rfl,?_⟩) hHeld ?_ ?_
      rotate_left
      ·rintro w' ⟨s0,s1,s2,s3,s4⟩;go_simp;with_reducible rfl
      rotate_left
      ·simp only [Act.put,zqA,zqB,zqC,i64_w,i32_w];rfl
      refine one_ (i:=3) (N:=some 22) #[true,true,true,true,true,true,true,false,false,false,false,false,false,false,false,false,false,false,false,false,false] rfl rfl (one_of HT_.out (by kernel_rfl)) (by decide) (fun K hK=>?_)
      refine goes_ Tryz.func15 (by kernel_rfl) rfl #[.agg #[.int .i64 a0_0,.string a0_1,.int .i64 a0_2,.slice A0_3 l0_3.length c0_3,.slice A0_4 l0_4.length c0_4],.string a1,.bool a2] (by rfl) rfl rfl (by (try simp only [List.map_toArray,List.map_cons,List.map_nil]);first|done|rfl|(simp only [List.length_drop,List.length_take];rfl)) ?_
      with_reducible refine (scrub_Response.calls kj5 a0_0 a0_1 a0_2 _ _ l0_3 _ _ l0_4 a1 a2 t46 t51 t52 t53 t54 _ ?side1 ?side2 ?side3 ?side4 A14.out ?hT).mono ?_;(case hT=>exact HTB.out.below (by repeat (first|(with_reducible first|exact HB.out|apply below_alloc|apply pw_below_drewN|apply below_drew1|refine below_set ?_ GE36.out)|exact HB.out)))
      (case side1=>repeat (first|exact (Kd.C_below HR0_3.out HB.out)|(with_reducible refine Kd.C_alloc ?_ _)|(with_reducible refine Kd.C_drewN ?_ _)|(with_reducible refine Kd.C_drew ?_)))
      (case side2=>exact HC0_3.out)
      (case side3=>repeat (first|exact (Kd.C_below HR0_4.out HB.out)|(with_reducible refine Kd.C_alloc ?_ _)|(with_reducible refine Kd.C_drewN ?_ _)|(with_reducible refine Kd.C_drew ?_)))
      (case side4=>exact HC0_4.out)
      rintro e w22 ⟨v78,v79,rfl,ho0,ho1,hb⟩
      refine ⟨_,rfl,?_⟩
      have n0_:=Aside0.mk (Kd.R_lower ho0 (below_size (by repeat (first|(with_reducible first|exact HB.out|apply below_alloc|apply pw_below_drewN|apply below_drew1|refine below_set ?_ GE36.out)|exact HB.out))))
      have n1_:=Aside0.mk (Kd.R_lower ho1 (below_size (by repeat (first|(with_reducible first|exact HB.out|apply below_alloc|apply pw_below_drewN|apply below_drew1|refine below_set ?_ GE36.out)|exact HB.out))))
      have n2_:=Aside0.mk (blk_below (g:=gb36) (o:=.cells #[.int .i64 a0_0,.string a0_1,.int .i64 a0_2,.slice A0_3 l0_3.length c0_3,.slice A0_4 l0_4.length c0_4] 25 (0,0)) (by (with_reducible repeat (first|refine blk_drewN ?_ _|refine blk_drew ?_|refine blk_alloc ?_ _));exact BK36.out) hb)
      have n3_:=Aside0.mk (below_step (by repeat (first|(with_reducible first|exact HB.out|apply below_alloc|apply pw_below_drewN|apply below_drew1|refine below_set ?_ GE36.out)|exact HB.out)) hb)
      clear BK36 HB
      have HO39:=n0_
      have HO41:=n1_
      have BK36:=n2_
      have HB:=n3_
      clear n0_ n1_ n2_ n3_
      (try clear hb)
      (try clear hb2)
      (try clear hk)
      (try clear hi)
      (try clear ho0)
      (try clear ho1)
      refine hK.out _ _ ⟨(blk_cell BK36.out 0).trans rfl,(blk_cell BK36.out 1).trans rfl,(blk_cell BK36.out 2).trans rfl,(blk_cell BK36.out 3).trans rfl,(blk_cell BK36.out 4).trans rfl⟩ (fun hHeld=>?_)
      clear hK K
      refine norm_ (a' := ?_) ?_ ?_
      rotate_left
      ·show Act.put _ (some 22) _=_
       simp only [Act.put,zqA,zqB,zqC,i64_w,i32_w]
       rfl
      refine one_ (i:=7) (N:=some 26) #[true,true,true,true,true,true,true,true,false,false,false,false,false,false,false,false,false,false,false,false,false] rfl rfl (one_of HT_.out (by kernel_rfl)) (by decide) (fun K hK=>?_)
      refine goes_ Tryz.func16 (by kernel_rfl) rfl #[.agg #[.int .i64 a0_0,.string a0_1,.int .i64 a0_2,.slice A0_3 l0_3.length c0_3,.slice A0_4 l0_4.length c0_4],.string a1,.bool a2] (by rfl) rfl rfl (by (try simp only [List.map_toArray,List.map_cons,List.map_nil]);first|done|rfl|(simp only [List.length_drop,List.length_take];rfl)) ?_
      with_reducible refine (tollbarref12_Response.calls kj5 a0_0 a0_1 a0_2 _ _ l0_3 _ _ l0_4 a1 a2 t42 t63 t65 t66 t67 _ ?side1 ?side2 ?side3 ?side4 A15.out).mono ?_
      (case side1=>repeat (first|exact (Kd.C_below HR0_3.out HB.out)|(with_reducible refine Kd.C_alloc ?_ _)|(with_reducible refine Kd.C_drewN ?_ _)|(with_reducible refine Kd.C_drew ?_)))
      (case side2=>exact HC0_3.out)
      (case side3=>repeat (first|exact (Kd.C_below HR0_4.out HB.out)|(with_reducible refine Kd.C_alloc ?_ _)|(with_reducible refine Kd.C_drewN ?_ _)|(with_reducible refine Kd.C_drew ?_)))
      (case side4=>exact HC0_4.out)
      rintro e w23 ⟨v80,v81,rfl,ho0,ho1,hb⟩
      refine ⟨_,rfl,?_⟩
      have n0_:=Aside0.mk (Kd.R_elder' (by (with_reducible repeat (first|apply Kd.R_alloc|apply Kd.R_drewN|apply Kd.R_drew));exact HO39.out) (Kd.R_base ho0) hb)
      have n1_:=Aside0.mk (Kd.R_elder' (by (with_reducible repeat (first|apply Kd.R_alloc|apply Kd.R_drewN|apply Kd.R_drew));exact HO41.out) (Kd.R_base ho1) hb)
      have n2_:=Aside0.mk (Kd.R_lower (Kd.R_new' ho0 (Kd.R_lt (by (with_reducible repeat (first|apply Kd.R_alloc|apply Kd.R_drewN|apply Kd.R_drew));exact HO39.out))) (below_size (by repeat (first|(with_reducible first|exact HB.out|apply below_alloc|apply pw_below_drewN|apply below_drew1|refine below_set ?_ GE36.out)|exact HB.out))))
      have n3_:=Aside0.mk (Kd.R_lower (Kd.R_new' ho1 (Kd.R_lt (by (with_reducible repeat (first|apply Kd.R_alloc|apply Kd.R_drewN|apply Kd.R_drew));exact HO41.out))) (below_size (by repeat (first|(with_reducible first|exact HB.out|apply below_alloc|apply pw_below_drewN|apply below_drew1|refine below_set ?_ GE36.out)|exact HB.out))))
      have n4_:=Aside0.mk (blk_below (g:=gb36) (o:=.cells #[.int .i64 a0_0,.string a0_1,.int .i64 a0_2,.slice A0_3 l0_3.length c0_3,.slice A0_4 l0_4.length c0_4] 25 (0,0)) (by (with_reducible repeat (first|refine blk_drewN ?_ _|refine blk_drew ?_|refine blk_alloc ?_ _));exact BK36.out) hb)
      have n5_:=Aside0.mk (below_step (by repeat (first|(with_reducible first|exact HB.out|apply below_alloc|apply pw_below_drewN|apply below_drew1|refine below_set ?_ GE36.out)|exact HB.out)) hb)
      clear HO39 HO41 BK36 HB
      have HO39:=n0_
      have HO41:=n1_
      have HO44:=n2_
      have HO45:=n3_
      have BK36:=n4_
      have HB:=n5_
      clear n0_ n1_ n2_ n3_ n4_ n5_
      (try clear hb)
      (try clear hb2)
      (try clear hk)
      (try clear hi)
      (try clear ho0)
      (try clear ho1)
      obtain ⟨Ao24,co24,eo24⟩:=Kd.R_slice HO39.out
      (first|subst eo24|(injection eo24 with f1_ f2_ f3_;have f4_:=f1_.symm;have f5_:=f3_.symm;clear f1_ f2_ f3_;subst f4_;subst f5_))
      obtain ⟨Ao25,co25,eo25⟩:=Kd.R_slice HO41.out
      (first|subst eo25|(injection eo25 with f1_ f2_ f3_;have f4_:=f1_.symm;have f5_:=f3_.symm;clear f1_ f2_ f3_;subst f4_;subst f5_))
      obtain ⟨Ao26,co26,eo26⟩:=Kd.R_slice HO44.out
      (first|subst eo26|(injection eo26 with f1_ f2_ f3_;have f4_:=f1_.symm;have f5_:=f3_.symm;clear f1_ f2_ f3_;subst f4_;subst f5_))
      obtain ⟨Ao27,co27,eo27⟩:=Kd.R_slice HO45.out
      (first|subst eo27|(injection eo27 with f1_ f2_ f3_;have f4_:=f1_.symm;have f5_:=f3_.symm;clear f1_ f2_ f3_;subst f4_;subst f5_))
      refine hK.out _ _ ⟨(blk_cell BK36.out 0).trans rfl,(blk_cell BK36.out 1).trans rfl,(blk_cell BK36.out 2).trans rfl,(blk_cell BK36.out 3).trans rfl,(blk_cell BK36.out 4).trans rfl⟩ (fun hHeld=>?_)
      clear hK K
      refine norm_ (a' := ?_) ?_ ?_
      rotate_left
      ·show Act.put _ (some 26) _=_
       simp only [Act.put,zqA,zqB,zqC,i64_w,i32_w]
       rfl
      refine one_ (i:=8) (N:=some 27) #[true,true,true,true,true,true,true,true,true,false,false,false,false,false,false,false,false,false,false,false,false] rfl rfl (one_of HT_.out (by kernel_rfl)) (by decide) (fun K hK=>?_)
      refine goes_ Tryz.func14 (by kernel_rfl) rfl #[.agg #[.int .i64 t46,.string t51,.int .i64 t52,.slice Ao24 t53.length co24,.slice Ao25 t54.length co25],.agg #[.int .i64 t42,.string t63,.int .i64 t65,.slice Ao26 t66.length co26,.slice Ao27 t67.length co27]] (by rfl) rfl rfl (by (try simp only [List.map_toArray,List.map_cons,List.map_nil]);first|done|rfl|(simp only [List.length_drop,List.length_take];rfl)) ?_
      with_reducible refine (tollbarref08_SameResp.calls kj5 t46 t51 t52 _ _ t53 _ _ t54 t42 t63 t65 _ _ t66 _ _ t67 true _ ?side1 ?side2 ?side3 ?side4 ?side5 ?side6 ?side7 ?side8 A16.out).mono ?_
      (case side1=>repeat (first|exact (Kd.R_reads' HO39.out).2.2|(with_reducible refine Kd.C_alloc ?_ _)|(with_reducible refine Kd.C_drewN ?_ _)|(with_reducible refine Kd.C_drew ?_)))
      (case side2=>exact (Kd.R_reads' HO39.out).2.1)
      (case side3=>repeat (first|exact (Kd.R_reads' HO41.out).2.2|(with_reducible refine Kd.C_alloc ?_ _)|(with_reducible refine Kd.C_drewN ?_ _)|(with_reducible refine Kd.C_drew ?_)))
      (case side4=>exact (Kd.R_reads' HO41.out).2.1)
      (case side5=>repeat (first|exact (Kd.R_reads' HO44.out).2.2|(with_reducible refine Kd.C_alloc ?_ _)|(with_reducible refine Kd.C_drewN ?_ _)|(with_reducible refine Kd.C_drew ?_)))
      (case side6=>exact (Kd.R_reads' HO44.out).2.1)
      (case side7=>repeat (first|exact (Kd.R_reads' HO45.out).2.2|(with_reducible refine Kd.C_alloc ?_ _)|(with_reducible refine Kd.C_drewN ?_ _)|(with_reducible refine Kd.C_drew ?_)))
      (case side8=>exact (Kd.R_reads' HO45.out).2.1)
      rintro e w28 ⟨rfl,hb⟩
      refine ⟨_,rfl,?_⟩
      replace HO39:=Aside0.mk (Kd.R_below (by (with_reducible repeat (first|apply Kd.R_alloc|apply Kd.R_drewN|apply Kd.R_drew));exact HO39.out) hb)
      replace HO41:=Aside0.mk (Kd.R_below (by (with_reducible repeat (first|apply Kd.R_alloc|apply Kd.R_drewN|apply Kd.R_drew));exact HO41.out) hb)
      replace HO44:=Aside0.mk (Kd.R_below (by (with_reducible repeat (first|apply Kd.R_alloc|apply Kd.R_drewN|apply Kd.R_drew));exact HO44.out) hb)
      replace HO45:=Aside0.mk (Kd.R_below (by (with_reducible repeat (first|apply Kd.R_alloc|apply Kd.R_drewN|apply Kd.R_drew));exact HO45.out) hb)
      replace BK36:=Aside0.mk (blk_below (g:=gb36) (o:=.cells #[.int .i64 a0_0,.string a0_1,.int .i64 a0_2,.slice A0_3 l0_3.length c0_3,.slice A0_4 l0_4.length c0_4] 25 (0,0)) (by (with_reducible repeat (first|refine blk_drewN ?_ _|refine blk_drew ?_|refine blk_alloc ?_ _));exact BK36.out) hb)
      replace HB:=Aside0.mk (below_step (by repeat (first|(with_reducible first|exact HB.out|apply below_alloc|apply pw_below_drewN|apply below_drew1|refine below_set ?_ GE36.out)|exact HB.out)) hb)
      (try clear hb)
      (try clear hb2)
      (try clear hk)
      (try clear hi)
      refine hK.out _ _ ⟨(blk_cell BK36.out 0).trans rfl,(blk_cell BK36.out 1).trans rfl,(blk_cell BK36.out 2).trans rfl,(blk_cell BK36.out 3).trans rfl,(blk_cell BK36.out 4).trans rfl⟩ (fun hHeld=>?_)
      clear hK K
      refine norm_ (a' := ?_) ?_ ?_
      rotate_left
      ·show Act.put _ (some 27) _=_
       simp only [Act.put,zqA,zqB,zqC,i64_w,i32_w]
       rfl
      refine pure_ (i:=9) (N:=some 28) (v:=?_) (a' := ?_) #[true,true,true,true,true,true,true,true,true,true,false,false,false,false,false,false,false,false,false,false,false] rfl rfl (any_of HT_.out (by kernel_rfl)) (fun _ _ _ h=>h) (Or.inl ⟨by rfl,?_⟩) ?_ ?_
      rotate_left
      ·intro w';go_simp;with_reducible rfl
      rotate_left
      ·simp only [Act.put,zqA,zqB,zqC,i64_w,i32_w];rfl
      refine pure_ (i:=10) (N:=some 29) (v:=?_) (a' := ?_) #[true,true,true,true,true,true,true,true,true,true,true,false,false,false,false,false,false,false,false,false,false] rfl rfl (any_of HT_.out (by kernel_rfl)) (fun _ _ _ h=>h) (Or.inl ⟨by rfl,?_⟩) ?_ ?_
      rotate_left
      ·intro w';go_simp;with_reducible rfl
      rotate_left
      ·simp only [Act.put,zqA,zqB,zqC,i64_w,i32_w];rfl
      refine pure_ (i:=12) (N:=some 31) (v:=?_) (a' := ?_) #[true,true,true,true,true,true,true,true,true,true,true,false,true,false,false,false,false,false,false,false,false] rfl rfl (any_of HT_.out (by kernel_rfl)) (fun _ _ _ h=>h) (Or.inl ⟨by rfl,?_⟩) ?_ ?_
      rotate_left
      ·intro w';go_simp;with_reducible rfl
      rotate_left
      ·simp only [Act.put,zqA,zqB,zqC,i64_w,i32_w];rfl
      refine pure_ (i:=14) (N:=some 33) (v:=?_) (a' := ?_) #[true,true,true,true,true,true,true,true,true,true,true,false,true,false,true,false,false,false,false,false,false] rfl rfl (any_of HT_.out (by kernel_rfl)) (fun _ _ _ h=>h) (Or.inl ⟨by rfl,?_⟩) ?_ ?_
      rotate_left
      ·intro w';go_simp;with_reducible rfl
      rotate_left
      ·simp only [Act.put,zqA,zqB,zqC,i64_w,i32_w];rfl
      refine pure_ (i:=16) (N:=some 35) (v:=?_) (a' := ?_) #[true,true,true,true,true,true,true,true,true,true,true,false,true,false,true,false,true,false,false,false,false] rfl rfl (any_of HT_.out (by kernel_rfl)) (fun _ _ _ h=>h) (Or.inl ⟨by rfl,?_⟩) ?_ ?_
      rotate_left
      ·intro w';go_simp;with_reducible rfl
      rotate_left
      ·simp only [Act.put,zqA,zqB,zqC,i64_w,i32_w];rfl
      refine take_ (i:=11) (N:=some 30) (v:=?_) (a' := ?_) #[true,true,true,true,true,true,true,true,true,true,true,true,true,false,true,false,true,false,false,false,false] rfl rfl (take_ofW HT_.out HW_.out (by kernel_rfl)) (fun _ _ _ h=>h) (Or.inl ⟨by rfl,?_⟩) hHeld ?_ ?_
      rotate_left
      ·rintro w' ⟨s0,s1,s2,s3,s4⟩;go_simp;with_reducible rfl
      rotate_left
      ·simp only [Act.put,zqA,zqB,zqC,i64_w,i32_w];rfl
      refine take_ (i:=15) (N:=some 34) (v:=?_) (a' := ?_) #[true,true,true,true,true,true,true,true,true,true,true,true,true,false,true,true,true,false,false,false,false] rfl rfl (take_ofW HT_.out HW_.out (by kernel_rfl)) (fun _ _ _ h=>h) (Or.inl ⟨by rfl,?_⟩) hHeld ?_ ?_
      rotate_left
      ·rintro w' ⟨s0,s1,s2,s3,s4⟩;go_simp;with_reducible rfl
      rotate_left
      ·simp only [Act.put,zqA,zqB,zqC,i64_w,i32_w];rfl
      refine one_ (i:=13) (N:=some 32) #[true,true,true,true,true,true,true,true,true,true,true,true,true,true,true,true,true,false,false,false,false] rfl rfl (one_of HT_.out (by kernel_rfl)) (by decide) (fun K hK=>?_)
      refine goes_ Tryz.func17 (by kernel_rfl) rfl #[.int .i64 a0_0,.bool a2] (by rfl) rfl rfl (by (try simp only [List.map_toArray,List.map_cons,List.map_nil]);first|done|rfl|(simp only [List.length_drop,List.length_take];rfl)) ?_
      with_reducible refine (scrub_Own.calls a0_0 a2 t38 t56 t57 t58 t59 _ A18.out ?hT).mono ?_;(case hT=>exact HTB.out.below (by repeat (first|(with_reducible first|exact HB.out|apply below_alloc|apply pw_below_drewN|apply below_drew1|refine below_set ?_ GE36.out)|exact HB.out)))
      rintro e w29 ⟨v82,v83,rfl,ho0,ho1,hb⟩
      refine ⟨_,rfl,?_⟩
      have n0_:=Aside0.mk (Kd.R_elder' (by (with_reducible repeat (first|apply Kd.R_alloc|apply Kd.R_drewN|apply Kd.R_drew));exact HO39.out) (Kd.R_base ho0) hb)
      have n1_:=Aside0.mk (Kd.R_elder' (by (with_reducible repeat (first|apply Kd.R_alloc|apply Kd.R_drewN|apply Kd.R_drew));exact HO41.out) (Kd.R_base ho1) hb)
      have n2_:=Aside0.mk (Kd.R_elder' (by (with_reducible repeat (first|apply Kd.R_alloc|apply Kd.R_drewN|apply Kd.R_drew));exact HO44.out) (Kd.R_base ho0) hb)
      have n3_:=Aside0.mk (Kd.R_elder' (by (with_reducible repeat (first|apply Kd.R_alloc|apply Kd.R_drewN|apply Kd.R_drew));exact HO45.out) (Kd.R_base ho1) hb)
      have n4_:=Aside0.mk (Kd.R_lower (Kd.R_new' (Kd.R_new' ho0 (Kd.R_lt (by (with_reducible repeat (first|apply Kd.R_alloc|apply Kd.R_drewN|apply Kd.R_drew));exact HO39.out))) (Kd.R_lt (by (with_reducible repeat (first|apply Kd.R_alloc|apply Kd.R_drewN|apply Kd.R_drew));exact HO44.out))) (below_size (by repeat (first|(with_reducible first|exact HB.out|apply below_alloc|apply pw_below_drewN|apply below_drew1|refine below_set ?_ GE36.out)|exact HB.out))))
      have n5_:=Aside0.mk (Kd.R_lower (Kd.R_new' (Kd.R_new' ho1 (Kd.R_lt (by (with_reducible repeat (first|apply Kd.R_alloc|apply Kd.R_drewN|apply Kd.R_drew));exact HO41.out))) (Kd.R_lt (by (with_reducible repeat (first|apply Kd.R_alloc|apply Kd.R_drewN|apply Kd.R_drew));exact HO45.out))) (below_size (by repeat (first|(with_reducible first|exact HB.out|apply below_alloc|apply pw_below_drewN|apply below_drew1|refine below_set ?_ GE36.out)|exact HB.out))))
      have n6_:=Aside0.mk (blk_below (g:=gb36) (o:=.cells #[.int .i64 a0_0,.string a0_1,.int .i64 a0_2,.slice A0_3 l0_3.length c0_3,.slice A0_4 l0_4.length c0_4] 25 (0,0)) (by (with_reducible repeat (first|refine blk_drewN ?_ _|refine blk_drew ?_|refine blk_alloc ?_ _));exact BK36.out) hb)
      have n7_:=Aside0.mk (below_step (by repeat (first|(with_reducible first|exact HB.out|apply below_alloc|apply pw_below_drewN|apply below_drew1|refine below_set ?_ GE36.out)|exact HB.out)) hb)
      clear HO39 HO41 HO44 HO45 BK36 HB
      have HO39:=n0_
      have HO41:=n1_
      have HO44:=n2_
      have HO45:=n3_
      have HO47:=n4_
      have HO48:=n5_
      have BK36:=n6_
      have HB:=n7_
      clear n0_ n1_ n2_ n3_ n4_ n5_ n6_ n7_
      (try clear hb)
      (try clear hb2)
      (try clear hk)
      (try clear hi)
      (try clear ho0)
      (try clear ho1)
      refine hK.out _ _ ⟨(blk_cell BK36.out 0).trans rfl,(blk_cell BK36.out 1).trans rfl,(blk_cell BK36.out 2).trans rfl,(blk_cell BK36.out 3).trans rfl,(blk_cell BK36.out 4).trans rfl⟩ (fun hHeld=>?_)
      clear hK K
      refine norm_ (a' := ?_) ?_ ?_
      rotate_left
      ·show Act.put _ (some 32) _=_
       simp only [Act.put,zqA,zqB,zqC,i64_w,i32_w]
       rfl
      refine one_ (i:=17) (N:=some 36) #[true,true,true,true,true,true,true,true,true,true,true,true,true,true,true,true,true,true,false,false,false] rfl rfl (one_of HT_.out (by kernel_rfl)) (by decide) (fun K hK=>?_)
      refine goes_ Tryz.func18 (by kernel_rfl) rfl #[.int .i64 a0_0,.bool a2] (by rfl) rfl rfl (by (try simp only [List.map_toArray,List.map_cons,List.map_nil]);first|done|rfl|(simp only [List.length_drop,List.length_take];rfl)) ?_
      with_reducible refine (tollbarref12_Own.calls kj5 a0_0 a2 t37 t68 t69 t70 t71 _ A19.out).mono ?_
      rintro e w30 ⟨v84,v85,rfl,ho0,ho1,hb⟩
      refine ⟨_,rfl,?_⟩
      have n0_:=Aside0.mk (Kd.R_elder' (by (with_reducible repeat (first|apply Kd.R_alloc|apply Kd.R_drewN|apply Kd.R_drew));exact HO39.out) (Kd.R_base ho0) hb)
      have n1_:=Aside0.mk (Kd.R_elder' (by (with_reducible repeat (first|apply Kd.R_alloc|apply Kd.R_drewN|apply Kd.R_drew));exact HO41.out) (Kd.R_base ho1) hb)
      have n2_:=Aside0.mk (Kd.R_elder' (by (with_reducible repeat (first|apply Kd.R_alloc|apply Kd.R_drewN|apply Kd.R_drew));exact HO44.out) (Kd.R_base ho0) hb)
      have n3_:=Aside0.mk (Kd.R_elder' (by (with_reducible repeat (first|apply Kd.R_alloc|apply Kd.R_drewN|apply Kd.R_drew));exact HO45.out) (Kd.R_base ho1) hb)
      have n4_:=Aside0.mk (Kd.R_elder' (by (with_reducible repeat (first|apply Kd.R_alloc|apply Kd.R_drewN|apply Kd.R_drew));exact HO47.out) (Kd.R_base ho0) hb)
      have n5_:=Aside0.mk (Kd.R_elder' (by (with_reducible repeat (first|apply Kd.R_alloc|apply Kd.R_drewN|apply Kd.R_drew));exact HO48.out) (Kd.R_base ho1) hb)
      have n6_:=Aside0.mk (Kd.R_lower (Kd.R_new' (Kd.R_new' (Kd.R_new' ho0 (Kd.R_lt (by (with_reducible repeat (first|apply Kd.R_alloc|apply Kd.R_drewN|apply Kd.R_drew));exact HO39.out))) (Kd.R_lt (by (with_reducible repeat (first|apply Kd.R_alloc|apply Kd.R_drewN|apply Kd.R_drew));exact HO44.out))) (Kd.R_lt (by (with_reducible repeat (first|apply Kd.R_alloc|apply Kd.R_drewN|apply Kd.R_drew));exact HO47.out))) (below_size (by repeat (first|(with_reducible first|exact HB.out|apply below_alloc|apply pw_below_drewN|apply below_drew1|refine below_set ?_ GE36.out)|exact HB.out))))
      have n7_:=Aside0.mk (Kd.R_lower (Kd.R_new' (Kd.R_new' (Kd.R_new' ho1 (Kd.R_lt (by (with_reducible repeat (first|apply Kd.R_alloc|apply Kd.R_drewN|apply Kd.R_drew));exact HO41.out))) (Kd.R_lt (by (with_reducible repeat (first|apply Kd.R_alloc|apply Kd.R_drewN|apply Kd.R_drew));exact HO45.out))) (Kd.R_lt (by (with_reducible repeat (first|apply Kd.R_alloc|apply Kd.R_drewN|apply Kd.R_drew));exact HO48.out))) (below_size (by repeat (first|(with_reducible first|exact HB.out|apply below_alloc|apply pw_below_drewN|apply below_drew1|refine below_set ?_ GE36.out)|exact HB.out))))
      have n8_:=Aside0.mk (blk_below (g:=gb36) (o:=.cells #[.int .i64 a0_0,.string a0_1,.int .i64 a0_2,.slice A0_3 l0_3.length c0_3,.slice A0_4 l0_4.length c0_4] 25 (0,0)) (by (with_reducible repeat (first|refine blk_drewN ?_ _|refine blk_drew ?_|refine blk_alloc ?_ _));exact BK36.out) hb)
      have n9_:=Aside0.mk (below_step (by repeat (first|(with_reducible first|exact HB.out|apply below_alloc|apply pw_below_drewN|apply below_drew1|refine below_set ?_ GE36.out)|exact HB.out)) hb)
      clear HO39 HO41 HO44 HO45 HO47 HO48 BK36 HB
      have HO39:=n0_
      have HO41:=n1_
      have HO44:=n2_
      have HO45:=n3_
      have HO47:=n4_
      have HO48:=n5_
      have HO60:=n6_
      have HO61:=n7_
      have BK36:=n8_
      have HB:=n9_
      clear n0_ n1_ n2_ n3_ n4_ n5_ n6_ n7_ n8_ n9_
      (try clear hb)
      (try clear hb2)
      (try clear hk)
      (try clear hi)
      (try clear ho0)
      (try clear ho1)
      obtain ⟨Ao31,co31,eo31⟩:=Kd.R_slice HO47.out
      (first|subst eo31|(injection eo31 with f1_ f2_ f3_;have f4_:=f1_.symm;have f5_:=f3_.symm;clear f1_ f2_ f3_;subst f4_;subst f5_))
      obtain ⟨Ao32,co32,eo32⟩:=Kd.R_slice HO48.out
      (first|subst eo32|(injection eo32 with f1_ f2_ f3_;have f4_:=f1_.symm;have f5_:=f3_.symm;clear f1_ f2_ f3_;subst f4_;subst f5_))
      obtain ⟨Ao33,co33,eo33⟩:=Kd.R_slice HO60.out
      (first|subst eo33|(injection eo33 with f1_ f2_ f3_;have f4_:=f1_.symm;have f5_:=f3_.symm;clear f1_ f2_ f3_;subst f4_;subst f5_))
      obtain ⟨Ao34,co34,eo34⟩:=Kd.R_slice HO61.out
      (first|subst eo34|(injection eo34 with f1_ f2_ f3_;have f4_:=f1_.symm;have f5_:=f3_.symm;clear f1_ f2_ f3_;subst f4_;subst f5_))
      refine hK.out _ _ ⟨(blk_cell BK36.out 0).trans rfl,(blk_cell BK36.out 1).trans rfl,(blk_cell BK36.out 2).trans rfl,(blk_cell BK36.out 3).trans rfl,(blk_cell BK36.out 4).trans rfl⟩ (fun hHeld=>?_)
      clear hK K
      refine norm_ (a' := ?_) ?_ ?_
      rotate_left
      ·show Act.put _ (some 36) _=_
       simp only [Act.put,zqA,zqB,zqC,i64_w,i32_w]
       rfl
      refine one_ (i:=18) (N:=some 37) #[true,true,true,true,true,true,true,true,true,true,true,true,true,true,true,true,true,true,true,false,false] rfl rfl (one_of HT_.out (by kernel_rfl)) (by decide) (fun K hK=>?_)
      refine goes_ Tryz.func14 (by kernel_rfl) rfl #[.agg #[.int .i64 t38,.string t56,.int .i64 t57,.slice Ao31 t58.length co31,.slice Ao32 t59.length co32],.agg #[.int .i64 t37,.string t68,.int .i64 t69,.slice Ao33 t70.length co33,.slice Ao34 t71.length co34]] (by rfl) rfl rfl (by (try simp only [List.map_toArray,List.map_cons,List.map_nil]);first|done|rfl|(simp only [List.length_drop,List.length_take];rfl)) ?_
      with_reducible refine (tollbarref08_SameResp.calls kj5 t38 t56 t57 _ _ t58 _ _ t59 t37 t68 t69 _ _ t70 _ _ t71 t43 _ ?side1 ?side2 ?side3 ?side4 ?side5 ?side6 ?side7 ?side8 A20.out).mono ?_
      (case side1=>repeat (first|exact (Kd.R_reads' HO47.out).2.2|(with_reducible refine Kd.C_alloc ?_ _)|(with_reducible refine Kd.C_drewN ?_ _)|(with_reducible refine Kd.C_drew ?_)))
      (case side2=>exact (Kd.R_reads' HO47.out).2.1)
      (case side3=>repeat (first|exact (Kd.R_reads' HO48.out).2.2|(with_reducible refine Kd.C_alloc ?_ _)|(with_reducible refine Kd.C_drewN ?_ _)|(with_reducible refine Kd.C_drew ?_)))
      (case side4=>exact (Kd.R_reads' HO48.out).2.1)
      (case side5=>repeat (first|exact (Kd.R_reads' HO60.out).2.2|(with_reducible refine Kd.C_alloc ?_ _)|(with_reducible refine Kd.C_drewN ?_ _)|(with_reducible refine Kd.C_drew ?_)))
      (case side6=>exact (Kd.R_reads' HO60.out).2.1)
      (case side7=>repeat (first|exact (Kd.R_reads' HO61.out).2.2|(with_reducible refine Kd.C_alloc ?_ _)|(with_reducible refine Kd.C_drewN ?_ _)|(with_reducible refine Kd.C_drew ?_)))
      (case side8=>exact (Kd.R_reads' HO61.out).2.1)
      rintro e w35 ⟨rfl,hb⟩
      refine ⟨_,rfl,?_⟩
      replace HO39:=Aside0.mk (Kd.R_below (by (with_reducible repeat (first|apply Kd.R_alloc|apply Kd.R_drewN|apply Kd.R_drew));exact HO39.out) hb)
      replace HO41:=Aside0.mk (Kd.R_below (by (with_reducible repeat (first|apply Kd.R_alloc|apply Kd.R_drewN|apply Kd.R_drew));exact HO41.out) hb)
      replace HO44:=Aside0.mk (Kd.R_below (by (with_reducible repeat (first|apply Kd.R_alloc|apply Kd.R_drewN|apply Kd.R_drew));exact HO44.out) hb)
      replace HO45:=Aside0.mk (Kd.R_below (by (with_reducible repeat (first|apply Kd.R_alloc|apply Kd.R_drewN|apply Kd.R_drew));exact HO45.out) hb)
      replace HO47:=Aside0.mk (Kd.R_below (by (with_reducible repeat (first|apply Kd.R_alloc|apply Kd.R_drewN|apply Kd.R_drew));exact HO47.out) hb)
      replace HO48:=Aside0.mk (Kd.R_below (by (with_reducible repeat (first|apply Kd.R_alloc|apply Kd.R_drewN|apply Kd.R_drew));exact HO48.out) hb)
      replace HO60:=Aside0.mk (Kd.R_below (by (with_reducible repeat (first|apply Kd.R_alloc|apply Kd.R_drewN|apply Kd.R_drew));exact HO60.out) hb)
      replace HO61:=Aside0.mk (Kd.R_below (by (with_reducible repeat (first|apply Kd.R_alloc|apply Kd.R_drewN|apply Kd.R_drew));exact HO61.out) hb)
      replace BK36:=Aside0.mk (blk_below (g:=gb36) (o:=.cells #[.int .i64 a0_0,.string a0_1,.int .i64 a0_2,.slice A0_3 l0_3.length c0_3,.slice A0_4 l0_4.length c0_4] 25 (0,0)) (by (with_reducible repeat (first|refine blk_drewN ?_ _|refine blk_drew ?_|refine blk_alloc ?_ _));exact BK36.out) hb)
      replace HB:=Aside0.mk (below_step (by repeat (first|(with_reducible first|exact HB.out|apply below_alloc|apply pw_below_drewN|apply below_drew1|refine below_set ?_ GE36.out)|exact HB.out)) hb)
      (try clear hb)
      (try clear hb2)
      (try clear hk)
      (try clear hi)
      refine hK.out _ _ ⟨(blk_cell BK36.out 0).trans rfl,(blk_cell BK36.out 1).trans rfl,(blk_cell BK36.out 2).trans rfl,(blk_cell BK36.out 3).trans rfl,(blk_cell BK36.out 4).trans rfl⟩ (fun hHeld=>?_)
      clear hK K
      refine norm_ (a' := ?_) ?_ ?_
      rotate_left
      ·show Act.put _ (some 37) _=_
       simp only [Act.put,zqA,zqB,zqC,i64_w,i32_w]
       rfl
      refine pure_ (i:=19) (N:=some 38) (v:=?_) (a' := ?_) #[true,true,true,true,true,true,true,true,true,true,true,true,true,true,true,true,true,true,true,true,false] rfl rfl (any_of HT_.out (by kernel_rfl)) (fun _ _ _ h=>h) (Or.inl ⟨by rfl,?_⟩) ?_ ?_
      rotate_left
      ·intro w';go_simp;with_reducible rfl
      rotate_left
      ·simp only [Act.put,zqA,zqB,zqC,i64_w,i32_w];rfl
      refine pure_ (i:=20) (N:=some 6) (v:=?_) (a' := ?_) #[true,true,true,true,true,true,true,true,true,true,true,true,true,true,true,true,true,true,true,true,true] rfl rfl (any_of HT_.out (by kernel_rfl)) (fun _ _ _ h=>h) (Or.inl ⟨by rfl,?_⟩) ?_ ?_
      rotate_left
      ·intro w';go_simp;with_reducible rfl
      rotate_left
      ·simp only [Act.put,zqA,zqB,zqC,i64_w,i32_w];rfl
      refine done_ (done_of HT_.out (by kernel_rfl)) ?_
      try go_wp2
      go_ret
      exact ⟨by first|rfl|(simp [errW_none,errW_some] <;> rfl)|(simp [*,errW_none,errW_some] <;> rfl),by repeat (first|(with_reducible first|exact HB.out|apply below_alloc|apply pw_below_drewN|apply below_drew1|refine below_set ?_ GE36.out)|exact HB.out)⟩
     ·replace c17:=Bool.eq_false_iff.mpr c17
      subst c17
      have H1:(some false)=some r:=by rw [if_neg (show ¬ (false=true) by decide)] at H;exact H
      clear H
      have H:=H1
      clear H1
      exact absurd ((Option.some.inj H).trans HRT.out) (by decide)
 ·replace c5:=Bool.eq_false_iff.mpr c5
  subst c5
  have H1:(some false)=some r:=by rw [if_neg (show ¬ (false=true) by decide)] at H;exact H
  clear H
  have H:=H1
  clear H1
  exact absurd ((Option.some.inj H).trans HRT.out) (by decide)
end Go.Proofs.YtfjeinnemimjoaaGreatDoor.P
namespace Go.Proofs.YtfjeinnemimjoaaGreatDoor.Pure
open Go.RowKit Go.Proofs.YtfjeinnemimjoaaGreatDoor.P Go.Proofs.YtfjeinnemimjoaaGreatDoorW.PrintWords Go.Proofs.YtfjeinnemimjoaaGreatDoorW.PrintLast Go.Proofs.YtfjeinnemimjoaaGreatDoorW.PrintMore
set_option linter.unusedVariables false
set_option linter.unusedSimpArgs false
theorem str_append (xs ys : List Int) : strOfNums (xs ++ ys) = strOfNums xs ++ strOfNums ys := by
  apply ByteArray.ext
  simp [strOfNums]
theorem str_size (xs : List Int) : (strOfNums xs).size = xs.length := strOfNums_size xs
theorem w64 {i : Int} {n : Nat} (c : Int) (h0 : 0 ≤ i) (h : i < (n : Int)) (hn : n ≤ 140737488355328) (hc0 : -3 ≤ c) (hc : c ≤ 3) : wrap64 (i + c) = i + c := by
  unfold wrap64; omega
theorem toList_data (s : ByteArray) : s.toList = s.data.toList := by
  simp [ByteArray.toList_eq]
theorem fold_tells (s : ByteArray) (hn : s.size ≤ 140737488355328) : sign_Fold.f s = some (strOfNums ((bytesOf s).map foldC)) := if_pos hn
def Bytes (xs : List Int) : Prop := ∀ x ∈ xs, 0 ≤ x ∧ x ≤ 255
theorem bytes_of (s : ByteArray) : Bytes (bytesOf s) := by
  intro x hx
  obtain ⟨b, _, rfl⟩ := List.mem_map.1 hx
  have := b.toNat_lt
  omega
theorem foldC_byte (x : Int) (h0 : 0 ≤ x) (h1 : x ≤ 255) : 0 ≤ foldC x ∧ foldC x ≤ 255 := by unfold foldC; split <;> omega
theorem bytes_fold {xs : List Int} (h : Bytes xs) : Bytes (xs.map foldC) := by
  intro x hx
  obtain ⟨y, hy, rfl⟩ := List.mem_map.1 hx
  exact foldC_byte y (h y hy).1 (h y hy).2
theorem bytes_str {xs : List Int} (h : Bytes xs) : bytesOf (strOfNums xs) = xs := by
  unfold bytesOf
  rw [strOfNums_data, List.map_map]
  conv => rhs; rw [← List.map_id xs]
  refine List.map_congr_left fun x hx => ?_
  have := h x hx
  show ((UInt8.ofNat x.toNat).toNat : Int) = x
  rw [UInt8.toNat_ofNat']
  omega
theorem str_inj {xs ys : List Int} (hx : Bytes xs) (hy : Bytes ys) : ((strOfNums xs).toList == (strOfNums ys).toList) = decide (xs = ys) := by
  rw [Bool.eq_iff_iff, beq_iff_eq, decide_eq_true_eq]
  refine ⟨fun e => ?_, fun e => by rw [e]⟩
  rw [← bytes_str hx, ← bytes_str hy]
  unfold bytesOf
  rw [← toList_data, ← toList_data, e]
theorem same_tells (a b : ByteArray) (ha : a.size ≤ 140737488355328) (hb : b.size ≤ 140737488355328) : sign_Same.f a b = some (decide ((bytesOf a).map foldC = (bytesOf b).map foldC)) := by
  unfold sign_Same.f
  by_cases h : (a.size : Int) = b.size
  · rw [if_pos h, fold_tells a ha, Option.bind_some, fold_tells b hb, Option.bind_some, str_inj (bytes_fold (bytes_of a)) (bytes_fold (bytes_of b))]
  · rw [if_neg h]
    have hne : ¬ ((bytesOf a).map foldC = (bytesOf b).map foldC) := by
      intro e
      have := congrArg List.length e
      rw [List.length_map, List.length_map, bytesOf_length, bytesOf_length] at this
      omega
    rw [decide_eq_false hne]
def mkS (l : List UInt8) : ByteArray := ⟨l.toArray⟩
theorem mkS_data (l : List UInt8) : (mkS l).data.toList = l := by simp [mkS]
theorem mkS_self (s : ByteArray) : mkS s.data.toList = s := by simp [mkS]
theorem mkS_size (l : List UInt8) : (mkS l).size = l.length := by rw [← data_length, mkS_data]
theorem mkS_toList (l : List UInt8) : (mkS l).toList = l := by rw [toList_data, mkS_data]
theorem wn0 (n : Nat) (h : n ≤ 4398046511104) : wrap64 ((n : Int) + 0) = (n : Int) := by unfold wrap64; omega
theorem wn1 (n : Nat) (h : n ≤ 4398046511104) : wrap64 ((n : Int) + 1) = (n : Int) + 1 := by unfold wrap64; omega
theorem wnm (n : Nat) (h : n ≤ 4398046511104) : wrap64 ((n : Int) + 1 - 1) = (n : Int) := by unfold wrap64; omega
theorem wi1 (i : Int) (h0 : 0 ≤ i) (h : i ≤ 4398046511104) : wrap64 (i + 1) = i + 1 := by unfold wrap64; omega
theorem rdOf_mk (ps : List (List UInt8)) (i : Int) (h0 : 0 ≤ i) (h : i < (ps.length : Int)) : rdOf ByteArray.empty (ps.map mkS) i = mkS (ps.getD i.toNat []) := by
  unfold rdOf
  rw [List.getD_eq_getElem?_getD, List.getElem?_map, List.getD_eq_getElem?_getD, List.getElem?_eq_getElem (by omega)]
  rfl
theorem bt_mk (l : List UInt8) (i : Nat) (h : i < l.length) : bt (mkS l) i = ((l[i]).toNat : Int) := by
  unfold bt
  have hs : (mkS l).size = l.length := mkS_size l
  rw [dif_pos (by rw [Int.toNat_natCast]; omega)]
  have : (mkS l)[((i : Nat) : Int).toNat]'(by rw [Int.toNat_natCast]; omega) = l[i] := by simp [mkS, ByteArray.getElem_eq_getElem_data]
  rw [this]
theorem mkS_extract (l : List UInt8) (a b : Nat) : (mkS l).extract a b = mkS ((l.drop a).take (b - a)) := by
  rw [← mkS_self ((mkS l).extract a b), Lib.extract_data, mkS_data]
theorem seg_split (l : List UInt8) (f i : Nat) (h : f ≤ i) (hi : i < l.length) : l.drop f = (l.drop f).take (i - f) ++ l[i] :: l.drop (i + 1) ∧ (l.drop f).take (i + 1 - f) = (l.drop f).take (i - f) ++ [l[i]] := by
  have e1 : (l.drop f).drop (i - f) = l.drop i := by rw [List.drop_drop]; congr 1; omega
  have e2 : l.drop i = l[i] :: l.drop (i + 1) := List.drop_eq_getElem_cons hi
  refine ⟨?_, ?_⟩
  · rw [← e2, ← e1, List.take_append_drop]
  · have hl : i - f < (l.drop f).length := by rw [List.length_drop]; omega
    rw [show i + 1 - f = i - f + 1 by omega, List.take_succ_eq_append_getElem hl]
    congr 2
    rw [List.getElem_drop]
    congr 1
    omega
/-- How many commas. -/
def cntC (sp : UInt8) : List UInt8 → Nat
  | [] => 0
  | c :: l => if c = sp then cntC sp l + 1 else cntC sp l
theorem cntC_count {sp : UInt8} (l : List UInt8) : l.count sp = cntC sp l := by
  induction l with
  | nil => rfl
  | cons c l ih => rw [List.count_cons, ih]; by_cases hc : c = sp <;> simp [cntC, hc]
theorem cntC_append {sp : UInt8} (a b : List UInt8) : cntC sp (a ++ b) = cntC sp a + cntC sp b := by
  rw [← cntC_count, ← cntC_count, ← cntC_count, List.count_append]
theorem cntC_none {sp : UInt8} (l : List UInt8) : cntC sp l = 0 ↔ sp ∉ l := by rw [← cntC_count]; exact List.count_eq_zero
theorem cntC_le {sp : UInt8} (l : List UInt8) : cntC sp l ≤ l.length := by rw [← cntC_count]; exact List.count_le_length
/-- The parts between commas. -/
def pcs (sp : UInt8) : List UInt8 → List (List UInt8)
  | [] => [[]]
  | c :: l => if c = sp then [] :: pcs sp l else (match pcs sp l with | p :: ps => (c :: p) :: ps | [] => [[c]])
theorem pcs_ne {sp : UInt8} (l : List UInt8) : ∃ p ps, pcs sp l = p :: ps := by
  induction l with
  | nil => exact ⟨[], [], rfl⟩
  | cons c l ih =>
    obtain ⟨p, ps, h⟩ := ih
    by_cases hc : c = sp
    · exact ⟨[], pcs sp l, by simp [pcs, hc]⟩
    · exact ⟨c :: p, ps, by simp [pcs, hc, h]⟩
theorem pcs_none {sp : UInt8} (l : List UInt8) (h : sp ∉ l) : pcs sp l = [l] := by
  induction l with
  | nil => rfl
  | cons c l ih =>
    have hc : c ≠ sp := fun e => h (e ▸ List.mem_cons_self ..)
    simp [pcs, hc, ih (fun e => h (List.mem_cons_of_mem _ e))]
theorem pcs_append {sp : UInt8} (a b : List UInt8) : pcs sp (a ++ sp :: b) = pcs sp a ++ pcs sp b := by
  induction a with
  | nil => simp [pcs]
  | cons c a ih =>
    by_cases hc : c = sp
    · simp [pcs, hc, ih]
    · obtain ⟨p, ps, hp⟩ := pcs_ne (sp := sp) a
      simp [pcs, hc, ih, hp]
theorem pcs_length {sp : UInt8} (l : List UInt8) : (pcs sp l).length = cntC sp l + 1 := by
  induction l with
  | nil => rfl
  | cons c l ih =>
    by_cases hc : c = sp
    · simp [pcs, cntC, hc, ih]
    · obtain ⟨p, ps, hp⟩ := pcs_ne (sp := sp) l
      rw [hp] at ih
      simp only [pcs, hc, if_false, hp, cntC]
      simpa using ih
theorem pcs_le {sp : UInt8} (l : List UInt8) : ∀ p ∈ pcs sp l, p.length ≤ l.length := by
  induction l with
  | nil => intro p hp; simp [pcs] at hp; simp [hp]
  | cons c l ih =>
    intro p hp
    by_cases hc : c = sp
    · simp only [pcs, hc, if_true] at hp
      rcases List.mem_cons.1 hp with rfl | hp
      · simp
      · have := ih p hp; simp; omega
    · obtain ⟨q, qs, hq⟩ := pcs_ne (sp := sp) l
      simp only [pcs, hc, if_false, hq] at hp
      rcases List.mem_cons.1 hp with rfl | hp
      · have := ih q (by rw [hq]; exact List.mem_cons_self ..); simp; omega
      · have := ih p (by rw [hq]; exact List.mem_cons_of_mem _ hp); simp; omega
/-- What Split tells. -/
theorem index_splitC {sp : UInt8} (l : List UInt8) (h : 0 < cntC sp l) : ∃ a b, l = a ++ sp :: b ∧ sp ∉ a ∧ Lib.indexByte l sp = a.length := by
  induction l with
  | nil => simp [cntC] at h
  | cons c l ih =>
    by_cases hc : c = sp
    · exact ⟨[], l, by simp [hc], by simp, by simp [Lib.indexByte, hc]⟩
    · have h' : 0 < cntC sp l := by simpa [cntC, hc] using h
      obtain ⟨a, b, h1, h2, h3⟩ := ih h'
      refine ⟨c :: a, b, by simp [h1], ?_, ?_⟩
      · intro hm
        rcases List.mem_cons.1 hm with e | e
        · exact hc e.symm
        · exact h2 e
      · have hb : (c == sp) = false := by simpa using hc
        have hn : ((a.length : Int) == -1) = false := by simp only [beq_eq_false_iff_ne]; omega
        simp [Lib.indexByte, hb, h3, hn]
theorem gs_endC {sp : UInt8} (k : Nat) (s : ByteArray) (x3 : Int) (x9 : List ByteArray) (i : Nat) (hc : sp ∉ s.data.toList) (hx : x3 = i) (hl : x9.length = i + 1) (hi : i ≤ 4398046511104) :
    strings_genSplit.l0 (k + 1) s ⟨#[sp]⟩ 0 x3 x9 i = some (x9.take i ++ (pcs sp s.data.toList).map mkS) := by
  simp only [strings_genSplit.l0]
  rw [if_neg (by omega), if_pos (by omega), if_pos (by omega), wn1 i hi, if_pos (by omega), if_pos (by omega), pcs_none _ hc]
  have e1 : ((i : Int) + 1).toNat = i + 1 := by omega
  rw [e1, Int.toNat_natCast, List.take_succ_eq_append_getElem (by rw [List.length_set]; omega), List.take_set_of_le (Nat.le_refl _)]
  simp [mkS_self]
theorem extract_midC {sp : UInt8} (s : ByteArray) (a b : List UInt8) (hab : s.data.toList = a ++ sp :: b) : (s.extract (a.length + 1) s.size).data.toList = b ∧ s.extract 0 a.length = mkS a ∧ (s.extract (a.length + 1) s.size).size ≤ s.size := by
  have e2 : (s.extract (a.length + 1) s.size).data.toList = b := by
    rw [Lib.extract_to_end, hab, ← List.drop_drop, List.drop_left]; rfl
  refine ⟨e2, ?_, ?_⟩
  · have : (s.extract 0 a.length).data.toList = a := by
      rw [Lib.extract_data, hab, List.drop_zero, Nat.sub_zero, List.take_left]
    rw [← mkS_self (s.extract 0 _), this]
  · have hlen : a.length + b.length + 1 = s.size := by rw [← data_length, hab]; simp; omega
    rw [← data_length, e2]
    omega
theorem gs_stepC {sp : UInt8} (k : Nat) (s : ByteArray) (x3 : Int) (x9 : List ByteArray) (i : Nat) (a b : List UInt8) (hab : s.data.toList = a ++ sp :: b) (hidx : Lib.indexByte s.data.toList sp = a.length) (hx : (i : Int) < x3) (hl : i < x9.length) (hs : s.size ≤ 4398046511104) (hi : i ≤ 4398046511104) :
    ∀ R, strings_genSplit.l0 k (s.extract (a.length + 1) s.size) ⟨#[sp]⟩ 0 x3 (x9.set i (mkS a)) ((i : Int) + 1) = R → strings_genSplit.l0 (k + 1) s ⟨#[sp]⟩ 0 x3 x9 i = R := by
  intro R hR
  have hlen : a.length + b.length + 1 = s.size := by rw [← data_length, hab]; simp; omega
  have hix : strings_Index.f s ⟨#[sp]⟩ = some (a.length : Int) := by
    show some (Lib.indexByte s.data.toList sp) = _
    rw [hidx]
  have hs1 : ((⟨#[sp]⟩ : ByteArray).size : Int) = 1 := rfl
  have e1 : ((a.length : Int) + 1).toNat = a.length + 1 := by omega
  obtain ⟨_, e3, _⟩ := extract_midC s a b hab
  simp only [strings_genSplit.l0]
  rw [if_pos hx, hix]
  rw [Option.bind_some]
  rw [if_neg (by omega), wn0 _ (by omega), hs1, wn1 _ (by omega), if_pos (by omega), if_pos (by omega), if_pos (by omega), if_pos (by omega), if_pos (by omega), if_pos (by omega), wn1 i hi, e1, Int.toNat_natCast, Int.toNat_natCast, e3]
  exact hR
theorem gs_l0C {sp : UInt8} (d : Nat) : ∀ (k : Nat) (s : ByteArray) (x3 : Int) (x9 : List ByteArray) (i : Nat), cntC sp s.data.toList = d → x3 = i + d → x9.length = i + d + 1 → d + 1 ≤ k → s.size ≤ 4398046511104 →
    i + d ≤ 4398046511104 → strings_genSplit.l0 k s ⟨#[sp]⟩ 0 x3 x9 i = some (x9.take i ++ (pcs sp s.data.toList).map mkS) := by
  induction d with
  | zero =>
    intro k s x3 x9 i hc hx hl hk hs hid
    obtain ⟨k, rfl⟩ : ∃ m, k = m + 1 := ⟨k - 1, by omega⟩
    exact gs_endC k s x3 x9 i ((cntC_none _).1 hc) (by omega) (by omega) (by omega)
  | succ d ih =>
    intro k s x3 x9 i hc hx hl hk hs hid
    obtain ⟨k, rfl⟩ : ∃ m, k = m + 1 := ⟨k - 1, by omega⟩
    obtain ⟨a, b, hab, ha, hidx⟩ := index_splitC (sp := sp) s.data.toList (by omega)
    obtain ⟨e2, _, e4⟩ := extract_midC s a b hab
    have hcb : cntC sp b = d := by
      rw [hab, cntC_append, (cntC_none a).2 ha] at hc
      simp only [cntC, if_true] at hc
      omega
    refine gs_stepC k s x3 x9 i a b hab hidx (by omega) (by omega) hs (by omega) _ ?_
    have := ih k (s.extract (a.length + 1) s.size) x3 (x9.set i (mkS a)) (i + 1) (by rw [e2]; exact hcb) (by omega) (by rw [List.length_set]; omega) (by omega) (by omega) (by omega)
    rw [show (((i + 1 : Nat)) : Int) = (i : Int) + 1 by omega] at this
    rw [this, e2, hab, pcs_append, pcs_none a ha, List.take_succ_eq_append_getElem (by rw [List.length_set]; omega), List.take_set_of_le (Nat.le_refl _)]
    simp
theorem gs_firstC {sp : UInt8} (k : Nat) (s : ByteArray) (hs : s.size ≤ 4398046511103) :
    ∀ R, strings_genSplit.l0 k s ⟨#[sp]⟩ 0 ((cntC sp s.data.toList : Nat) : Int) (List.replicate (cntC sp s.data.toList + 1) (⟨#[]⟩ : ByteArray)) 0 = R → strings_genSplit.f (k + 1) s ⟨#[sp]⟩ 0 (-1) = R := by
  intro R hR
  have hcl := cntC_le (sp := sp) s.data.toList
  rw [data_length] at hcl
  have hcf : strings_Count.f s ⟨#[sp]⟩ = some ((cntC sp s.data.toList : Nat) : Int) := by
    rw [← cntC_count]; rfl
  obtain ⟨c, hc⟩ : ∃ c, c = cntC sp s.data.toList := ⟨_, rfl⟩
  rw [← hc] at hcf hcl hR
  have hm : mn ((c : Int) + 1) ((s.size : Int) + 1) = (c : Int) + 1 := by unfold mn; split <;> omega
  have e1 : ((c : Int) + 1).toNat = c + 1 := by omega
  have hne : ¬ ((⟨#[sp]⟩ : ByteArray).toList = []) := by rw [toList_data]; simp
  unfold strings_genSplit.f
  rw [if_neg (by decide), if_neg hne, if_pos (by decide), hcf]
  rw [Option.bind_some]
  simp only [strings_genSplit.j0]
  rw [wn1 c (by omega), wn1 s.size (by omega), hm, wnm c (by omega), e1, if_pos (by omega), if_pos (by omega)]
  exact hR
theorem Split_fC {sp : UInt8} (s : ByteArray) (hs : s.size ≤ 4398046511103) (k : Nat) (hk : s.size + 3 ≤ k) : strings_Split.f k s ⟨#[sp]⟩ = some ((pcs sp s.data.toList).map mkS) := by
  obtain ⟨k, rfl⟩ : ∃ m, k = m + 1 := ⟨k - 1, by omega⟩
  have hcl := cntC_le (sp := sp) s.data.toList
  rw [data_length] at hcl
  unfold strings_Split.f
  have := gs_l0C (cntC sp s.data.toList) k s ((cntC sp s.data.toList : Nat) : Int) (List.replicate (cntC sp s.data.toList + 1) (⟨#[]⟩ : ByteArray)) 0 rfl (by omega) (by rw [List.length_replicate]; omega) (by omega) (by omega) (by omega)
  rw [show ((0 : Nat) : Int) = 0 from rfl] at this
  rw [gs_firstC k s hs _ this]
  simp
/-- Is a byte a blank? -/
def blk (b : UInt8) : Bool := ([32, 9] : List UInt8).contains b
/-- A text without blanks at its ends. -/
def trm (l : List UInt8) : List UInt8 := (l.reverse.dropWhile blk).reverse.dropWhile blk
/-- No blank at either end. -/
def Clean (l : List UInt8) : Prop := (∀ a, l.head? = some a → blk a = false) ∧ ∀ a, l.getLast? = some a → blk a = false
theorem dw_self {p : UInt8 → Bool} {l : List UInt8} (h : ∀ a, l.head? = some a → p a = false) : l.dropWhile p = l := by
  cases l with
  | nil => rfl
  | cons a l => simp [List.dropWhile, h a rfl]
theorem dw_append {p : UInt8 → Bool} (pre t : List UInt8) (h : ∀ a ∈ pre, p a = true) : (pre ++ t).dropWhile p = t.dropWhile p := by
  induction pre with
  | nil => rfl
  | cons b l ih =>
    simp only [List.cons_append, List.dropWhile, h b (List.mem_cons_self ..)]
    exact ih (fun a ha => h a (List.mem_cons_of_mem _ ha))
theorem trm_around (pre t post : List UInt8) (ht : Clean t) (h1 : ∀ a ∈ pre, blk a = true) (h2 : ∀ a ∈ post, blk a = true) : trm (pre ++ t ++ post) = t := by
  unfold trm
  rw [List.reverse_append, dw_append _ _ (by intro a ha; exact h2 a (List.mem_reverse.1 ha)), List.reverse_append]
  by_cases he : t = []
  · subst he
    have := dw_append (p := blk) pre.reverse [] (by intro a ha; exact h1 a (List.mem_reverse.1 ha))
    simp only [List.append_nil] at this
    simp [this]
  · have : (t.reverse ++ pre.reverse).dropWhile blk = t.reverse ++ pre.reverse := dw_self (by
      intro a ha
      rw [List.head?_append] at ha
      obtain ⟨b, hb⟩ : ∃ b, t.reverse.head? = some b := by
        cases hh : t.reverse with
        | nil => exact absurd (List.reverse_eq_nil_iff.1 hh) he
        | cons b _ => exact ⟨b, rfl⟩
      rw [hb] at ha
      obtain rfl : b = a := by simpa using ha
      rw [List.head?_reverse] at hb
      exact ht.2 _ hb)
    rw [this, List.reverse_append, List.reverse_reverse, List.reverse_reverse, dw_append _ _ h1, dw_self ht.1]
theorem trm_length (l : List UInt8) : (trm l).length ≤ l.length := by
  unfold trm
  have h1 : ((l.reverse.dropWhile blk).reverse.dropWhile blk).length ≤ (l.reverse.dropWhile blk).reverse.length := (List.dropWhile_suffix _).length_le
  have h2 : (l.reverse.dropWhile blk).length ≤ l.reverse.length := (List.dropWhile_suffix _).length_le
  rw [List.length_reverse] at h1 h2
  omega
theorem Trim_f (s : ByteArray) (h : s.size ≤ 9223372036854775807) : sign_Trim.f s = some ⟨(trm s.data.toList).toArray⟩ := by
  unfold sign_Trim.f strings_Trim.f
  rw [if_pos ⟨h, by decide, by decide⟩]
  rfl
/-- The parts of a list: trimmed, the empty ones left out. -/
def commaParts (l : List UInt8) : List (List UInt8) := ((pcs 44 l).map trm).filter (fun p => !p.isEmpty)
theorem comma_append (a b : List UInt8) : commaParts (a ++ 44 :: b) = commaParts a ++ commaParts b := by
  simp [commaParts, pcs_append]
theorem comma_one (l : List UInt8) (h : 44 ∉ l) : commaParts l = if (trm l).isEmpty then [] else [trm l] := by
  rw [commaParts, pcs_none l h]
  cases ht : (trm l).isEmpty <;> simp [ht]
theorem split_step (ps : List (List UInt8)) (i : Int) (h0 : 0 ≤ i) (hlt : i < (ps.length : Int)) : ((ps.drop i.toNat).map trm).filter (fun p => !p.isEmpty) = (if trm (ps.getD i.toNat []) = [] then [] else [trm (ps.getD i.toNat [])]) ++ ((ps.drop (i + 1).toNat).map trm).filter (fun p => !p.isEmpty) := by
  have hl : i.toNat < ps.length := by omega
  have hg : ps.getD i.toNat [] = ps[i.toNat] := by rw [List.getD_eq_getElem?_getD, List.getElem?_eq_getElem hl]; rfl
  rw [hg, List.drop_eq_getElem_cons hl, show (i + 1).toNat = i.toNat + 1 by omega, List.map_cons, List.filter_cons]
  by_cases he : trm ps[i.toNat] = []
  · rw [if_pos he, he]; rfl
  · rw [if_neg he, if_pos (by simpa using he)]; rfl
theorem split_l0 (ps : List (List UInt8)) (hl : ∀ p ∈ ps, p.length ≤ 4398046511104) (hn : ps.length ≤ 4398046511104) (d : Nat) : ∀ (k : Nat) (out : List ByteArray) (i : Int), 0 ≤ i → (ps.length : Int) - i = d → d + 1 ≤ k → (out.length : Int) ≤ i →
    sign_Split.l0 k out (ps.map mkS) (ps.length : Int) i = some (out ++ (((ps.drop i.toNat).map trm).filter (fun p => !p.isEmpty)).map mkS) := by
  induction d with
  | zero =>
    intro k out i h0 hd hk ho
    obtain ⟨k, rfl⟩ : ∃ m, k = m + 1 := ⟨k - 1, by omega⟩
    simp only [sign_Split.l0]
    rw [if_neg (by omega), List.drop_of_length_le (by omega)]
    simp
  | succ d ih =>
    intro k out i h0 hd hk ho
    obtain ⟨k, rfl⟩ : ∃ m, k = m + 1 := ⟨k - 1, by omega⟩
    have hlt : i.toNat < ps.length := by omega
    have hg : ps.getD i.toNat [] = ps[i.toNat] := by rw [List.getD_eq_getElem?_getD, List.getElem?_eq_getElem hlt]; rfl
    have hlp := hl _ (List.getElem_mem hlt)
    rw [← hg] at hlp
    rw [split_step ps i h0 (by omega)]
    simp only [sign_Split.l0]
    rw [if_pos (by omega), if_pos h0, if_pos (by rw [List.length_map]; omega), rdOf_mk ps i h0 (by omega), Trim_f _ (by rw [mkS_size]; omega), mkS_data]
    simp only [Option.bind_some, wi1 i h0 (by omega)]
    rw [show (⟨(trm (ps.getD i.toNat [])).toArray⟩ : ByteArray) = mkS (trm (ps.getD i.toNat [])) from rfl, mkS_toList]
    by_cases he : trm (ps.getD i.toNat []) = []
    · rw [if_pos he, if_pos he, ih k out (i + 1) (by omega) (by omega) (by omega) (by omega)]
      rfl
    · rw [if_neg he, if_neg he, if_pos (by omega), ih k _ (i + 1) (by omega) (by omega) (by omega) (by rw [List.length_append]; simp; omega)]
      simp only [List.map_append, List.map_cons, List.map_nil, List.append_assoc]
theorem signSplit_f (s : ByteArray) (hs : s.size ≤ 4398046511103) (k : Nat) (hk : s.size + 3 ≤ k) : sign_Split.f k s = some ((commaParts s.data.toList).map mkS) := by
  unfold sign_Split.f
  have hpl := pcs_length (sp := 44) s.data.toList
  have hcl := cntC_le (sp := 44) s.data.toList
  rw [data_length] at hcl
  rw [Split_fC s hs k hk]
  simp only [Option.bind_some, List.length_map]
  rw [split_l0 (pcs 44 s.data.toList) (fun p hp => by have := pcs_le _ p hp; rw [data_length] at this; omega) (by omega) (pcs 44 s.data.toList).length k [] 0 (by omega) (by omega) (by omega) (by simp)]
  rfl
theorem rdT_at (xs : List (S55)) (i : Nat) (h : i < xs.length) : rd_T55 xs (i : Int) = xs[i] := by
  unfold rd_T55
  rw [Int.toNat_natCast, List.getD_eq_getElem?_getD, List.getElem?_eq_getElem h]; rfl
theorem rdB_at (xs : List ByteArray) (i : Nat) (h : i < xs.length) : rdOf ByteArray.empty xs (i : Int) = xs[i] := by
  unfold rdOf
  rw [Int.toNat_natCast, List.getD_eq_getElem?_getD, List.getElem?_eq_getElem h]; rfl
/-- The same names. -/
def sameN (a b : ByteArray) : Bool := decide ((bytesOf a).map foldC = (bytesOf b).map foldC)
theorem same_f (a b : ByteArray) (ha : a.size ≤ 140737488355328) (hb : b.size ≤ 140737488355328) : sign_Same.f a b = some (sameN a b) := same_tells a b ha hb
/-- Few fields, of short texts. -/
def FB (fs : List (S55)) : Prop := fs.length ≤ 1000 ∧ ∀ f ∈ fs, f.f0.size ≤ 1048576 ∧ f.f1.size ≤ 1048576
/-- The values of a name. -/
def getS (name : ByteArray) : List (S55) → List ByteArray
  | [] => []
  | f :: r => if sameN f.f0 name = true then f.f1 :: getS name r else getS name r
theorem getS_len (name : ByteArray) : ∀ fs, (getS name fs).length ≤ fs.length
  | [] => Nat.le_refl _
  | f :: r => by rw [getS]; have := getS_len name r; split <;> simp only [List.length_cons] <;> omega
theorem getS_mem (name : ByteArray) : ∀ (fs : List (S55)) (v : ByteArray), v ∈ getS name fs → ∃ f ∈ fs, v = f.f1 ∧ sameN f.f0 name = true
  | [], v, h => by cases h
  | f :: r, v, h => by
    rw [getS] at h
    by_cases hs : sameN f.f0 name = true
    · rw [if_pos hs] at h
      rcases List.mem_cons.1 h with rfl | h
      · exact ⟨f, List.mem_cons_self, rfl, hs⟩
      · obtain ⟨g, hg, e⟩ := getS_mem name r v h; exact ⟨g, List.mem_cons_of_mem _ hg, e⟩
    · rw [if_neg hs] at h
      obtain ⟨g, hg, e⟩ := getS_mem name r v h; exact ⟨g, List.mem_cons_of_mem _ hg, e⟩
theorem get_l0 (name : ByteArray) (hn : name.size ≤ 1048576) (fs : List (S55)) (hf : FB fs) (d : Nat) : ∀ (k i : Nat) (out : List ByteArray), i + d = fs.length → d < k → out.length ≤ i →
    field_Get.l0 k name out fs (fs.length : Int) (i : Int) = some (out ++ getS name (fs.drop i)) := by
  have hfl := hf.1
  induction d with
  | zero =>
    intro k i out hi hk ho
    obtain ⟨k, rfl⟩ : ∃ m, k = m + 1 := ⟨k - 1, by omega⟩
    rw [field_Get.l0, if_neg (by omega), List.drop_of_length_le (by omega), getS, List.append_nil]
  | succ d ih =>
    intro k i out hi hk ho
    obtain ⟨k, rfl⟩ : ∃ m, k = m + 1 := ⟨k - 1, by omega⟩
    have hlt : i < fs.length := by omega
    have hb := hf.2 _ (List.getElem_mem hlt)
    have hw : wrap64 ((i : Int) + 1) = ((i + 1 : Nat) : Int) := by unfold wrap64; omega
    rw [field_Get.l0, if_pos (by omega), if_pos (by omega), if_pos (by omega), rdT_at fs i hlt, same_f _ _ (by omega) (by omega), Option.bind_some, hw, List.drop_eq_getElem_cons hlt, getS]
    by_cases hs : sameN fs[i].f0 name = true
    · rw [if_pos hs, if_pos hs, if_pos (by omega), ih k (i + 1) _ (by omega) (by omega) (by rw [List.length_append]; simp; omega)]
      simp only [List.append_assoc, List.singleton_append]
    · rw [if_neg hs, if_neg hs, ih k (i + 1) _ (by omega) (by omega) (by omega)]
theorem Get_f (fs : List (S55)) (name : ByteArray) (hf : FB fs) (hn : name.size ≤ 1048576) (k : Nat) (hk : fs.length < k) : field_Get.f k fs name = some (getS name fs) := by
  have := get_l0 name hn fs hf fs.length k 0 [] (by omega) hk (Nat.zero_le _)
  rw [List.drop_zero, List.nil_append] at this
  exact this
/-- A value's parts. -/
def partsS (v : ByteArray) : List ByteArray := (commaParts v.data.toList).map mkS
theorem comma_len (l : List UInt8) : (commaParts l).length ≤ l.length + 1 := by
  unfold commaParts
  have h1 := List.length_filter_le (fun p => !p.isEmpty) ((pcs 44 l).map trm)
  rw [List.length_map, pcs_length] at h1
  have h2 := cntC_le (sp := 44) l
  omega
theorem parts_len (v : ByteArray) : (partsS v).length ≤ v.size + 1 := by
  unfold partsS
  rw [List.length_map]
  have := comma_len v.data.toList
  rw [data_length] at this
  exact this
theorem comma_size (l : List UInt8) : ∀ p ∈ commaParts l, p.length ≤ l.length := by
  intro p hp
  unfold commaParts at hp
  obtain ⟨q, hq, rfl⟩ := List.mem_map.1 (List.mem_filter.1 hp).1
  exact Nat.le_trans (trm_length q) (pcs_le l q hq)
theorem parts_size (v : ByteArray) : ∀ p ∈ partsS v, p.size ≤ v.size := by
  intro p hp
  obtain ⟨q, hq, rfl⟩ := List.mem_map.1 hp
  rw [mkS_size, ← data_length]
  exact comma_size _ q hq
theorem list_l0 (vs : List ByteArray) (hl : vs.length ≤ 1000) (hv : ∀ v ∈ vs, v.size ≤ 1048576) (d : Nat) : ∀ (k i : Nat) (out : List ByteArray), i + d = vs.length → d + 1048580 ≤ k → out.length ≤ 1048577 * i →
    field_List.l0 k out vs (vs.length : Int) (i : Int) = some (out ++ (vs.drop i).flatMap partsS) := by
  induction d with
  | zero =>
    intro k i out hi hk ho
    obtain ⟨k, rfl⟩ : ∃ m, k = m + 1 := ⟨k - 1, by omega⟩
    rw [field_List.l0, if_neg (by omega), List.drop_of_length_le (by omega), List.flatMap_nil, List.append_nil]
  | succ d ih =>
    intro k i out hi hk ho
    obtain ⟨k, rfl⟩ : ∃ m, k = m + 1 := ⟨k - 1, by omega⟩
    have hlt : i < vs.length := by omega
    have hb := hv _ (List.getElem_mem hlt)
    have hp := parts_len vs[i]
    have hw : wrap64 ((i : Int) + 1) = ((i + 1 : Nat) : Int) := by unfold wrap64; omega
    rw [field_List.l0, if_pos (by omega), if_pos (by omega), if_pos (by omega), rdB_at vs i hlt, signSplit_f _ (by omega) k (by omega), Option.bind_some, hw, List.drop_eq_getElem_cons hlt, List.flatMap_cons]
    have e : (commaParts vs[i].data.toList).map mkS = partsS vs[i] := rfl
    rw [e, if_pos (by omega), ih k (i + 1) _ (by omega) (by omega) (by rw [List.length_append]; omega), List.append_assoc]
/-- All parts of a name's values. -/
def listS (name : ByteArray) (fs : List (S55)) : List ByteArray := (getS name fs).flatMap partsS
theorem get_bounds (fs : List (S55)) (name : ByteArray) (hf : FB fs) : (getS name fs).length ≤ 1000 ∧ ∀ v ∈ getS name fs, v.size ≤ 1048576 := by
  refine ⟨Nat.le_trans (getS_len name fs) hf.1, fun v hv => ?_⟩
  obtain ⟨f, hm, rfl, _⟩ := getS_mem name fs v hv
  exact (hf.2 f hm).2
theorem List_f (fs : List (S55)) (name : ByteArray) (hf : FB fs) (hn : name.size ≤ 1048576) (k : Nat) (hk : 1049600 ≤ k) : field_List.f k fs name = some (listS name fs) := by
  obtain ⟨h1, h2⟩ := get_bounds fs name hf
  have hfl := hf.1
  unfold field_List.f
  rw [Get_f fs name hf hn k (by omega), Option.bind_some]
  have := list_l0 (getS name fs) h1 h2 (getS name fs).length k 0 [] (by omega) (by omega) (by simp)
  rw [List.drop_zero, List.nil_append] at this
  exact this
theorem flat_len (B : Nat) : ∀ vs : List ByteArray, (∀ v ∈ vs, v.size ≤ B) → (vs.flatMap partsS).length ≤ vs.length * (B + 1)
  | [], _ => by simp
  | v :: r, h => by
    rw [List.flatMap_cons, List.length_append, List.length_cons, Nat.succ_mul]
    have h1 := flat_len B r (fun u hu => h u (List.mem_cons_of_mem _ hu))
    have h2 := parts_len v
    have h3 := h v List.mem_cons_self
    omega
theorem list_bounds (fs : List (S55)) (name : ByteArray) (hf : FB fs) : (listS name fs).length ≤ 1048577000 ∧ ∀ p ∈ listS name fs, p.size ≤ 1048576 := by
  obtain ⟨h1, h2⟩ := get_bounds fs name hf
  refine ⟨?_, fun p hp => ?_⟩
  · have h3 := flat_len 1048576 (getS name fs) h2
    unfold listS
    have h4 : (getS name fs).length * 1048577 ≤ 1000 * 1048577 := Nat.mul_le_mul_right _ h1
    omega
  · unfold listS at hp
    obtain ⟨v, hv, hp⟩ := List.mem_flatMap.1 hp
    exact Nat.le_trans (parts_size v p hp) (h2 v hv)
theorem any_f (q : ByteArray → Option Bool) (p : ByteArray → Bool) : ∀ l : List ByteArray, (∀ x ∈ l, q x = some (p x)) → anyO q l = some (l.any p)
  | [], _ => rfl
  | x :: r, h => by
    rw [anyO, h x List.mem_cons_self, Option.bind_some, List.any_cons]
    cases hp : p x
    · simp only [Bool.false_eq_true, if_false, Bool.false_or]
      exact any_f q p r (fun y hy => h y (List.mem_cons_of_mem _ hy))
    · simp
/-- Is a part among a name's? -/
def hasS (fs : List (S55)) (name part : ByteArray) : Bool := (listS name fs).any (fun p => sameN p part)
theorem Has_f (fs : List (S55)) (name part : ByteArray) (hf : FB fs) (hn : name.size ≤ 1048576) (hp : part.size ≤ 1048576) (k : Nat) (hk : 1049600 ≤ k) : field_Has.f k fs name part = some (hasS fs name part) := by
  unfold field_Has.f
  rw [List_f fs name hf hn k hk, Option.bind_some]
  exact any_f _ _ _ (fun x hx => same_f x part (by have := (list_bounds fs name hf).2 x hx; omega) (by omega))
theorem refFold_l0 (s : ByteArray) (hn : s.size ≤ 140737488355327) (d : Nat) : ∀ (k : Nat) (out : List Int) (i : Int), 0 ≤ i → (s.size : Int) - i = d → d + 1 ≤ k → (out.length : Int) = i →
    tollbarref02_Fold.l0 k s out i = some (strOfNums (out ++ ((bytesOf s).drop i.toNat).map foldC)) := by
  induction d with
  | zero =>
    intro k out i h0 hd hk ho
    obtain ⟨k, rfl⟩ : ∃ m, k = m + 1 := ⟨k - 1, by omega⟩
    simp only [tollbarref02_Fold.l0]
    rw [if_neg (by omega), List.drop_of_length_le (by rw [bytesOf_length]; omega), List.map_nil, List.append_nil]
  | succ d ih =>
    intro k out i h0 hd hk ho
    obtain ⟨k, rfl⟩ : ∃ m, k = m + 1 := ⟨k - 1, by omega⟩
    have hlt : i < (s.size : Int) := by omega
    have hl : i.toNat < (bytesOf s).length := by rw [bytesOf_length]; omega
    have hg : (bytesOf s)[i.toNat] = bt s i := by rw [← rd_bytesOf]; simp [rd, List.getD_eq_getElem?_getD, List.getElem?_eq_getElem hl]
    have hr := bt_range s i
    have ih' := fun v => ih k (out ++ [v]) (i + 1) (by omega) (by omega) (by omega) (by rw [List.length_append]; simp; omega)
    have e1 : (i + 1).toNat = i.toNat + 1 := by omega
    rw [List.drop_eq_getElem_cons hl, hg, List.map_cons]
    simp only [tollbarref02_Fold.l0]
    rw [if_pos hlt, if_pos h0, show wrap64 (i + 1) = i + 1 by unfold wrap64; omega]
    have hf : ∀ v, v = foldC (bt s i) → some (strOfNums (out ++ [v] ++ ((bytesOf s).drop (i.toNat + 1)).map foldC)) = some (strOfNums (out ++ foldC (bt s i) :: ((bytesOf s).drop (i.toNat + 1)).map foldC)) := by
      intro v hv
      rw [hv, List.append_assoc]
      rfl
    have ho2 : out.length < 140737488355328 := by omega
    by_cases h1 : bt s i ≥ 65
    · rw [if_pos h1]
      by_cases h2 : bt s i ≤ 90
      · rw [if_pos h2, if_pos ho2, ih', e1]; exact hf _ (by unfold foldC; rw [if_pos ⟨h1, h2⟩]; omega)
      · rw [if_neg h2, if_pos ho2, ih', e1]; exact hf _ (by unfold foldC; rw [if_neg (by omega)])
    · rw [if_neg h1, if_pos ho2, ih', e1]; exact hf _ (by unfold foldC; rw [if_neg (by omega)])
theorem refFold_f (s : ByteArray) (hn : s.size ≤ 140737488355327) (k : Nat) (hk : s.size + 1 ≤ k) : tollbarref02_Fold.f k s = sign_Fold.f s := by
  unfold tollbarref02_Fold.f sign_Fold.f
  rw [refFold_l0 s hn s.size k [] 0 (by omega) (by omega) hk rfl, if_pos (by omega)]
  rfl
theorem Fold_f (s : ByteArray) (hn : s.size ≤ 140737488355328) : sign_Fold.f s = some (strOfNums ((bytesOf s).map foldC)) := if_pos hn
theorem str_len (xs : List Int) : (strOfNums xs).size = xs.length := str_size xs
end Go.Proofs.YtfjeinnemimjoaaGreatDoor.Pure
namespace Go.Proofs.YtfjeinnemimjoaaGreatDoor.P
open Go.RowKit Go.Proofs.YtfjeinnemimjoaaGreatDoorW.PrintWords Go.Proofs.YtfjeinnemimjoaaGreatDoorW.PrintLast Go.Proofs.YtfjeinnemimjoaaGreatDoorW.PrintMore
attribute [local go_sem] max2_int min2_int max_two min_two max_three min_three max_four min_four
set_option linter.unusedVariables false
set_option linter.unusedSimpArgs false
end Go.Proofs.YtfjeinnemimjoaaGreatDoor.P
namespace Go.Proofs.YtfjeinnemimjoaaGreatDoor.Pure
open Go.RowKit Go.Proofs.YtfjeinnemimjoaaGreatDoor.P Go.Proofs.YtfjeinnemimjoaaGreatDoorW.PrintWords Go.Proofs.YtfjeinnemimjoaaGreatDoorW.PrintLast Go.Proofs.YtfjeinnemimjoaaGreatDoorW.PrintMore
set_option linter.unusedVariables false
set_option linter.unusedSimpArgs false
/-- The value of a digit, or -1. -/
def digV (c : Int) : Int := Lib.indexByte [48, 49, 50, 51, 52, 53, 54, 55, 56, 57, 97, 98, 99, 100, 101, 102] (foldC c).toNat.toUInt8
/-- The number of digits, from n on. -/
def numL (base : Int) : List Int → Int → Option Int
  | [], n => some n
  | c :: r, n => if 0 ≤ digV c ∧ digV c < base then numL base r (n * base + digV c) else none
theorem digV_lt (c : Int) (h0 : 0 ≤ c) (h1 : c ≤ 255) : digV c < 16 := by
  obtain ⟨n, rfl⟩ := Int.eq_ofNat_of_zero_le h0
  have h : ∀ m : Fin 256, digV (m.val : Int) < 16 := by decide +kernel
  exact h ⟨n, by omega⟩
theorem one_fold (s : ByteArray) (i : Int) (h0 : 0 ≤ i) (h : i < (s.size : Int)) : sign_Fold.f (s.extract i.toNat (i + 1).toNat) = some (strOfNums [foldC (bt s i)]) := by
  have hl : i.toNat < s.data.toList.length := by rw [data_length]; omega
  have e1 : (s.extract i.toNat (i + 1).toNat).data.toList = [s.data.toList[i.toNat]] := by
    rw [Lib.extract_data, show (i + 1).toNat - i.toNat = 1 by omega, List.drop_eq_getElem_cons hl]
    rfl
  have hz : (s.extract i.toNat (i + 1).toNat).size = 1 := by rw [← data_length, e1]; rfl
  rw [fold_tells _ (by omega)]
  unfold bytesOf
  rw [e1]
  have e2 : ((s.data.toList[i.toNat]).toNat : Int) = bt s i := by
    unfold bt
    rw [dif_pos (by omega)]
    rfl
  simp only [List.map_cons, List.map_nil, e2]
theorem bt_one (x : Int) (h0 : 0 ≤ x) (h1 : x ≤ 255) : bt (strOfNums [x]) 0 = x := by
  have h := bytes_str (xs := [x]) (by intro y hy; rw [List.mem_singleton.1 hy]; exact ⟨h0, h1⟩)
  rw [← rd_bytesOf, h]
  rfl
theorem index_dig (s : ByteArray) (i : Int) : strings_IndexByte.f (⟨#[48, 49, 50, 51, 52, 53, 54, 55, 56, 57, 97, 98, 99, 100, 101, 102]⟩ : ByteArray) (bt (strOfNums [foldC (bt s i)]) 0) = some (digV (bt s i)) := by
  have hr := bt_range s i
  have hf := foldC_byte _ hr.1 hr.2
  rw [bt_one _ hf.1 hf.2]
  rfl
theorem pow_pos' (b : Int) (hb : 1 ≤ b) : ∀ n : Nat, 1 ≤ b ^ n
  | 0 => by simp
  | n + 1 => by
    rw [Int.pow_succ]
    have h1 := pow_pos' b hb n
    have h2 := Int.mul_le_mul_of_nonneg_left hb (show 0 ≤ b ^ n by omega)
    rw [Int.mul_one] at h2
    omega
theorem pow_mono' (b : Int) (hb : 1 ≤ b) (i : Nat) : ∀ d : Nat, b ^ i ≤ b ^ (i + d)
  | 0 => Int.le_refl _
  | d + 1 => by
    rw [← Nat.add_assoc, Int.pow_succ]
    have h0 := pow_mono' b hb i d
    have h1 := pow_pos' b hb (i + d)
    have h2 := Int.mul_le_mul_of_nonneg_left hb (show 0 ≤ b ^ (i + d) by omega)
    rw [Int.mul_one] at h2
    omega
/-- Too long: none. -/
theorem number_long (s : ByteArray) (base most : Int) (hm : (s.size : Int) > most) (hs : s.size ≤ 140737488355327) (d : Nat) : ∀ (k : Nat) (n i : Int), 0 ≤ i → (s.size : Int) - i = d → 2 * d + 1 ≤ k →
    sign_number.l0 k s base most n (s.size : Int) i = some (0, false) := by
  induction d with
  | zero =>
    intro k n i h0 hd hk
    obtain ⟨k, rfl⟩ : ∃ m, k = m + 1 := ⟨k - 1, by omega⟩
    simp only [sign_number.l0]
    rw [if_neg (by omega)]
    repeat' split
    all_goals first | rfl | (exfalso; omega)
  | succ d ih =>
    intro k n i h0 hd hk
    obtain ⟨k, rfl⟩ : ∃ m, k = m + 2 := ⟨k - 2, by omega⟩
    have hw : wrap64 (i + 1) = i + 1 := by unfold wrap64; omega
    have ih' := fun n => ih k n (i + 1) (by omega) (by omega) (by omega)
    simp only [sign_number.l0]
    rw [if_pos (by omega), if_pos h0, hw, if_pos (by omega), if_pos (by omega), one_fold s i h0 (by omega), Option.bind_some, if_pos (by rw [str_size]; simp), index_dig, Option.bind_some]
    simp only [sign_number.j1]
    rw [hw, ih', ih']
    repeat' split
    all_goals rfl
theorem number_short (s : ByteArray) (base : Int) (most : Nat) (hb0 : 0 ≤ base) (hB : base ^ most ≤ 4611686018427387904) (hb1 : 1 ≤ base) (hm : s.size ≤ most) (hs : s.size ≤ 140737488355327) (d : Nat) : ∀ (k : Nat) (n : Int) (i : Nat), i + d = s.size → 2 * d + 1 ≤ k → 0 ≤ n → n + 1 ≤ base ^ i →
    sign_number.l0 k s base most n (s.size : Int) i = some (match numL base ((bytesOf s).drop i) n with | some v => if s.size = 0 then (0, false) else (v, true) | none => (0, false)) := by
  induction d with
  | zero =>
    intro k n i hi hk h0 hn
    obtain ⟨k, rfl⟩ : ∃ m, k = m + 1 := ⟨k - 1, by omega⟩
    rw [List.drop_of_length_le (by rw [bytesOf_length]; omega)]
    simp only [sign_number.l0, numL]
    rw [if_neg (by omega)]
    by_cases hz : s.size = 0
    · have he : s.toList = [] := by rw [toList_data]; exact List.eq_nil_of_length_eq_zero (by rw [data_length]; exact hz)
      rw [if_pos he, if_pos hz]
    · have he : ¬ (s.toList = []) := by
        intro e
        rw [toList_data] at e
        have := data_length s
        rw [e] at this
        exact hz this.symm
      rw [if_neg he, if_neg hz, if_neg (by omega)]
  | succ d ih =>
    intro k n i hi hk h0 hn
    obtain ⟨k, rfl⟩ : ∃ m, k = m + 2 := ⟨k - 2, by omega⟩
    have hw : wrap64 ((i : Int) + 1) = (i : Int) + 1 := by unfold wrap64; omega
    have hl : i < (bytesOf s).length := by rw [bytesOf_length]; omega
    have hg : (bytesOf s)[i] = bt s i := by rw [← rd_bytesOf]; simp [rd, List.getD_eq_getElem?_getD, List.getElem?_eq_getElem hl]
    have hr := bt_range s i
    have hP : base ^ (i + 1) = base ^ i * base := Int.pow_succ _ _
    have hle : base ^ (i + 1) ≤ base ^ most := by
      have := pow_mono' base hb1 (i + 1) (most - (i + 1))
      rwa [show i + 1 + (most - (i + 1)) = most by omega] at this
    have h1 := Int.mul_le_mul_of_nonneg_right hn hb0
    rw [Int.add_mul, ← hP, Int.one_mul] at h1
    have h2 : 0 ≤ n * base := Int.mul_nonneg h0 hb0
    have h3 : 0 ≤ base := hb0
    have hdl := digV_lt _ hr.1 hr.2
    rw [List.drop_eq_getElem_cons hl, hg]
    simp only [sign_number.l0, numL]
    rw [if_pos (by omega), if_pos (by omega), hw, if_pos (by omega), if_pos (by omega), one_fold s i (by omega) (by omega), Option.bind_some, if_pos (by rw [str_size]; simp), index_dig, Option.bind_some]
    simp only [sign_number.j1]
    obtain ⟨D, hD⟩ : ∃ D, D = digV (bt s i) := ⟨_, rfl⟩
    rw [← hD] at hdl ⊢
    by_cases hv : 0 ≤ D ∧ D < base
    · rw [if_neg (by omega), decide_eq_false (by omega), if_neg (by simp), if_pos (by omega), hw, if_pos hv]
      have e1 : wrap64 (wrap64 (n * base) + D) = n * base + D := by unfold wrap64; omega
      rw [e1]
      have := ih k (n * base + D) (i + 1) (by omega) (by omega) (by omega) (by omega)
      rw [show (((i + 1 : Nat)) : Int) = (i : Int) + 1 by omega] at this
      exact this
    · rw [if_neg hv]
      by_cases hn0 : D < 0
      · rw [if_pos hn0, if_pos trivial]
      · rw [if_neg hn0, decide_eq_true (by omega), if_pos rfl]
/-- What number tells. -/
def numSpec (s : ByteArray) (base : Int) (most : Nat) : Int × Bool :=
  if s.size = 0 ∨ s.size > most then (0, false) else match numL base (bytesOf s) 0 with | some v => (v, true) | none => (0, false)
theorem number_f (s : ByteArray) (base : Int) (most : Nat) (hb1 : 1 ≤ base) (hB : base ^ most ≤ 4611686018427387904) (hs : s.size ≤ 140737488355327) (k : Nat) (hk : 2 * s.size + 1 ≤ k) : sign_number.f k s base most = some (numSpec s base most) := by
  unfold sign_number.f numSpec
  by_cases hm : s.size > most
  · rw [if_pos (Or.inr hm)]
    exact number_long s base most (by omega) hs s.size k 0 0 (by omega) (by omega) hk
  · have := number_short s base most (by omega) hB hb1 (by omega) hs s.size k 0 0 (by omega) hk (by omega) (by simp)
    rw [show ((0 : Nat) : Int) = 0 from rfl] at this
    rw [this]
    by_cases hz : s.size = 0
    · rw [if_pos (Or.inl hz), List.drop_zero]
      cases numL base (bytesOf s) 0 <;> simp [hz]
    · rw [if_neg (by omega), List.drop_zero]
      cases numL base (bytesOf s) 0 <;> simp [hz]
theorem Decimal_f (s : ByteArray) (hs : s.size ≤ 140737488355327) (k : Nat) (hk : 2 * s.size + 1 ≤ k) : sign_Decimal.f k s = some (numSpec s 10 18) := by
  unfold sign_Decimal.f
  rw [show (18 : Int) = ((18 : Nat) : Int) from rfl, number_f s 10 18 (by decide) (by decide) hs k hk, Option.bind_some]
theorem dec_fact (c : Int) (h0 : 0 ≤ c) (h1 : c ≤ 255) : tollbarref02_Digit.f c = some (decide (0 ≤ digV c ∧ digV c < 10)) ∧ ((0 ≤ digV c ∧ digV c < 10) → (c - 48) % 256 = digV c) := by
  obtain ⟨n, rfl⟩ := Int.eq_ofNat_of_zero_le h0
  have h : ∀ m : Fin 256, tollbarref02_Digit.f (m.val : Int) = some (decide (0 ≤ digV (m.val : Int) ∧ digV (m.val : Int) < 10)) ∧ ((0 ≤ digV (m.val : Int) ∧ digV (m.val : Int) < 10) → ((m.val : Int) - 48) % 256 = digV (m.val : Int)) := by decide +kernel
  exact h ⟨n, by omega⟩
/-- What a loop over digits tells. -/
def told (r : Option Int) : Int × Bool := match r with | some v => (v, true) | none => (0, false)
theorem refDec_l0 (s : ByteArray) (hm : s.size ≤ 18) (d : Nat) : ∀ (k : Nat) (n : Int) (i : Nat), i + d = s.size → d + 1 ≤ k → 0 ≤ n → n + 1 ≤ 10 ^ i →
    tollbarref02_Decimal.l0 k s n i = some (told (numL 10 ((bytesOf s).drop i) n)) := by
  induction d with
  | zero =>
    intro k n i hi hk h0 hn
    obtain ⟨k, rfl⟩ : ∃ m, k = m + 1 := ⟨k - 1, by omega⟩
    rw [List.drop_of_length_le (by rw [bytesOf_length]; omega)]
    simp only [tollbarref02_Decimal.l0, numL]
    rw [if_neg (by omega)]
    rfl
  | succ d ih =>
    intro k n i hi hk h0 hn
    obtain ⟨k, rfl⟩ : ∃ m, k = m + 1 := ⟨k - 1, by omega⟩
    have hw : wrap64 ((i : Int) + 1) = ((i + 1 : Nat) : Int) := by unfold wrap64; omega
    have hl : i < (bytesOf s).length := by rw [bytesOf_length]; omega
    have hg : (bytesOf s)[i] = bt s i := by rw [← rd_bytesOf]; simp [rd, List.getD_eq_getElem?_getD, List.getElem?_eq_getElem hl]
    have hr := bt_range s i
    obtain ⟨f1, f2⟩ := dec_fact _ hr.1 hr.2
    have hP : (10 : Int) ^ (i + 1) = 10 ^ i * 10 := Int.pow_succ _ _
    have hle := pow_mono' 10 (by decide) (i + 1) (18 - (i + 1))
    rw [show i + 1 + (18 - (i + 1)) = 18 by omega, hP] at hle
    have hc : (10 : Int) ^ 18 = 1000000000000000000 := by decide
    rw [List.drop_eq_getElem_cons hl, hg]
    simp only [tollbarref02_Decimal.l0, numL]
    rw [if_pos (by omega), if_pos (by omega), f1, Option.bind_some]
    by_cases hv : 0 ≤ digV (bt s i) ∧ digV (bt s i) < 10
    · rw [decide_eq_true hv, if_pos rfl, if_pos hv, f2 hv, hw]
      have e1 : wrap64 (wrap64 (n * 10) + digV (bt s i)) = n * 10 + digV (bt s i) := by unfold wrap64; omega
      rw [e1]
      exact ih k _ (i + 1) (by omega) (by omega) (by omega) (by omega)
    · rw [decide_eq_false hv, if_neg (by simp), if_neg hv]
      rfl
theorem refDecimal_f (s : ByteArray) (k : Nat) (hk : 40 ≤ k) (hs : s.size ≤ 140737488355327) : tollbarref02_Decimal.f k s = some (numSpec s 10 18) := by
  obtain ⟨k, rfl⟩ : ∃ m, k = m + 1 := ⟨k - 1, by omega⟩
  unfold tollbarref02_Decimal.f numSpec
  by_cases h0 : s.size = 0
  · rw [if_pos (by omega), if_pos (Or.inl h0)]
    simp only [tollbarref02_Decimal.j0]
    rfl
  · rw [if_neg (by omega)]
    by_cases h1 : s.size > 18
    · rw [decide_eq_true (by omega), if_pos (Or.inr h1)]
      simp only [tollbarref02_Decimal.j0]
      rfl
    · rw [decide_eq_false (by omega), if_neg (by omega)]
      simp only [tollbarref02_Decimal.j0]
      rw [if_neg (by simp)]
      have := refDec_l0 s (by omega) s.size k 0 0 (by omega) (by omega) (by omega) (by simp)
      rw [show ((0 : Nat) : Int) = 0 from rfl, List.drop_zero] at this
      exact this
theorem blank_tells (b : UInt8) : tollbarref02_blank.f (b.toNat : Int) = some (blk b) := by
  have h : ∀ n : Fin 256, tollbarref02_blank.f (n.val : Int) = some (blk (UInt8.ofNat n.val)) := by decide +kernel
  have := h ⟨b.toNat, b.toNat_lt⟩
  rw [this]
  congr 2
  exact UInt8.ofNat_toNat
theorem trimR_ref (d : Nat) : ∀ (k : Nat) (x : List UInt8), x.length = d → x.length ≤ 4398046511104 → d + 1 ≤ k → (∀ a, x.head? = some a → blk a = false) →
    ∃ r post, tollbarref02_Trim.l1 k (mkS x) = some (mkS r) ∧ x = r ++ post ∧ Clean r ∧ ∀ a ∈ post, blk a = true := by
  induction d with
  | zero =>
    intro k x hx hn hk hh
    obtain ⟨k, rfl⟩ : ∃ m, k = m + 1 := ⟨k - 1, by omega⟩
    obtain rfl : x = [] := List.eq_nil_of_length_eq_zero hx
    refine ⟨[], [], ?_, rfl, ⟨by simp, by simp⟩, by simp⟩
    simp only [tollbarref02_Trim.l1]
    rw [if_neg (by rw [mkS_size]; simp)]
  | succ d ih =>
    intro k x hx hn hk hh
    obtain ⟨k, rfl⟩ : ∃ m, k = m + 1 := ⟨k - 1, by omega⟩
    obtain ⟨y, b, rfl⟩ : ∃ y b, x = y ++ [b] := ⟨x.dropLast, x.getLast (by intro e; simp [e] at hx), (List.dropLast_concat_getLast _).symm⟩
    have hy : y.length = d := by simpa using hx
    have hs : (mkS (y ++ [b])).size = d + 1 := by rw [mkS_size]; simp [hy]
    have hw : wrap64 (((d + 1 : Nat) : Int) - 1) = ((d : Nat) : Int) := by unfold wrap64; omega
    have hb : bt (mkS (y ++ [b])) ((d : Nat) : Int) = (b.toNat : Int) := by
      rw [bt_mk _ d (by simp; omega)]
      simp [← hy]
    have hex : (mkS (y ++ [b])).extract 0 d = mkS y := by
      rw [mkS_extract, List.drop_zero, Nat.sub_zero, ← hy, List.take_left]
    simp only [tollbarref02_Trim.l1]
    rw [hs, if_pos (by omega), hw, if_pos (by omega), if_pos (by omega), hb, blank_tells, Option.bind_some, Int.toNat_natCast, hex]
    cases hbl : blk b
    · rw [if_neg (by simp)]
      exact ⟨y ++ [b], [], rfl, by simp, ⟨hh, by intro a ha; simp at ha; rw [← ha]; exact hbl⟩, by simp⟩
    · rw [if_pos rfl, if_pos (by omega)]
      obtain ⟨r, post, h1, h2, h3, h4⟩ := ih k y hy (by omega) (by omega) (by
        intro a ha
        refine hh a ?_
        rw [List.head?_append, ha]
        rfl)
      refine ⟨r, post ++ [b], h1, by rw [h2]; simp, h3, fun a ha => ?_⟩
      rcases List.mem_append.1 ha with ha | ha
      · exact h4 a ha
      · rw [List.mem_singleton.1 ha]; exact hbl
theorem trimL_ref (n : Nat) (hn : n ≤ 4398046511104) (d : Nat) : ∀ (k : Nat) (x : List UInt8), x.length = d → d ≤ n → d + n + 4 ≤ k →
    ∃ r pre post, tollbarref02_Trim.l0 k (mkS x) = some (mkS r) ∧ x = pre ++ r ++ post ∧ Clean r ∧ (∀ a ∈ pre, blk a = true) ∧ ∀ a ∈ post, blk a = true := by
  induction d with
  | zero =>
    intro k x hx hd hk
    obtain ⟨k, rfl⟩ : ∃ m, k = m + 2 := ⟨k - 2, by omega⟩
    obtain rfl : x = [] := List.eq_nil_of_length_eq_zero hx
    obtain ⟨r, post, h1, h2, h3, h4⟩ := trimR_ref 0 k [] rfl (by simp) (by omega) (by simp)
    refine ⟨r, [], post, ?_, by simpa using h2, h3, by simp, h4⟩
    simp only [tollbarref02_Trim.l0]
    rw [if_neg (by rw [mkS_size]; simp)]
    simp only [tollbarref02_Trim.j1]
    exact h1
  | succ d ih =>
    intro k x hx hd hk
    obtain ⟨k, rfl⟩ : ∃ m, k = m + 2 := ⟨k - 2, by omega⟩
    obtain ⟨b, y, rfl⟩ : ∃ b y, x = b :: y := by
      cases x with
      | nil => simp at hx
      | cons b y => exact ⟨b, y, rfl⟩
    have hy : y.length = d := by simpa using hx
    have hs : (mkS (b :: y)).size = d + 1 := by rw [mkS_size]; simp [hy]
    have hb : bt (mkS (b :: y)) 0 = (b.toNat : Int) := bt_mk (b :: y) 0 (by simp)
    have hex : (mkS (b :: y)).extract 1 (d + 1) = mkS y := by
      rw [mkS_extract]
      simp [← hy]
    simp only [tollbarref02_Trim.l0]
    rw [hs, if_pos (by omega), if_pos (by omega), hb, blank_tells, Option.bind_some]
    cases hbl : blk b
    · rw [if_neg (by simp)]
      obtain ⟨r, post, h1, h2, h3, h4⟩ := trimR_ref (d + 1) k (b :: y) hx (by omega) (by omega) (by intro a ha; simp at ha; rw [← ha]; exact hbl)
      refine ⟨r, [], post, ?_, by simpa using h2, h3, by simp, h4⟩
      simp only [tollbarref02_Trim.j1]
      exact h1
    · rw [if_pos rfl, if_pos (by omega), hex]
      obtain ⟨r, pre, post, h1, h2, h3, h4, h5⟩ := ih (k + 1) y hy (by omega) (by omega)
      refine ⟨r, b :: pre, post, h1, by rw [h2]; simp, h3, fun a ha => ?_, h5⟩
      rcases List.mem_cons.1 ha with rfl | ha
      · exact hbl
      · exact h4 a ha
theorem refTrim_mk (x : List UInt8) (hn : x.length ≤ 4398046511104) (k : Nat) (hk : 2 * x.length + 4 ≤ k) : tollbarref02_Trim.f k (mkS x) = some (mkS (trm x)) := by
  obtain ⟨r, pre, post, h1, h2, h3, h4, h5⟩ := trimL_ref x.length hn x.length k x rfl (Nat.le_refl _) (by omega)
  unfold tollbarref02_Trim.f
  rw [h1, h2, trm_around pre r post h3 h4 h5]
/-- One part ends: what is told of it. -/
theorem part_ends (out : List ByteArray) (seg : List UInt8) (h : 44 ∉ seg) (ho : out.length < 8796093022208) (R : List ByteArray → Option (List ByteArray)) :
    (if (mkS (trm seg)).toList = ([] : List UInt8) then R out else (if out.length < 8796093022208 then R (out ++ [mkS (trm seg)]) else none)) = R (out ++ (commaParts seg).map mkS) := by
  rw [comma_one seg h, mkS_toList]
  by_cases he : trm seg = []
  · rw [if_pos he, if_pos (by simpa using he)]; simp
  · rw [if_neg he, if_pos ho, if_neg (by simpa using he)]; rfl
theorem refSplit_l0 (l : List UInt8) (hn : l.length ≤ 1048580) (d : Nat) : ∀ (k : Nat) (out : List ByteArray) (f i : Nat), f ≤ i → i + d = l.length → 44 ∉ (l.drop f).take (i - f) → out.length ≤ 2 * i → 3 * d + 2 * l.length + 20 ≤ k →
    tollbarref02_Split.l0 k (mkS l) out f i = some (out ++ (commaParts (l.drop f)).map mkS) := by
  induction d with
  | zero =>
    intro k out f i hf hi hs ho hk
    obtain ⟨k, rfl⟩ : ∃ m, k = m + 3 := ⟨k - 3, by omega⟩
    have hz : (mkS l).size = l.length := mkS_size l
    have hw : wrap64 ((i : Int) + 1) = (i : Int) + 1 := wn1 i (by omega)
    have ht : (l.drop f).take (i - f) = l.drop f := List.take_of_length_le (by rw [List.length_drop]; omega)
    have hend : ∀ o : List ByteArray, tollbarref02_Split.l0 (k + 1) (mkS l) o ((i : Int) + 1) ((i : Int) + 1) = some o := by
      intro o
      simp only [tollbarref02_Split.l0]
      rw [if_neg (by omega)]
    simp only [tollbarref02_Split.l0]
    rw [hz, if_pos (by omega), if_pos (by omega)]
    simp only [tollbarref02_Split.j1]
    rw [if_pos trivial, if_pos (by omega), if_pos (by omega), hz, if_pos (by omega), Int.toNat_natCast, Int.toNat_natCast, mkS_extract, refTrim_mk _ (by rw [List.length_take, List.length_drop]; omega) _ (by rw [List.length_take, List.length_drop]; omega), Option.bind_some, hw, hend, hend]
    rw [ht] at hs ⊢
    exact part_ends out _ hs (by omega) (fun o => some o)
  | succ d ih =>
    intro k out f i hf hi hs ho hk
    obtain ⟨k, rfl⟩ : ∃ m, k = m + 2 := ⟨k - 2, by omega⟩
    have hlt : i < l.length := by omega
    have hz : (mkS l).size = l.length := mkS_size l
    have hw : wrap64 ((i : Int) + 1) = ((i + 1 : Nat) : Int) := by rw [wn1 i (by omega)]; omega
    obtain ⟨e1, e2⟩ := seg_split l f i hf hlt
    have ih1 := fun o (h : o.length ≤ 2 * (i + 1)) => ih k o (i + 1) (i + 1) (Nat.le_refl _) (by omega) (by simp) h (by omega)
    have ih2 := fun h => ih k out f (i + 1) (by omega) (by omega) h (by omega) (by omega)
    simp only [tollbarref02_Split.l0]
    rw [hz, if_pos (by omega), if_neg (by omega), if_pos (by omega), if_pos (by omega), bt_mk l i hlt]
    simp only [tollbarref02_Split.j1]
    by_cases hc : l[i] = 44
    · have hb : (((l[i]).toNat : Int) == 44) = true := by rw [hc]; rfl
      rw [hb, if_pos rfl, if_pos (by omega), if_pos (by omega), hz, if_pos (by omega), Int.toNat_natCast, Int.toNat_natCast, mkS_extract, refTrim_mk _ (by rw [List.length_take, List.length_drop]; omega) _ (by rw [List.length_take, List.length_drop]; omega), Option.bind_some, hw]
      have hp := part_ends out ((l.drop f).take (i - f)) hs (by omega) (fun o => tollbarref02_Split.l0 k (mkS l) o ((i + 1 : Nat) : Int) ((i + 1 : Nat) : Int))
      refine hp.trans ?_
      have hlen : (commaParts ((l.drop f).take (i - f))).length ≤ 1 := by rw [comma_one _ hs]; split <;> simp
      rw [ih1 _ (by rw [List.length_append, List.length_map]; omega)]
      have e3 : commaParts (l.drop f) = commaParts ((l.drop f).take (i - f)) ++ commaParts (l.drop (i + 1)) := by
        rw [← comma_append]
        congr 1
        rw [← hc]
        exact e1
      rw [e3, List.map_append, List.append_assoc]
    · have hb : (((l[i]).toNat : Int) == 44) = false := by
        rw [beq_eq_false_iff_ne]
        intro e
        exact hc (UInt8.toNat_inj.1 (by show _ = 44; omega))
      rw [hb, if_neg (by simp), hw]
      refine ih2 ?_
      rw [e2]
      intro hm
      rcases List.mem_append.1 hm with hm | hm
      · exact hs hm
      · exact hc (List.mem_singleton.1 hm).symm
theorem refSplit_f (l : List UInt8) (hn : l.length ≤ 1048580) (k : Nat) (hk : 5 * l.length + 20 ≤ k) : tollbarref02_Split.f k (mkS l) = some ((commaParts l).map mkS) := by
  have := refSplit_l0 l hn l.length k [] 0 0 (Nat.le_refl _) (by omega) (by simp) (by simp) (by omega)
  unfold tollbarref02_Split.f
  rw [show ((0 : Nat) : Int) = 0 from rfl] at this
  rw [this]
  rfl
theorem refSame_f (a b : ByteArray) (ha : a.size ≤ 1048576) (hb : b.size ≤ 1048576) (k : Nat) (hk : 1048578 ≤ k) : tollbarref04_same.f k a b = some (sameN a b) := by
  unfold tollbarref04_same.f
  rw [refFold_f a (by omega) k (by omega), refFold_f b (by omega) k (by omega), Fold_f a (by omega), Fold_f b (by omega), Option.bind_some, Option.bind_some, str_inj (bytes_fold (bytes_of a)) (bytes_fold (bytes_of b))]
  rfl
theorem refGet_l0 (name : ByteArray) (hn : name.size ≤ 1048576) (fs : List (S55)) (hf : FB fs) (d : Nat) : ∀ (k i : Nat) (out : List ByteArray), i + d = fs.length → d + 1048580 ≤ k → out.length ≤ i →
    tollbarref04_Get.l0 k fs name out (i : Int) = some (out ++ getS name (fs.drop i)) := by
  have hfl := hf.1
  induction d with
  | zero =>
    intro k i out hi hk ho
    obtain ⟨k, rfl⟩ : ∃ m, k = m + 1 := ⟨k - 1, by omega⟩
    rw [tollbarref04_Get.l0, if_neg (by omega), List.drop_of_length_le (by omega), getS, List.append_nil]
  | succ d ih =>
    intro k i out hi hk ho
    obtain ⟨k, rfl⟩ : ∃ m, k = m + 1 := ⟨k - 1, by omega⟩
    have hlt : i < fs.length := by omega
    have hb := hf.2 _ (List.getElem_mem hlt)
    have hw : wrap64 ((i : Int) + 1) = ((i + 1 : Nat) : Int) := by unfold wrap64; omega
    rw [tollbarref04_Get.l0, if_pos (by omega), if_pos (by omega), rdT_at fs i hlt, refSame_f _ _ (by omega) (by omega) k (by omega), Option.bind_some, hw, List.drop_eq_getElem_cons hlt, getS]
    by_cases hs : sameN fs[i].f0 name = true
    · rw [if_pos hs, if_pos hs, if_pos (by omega), ih k (i + 1) _ (by omega) (by omega) (by rw [List.length_append]; simp; omega)]
      simp only [List.append_assoc, List.singleton_append]
    · rw [if_neg hs, if_neg hs, ih k (i + 1) _ (by omega) (by omega) (by omega)]
theorem refGet_f (fs : List (S55)) (name : ByteArray) (hf : FB fs) (hn : name.size ≤ 1048576) (k : Nat) (hk : 1049600 ≤ k) : tollbarref04_Get.f k fs name = some (getS name fs) := by
  have hfl := hf.1
  have := refGet_l0 name hn fs hf fs.length k 0 [] (by omega) (by omega) (Nat.zero_le _)
  rw [List.drop_zero, List.nil_append] at this
  exact this
theorem refList_l1 (vs : List ByteArray) (x7 : Int) (ps : List ByteArray) (hpl : ps.length ≤ 2000000) (R : Nat → List ByteArray → Option (List ByteArray)) (hR : ∀ k out, R k out = tollbarref04_List.l0 k out vs (wrap64 (x7 + 1))) (d : Nat) : ∀ (k i : Nat) (out : List ByteArray), i + d = ps.length → out.length + d < 8796093022208 →
    tollbarref04_List.l1 (k + 1 + d) out vs x7 ps (i : Int) = R k (out ++ ps.drop i) := by
  induction d with
  | zero =>
    intro k i out hi ho
    rw [Nat.add_zero, tollbarref04_List.l1, if_neg (by omega), List.drop_of_length_le (by omega), List.append_nil, hR]
  | succ d ih =>
    intro k i out hi ho
    have hlt : i < ps.length := by omega
    have hw : wrap64 ((i : Int) + 1) = ((i + 1 : Nat) : Int) := by unfold wrap64; omega
    rw [show k + 1 + (d + 1) = (k + 1 + d) + 1 by omega, tollbarref04_List.l1, if_pos (by omega), if_pos (by omega), if_pos (by omega), rdB_at ps i hlt, hw, ih k (i + 1) _ (by omega) (by rw [List.length_append]; simp; omega), List.drop_eq_getElem_cons hlt]
    simp only [List.append_assoc, List.singleton_append]
theorem refList_l0 (vs : List ByteArray) (hl : vs.length ≤ 1000) (hv : ∀ v ∈ vs, v.size ≤ 1048576) (C E : Nat) (hC : 1048580 ≤ C) (hE : 8000000 ≤ E) (d : Nat) : ∀ (k i : Nat) (out : List ByteArray), i + d = vs.length → d * C + E ≤ k → out.length ≤ 1048577 * i →
    tollbarref04_List.l0 k out vs (i : Int) = some (out ++ (vs.drop i).flatMap partsS) := by
  induction d with
  | zero =>
    intro k i out hi hk ho
    obtain ⟨k, rfl⟩ : ∃ m, k = m + 1 := ⟨k - 1, by omega⟩
    rw [tollbarref04_List.l0, if_neg (by omega), List.drop_of_length_le (by omega), List.flatMap_nil, List.append_nil]
  | succ d ih =>
    intro k i out hi hk ho
    rw [Nat.succ_mul] at hk
    obtain ⟨X, hX⟩ : ∃ X, X = d * C := ⟨_, rfl⟩
    rw [← hX] at hk
    have HX := Aside0.mk hX
    clear hX
    obtain ⟨k, rfl⟩ : ∃ m, k = m + 1 := ⟨k - 1, by omega⟩
    have hlt : i < vs.length := by omega
    have hw : wrap64 ((i : Int) + 1) = ((i + 1 : Nat) : Int) := by unfold wrap64; omega
    have HW := Aside0.mk hw
    clear hw
    have hb := hv _ (List.getElem_mem hlt)
    have hp := parts_len vs[i]
    have hsp := refSplit_f vs[i].data.toList (by rw [data_length]; omega) k (by rw [data_length]; omega)
    rw [mkS_self] at hsp
    have e : (commaParts vs[i].data.toList).map mkS = partsS vs[i] := rfl
    rw [tollbarref04_List.l0, if_pos (Int.ofNat_lt.2 hlt), if_pos (Int.natCast_nonneg i), rdB_at vs i hlt, hsp, Option.bind_some, List.drop_eq_getElem_cons hlt, List.flatMap_cons, e]
    obtain ⟨j, hj⟩ : ∃ j, k = j + 1 + (partsS vs[i]).length := ⟨k - 1 - (partsS vs[i]).length, by omega⟩
    have h1 := refList_l1 vs (i : Int) (partsS vs[i]) (by omega) _ (fun _ _ => rfl) (partsS vs[i]).length j 0 out (by omega) (by omega)
    rw [← hj, List.drop_zero] at h1
    have h2 : tollbarref04_List.l1 k out vs (i : Int) (partsS vs[i]) 0 = tollbarref04_List.l0 j (out ++ partsS vs[i]) vs (wrap64 ((i : Int) + 1)) := h1
    have hj2 : d * C + E ≤ j := by rw [← HX.out]; omega
    have h3 := ih j (i + 1) (out ++ partsS vs[i]) (by omega) hj2 (by have hla := @List.length_append _ out (partsS vs[i]); omega)
    rw [h2, HW.out, h3, List.append_assoc]
theorem refList_f (fs : List (S55)) (name : ByteArray) (hf : FB fs) (hn : name.size ≤ 1048576) (k : Nat) (hk : 1057000000 ≤ k) : tollbarref04_List.f k fs name = some (listS name fs) := by
  obtain ⟨h1, h2⟩ := get_bounds fs name hf
  unfold tollbarref04_List.f
  rw [refGet_f fs name hf hn k (by omega), Option.bind_some]
  obtain ⟨C, hC⟩ : ∃ C, C = 1048580 := ⟨_, rfl⟩
  obtain ⟨E, hE⟩ : ∃ E, E = 8000000 := ⟨_, rfl⟩
  have h3 : (getS name fs).length * C ≤ 1000 * C := Nat.mul_le_mul_right _ h1
  have h4 : (getS name fs).length * C + E ≤ k := by
    have h5 : 1000 * C = 1048580000 := by rw [hC]
    omega
  have := refList_l0 (getS name fs) h1 h2 C E (by omega) (by omega) (getS name fs).length k 0 [] (by omega) h4 (by simp)
  rw [List.drop_zero, List.nil_append] at this
  exact this
theorem refIn_l0 (name : ByteArray) (hn : name.size ≤ 1048576) (ns : List ByteArray) (hl : ns.length ≤ 2000000000) (hs : ∀ n ∈ ns, n.size ≤ 1048576) (d : Nat) : ∀ (k i : Nat), i + d = ns.length → d + 1048580 ≤ k →
    tollbarref04_In.l0 k ns name (i : Int) = some ((ns.drop i).any (fun p => sameN p name)) := by
  induction d with
  | zero =>
    intro k i hi hk
    obtain ⟨k, rfl⟩ : ∃ m, k = m + 1 := ⟨k - 1, by omega⟩
    rw [tollbarref04_In.l0, if_neg (by omega), List.drop_of_length_le (by omega), List.any_nil]
  | succ d ih =>
    intro k i hi hk
    obtain ⟨k, rfl⟩ : ∃ m, k = m + 1 := ⟨k - 1, by omega⟩
    have hlt : i < ns.length := by omega
    have hb := hs _ (List.getElem_mem hlt)
    have hw : wrap64 ((i : Int) + 1) = ((i + 1 : Nat) : Int) := by unfold wrap64; omega
    rw [tollbarref04_In.l0, if_pos (by omega), if_pos (by omega), rdB_at ns i hlt, refSame_f _ _ (by omega) (by omega) k (by omega), Option.bind_some, hw, List.drop_eq_getElem_cons hlt, List.any_cons, ih k (i + 1) (by omega) (by omega)]
    cases sameN ns[i] name <;> simp
theorem refIn_f (ns : List ByteArray) (name : ByteArray) (hl : ns.length ≤ 2000000000) (hs : ∀ n ∈ ns, n.size ≤ 1048576) (hn : name.size ≤ 1048576) (k : Nat) (hk : ns.length + 1048580 ≤ k) : tollbarref04_In.f k ns name = some (ns.any (fun p => sameN p name)) := by
  have := refIn_l0 name hn ns hl hs ns.length k 0 (by omega) (by omega)
  rw [List.drop_zero] at this
  exact this
theorem fold_is (a p : ByteArray) (hp : (strOfNums ((bytesOf p).map foldC)).toList = p.toList) : ((strOfNums ((bytesOf a).map foldC)).toList = p.toList) = (sameN p a = true) := by
  have h := str_inj (bytes_fold (bytes_of a)) (bytes_fold (bytes_of p))
  rw [hp] at h
  unfold sameN
  rw [decide_eq_true_eq]
  apply propext
  constructor
  · intro e
    have : decide ((bytesOf a).map foldC = (bytesOf p).map foldC) = true := by rw [← h]; exact beq_iff_eq.2 e
    exact (of_decide_eq_true this).symm
  · intro e
    have : ((strOfNums ((bytesOf a).map foldC)).toList == p.toList) = true := by rw [h]; exact decide_eq_true e.symm
    exact beq_iff_eq.1 this
theorem some_or (b c : Bool) : (if b = true then some true else some c) = some (b || c) := by cases b <;> rfl
/-- The kept names. -/
def keptNames : List ByteArray := [⟨#[104, 111, 115, 116]⟩, ⟨#[99, 111, 110, 116, 101, 110, 116, 45, 108, 101, 110, 103, 116, 104]⟩, ⟨#[116, 114, 97, 110, 115, 102, 101, 114, 45, 101, 110, 99, 111, 100, 105, 110, 103]⟩, ⟨#[99, 111, 110, 110, 101, 99, 116, 105, 111, 110]⟩, ⟨#[107, 101, 101, 112, 45, 97, 108, 105, 118, 101]⟩, ⟨#[112, 114, 111, 120, 121, 45, 99, 111, 110, 110, 101, 99, 116, 105, 111, 110]⟩, ⟨#[116, 101]⟩, ⟨#[116, 114, 97, 105, 108, 101, 114]⟩, ⟨#[117, 112, 103, 114, 97, 100, 101]⟩, ⟨#[101, 120, 112, 101, 99, 116]⟩, ⟨#[118, 105, 97]⟩]
def keptN (a : ByteArray) : Bool := keptNames.any (fun p => sameN p a)
theorem Kept_f (a : ByteArray) (ha : a.size ≤ 1048576) : conf_Kept.f a = some (keptN a) := by
  unfold conf_Kept.f
  rw [Fold_f a (by omega), Option.bind_some]
  have e : ∀ (p : ByteArray), p ∈ keptNames → ((strOfNums ((bytesOf a).map foldC)).toList = p.toList) = (sameN p a = true) := by
    intro p hp
    refine fold_is a p ?_
    have : ∀ p ∈ keptNames, (strOfNums ((bytesOf p).map foldC)).data = p.data := by decide +kernel
    rw [toList_data, toList_data, this p hp]
  have l : ∀ (p : ByteArray) (q : List UInt8), p ∈ keptNames → p.toList = q → ((strOfNums ((bytesOf a).map foldC)).toList = q) = (sameN p a = true) := fun p q hp hq => by rw [← hq]; exact e p hp
  have e0 := l ⟨#[104, 111, 115, 116]⟩ [104, 111, 115, 116] (by simp [keptNames]) (toList_data _)
  have e1 := l ⟨#[99, 111, 110, 116, 101, 110, 116, 45, 108, 101, 110, 103, 116, 104]⟩ [99, 111, 110, 116, 101, 110, 116, 45, 108, 101, 110, 103, 116, 104] (by simp [keptNames]) (toList_data _)
  have e2 := l ⟨#[116, 114, 97, 110, 115, 102, 101, 114, 45, 101, 110, 99, 111, 100, 105, 110, 103]⟩ [116, 114, 97, 110, 115, 102, 101, 114, 45, 101, 110, 99, 111, 100, 105, 110, 103] (by simp [keptNames]) (toList_data _)
  have e3 := l ⟨#[99, 111, 110, 110, 101, 99, 116, 105, 111, 110]⟩ [99, 111, 110, 110, 101, 99, 116, 105, 111, 110] (by simp [keptNames]) (toList_data _)
  have e4 := l ⟨#[107, 101, 101, 112, 45, 97, 108, 105, 118, 101]⟩ [107, 101, 101, 112, 45, 97, 108, 105, 118, 101] (by simp [keptNames]) (toList_data _)
  have e5 := l ⟨#[112, 114, 111, 120, 121, 45, 99, 111, 110, 110, 101, 99, 116, 105, 111, 110]⟩ [112, 114, 111, 120, 121, 45, 99, 111, 110, 110, 101, 99, 116, 105, 111, 110] (by simp [keptNames]) (toList_data _)
  have e6 := l ⟨#[116, 101]⟩ [116, 101] (by simp [keptNames]) (toList_data _)
  have e7 := l ⟨#[116, 114, 97, 105, 108, 101, 114]⟩ [116, 114, 97, 105, 108, 101, 114] (by simp [keptNames]) (toList_data _)
  have e8 := l ⟨#[117, 112, 103, 114, 97, 100, 101]⟩ [117, 112, 103, 114, 97, 100, 101] (by simp [keptNames]) (toList_data _)
  have e9 := l ⟨#[101, 120, 112, 101, 99, 116]⟩ [101, 120, 112, 101, 99, 116] (by simp [keptNames]) (toList_data _)
  have e10 := l ⟨#[118, 105, 97]⟩ [118, 105, 97] (by simp [keptNames]) (toList_data _)
  simp only [e0, e1, e2, e3, e4, e5, e6, e7, e8, e9, e10]
  simp only [some_or]
  rfl
theorem refKept_f (a : ByteArray) (ha : a.size ≤ 1048576) (k : Nat) (hk : 1049600 ≤ k) : tollbarref10_Kept.f k a = some (keptN a) := by
  unfold tollbarref10_Kept.f
  have h := refIn_f keptNames a (by decide) (by decide) ha k (by have : keptNames.length = 11 := rfl; omega)
  have h' : tollbarref04_In.f k [⟨#[104, 111, 115, 116]⟩, ⟨#[99, 111, 110, 116, 101, 110, 116, 45, 108, 101, 110, 103, 116, 104]⟩, ⟨#[116, 114, 97, 110, 115, 102, 101, 114, 45, 101, 110, 99, 111, 100, 105, 110, 103]⟩, ⟨#[99, 111, 110, 110, 101, 99, 116, 105, 111, 110]⟩, ⟨#[107, 101, 101, 112, 45, 97, 108, 105, 118, 101]⟩, ⟨#[112, 114, 111, 120, 121, 45, 99, 111, 110, 110, 101, 99, 116, 105, 111, 110]⟩, ⟨#[116, 101]⟩, ⟨#[116, 114, 97, 105, 108, 101, 114]⟩, ⟨#[117, 112, 103, 114, 97, 100, 101]⟩, ⟨#[101, 120, 112, 101, 99, 116]⟩, ⟨#[118, 105, 97]⟩] a = some (keptN a) := h
  rw [h', Option.bind_some]
theorem sameN_name (x p q : ByteArray) (h : (bytesOf p).map foldC = (bytesOf q).map foldC) : sameN x p = sameN x q := by unfold sameN; rw [h]
theorem getS_name (p q : ByteArray) (h : (bytesOf p).map foldC = (bytesOf q).map foldC) : ∀ fs, getS p fs = getS q fs
  | [] => rfl
  | f :: r => by rw [getS, getS, sameN_name _ p q h, getS_name p q h r]
theorem listS_name (p q : ByteArray) (h : (bytesOf p).map foldC = (bytesOf q).map foldC) (fs : List (S55)) : listS p fs = listS q fs := by unfold listS; rw [getS_name p q h]
def connN : ByteArray := ⟨#[99, 111, 110, 110, 101, 99, 116, 105, 111, 110]⟩
theorem conn_has (fs : List (S55)) (a : ByteArray) : hasS fs (⟨#[67, 111, 110, 110, 101, 99, 116, 105, 111, 110]⟩ : ByteArray) a = hasS fs connN a := by
  unfold hasS
  rw [listS_name ⟨#[67, 111, 110, 110, 101, 99, 116, 105, 111, 110]⟩ connN (by decide +kernel)]
/-- Does a name begin with x-tollbar-? -/
def ownN (a : ByteArray) : Bool := decide (10 ≤ a.size) && ((strOfNums ((bytesOf a).map foldC)).extract 0 10).toList == [120, 45, 116, 111, 108, 108, 98, 97, 114, 45]
/-- Does a field of a name not go on? -/
def hopS (fs : List (S55)) (a : ByteArray) : Bool := keptN a || (ownN a || hasS fs connN a)
theorem fold_size (a : ByteArray) : (strOfNums ((bytesOf a).map foldC)).size = a.size := by rw [str_len, List.length_map, bytesOf_length]
theorem Hop_f (fs : List (S55)) (a : ByteArray) (hf : FB fs) (ha : a.size ≤ 1048576) (k : Nat) (hk : 1049600 ≤ k) : scrub_Hop.f k fs a = some (hopS fs a) := by
  unfold scrub_Hop.f hopS
  rw [Kept_f a ha, Option.bind_some]
  cases keptN a
  · rw [if_neg (by simp), Fold_f a (by omega), Option.bind_some, Bool.false_or]
    have hp : strings_HasPrefix.f (strOfNums ((bytesOf a).map foldC)) (⟨#[120, 45, 116, 111, 108, 108, 98, 97, 114, 45]⟩ : ByteArray) = some (ownN a) := by
      have hs : (⟨#[120, 45, 116, 111, 108, 108, 98, 97, 114, 45]⟩ : ByteArray).size = 10 := rfl
      unfold strings_HasPrefix.f stringslite_HasPrefix.f ownN
      rw [hs, fold_size]
      by_cases h : 10 ≤ a.size
      · rw [if_pos (by omega), if_pos (by omega), if_pos (by omega), decide_eq_true h, toList_data (⟨#[120, 45, 116, 111, 108, 108, 98, 97, 114, 45]⟩ : ByteArray)]; rfl
      · rw [if_neg (by omega), decide_eq_false h]; rfl
    rw [hp, Option.bind_some]
    cases ownN a
    · rw [if_neg (by simp), Has_f fs _ a hf (by decide) ha k hk, Option.bind_some, conn_has, Bool.false_or]
    · rw [if_pos rfl, Bool.true_or]
  · rw [if_pos rfl, Bool.true_or]
theorem refHop_f (fs : List (S55)) (a : ByteArray) (hf : FB fs) (ha : a.size ≤ 1048576) (k : Nat) (hk : 1060000000 ≤ k) : tollbarref12_Hop.f k fs a = some (hopS fs a) := by
  obtain ⟨k, rfl⟩ : ∃ m, k = m + 1 := ⟨k - 1, by omega⟩
  have hlb := list_bounds fs connN hf
  have hin : (tollbarref04_List.f k fs (⟨#[99, 111, 110, 110, 101, 99, 116, 105, 111, 110]⟩ : ByteArray)).bind (fun t => (tollbarref04_In.f k t a).bind fun u => some u) = some (hasS fs connN a) := by
    have e1 : tollbarref04_List.f k fs (⟨#[99, 111, 110, 110, 101, 99, 116, 105, 111, 110]⟩ : ByteArray) = some (listS connN fs) := refList_f fs connN hf (by decide) k (by omega)
    rw [e1, Option.bind_some, refIn_f (listS connN fs) a (by omega) hlb.2 ha k (by omega), Option.bind_some]
    rfl
  unfold tollbarref12_Hop.f hopS
  rw [refFold_f a (by omega) (k + 1) (by omega), Fold_f a (by omega), Option.bind_some, refKept_f a ha (k + 1) (by omega), Option.bind_some]
  cases keptN a
  · rw [if_neg (by simp), fold_size, Bool.false_or]
    unfold ownN
    by_cases h : 10 ≤ a.size
    · rw [if_pos (by omega), if_pos (by omega), if_pos (by omega), decide_eq_true h, Bool.true_and, tollbarref12_Hop.j0]
      cases ((strOfNums ((bytesOf a).map foldC)).extract 0 10).toList == [120, 45, 116, 111, 108, 108, 98, 97, 114, 45]
      · rw [if_neg (by simp), hin, Bool.false_or]
      · rw [if_pos rfl, Bool.true_or]
    · rw [if_neg (by omega), decide_eq_false h, Bool.false_and, tollbarref12_Hop.j0, if_neg (by simp), hin, Bool.false_or]
  · rw [if_pos rfl, tollbarref12_Hop.j0, if_pos rfl, Bool.true_or]
/-- The fields that go on. -/
def onwS (fs : List (S55)) : List (S55) := fs.filter (fun f => !hopS fs f.f0)
theorem onw_l0 (fs : List (S55)) (hf : FB fs) (d : Nat) : ∀ (k i : Nat) (out : List (S55)), i + d = fs.length → d + 1049600 ≤ k → out.length ≤ i →
    scrub_onward.l0 k fs out fs (fs.length : Int) (i : Int) = some (out ++ (fs.drop i).filter (fun f => !hopS fs f.f0)) := by
  have hfl := hf.1
  induction d with
  | zero =>
    intro k i out hi hk ho
    obtain ⟨k, rfl⟩ : ∃ m, k = m + 1 := ⟨k - 1, by omega⟩
    rw [scrub_onward.l0, if_neg (by omega), List.drop_of_length_le (by omega), List.filter_nil, List.append_nil]
  | succ d ih =>
    intro k i out hi hk ho
    obtain ⟨k, rfl⟩ : ∃ m, k = m + 1 := ⟨k - 1, by omega⟩
    have hlt : i < fs.length := by omega
    have hb := hf.2 _ (List.getElem_mem hlt)
    have hw : wrap64 ((i : Int) + 1) = ((i + 1 : Nat) : Int) := by unfold wrap64; omega
    rw [scrub_onward.l0, if_pos (by omega), if_pos (by omega), if_pos (by omega), rdT_at fs i hlt, Hop_f fs _ hf hb.1 k (by omega), Option.bind_some, hw, List.drop_eq_getElem_cons hlt, List.filter_cons]
    cases hs : hopS fs fs[i].f0
    · rw [if_neg (by simp), if_pos (by omega), if_pos (by simp), ih k (i + 1) _ (by omega) (by omega) (by rw [List.length_append]; simp; omega)]
      simp only [List.append_assoc, List.singleton_append]
    · rw [if_pos rfl, if_neg (by simp), ih k (i + 1) _ (by omega) (by omega) (by omega)]
theorem onward_f (fs : List (S55)) (hf : FB fs) (k : Nat) (hk : 1050600 ≤ k) : scrub_onward.f k fs = some (onwS fs) := by
  have hfl := hf.1
  have := onw_l0 fs hf fs.length k 0 [] (by omega) (by omega) (Nat.zero_le _)
  rw [List.drop_zero, List.nil_append] at this
  exact this
theorem refOnw_l0 (fs : List (S55)) (hf : FB fs) (d : Nat) : ∀ (k i : Nat) (out : List (S55)), i + d = fs.length → d + 1060000000 ≤ k → out.length ≤ i →
    tollbarref12_onward.l0 k fs out (i : Int) = some (out ++ (fs.drop i).filter (fun f => !hopS fs f.f0)) := by
  have hfl := hf.1
  induction d with
  | zero =>
    intro k i out hi hk ho
    obtain ⟨k, rfl⟩ : ∃ m, k = m + 1 := ⟨k - 1, by omega⟩
    rw [tollbarref12_onward.l0, if_neg (by omega), List.drop_of_length_le (by omega), List.filter_nil, List.append_nil]
  | succ d ih =>
    intro k i out hi hk ho
    obtain ⟨k, rfl⟩ : ∃ m, k = m + 1 := ⟨k - 1, by omega⟩
    have hlt : i < fs.length := by omega
    have hb := hf.2 _ (List.getElem_mem hlt)
    have hw : wrap64 ((i : Int) + 1) = ((i + 1 : Nat) : Int) := by unfold wrap64; omega
    rw [tollbarref12_onward.l0, if_pos (by omega), if_pos (by omega), rdT_at fs i hlt, refHop_f fs _ hf hb.1 k (by omega), Option.bind_some, hw, List.drop_eq_getElem_cons hlt, List.filter_cons]
    cases hs : hopS fs fs[i].f0
    · rw [if_neg (by simp), if_pos (by omega), if_pos (by simp), ih k (i + 1) _ (by omega) (by omega) (by rw [List.length_append]; simp; omega)]
      simp only [List.append_assoc, List.singleton_append]
    · rw [if_pos rfl, if_neg (by simp), ih k (i + 1) _ (by omega) (by omega) (by omega)]
theorem refOnward_f (fs : List (S55)) (hf : FB fs) (k : Nat) (hk : 1060001000 ≤ k) : tollbarref12_onward.f k fs = some (onwS fs) := by
  have hfl := hf.1
  have := refOnw_l0 fs hf fs.length k 0 [] (by omega) (by omega) (Nat.zero_le _)
  rw [List.drop_zero, List.nil_append] at this
  exact this
theorem onwS_FB (fs : List (S55)) (hf : FB fs) : FB (onwS fs) := ⟨Nat.le_trans (List.length_filter_le _ _) hf.1, fun f h => hf.2 f (List.mem_filter.1 h).1⟩
/-- The decimal digits, as numbers. -/
def decI (u : Nat) : List Int := (Lib.decDigits u).map fun b => (b.toNat : Int)
theorem decI_small (u : Nat) (h : u < 10) : decI u = [48 + (u : Int)] := by
  unfold decI
  rw [Lib.decDigits_one h, List.map_cons, List.map_nil]
  congr 1
  rw [UInt8.toNat_ofNat']
  omega
theorem decI_big (u : Nat) (h : 10 ≤ u) : decI u = decI (u / 10) ++ [48 + ((u % 10 : Nat) : Int)] := by
  unfold decI
  rw [Lib.decDigits, dif_neg (by omega), List.map_append, List.map_cons, List.map_nil]
  congr 2
  rw [UInt8.toNat_ofNat']
  omega
theorem dec_str (u : Nat) : (⟨(Lib.decDigits u).toArray⟩ : ByteArray) = strOfNums (decI u) := by
  unfold decI strOfNums
  congr 2
  rw [List.map_map]
  conv => lhs; rw [← List.map_id (Lib.decDigits u)]
  exact List.map_congr_left fun b _ => by simp
theorem dec_len (d : Nat) : ∀ u, u < 10 ^ (d + 1) → 1 ≤ (decI u).length ∧ (decI u).length ≤ d + 1 := by
  induction d with
  | zero => intro u h; rw [decI_small u (by simpa using h)]; simp
  | succ d ih =>
    intro u h
    by_cases h1 : u < 10
    · rw [decI_small u h1]; simp
    · have h2 : u / 10 < 10 ^ (d + 1) := (Nat.div_lt_iff_lt_mul (by decide)).2 (by rwa [← Nat.pow_succ])
      have := ih _ h2
      rw [decI_big u (by omega), List.length_append]
      simp
      omega
theorem Text_f (n : Int) (h0 : -9223372036854775808 ≤ n) (h1 : n ≤ 9223372036854775807) : sign_Text.f n = some ⟨(Lib.itoa n).toArray⟩ := by
  unfold sign_Text.f strconv_FormatInt_131.f strconv_FormatInt_161.f
  rw [if_pos rfl, if_pos ⟨h0, h1⟩]
  rfl
theorem str_ne (xs : List Int) (h : xs ≠ []) : ¬ ((strOfNums xs).toList = []) := by
  intro e
  rw [toList_data] at e
  have := data_length (strOfNums xs)
  rw [e, str_size] at this
  exact h (List.eq_nil_of_length_eq_zero this.symm)
theorem refText_step (k u : Nat) (xs : List Int) (hx : xs.length ≤ 100) (hu : u ≤ 9223372036854775807) (hp : xs = [] ∨ 0 < u) :
    ∀ R, tollbarref02_Text.l0 k ((u / 10 : Nat) : Int) (strOfNums ((48 + ((u % 10 : Nat) : Int)) :: xs)) = R → tollbarref02_Text.l0 (k + 1) (u : Int) (strOfNums xs) = R := by
  intro R hR
  have e1 : Int.tmod (u : Int) 10 = ((u % 10 : Nat) : Int) := by rw [Int.tmod_eq_emod_of_nonneg (by omega)]; omega
  have e2 : Int.tdiv (u : Int) 10 = ((u / 10 : Nat) : Int) := by rw [Int.tdiv_eq_ediv_of_nonneg (by omega)]; omega
  have e3 : wrap64 (48 + ((u % 10 : Nat) : Int)) % 256 = 48 + ((u % 10 : Nat) : Int) := by unfold wrap64; omega
  have e4 : wrap64 ((u / 10 : Nat) : Int) = ((u / 10 : Nat) : Int) := by unfold wrap64; omega
  have e5 : strOfNums [48 + ((u % 10 : Nat) : Int)] ++ strOfNums xs = strOfNums ((48 + ((u % 10 : Nat) : Int)) :: xs) := by rw [← str_append]; rfl
  have e6 : (strOfNums [48 + ((u % 10 : Nat) : Int)]).size + (strOfNums xs).size ≤ 9223372036854775807 := by rw [str_size, str_size, List.length_singleton]; omega
  simp only [tollbarref02_Text.l0]
  rw [e1, e2, e3, e4, Option.bind_some, if_pos e6, e5, hR]
  rcases hp with hp | hp
  · rw [if_pos (by rw [hp, toList_data]; rfl)]
  · rw [if_pos (show (u : Int) > 0 by omega)]
    split <;> rfl
theorem refText_end (k : Nat) (xs : List Int) (hx : xs ≠ []) : tollbarref02_Text.l0 (k + 1) 0 (strOfNums xs) = some (strOfNums xs) := by
  simp only [tollbarref02_Text.l0]
  rw [if_neg (str_ne xs hx), if_neg (by decide)]
theorem refText_l0 (d : Nat) : ∀ (k u : Nat) (xs : List Int), u < 10 ^ d → d + 1 ≤ k → u ≤ 9223372036854775807 → xs.length + d ≤ 100 → xs ≠ [] →
    tollbarref02_Text.l0 k (u : Int) (strOfNums xs) = some (strOfNums ((if u = 0 then [] else decI u) ++ xs)) := by
  induction d with
  | zero =>
    intro k u xs hu hk hb hx hne
    obtain ⟨k, rfl⟩ : ∃ m, k = m + 1 := ⟨k - 1, by omega⟩
    obtain rfl : u = 0 := by simpa using hu
    rw [if_pos rfl]
    exact refText_end k xs hne
  | succ d ih =>
    intro k u xs hu hk hb hx hne
    obtain ⟨k, rfl⟩ : ∃ m, k = m + 1 := ⟨k - 1, by omega⟩
    by_cases h0 : u = 0
    · subst h0
      rw [if_pos rfl]
      exact refText_end k xs hne
    · refine refText_step k u xs (by omega) hb (Or.inr (by omega)) _ ?_
      have h2 : u / 10 < 10 ^ d := (Nat.div_lt_iff_lt_mul (by decide)).2 (by rwa [← Nat.pow_succ])
      rw [ih k (u / 10) _ h2 (by omega) (by omega) (by rw [List.length_cons]; omega) (by simp), if_neg h0]
      by_cases h1 : u < 10
      · rw [if_pos (by omega), decI_small u h1, show u % 10 = u by omega]
        rfl
      · rw [if_neg (by omega), decI_big u (by omega), List.append_assoc]
        rfl
theorem refText_nat (k u : Nat) (hk : 30 ≤ k) (hu : u ≤ 9223372036854775807) : tollbarref02_Text.l0 k (u : Int) (⟨#[]⟩ : ByteArray) = some (strOfNums (decI u)) := by
  obtain ⟨k, rfl⟩ : ∃ m, k = m + 1 := ⟨k - 1, by omega⟩
  have hs : (⟨#[]⟩ : ByteArray) = strOfNums [] := rfl
  rw [hs]
  refine refText_step k u [] (by simp) hu (Or.inl rfl) _ ?_
  have h3 : (10 : Nat) ^ 19 = 10000000000000000000 := by decide
  rw [refText_l0 19 k (u / 10) _ (by omega) (by omega) (by omega) (by simp) (by simp)]
  by_cases h1 : u < 10
  · rw [if_pos (by omega), decI_small u h1, show u % 10 = u by omega]
    rfl
  · rw [if_neg (by omega), decI_big u (by omega)]
theorem itoa_least : (⟨(Lib.itoa (-9223372036854775808)).toArray⟩ : ByteArray) = ⟨#[45, 57, 50, 50, 51, 51, 55, 50, 48, 51, 54, 56, 53, 52, 55, 55, 53, 56, 48, 56]⟩ := by
  simp [Lib.itoa, Lib.decDigits]
theorem refText_f (k : Nat) (hk : 60 ≤ k) (n : Int) (h0 : -9223372036854775808 ≤ n) (h1 : n ≤ 9223372036854775807) : tollbarref02_Text.f k n = sign_Text.f n := by
  rw [Text_f n h0 h1]
  obtain ⟨k, rfl⟩ : ∃ m, k = m + 2 := ⟨k - 2, by omega⟩
  by_cases hm : n = -9223372036854775808
  · subst hm
    rw [tollbarref02_Text.f, if_pos rfl, itoa_least]
  · by_cases h : n < 0
    · have hw : wrap64 (-n) = ((n.natAbs : Nat) : Int) := by unfold wrap64; omega
      have hi : Lib.itoa n = 45 :: Lib.decDigits n.natAbs := by unfold Lib.itoa; rw [if_pos h]
      rw [tollbarref02_Text.f, if_neg hm, if_pos h, hw, tollbarref02_Text.f, if_neg (by omega), if_neg (by omega), refText_nat k n.natAbs (by omega) (by omega), Option.bind_some]
      have hl := dec_len 18 n.natAbs (by have : (10 : Nat) ^ 19 = 10000000000000000000 := by decide
                                         show n.natAbs < 10 ^ 19; omega)
      rw [if_pos (by rw [str_size]; omega), ← dec_str, hi]
      congr 1
    · have hi : Lib.itoa n = Lib.decDigits n.toNat := by unfold Lib.itoa; rw [if_neg h]
      have := refText_nat (k + 1) n.toNat (by omega) (by omega)
      rw [show ((n.toNat : Nat) : Int) = n by omega] at this
      rw [tollbarref02_Text.f, if_neg hm, if_neg h, this, hi, dec_str]
def lenN : ByteArray := ⟨#[67, 111, 110, 116, 101, 110, 116, 45, 76, 101, 110, 103, 116, 104]⟩
/-- The field that tells a body's length. -/
def lenF (n : Int) : S55 := ⟨lenN, ⟨(Lib.itoa n).toArray⟩⟩
theorem length_f (n : Int) (h0 : -9223372036854775808 ≤ n) (h1 : n ≤ 9223372036854775807) : scrub_length.f n = some ((lenF n).f0, (lenF n).f1) := by
  unfold scrub_length.f
  rw [Text_f n h0 h1, Option.bind_some]
  rfl
theorem refLength_f (n : Int) (h0 : -9223372036854775808 ≤ n) (h1 : n ≤ 9223372036854775807) (k : Nat) (hk : 60 ≤ k) : tollbarref12_length.f k n = some ((lenF n).f0, (lenF n).f1) := by
  unfold tollbarref12_length.f
  rw [refText_f k hk n h0 h1, Text_f n h0 h1, Option.bind_some]
  rfl
end Go.Proofs.YtfjeinnemimjoaaGreatDoor.Pure
namespace Go.Proofs.YtfjeinnemimjoaaGreatDoor.P
open Go.RowKit Go.Proofs.YtfjeinnemimjoaaGreatDoorW.PrintWords Go.Proofs.YtfjeinnemimjoaaGreatDoorW.PrintLast Go.Proofs.YtfjeinnemimjoaaGreatDoorW.PrintMore
attribute [local go_sem] max2_int min2_int max_two min_two max_three min_three max_four min_four
set_option linter.unusedVariables false
set_option linter.unusedSimpArgs false
end Go.Proofs.YtfjeinnemimjoaaGreatDoor.P
namespace Go.Proofs.YtfjeinnemimjoaaGreatDoor.Pure
open Go.RowKit Go.Proofs.YtfjeinnemimjoaaGreatDoor.P Go.Proofs.YtfjeinnemimjoaaGreatDoorW.PrintWords Go.Proofs.YtfjeinnemimjoaaGreatDoorW.PrintLast Go.Proofs.YtfjeinnemimjoaaGreatDoorW.PrintMore
set_option linter.unusedVariables false
set_option linter.unusedSimpArgs false
theorem reason_step (k : Nat) (a : Int) (xs : List Int) (ys : List ByteArray) (i : Int) (h0 : 0 ≤ i) (h : i < (xs.length : Int)) (hx : xs.length ≤ 100) (hne : ¬ rd xs i = a) : tollbarref05_Reason.l0 (k + 1) a xs ys i = tollbarref05_Reason.l0 k a xs ys (i + 1) := by
  rw [tollbarref05_Reason.l0, if_pos h, if_pos h0, if_neg hne, show wrap64 (i + 1) = i + 1 by unfold wrap64; omega]
set_option maxRecDepth 100000 in
theorem refReason_20 (a : Int) : tollbarref05_Reason.f 20 a = line_Reason.f a := by
  by_cases c0 : a = 200
  · subst c0; kernel_rfl
  by_cases c1 : a = 204
  · subst c1; kernel_rfl
  by_cases c2 : a = 400
  · subst c2; kernel_rfl
  by_cases c3 : a = 404
  · subst c3; kernel_rfl
  by_cases c4 : a = 413
  · subst c4; kernel_rfl
  by_cases c5 : a = 414
  · subst c5; kernel_rfl
  by_cases c6 : a = 421
  · subst c6; kernel_rfl
  by_cases c7 : a = 429
  · subst c7; kernel_rfl
  by_cases c8 : a = 431
  · subst c8; kernel_rfl
  by_cases c9 : a = 501
  · subst c9; kernel_rfl
  by_cases c10 : a = 502
  · subst c10; kernel_rfl
  by_cases c11 : a = 503
  · subst c11; kernel_rfl
  by_cases c12 : a = 504
  · subst c12; kernel_rfl
  by_cases c13 : a = 505
  · subst c13; kernel_rfl
  unfold tollbarref05_Reason.f line_Reason.f
  rw [if_neg c0, if_neg c1, if_neg c2, if_neg c3, if_neg c4, if_neg c5, if_neg c6, if_neg c7, if_neg c8, if_neg c9, if_neg c10, if_neg c11, if_neg c12, if_neg c13]
  rw [reason_step 19 _ _ _ _ (by decide) (by decide) (by decide) (fun h => c0 h.symm), reason_step 18 _ _ _ _ (by decide) (by decide) (by decide) (fun h => c1 h.symm), reason_step 17 _ _ _ _ (by decide) (by decide) (by decide) (fun h => c2 h.symm), reason_step 16 _ _ _ _ (by decide) (by decide) (by decide) (fun h => c3 h.symm), reason_step 15 _ _ _ _ (by decide) (by decide) (by decide) (fun h => c4 h.symm), reason_step 14 _ _ _ _ (by decide) (by decide) (by decide) (fun h => c5 h.symm), reason_step 13 _ _ _ _ (by decide) (by decide) (by decide) (fun h => c6 h.symm), reason_step 12 _ _ _ _ (by decide) (by decide) (by decide) (fun h => c7 h.symm), reason_step 11 _ _ _ _ (by decide) (by decide) (by decide) (fun h => c8 h.symm), reason_step 10 _ _ _ _ (by decide) (by decide) (by decide) (fun h => c9 h.symm), reason_step 9 _ _ _ _ (by decide) (by decide) (by decide) (fun h => c10 h.symm), reason_step 8 _ _ _ _ (by decide) (by decide) (by decide) (fun h => c11 h.symm), reason_step 7 _ _ _ _ (by decide) (by decide) (by decide) (fun h => c12 h.symm), reason_step 6 _ _ _ _ (by decide) (by decide) (by decide) (fun h => c13 h.symm)]
  rfl
theorem some_ite {p : Prop} [Decidable p] {a : ByteArray} {b : Option ByteArray} (h : ∃ R, b = some R) : ∃ R, (if p then some a else b) = some R := by
  split
  · exact ⟨_, rfl⟩
  · exact h
theorem Reason_some (a : Int) : ∃ R, line_Reason.f a = some R := by
  unfold line_Reason.f
  repeat apply some_ite
  exact ⟨_, rfl⟩
theorem refReason_f (a : Int) (k : Nat) (hk : 20 ≤ k) : tollbarref05_Reason.f k a = line_Reason.f a := by
  obtain ⟨R, hR⟩ := Reason_some a
  rw [hR]
  exact at_rounds (fun k => tollbarref05_Reason.mono a k) hk ((refReason_20 a).trans hR)
theorem sameB_l0 (xs : List Int) (hn : xs.length ≤ 4398046511104) (d : Nat) : ∀ (k : Nat) (i : Int), 0 ≤ i → (xs.length : Int) - i = d → d + 1 ≤ k → tollbarref01_SameBytes.l0 k xs xs i = some true := by
  induction d with
  | zero =>
    intro k i h0 hd hk
    obtain ⟨k, rfl⟩ : ∃ m, k = m + 1 := ⟨k - 1, by omega⟩
    simp only [tollbarref01_SameBytes.l0]
    rw [if_neg (by omega)]
  | succ d ih =>
    intro k i h0 hd hk
    obtain ⟨k, rfl⟩ : ∃ m, k = m + 1 := ⟨k - 1, by omega⟩
    simp only [tollbarref01_SameBytes.l0]
    rw [if_pos (by omega), if_pos h0, if_pos (by omega), if_pos trivial, show wrap64 (i + 1) = i + 1 by unfold wrap64; omega]
    exact ih k (i + 1) (by omega) (by omega) (by omega)
theorem sameB_eq (xs : List Int) (hn : xs.length ≤ 4398046511104) (k : Nat) (hk : xs.length + 1 ≤ k) : tollbarref01_SameBytes.f k xs xs = some true := by
  unfold tollbarref01_SameBytes.f
  rw [if_pos rfl]
  exact sameB_l0 xs hn xs.length k 0 (by omega) (by omega) hk
theorem sameF_l0 (xs : List (S55)) (hn : xs.length ≤ 1000000) (d : Nat) : ∀ (k i : Nat), i + d = xs.length → d < k → tollbarref04_Same.l0 k xs xs (i : Int) = some true := by
  induction d with
  | zero =>
    intro k i hi hk
    obtain ⟨k, rfl⟩ : ∃ m, k = m + 1 := ⟨k - 1, by omega⟩
    rw [tollbarref04_Same.l0, if_neg (by omega)]
  | succ d ih =>
    intro k i hi hk
    obtain ⟨k, rfl⟩ : ∃ m, k = m + 1 := ⟨k - 1, by omega⟩
    rw [tollbarref04_Same.l0, if_pos (by omega), if_pos (by omega), if_pos (by omega), if_pos rfl, if_pos rfl, show wrap64 ((i : Int) + 1) = ((i + 1 : Nat) : Int) by unfold wrap64; omega]
    exact ih k (i + 1) (by omega) (by omega)
theorem sameF_eq (xs : List (S55)) (hn : xs.length ≤ 1000000) (k : Nat) (hk : xs.length < k) : tollbarref04_Same.f k xs xs = some true := by
  unfold tollbarref04_Same.f
  rw [if_pos rfl]
  exact sameF_l0 xs hn xs.length k 0 (by omega) hk
theorem numL_nn (b : Int) (hb : 0 ≤ b) : ∀ (l : List Int) (n v : Int), 0 ≤ n → numL b l n = some v → 0 ≤ v
  | [], n, v, hn, h => by simp only [numL, Option.some.injEq] at h; omega
  | c :: r, n, v, hn, h => by
    rw [numL] at h
    split at h
    · next hc => exact numL_nn b hb r _ v (by have := Int.mul_nonneg hn hb; omega) h
    · cases h
theorem num_nn (s : ByteArray) : 0 ≤ (numSpec s 10 18).1 := by
  unfold numSpec
  split
  · exact Int.le_refl _
  · split
    · next v hv => exact numL_nn 10 (by decide) _ 0 v (Int.le_refl _) hv
    · exact Int.le_refl _
def lenNm : ByteArray := ⟨#[99, 111, 110, 116, 101, 110, 116, 45, 108, 101, 110, 103, 116, 104]⟩
def teNm : ByteArray := ⟨#[116, 114, 97, 110, 115, 102, 101, 114, 45, 101, 110, 99, 111, 100, 105, 110, 103]⟩
def lenNM : ByteArray := ⟨#[67, 111, 110, 116, 101, 110, 116, 45, 76, 101, 110, 103, 116, 104]⟩
def teNM : ByteArray := ⟨#[84, 114, 97, 110, 115, 102, 101, 114, 45, 69, 110, 99, 111, 100, 105, 110, 103]⟩
theorem getS_nm (p q : ByteArray) (h : (bytesOf p).map foldC = (bytesOf q).map foldC) : ∀ fs, getS p fs = getS q fs
  | [] => rfl
  | f :: r => by rw [getS, getS, getS_nm p q h r]; unfold sameN; rw [h]
theorem listS_nm (p q : ByteArray) (h : (bytesOf p).map foldC = (bytesOf q).map foldC) (fs : List (S55)) : listS p fs = listS q fs := by unfold listS; rw [getS_nm p q h]
theorem len_nm : (bytesOf lenNM).map foldC = (bytesOf lenNm).map foldC := by decide +kernel
theorem te_nm : (bytesOf teNM).map foldC = (bytesOf teNm).map foldC := by decide +kernel
/-- Is a name there? -/
def thereS (name : ByteArray) (fs : List (S55)) : Bool := decide (((getS name fs).length : Int) > 0)
theorem there_f (fs : List (S55)) (name : ByteArray) (hf : FB fs) (hn : name.size ≤ 1048576) (k : Nat) (hk : fs.length < k) : frame_there.f k fs name = some (thereS name fs) := by
  unfold frame_there.f
  rw [Get_f fs name hf hn k hk, Option.bind_some]; rfl
theorem thereLen_f (fs : List (S55)) (hf : FB fs) (k : Nat) (hk : fs.length < k) : frame_there.f k fs ⟨#[67, 111, 110, 116, 101, 110, 116, 45, 76, 101, 110, 103, 116, 104]⟩ = some (thereS lenNm fs) := by
  have h := there_f fs lenNM hf (by decide) k hk
  have e : thereS lenNM fs = thereS lenNm fs := by unfold thereS; rw [getS_nm _ _ len_nm]
  rw [e] at h
  exact h
theorem thereTe_f (fs : List (S55)) (hf : FB fs) (k : Nat) (hk : fs.length < k) : frame_there.f k fs ⟨#[84, 114, 97, 110, 115, 102, 101, 114, 45, 69, 110, 99, 111, 100, 105, 110, 103]⟩ = some (thereS teNm fs) := by
  have h := there_f fs teNM hf (by decide) k hk
  have e : thereS teNM fs = thereS teNm fs := by unfold thereS; rw [getS_nm _ _ te_nm]
  rw [e] at h
  exact h
/-- The length that parts tell. -/
def lenS : List ByteArray → Int × Bool
  | [] => (0, false)
  | p :: r => if (numSpec p 10 18).2 = true ∧ (r.all fun q => decide (numSpec q 10 18 = ((numSpec p 10 18).1, true))) = true then ((numSpec p 10 18).1, true) else (0, false)
theorem len_rest (ps : List ByteArray) (hl : ps.length ≤ 1048577000) (hs : ∀ p ∈ ps, p.size ≤ 1048576) (n : Int) (hn : 0 ≤ n) (d : Nat) : ∀ (k i : Nat), i + d = ps.length → d + 2100000 ≤ k →
    frame_length.l0 k n ps (ps.length : Int) (i : Int) = some (if ((ps.drop i).all fun q => decide (numSpec q 10 18 = (n, true))) = true then (n, true) else (0, false)) := by
  induction d with
  | zero =>
    intro k i hi hk
    obtain ⟨k, rfl⟩ : ∃ m, k = m + 1 := ⟨k - 1, by omega⟩
    rw [frame_length.l0, if_neg (by omega), List.drop_of_length_le (by omega), List.all_nil, if_pos rfl, decide_eq_true hn]
  | succ d ih =>
    intro k i hi hk
    obtain ⟨k, rfl⟩ : ∃ m, k = m + 1 := ⟨k - 1, by omega⟩
    have hlt : i < ps.length := by omega
    have hb := hs _ (List.getElem_mem hlt)
    have hw : wrap64 ((i : Int) + 1) = ((i + 1 : Nat) : Int) := by unfold wrap64; omega
    rw [frame_length.l0, if_pos (by omega), if_pos (by omega), if_pos (by omega), rdB_at ps i hlt, Decimal_f _ (by omega) k (by omega), Option.bind_some, hw, List.drop_eq_getElem_cons hlt, List.all_cons]
    obtain ⟨z, hz⟩ : ∃ z, z = numSpec ps[i] 10 18 := ⟨_, rfl⟩
    rw [← hz]
    by_cases h1 : z.2 = true
    · rw [if_pos h1, if_pos hn]
      by_cases h2 : z.1 = n
      · have e : z = (n, true) := Prod.ext h2 h1
        rw [if_pos h2, h2, ih k (i + 1) (by omega) (by omega), decide_eq_true e, Bool.true_and]
      · have e : ¬ z = (n, true) := fun e => h2 (by rw [e])
        rw [if_neg h2, decide_eq_false e, Bool.false_and, if_neg (by simp)]
    · have e : ¬ z = (n, true) := fun e => h1 (by rw [e])
      rw [if_neg h1, decide_eq_false e, Bool.false_and, if_neg (by simp)]
theorem length_fs (fs : List (S55)) (hf : FB fs) (k : Nat) (hk : 1060000000 ≤ k) : frame_length.f k fs = some (if listS lenNm fs = [] then (-1, false) else lenS (listS lenNm fs)) := by
  have hlb := list_bounds fs lenNm hf
  obtain ⟨ps, hps⟩ : ∃ ps, ps = listS lenNm fs := ⟨_, rfl⟩
  have hL : field_List.f k fs (⟨#[67, 111, 110, 116, 101, 110, 116, 45, 76, 101, 110, 103, 116, 104]⟩ : ByteArray) = some ps := by
    have h := List_f fs lenNM hf (by decide) k (by omega)
    rw [listS_nm _ _ len_nm, ← hps] at h
    exact h
  unfold frame_length.f
  rw [hL, Option.bind_some, ← hps]
  rw [← hps] at hlb
  obtain ⟨k, rfl⟩ : ∃ m, k = m + 1 := ⟨k - 1, by omega⟩
  cases ps with
  | nil =>
    rw [frame_length.l0, if_neg (by simp), if_pos rfl]
    rfl
  | cons p r =>
    have hb := hlb.2 p List.mem_cons_self
    have hr0 : rdOf ByteArray.empty (p :: r) 0 = p := rdB_at (p :: r) 0 (by simp)
    rw [frame_length.l0, if_pos (by simp only [List.length_cons]; omega), if_pos (by omega), if_pos (by simp only [List.length_cons]; omega), hr0, Decimal_f _ (by omega) k (by omega), Option.bind_some, show (if (p :: r) = [] then ((-1 : Int), false) else lenS (p :: r)) = lenS (p :: r) from if_neg (by simp), lenS]
    obtain ⟨z, hz⟩ : ∃ z, z = numSpec p 10 18 := ⟨_, rfl⟩
    have hnn := num_nn p
    rw [← hz] at hnn ⊢
    by_cases h1 : z.2 = true
    · have h := len_rest (p :: r) hlb.1 hlb.2 z.1 hnn r.length k 1 (by simp only [List.length_cons]; omega) (by have := hlb.1; simp only [List.length_cons] at this; omega)
      have h' : frame_length.l0 k z.1 (p :: r) ((p :: r).length : Int) 1 = _ := h
      rw [if_pos h1, if_neg (by decide), show wrap64 (0 + 1) = 1 by unfold wrap64; omega, h']
      simp only [List.drop_succ_cons, List.drop_zero]
      by_cases h2 : (r.all fun q => decide (numSpec q 10 18 = (z.1, true))) = true
      · rw [if_pos h2, if_pos ⟨h1, h2⟩]
      · rw [if_neg h2, if_neg (fun h => h2 h.2)]
    · rw [if_neg h1, if_neg (fun h => h1 h.1)]
def chunkedW : ByteArray := ⟨#[99, 104, 117, 110, 107, 101, 100]⟩
/-- Are they chunked? -/
def chunkedS (fs : List (S55)) : Bool := match listS teNm fs with | [p] => sameN p chunkedW | _ => false
theorem chunked_f (fs : List (S55)) (hf : FB fs) (k : Nat) (hk : 1049600 ≤ k) : frame_chunked.f k fs = some (chunkedS fs) := by
  have hlb := list_bounds fs teNm hf
  have hL : field_List.f k fs (⟨#[84, 114, 97, 110, 115, 102, 101, 114, 45, 69, 110, 99, 111, 100, 105, 110, 103]⟩ : ByteArray) = some (listS teNm fs) := by
    have h := List_f fs teNM hf (by decide) k (by omega)
    rw [listS_nm _ _ te_nm] at h
    exact h
  unfold frame_chunked.f chunkedS
  rw [hL, Option.bind_some]
  match hps : listS teNm fs with
  | [] => rw [if_neg (by simp)]
  | [p] =>
    rw [hps] at hlb
    have hb := hlb.2 p List.mem_cons_self
    have hr0 : rdOf ByteArray.empty [p] 0 = p := rdB_at [p] 0 (by simp)
    rw [if_pos (by simp), if_pos (by simp), hr0, same_f p _ (by omega) (by decide), Option.bind_some]
    rfl
  | p :: q :: r => rw [if_neg (by simp only [List.length_cons]; omega)]
/-- How long a request's body is. -/
def reqLen (fs : List (S55)) (minor : Int) : Int × Bool × Int :=
  if thereS teNm fs = true then (if thereS lenNm fs = true ∨ minor = 0 then (0, false, 400) else if chunkedS fs = true then (0, true, 0) else (0, false, 501))
  else if thereS lenNm fs = true then (if (lenS (listS lenNm fs)).2 = true then (if (lenS (listS lenNm fs)).1 > 4096 then (0, false, 413) else ((lenS (listS lenNm fs)).1, false, 0)) else (0, false, 400)) else (0, false, 0)
theorem lenS_if (ps : List ByteArray) : (if ps = [] then ((-1 : Int), false) else lenS ps).2 = (lenS ps).2 ∧ ((lenS ps).2 = true → (if ps = [] then ((-1 : Int), false) else lenS ps).1 = (lenS ps).1) := by
  by_cases h : ps = []
  · rw [if_pos h, h]; exact ⟨rfl, fun h => by cases h⟩
  · rw [if_neg h]; exact ⟨rfl, fun _ => rfl⟩
theorem frameReq_f (fs : List (S55)) (minor : Int) (hf : FB fs) (k : Nat) (hk : 1060000010 ≤ k) : frame_Request.f k fs minor = some (reqLen fs minor) := by
  have hfl := hf.1
  obtain ⟨k, rfl⟩ : ∃ m, k = m + 2 := ⟨k - 2, by omega⟩
  obtain ⟨hl1, hl2⟩ := lenS_if (listS lenNm fs)
  unfold frame_Request.f reqLen
  rw [thereLen_f fs hf _ (by omega), Option.bind_some, thereTe_f fs hf _ (by omega), Option.bind_some, length_fs fs hf _ (by omega), Option.bind_some]
  obtain ⟨z, hz⟩ : ∃ z, z = (if listS lenNm fs = [] then ((-1 : Int), false) else lenS (listS lenNm fs)) := ⟨_, rfl⟩
  rw [← hz] at hl1 hl2 ⊢
  obtain ⟨y, hy⟩ : ∃ y, y = lenS (listS lenNm fs) := ⟨_, rfl⟩
  rw [← hy] at hl1 hl2 ⊢
  have hj1 : ∀ L T b, frame_Request.j1 (k + 1) L T z.1 z.2 b = some (if b = true then (0, false, 501) else if T = true then (0, true, 0) else if L = true then (if y.2 = true then (if y.1 > 4096 then (0, false, 413) else (y.1, false, 0)) else (0, false, 400)) else (0, false, 0)) := by
    intro L T b
    rw [frame_Request.j1, hl1]
    cases b <;> cases T <;> cases L <;> try rfl
    cases h : y.2
    · rfl
    · rw [hl2 h]
      by_cases h9 : y.1 > 4096
      · simp [h9]
      · simp [h9]
  have hj0 : ∀ L T x, frame_Request.j0 (k + 2) fs L T z.1 z.2 x = some (if x = true then (0, false, 400) else if T = true then (if chunkedS fs = true then (0, true, 0) else (0, false, 501)) else if L = true then (if y.2 = true then (if y.1 > 4096 then (0, false, 413) else (y.1, false, 0)) else (0, false, 400)) else (0, false, 0)) := by
    intro L T x
    rw [frame_Request.j0, chunked_f fs hf (k + 1) (by omega), Option.bind_some, hj1, hj1]
    cases x <;> cases T <;> cases chunkedS fs <;> rfl
  rw [hj0, hj0, hj0]
  by_cases hm : minor = 0
  · rw [beq_iff_eq.2 hm]
    cases thereS teNm fs <;> cases thereS lenNm fs <;> simp [hm]
  · rw [beq_eq_false_iff_ne.2 hm]
    cases thereS teNm fs <;> cases thereS lenNm fs <;> simp [hm]
/-- How a response's body is told. -/
def noBody (method : ByteArray) (code : Int) : Bool := (method.toList == [72, 69, 65, 68]) || (decide (code < 200) || ((code == 204) || (code == 304)))
def respLen (method : ByteArray) (code minor : Int) (fs : List (S55)) : Int × Int × Bool :=
  if noBody method code = true then (0, 0, true)
  else if (reqLen fs minor).2.2 = 0 then (if (reqLen fs minor).2.1 = true then (2, 0, true) else if thereS lenNm fs = true then (1, (reqLen fs minor).1, true) else (3, 0, true)) else (0, 0, false)
theorem frameResp_f (method : ByteArray) (code : Int) (reason : ByteArray) (minor : Int) (fs : List (S55)) (b : List Int) (hf : FB fs) (k : Nat) (hk : 1060000020 ≤ k) : frame_Response.f k method code reason minor fs b = some (respLen method code minor fs) := by
  have hfl := hf.1
  obtain ⟨k, rfl⟩ : ∃ m, k = m + 1 := ⟨k - 1, by omega⟩
  have hj : ∀ x, frame_Response.j0 (k + 1) x code reason minor fs b = some (if x = true then (0, 0, true) else if (reqLen fs minor).2.2 = 0 then (if (reqLen fs minor).2.1 = true then (2, 0, true) else if thereS lenNm fs = true then (1, (reqLen fs minor).1, true) else (3, 0, true)) else (0, 0, false)) := by
    intro x
    rw [frame_Response.j0, frameReq_f fs minor hf k (by omega), Option.bind_some, thereLen_f fs hf k (by omega), Option.bind_some]
    by_cases h1 : (reqLen fs minor).2.2 = 0
    · cases x <;> cases (reqLen fs minor).2.1 <;> cases thereS lenNm fs <;> simp [h1]
    · cases x <;> simp [h1]
  unfold frame_Response.f respLen noBody
  by_cases h1 : method.toList = [72, 69, 65, 68]
  · rw [if_pos h1, hj, if_pos rfl, beq_iff_eq.2 h1, Bool.true_or, if_pos rfl]
  · rw [if_neg h1, beq_eq_false_iff_ne.2 h1, Bool.false_or]
    by_cases h2 : code < 200
    · rw [if_pos h2, hj, if_pos rfl, decide_eq_true h2, Bool.true_or, if_pos rfl]
    · rw [if_neg h2, decide_eq_false h2, Bool.false_or]
      by_cases h3 : code = 204
      · rw [if_pos h3, hj, if_pos rfl, beq_iff_eq.2 h3, Bool.true_or, if_pos rfl]
      · rw [if_neg h3, hj, beq_eq_false_iff_ne.2 h3, Bool.false_or]
theorem join_l1 (b : List Int) (hb : b.length < 140737488355328) (d : Nat) : ∀ (k : Nat) (out : List Int) (i : Nat), i + d = b.length → d < k → out.length + d < 140737488355328 → tollbarref01_Join.l1 k b out (i : Int) = some (out ++ b.drop i) := by
  induction d with
  | zero =>
    intro k out i hi hk ho
    obtain ⟨k, rfl⟩ : ∃ m, k = m + 1 := ⟨k - 1, by omega⟩
    simp only [tollbarref01_Join.l1]
    rw [if_neg (by omega), List.drop_of_length_le (by omega), List.append_nil]
  | succ d ih =>
    intro k out i hi hk ho
    obtain ⟨k, rfl⟩ : ∃ m, k = m + 1 := ⟨k - 1, by omega⟩
    have hlt : i < b.length := by omega
    simp only [tollbarref01_Join.l1]
    rw [if_pos (by omega), if_pos (by omega), if_pos (by omega), show wrap64 ((i : Int) + 1) = ((i + 1 : Nat) : Int) by unfold wrap64; omega, ih k _ (i + 1) (by omega) (by omega) (by rw [List.length_append]; simp; omega), List.append_assoc, List.drop_eq_getElem_cons hlt]
    simp [rd, List.getD_eq_getElem?_getD, List.getElem?_eq_getElem hlt]
theorem join_l0 (a b : List Int) (ha : a.length < 140737488355328) (hb : b.length < 140737488355328) (d : Nat) : ∀ (k : Nat) (out : List Int) (i : Nat), i + d = a.length → d + b.length + 1 < k → out.length + d + b.length < 140737488355328 → tollbarref01_Join.l0 k a b out (i : Int) = some (out ++ a.drop i ++ b) := by
  induction d with
  | zero =>
    intro k out i hi hk ho
    obtain ⟨k, rfl⟩ : ∃ m, k = m + 1 := ⟨k - 1, by omega⟩
    simp only [tollbarref01_Join.l0]
    rw [if_neg (by omega), List.drop_of_length_le (by omega), List.append_nil]
    have := join_l1 b hb b.length k out 0 (by omega) (by omega) (by omega)
    rw [List.drop_zero] at this
    exact this
  | succ d ih =>
    intro k out i hi hk ho
    obtain ⟨k, rfl⟩ : ∃ m, k = m + 1 := ⟨k - 1, by omega⟩
    have hlt : i < a.length := by omega
    simp only [tollbarref01_Join.l0]
    rw [if_pos (by omega), if_pos (by omega), if_pos (by omega), show wrap64 ((i : Int) + 1) = ((i + 1 : Nat) : Int) by unfold wrap64; omega, ih k _ (i + 1) (by omega) (by omega) (by rw [List.length_append]; simp; omega), List.append_assoc out, List.drop_eq_getElem_cons hlt]
    simp [rd, List.getD_eq_getElem?_getD, List.getElem?_eq_getElem hlt]
theorem Join_f (a b : List Int) (k : Nat) (hk : a.length + b.length + 2 ≤ k) (hl : a.length + b.length < 140737488355328) : tollbarref01_Join.f k a b = some (a ++ b) := by
  unfold tollbarref01_Join.f
  have := join_l0 a b (by omega) (by omega) a.length k [] 0 (by omega) (by omega) (by simpa using hl)
  rw [List.drop_zero, List.nil_append] at this
  exact this
end Go.Proofs.YtfjeinnemimjoaaGreatDoor.Pure
namespace Go.Proofs.YtfjeinnemimjoaaGreatDoor.P
open Go.RowKit Go.Proofs.YtfjeinnemimjoaaGreatDoorW.PrintWords Go.Proofs.YtfjeinnemimjoaaGreatDoorW.PrintLast Go.Proofs.YtfjeinnemimjoaaGreatDoorW.PrintMore
attribute [local go_sem] max2_int min2_int max_two min_two max_three min_three max_four min_four
set_option linter.unusedVariables false
set_option linter.unusedSimpArgs false
end Go.Proofs.YtfjeinnemimjoaaGreatDoor.P
namespace Go.Proofs.YtfjeinnemimjoaaGreatDoor.Pure
open Go.RowKit Go.Proofs.YtfjeinnemimjoaaGreatDoor.P Go.Proofs.YtfjeinnemimjoaaGreatDoorW.PrintWords Go.Proofs.YtfjeinnemimjoaaGreatDoorW.PrintLast Go.Proofs.YtfjeinnemimjoaaGreatDoorW.PrintMore
set_option linter.unusedVariables false
set_option linter.unusedSimpArgs false
theorem refThere_f (fs : List (S55)) (name : ByteArray) (hf : FB fs) (hn : name.size ≤ 1048576) (k : Nat) (hk : 1049600 ≤ k) : tollbarref07_There.f k fs name = some (thereS name fs) := by
  unfold tollbarref07_There.f
  rw [refGet_f fs name hf hn k hk, Option.bind_some]; rfl
theorem refLen_rest (ps : List ByteArray) (hl : ps.length ≤ 1048577000) (hs : ∀ p ∈ ps, p.size ≤ 1048576) (n : Int) (d : Nat) : ∀ (k i : Nat), i + d = ps.length → d + 100 ≤ k →
    tollbarref07_Length.l0 k ps n true (i : Int) = some (if ((ps.drop i).all fun q => decide (numSpec q 10 18 = (n, true))) = true then (n, true) else (0, false)) := by
  induction d with
  | zero =>
    intro k i hi hk
    obtain ⟨k, rfl⟩ : ∃ m, k = m + 1 := ⟨k - 1, by omega⟩
    rw [tollbarref07_Length.l0, if_neg (by omega), List.drop_of_length_le (by omega), List.all_nil, if_pos rfl]
  | succ d ih =>
    intro k i hi hk
    obtain ⟨k, rfl⟩ : ∃ m, k = m + 1 := ⟨k - 1, by omega⟩
    have hlt : i < ps.length := by omega
    have hb := hs _ (List.getElem_mem hlt)
    have hw : wrap64 ((i : Int) + 1) = ((i + 1 : Nat) : Int) := by unfold wrap64; omega
    rw [tollbarref07_Length.l0, if_pos (by omega), if_pos (by omega), rdB_at ps i hlt, refDecimal_f _ k (by omega) (by omega), Option.bind_some, hw, List.drop_eq_getElem_cons hlt, List.all_cons]
    obtain ⟨z, hz⟩ : ∃ z, z = numSpec ps[i] 10 18 := ⟨_, rfl⟩
    rw [← hz]
    by_cases h1 : z.2 = true
    · rw [if_pos h1]
      by_cases h2 : z.1 = n
      · have e : z = (n, true) := Prod.ext h2 h1
        rw [if_pos h2, ih k (i + 1) (by omega) (by omega), decide_eq_true e, Bool.true_and]
      · have e : ¬ z = (n, true) := fun e => h2 (by rw [e])
        rw [if_neg h2, decide_eq_false e, Bool.false_and, if_neg (by simp)]
    · have e : ¬ z = (n, true) := fun e => h1 (by rw [e])
      rw [if_neg h1, decide_eq_false e, Bool.false_and, if_neg (by simp)]
theorem refLength_fs (fs : List (S55)) (hf : FB fs) (k : Nat) (hk : 1060000000 ≤ k) : tollbarref07_Length.f k fs = some (lenS (listS lenNm fs)) := by
  have hlb := list_bounds fs lenNm hf
  obtain ⟨ps, hps⟩ : ∃ ps, ps = listS lenNm fs := ⟨_, rfl⟩
  have hL : tollbarref04_List.f k fs (⟨#[99, 111, 110, 116, 101, 110, 116, 45, 108, 101, 110, 103, 116, 104]⟩ : ByteArray) = some ps := by
    have h := refList_f fs lenNm hf (by decide) k (by omega)
    rw [← hps] at h
    exact h
  rw [← hps] at hlb ⊢
  unfold tollbarref07_Length.f
  rw [hL, Option.bind_some]
  match ps, hlb with
  | [], _ => rw [if_pos (by simp)]; rfl
  | p :: r, hlb =>
    have hb := hlb.2 p List.mem_cons_self
    have hr0 : rdOf ByteArray.empty (p :: r) 0 = p := rdB_at (p :: r) 0 (by simp)
    obtain ⟨k, rfl⟩ : ∃ m, k = m + 1 := ⟨k - 1, by omega⟩
    rw [if_neg (by simp only [List.length_cons]; omega), if_pos (by simp only [List.length_cons]; omega), hr0, refDecimal_f p (k + 1) (by omega) (by omega), Option.bind_some, tollbarref07_Length.l0, if_pos (by simp only [List.length_cons]; omega), if_pos (by omega), hr0, refDecimal_f p k (by omega) (by omega), Option.bind_some, lenS]
    obtain ⟨z, hz⟩ : ∃ z, z = numSpec p 10 18 := ⟨_, rfl⟩
    rw [← hz]
    by_cases h1 : z.2 = true
    · have h := refLen_rest (p :: r) hlb.1 hlb.2 z.1 r.length k 1 (by simp only [List.length_cons]; omega) (by have := hlb.1; simp only [List.length_cons] at this; omega)
      have h' : tollbarref07_Length.l0 k (p :: r) z.1 true 1 = _ := h
      rw [if_pos h1, if_pos rfl, show wrap64 (0 + 1) = 1 by unfold wrap64; omega, h1, h']
      simp only [List.drop_succ_cons, List.drop_zero]
      by_cases h2 : (r.all fun q => decide (numSpec q 10 18 = (z.1, true))) = true
      · rw [if_pos h2, if_pos ⟨trivial, h2⟩]
      · rw [if_neg h2, if_neg (fun h => h2 h.2)]
    · rw [if_neg h1, if_neg (fun h => h1 h.1)]
theorem fold_sameN (a W : ByteArray) (hw : strOfNums ((bytesOf W).map foldC) = W) : ((strOfNums ((bytesOf a).map foldC)).toList == W.toList) = sameN a W := by
  have h := str_inj (bytes_fold (bytes_of a)) (bytes_fold (bytes_of W))
  rw [hw] at h
  rw [h]
  rfl
theorem refCoded_f (fs : List (S55)) (hf : FB fs) (k : Nat) (hk : 1060000000 ≤ k) : tollbarref07_Coded.f k fs = some (chunkedS fs) := by
  have hlb := list_bounds fs teNm hf
  have hL : tollbarref04_List.f k fs (⟨#[116, 114, 97, 110, 115, 102, 101, 114, 45, 101, 110, 99, 111, 100, 105, 110, 103]⟩ : ByteArray) = some (listS teNm fs) := refList_f fs teNm hf (by decide) k (by omega)
  unfold tollbarref07_Coded.f chunkedS
  rw [hL, Option.bind_some]
  match hps : listS teNm fs with
  | [] => rw [if_neg (by simp)]
  | [p] =>
    rw [hps] at hlb
    have hb := hlb.2 p List.mem_cons_self
    have hr0 : rdOf ByteArray.empty [p] 0 = p := rdB_at [p] 0 (by simp)
    have hc := fold_sameN p chunkedW (by decide +kernel)
    rw [show chunkedW.toList = [99, 104, 117, 110, 107, 101, 100] by rw [toList_data]; rfl] at hc
    rw [if_pos (by simp), if_pos (by simp), hr0, refFold_f p (by omega) k (by omega), Fold_f p (by omega), Option.bind_some, hc]
  | p :: q :: r => rw [if_neg (by simp only [List.length_cons]; omega)]
theorem refFrameResp_f (method : ByteArray) (code : Int) (reason : ByteArray) (minor : Int) (fs : List (S55)) (b : List Int) (hf : FB fs) (k : Nat) (hk : 1060000020 ≤ k) : tollbarref07_Response.f k method code reason minor fs b = some (respLen method code minor fs) := by
  obtain ⟨k, rfl⟩ : ∃ m, k = m + 1 + 1 + 1 := ⟨k - 3, by omega⟩
  have e1 : tollbarref07_There.f (k + 1 + 1) fs (⟨#[99, 111, 110, 116, 101, 110, 116, 45, 108, 101, 110, 103, 116, 104]⟩ : ByteArray) = some (thereS lenNm fs) := refThere_f fs lenNm hf (by decide) (k + 1 + 1) (by omega)
  have e2 : tollbarref07_There.f (k + 1 + 1) fs (⟨#[116, 114, 97, 110, 115, 102, 101, 114, 45, 101, 110, 99, 111, 100, 105, 110, 103]⟩ : ByteArray) = some (thereS teNm fs) := refThere_f fs teNm hf (by decide) (k + 1 + 1) (by omega)
  have hj : ∀ x, tollbarref07_Response.j0 (k + 1 + 1 + 1) x code reason minor fs b = some (if x = true then (0, 0, true) else if (reqLen fs minor).2.2 = 0 then (if (reqLen fs minor).2.1 = true then (2, 0, true) else if thereS lenNm fs = true then (1, (reqLen fs minor).1, true) else (3, 0, true)) else (0, 0, false)) := by
    intro x
    rw [tollbarref07_Response.j0, e1, Option.bind_some, e2, Option.bind_some, refLength_fs fs hf (k + 1 + 1) (by omega), Option.bind_some]
    cases x
    case true => rfl
    simp only [Bool.false_eq_true, if_false]
    rw [tollbarref07_Response.j1, tollbarref07_Response.j1, refCoded_f fs hf (k + 1) (by omega), Option.bind_some]
    unfold reqLen
    obtain ⟨y, hy⟩ : ∃ y, y = lenS (listS lenNm fs) := ⟨_, rfl⟩
    rw [← hy]
    simp only [tollbarref07_Response.j2]
    by_cases hm : minor = 0 <;> by_cases h9 : y.1 > 4096 <;> cases thereS teNm fs <;> cases thereS lenNm fs <;> cases chunkedS fs <;> cases h2 : y.2 <;> simp [hm, h9, h2]
  unfold tollbarref07_Response.f respLen noBody
  by_cases h1 : method.toList = [72, 69, 65, 68]
  · rw [if_pos h1, hj, if_pos rfl, beq_iff_eq.2 h1, Bool.true_or, if_pos rfl]
  · rw [if_neg h1, beq_eq_false_iff_ne.2 h1, Bool.false_or]
    by_cases h2 : code < 200
    · rw [if_pos h2, hj, if_pos rfl, decide_eq_true h2, Bool.true_or, if_pos rfl]
    · rw [if_neg h2, decide_eq_false h2, Bool.false_or]
      by_cases h3 : code = 204
      · rw [if_pos h3, hj, if_pos rfl, beq_iff_eq.2 h3, Bool.true_or, if_pos rfl]
      · rw [if_neg h3, hj, beq_eq_false_iff_ne.2 h3, Bool.false_or]
end Go.Proofs.YtfjeinnemimjoaaGreatDoor.Pure
