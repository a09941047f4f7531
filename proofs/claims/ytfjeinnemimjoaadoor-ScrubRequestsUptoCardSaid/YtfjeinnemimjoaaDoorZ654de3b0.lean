/- Each function below answers as its Lean twin says; plain lemmas; a row where its theorem stands. No further condition. (Laid by this repo's pack.py out of its texts and of the print's words.) -/
import Derived.Test.YtfjeinnemimjoaaDoorZd8102f62
import Derived.Test.YtfjeinnemimjoaaDoorZc831d518
import Derived.Lib.SlBytesConst
import Derived.Lib.Itoa
namespace Go.Proofs.YtfjeinnemimjoaaDoor.P
open Go.RowKit Go.Proofs.YtfjeinnemimjoaaDoorW.PrintWords Go.Proofs.YtfjeinnemimjoaaDoorW.PrintLast Go.Proofs.YtfjeinnemimjoaaDoorW.PrintMore
attribute [local go_sem] max2_int min2_int max_two min_two max_three min_three max_four min_four
set_option linter.unusedVariables false
set_option linter.unusedSimpArgs false
def scrub_Response.j0:Nat → Bool → Bool → Int → ByteArray → Int → List (S41) → List Int → Int → ByteArray → Int → List (S41) → Option (Int × ByteArray × Int × (List (S41)) × List Int)
 | 0,_,_,_,_,_,_,_,_,_,_,_=>none
 | k + 1,x2,x31,x392000,x392001,x392002,x392003,x392004,x397000,x397001,x397002,x397003=>if x31=true then ((bytes_Clone.f x392004).bind fun t400=>((scrub_length.f (x392004.length:Int)).bind fun bt403=>(if x397003.length < 4398046511104 then ((some (x397003 ++ [(⟨bt403.1,bt403.2⟩:S41)]:List (S41))).bind fun y405=>(if x2=true then ((scrub_closing.f).bind fun bt408=>(if y405.length < 4398046511104 then (some (x397000,x397001,x397002,(y405 ++ [(⟨bt408.1,bt408.2⟩:S41)]),t400)) else (none))) else (some (x397000,x397001,x397002,y405,t400)))) else (none)))) else (if x2=true then ((scrub_closing.f).bind fun bt413=>(if x397003.length < 4398046511104 then (some (x397000,x397001,x397002,(x397003 ++ [(⟨bt413.1,bt413.2⟩:S41)]),([]:List Int))) else (none))) else (some (x397000,x397001,x397002,x397003,([]:List Int))))
def scrub_Response.f (k:Nat) (a0_0:Int) (a0_1:ByteArray) (a0_2:Int) (l0_3:List (S41)) (l0_4:List Int) (a1:ByteArray) (a2:Bool):Option (Int × ByteArray × Int × (List (S41)) × List Int):=(scrub_onward.f k l0_3).bind fun t393=>((frame_Response.f k a1 a0_0 a0_1 a0_2 l0_3 l0_4).bind fun bt397=>(if bt397.2.2=true then (scrub_Response.j0 k a2 (bt397.1 != 0) a0_0 a0_1 a0_2 l0_3 l0_4 a0_0 a0_1 1 t393) else (scrub_Response.j0 k a2 true a0_0 a0_1 a0_2 l0_3 l0_4 a0_0 a0_1 1 t393)))
def scrub_Response.T1:Bool × List (List Nat × List Nat):=(true,[([],[]),([0],[0]),([],[]),([2],[2]),([],[]),([4],[4]),([5],[5]),([1,3,6],[1,3,6]),([],[]),([8,7,6,0,1,2,3,4,5,6,7,8],[7,8])])
def scrub_Response.B1:List Nat:=[0,1,0,4,0,16,48,127,0,511]
theorem scrub_Response.tab1:rtab .any (opsOf Tryd.f25 1)=scrub_Response.T1:=by kernel_rfl
theorem scrub_Response.bits1:waitsOk scrub_Response.T1.2 scrub_Response.B1=true:=by kernel_rfl
def scrub_Response.T5:Bool × List (List Nat × List Nat):=(true,[([],[]),([0],[0]),([],[]),([2],[2]),([3],[3]),([4],[4]),([5],[5]),([1,6,5],[1,6]),([0,1,2,3,4,5,6,7],[]),([8,7,7,0,1,2,3,4,5,6,7],[7,8])])
def scrub_Response.B5:List Nat:=[0,1,0,4,12,28,60,127,255,511]
theorem scrub_Response.tab5:rtab .any (opsOf Tryd.f25 5)=scrub_Response.T5:=by kernel_rfl
theorem scrub_Response.bits5:waitsOk scrub_Response.T5.2 scrub_Response.B5=true:=by kernel_rfl
set_option maxHeartbeats 8000000 in
set_option maxRecDepth 100000 in
theorem scrub_Response.calls (k:Nat) (a0_0:Int) (a0_1:ByteArray) (a0_2:Int) (A0_3:Option Addr) (c0_3:Nat) (l0_3:List (S41)) (A0_4:Option Addr) (c0_4:Nat) (l0_4:List Int) (a1:ByteArray) (a2:Bool) (r1:Int) (r2:ByteArray) (r3:Int) (r4:List (S41)) (r5:List Int) (w:World) (hr0_3:Kd.C k41 w A0_3 l0_3.length l0_3) (hc0_3:l0_3.length ≤ c0_3) (hr0_4:Kd.C (Kd.int .u8) w A0_4 l0_4.length l0_4) (hc0_4:l0_4.length ≤ c0_4) (h:scrub_Response.f k a0_0 a0_1 a0_2 l0_3 l0_4 a1 a2=some (r1,r2,r3,r4,r5)) (ht:Tabs w) :
  Calls Tryd.prog 25 #[.agg #[.int .i64 a0_0,.string a0_1,.int .i64 a0_2,.slice A0_3 l0_3.length c0_3,.slice A0_4 l0_4.length c0_4],.string a1,.bool a2] w fun e w' => ∃ v3_ v4_:Value,e = .returned (.agg #[.int .i64 r1,.string r2,.int .i64 r3,v3_,v4_])∧Kd.R k41 41 w' w.heap.size (fun _=>True) v3_ r4∧Kd.R (Kd.int .u8) 5 w' w.heap.size (fun _=>True) v4_ r5∧Below w.heap.size w w' := by
 have HTB:=Aside0.mk ht
 clear ht
 have hu48:=Tryd.underlying48
 have HR0_3:=Aside0.mk hr0_3
 have HC0_3:=Aside0.mk hc0_3
 clear hr0_3 hc0_3
 have HR0_4:=Aside0.mk hr0_4
 have HC0_4:=Aside0.mk hc0_4
 clear hr0_4 hc0_4
 have HB:=Aside0.mk (Below.refl w.heap.size w)
 have H:((scrub_onward.f k l0_3).bind fun t90=>((frame_Response.f k a1 a0_0 a0_1 a0_2 l0_3 l0_4).bind fun bt397=>(if bt397.2.2=true then (scrub_Response.j0 k a2 (bt397.1 != 0) a0_0 a0_1 a0_2 l0_3 l0_4 a0_0 a0_1 1 t90) else (scrub_Response.j0 k a2 true a0_0 a0_1 a0_2 l0_3 l0_4 a0_0 a0_1 1 t90))))=some (r1,r2,r3,r4,r5):=h
 clear h
 replace H:=Option.bind_eq_some_iff.mp H
 obtain ⟨t90,A40,H⟩:=H
 replace H:((frame_Response.f k a1 a0_0 a0_1 a0_2 l0_3 l0_4).bind fun bt397=>(if bt397.2.2=true then (scrub_Response.j0 k a2 (bt397.1 != 0) a0_0 a0_1 a0_2 l0_3 l0_4 a0_0 a0_1 1 t90) else (scrub_Response.j0 k a2 true a0_0 a0_1 a0_2 l0_3 l0_4 a0_0 a0_1 1 t90)))=some (r1,r2,r3,r4,r5):=H
 have A4:=Aside0.mk A40
 clear A40
 replace H:=Option.bind_eq_some_iff.mp H
 obtain ⟨⟨t397,t398,t399⟩,A50,H⟩:=H
 replace H:(if t399=true then (scrub_Response.j0 k a2 (t397 != 0) a0_0 a0_1 a0_2 l0_3 l0_4 a0_0 a0_1 1 t90) else (scrub_Response.j0 k a2 true a0_0 a0_1 a0_2 l0_3 l0_4 a0_0 a0_1 1 t90))=some (r1,r2,r3,r4,r5):=H
 have A5:=Aside0.mk A50
 clear A50
 have HC6:=Aside0.mk H
 clear H
 go_enter Tryd.func25,Tryd.ntmps25
 try go_wp2_with (first|((with_reducible refine gate_dst (N:=3) rfl ?_);refine box_event ?hg (N:=3) ?hd (cs:=#[.int .i64 a0_0,.string a0_1,.int .i64 a0_2,.slice A0_3 l0_3.length c0_3,.slice A0_4 l0_4.length c0_4]) (t:=48) ?hr ?_;(case hd=>rfl);(case hg=>rfl);(case hr=>first|(go_simp;done)|(go_simp;rfl));intro gb87 hg w7 hbox hb;have n0_:=Aside0.mk (below_step (by repeat (first|(with_reducible first|exact HB.out|apply below_alloc|apply pw_below_drewN|apply below_drew1)|exact HB.out)) hb);have n1_:=Aside0.mk (hbox);have n2_:=Aside0.mk ((by rw [hg];exact (below_size (by repeat (first|(with_reducible first|exact HB.out|apply below_alloc|apply pw_below_drewN|apply below_drew1)|exact HB.out))):w.heap.size ≤ gb87));have n3_:=Aside0.mk ((by rw [hg];exact (below_size (by repeat (first|(with_reducible first|exact HB.out|apply below_alloc|apply pw_below_drewN|apply below_drew1)|exact HB.out))):w.heap.size ≤ gb87));clear HB;have HB:=n0_;have BK87:=n1_;have GW87:=n2_;have GE87:=n3_;clear n0_ n1_ n2_ n3_;clear hb hbox hg)|((with_reducible refine gate_dst (N:=6) rfl ?_);refine box_event ?hg (N:=6) ?hd (cs:=#[.int .i64 0,.string (⟨#[]⟩:ByteArray),.int .i64 0,.slice none 0 0,.slice none 0 0]) (t:=48) ?hr ?_;(case hd=>rfl);(case hg=>rfl);(case hr=>first|(go_simp;done)|(go_simp;rfl));intro gb88 hg w8 hbox hb;have n0_:=Aside0.mk (blk_below (g:=gb87) (o:=.cells #[.int .i64 a0_0,.string a0_1,.int .i64 a0_2,.slice A0_3 l0_3.length c0_3,.slice A0_4 l0_4.length c0_4] 48 (0,0)) (by (with_reducible repeat (first|refine blk_drewN ?_ _|refine blk_drew ?_|refine blk_alloc ?_ _));exact BK87.out) hb);have n1_:=Aside0.mk (below_step (by repeat (first|(with_reducible first|exact HB.out|apply below_alloc|apply pw_below_drewN|apply below_drew1|refine below_set ?_ GE87.out)|exact HB.out)) hb);have n2_:=Aside0.mk (hbox);have n3_:=Aside0.mk ((by rw [hg];exact (below_size (by repeat (first|(with_reducible first|exact HB.out|apply below_alloc|apply pw_below_drewN|apply below_drew1|refine below_set ?_ GE87.out)|exact HB.out))):w.heap.size ≤ gb88));have n4_:=Aside0.mk ((by rw [hg];exact (below_size (by repeat (first|(with_reducible first|exact HB.out|apply below_alloc|apply pw_below_drewN|apply below_drew1|refine below_set ?_ GE87.out)|exact HB.out))):w.heap.size ≤ gb88));have n5_:=Aside0.mk ((by rw [hg];exact Nat.ne_of_lt (blk_lt (g:=gb87) (o:=.cells #[.int .i64 a0_0,.string a0_1,.int .i64 a0_2,.slice A0_3 l0_3.length c0_3,.slice A0_4 l0_4.length c0_4] 48 (0,0)) (by (with_reducible repeat (first|refine blk_drewN ?_ _|refine blk_drew ?_|refine blk_alloc ?_ _));exact BK87.out)):gb87 ≠ gb88));have n6_:=Aside0.mk ((by rw [hg];exact Nat.ne_of_gt (blk_lt (g:=gb87) (o:=.cells #[.int .i64 a0_0,.string a0_1,.int .i64 a0_2,.slice A0_3 l0_3.length c0_3,.slice A0_4 l0_4.length c0_4] 48 (0,0)) (by (with_reducible repeat (first|refine blk_drewN ?_ _|refine blk_drew ?_|refine blk_alloc ?_ _));exact BK87.out)):gb88 ≠ gb87));clear BK87;clear HB;have BK87:=n0_;have HB:=n1_;have BK88:=n2_;have GW88:=n3_;have GE88:=n4_;have NB87_392:=n5_;have NB88_391:=n6_;clear n0_ n1_ n2_ n3_ n4_ n5_ n6_;clear hb hbox hg))
 replace BK87:=Aside0.mk (blk_drew BK87.out)
 replace BK88:=Aside0.mk (blk_drew BK88.out)
 replace HB:=Aside0.mk (below_drew1 HB.out)
 refine start_ (n:=10) (S:=fun w' => w'.cell? ⟨gb87,0,none⟩=some (.int .i64 a0_0)∧w'.cell? ⟨gb87,1,none⟩=some (.string a0_1)∧w'.cell? ⟨gb87,2,none⟩=some (.int .i64 a0_2)∧w'.cell? ⟨gb87,3,none⟩=some (.slice A0_3 l0_3.length c0_3)∧w'.cell? ⟨gb87,4,none⟩=some (.slice A0_4 l0_4.length c0_4)) (ds:=[]) #[false,false,false,false,false,false,false,false,false,false] (by kernel_rfl) rfl rfl ⟨(blk_cell BK87.out 0).trans rfl,(blk_cell BK87.out 1).trans rfl,(blk_cell BK87.out 2).trans rfl,(blk_cell BK87.out 3).trans rfl,(blk_cell BK87.out 4).trans rfl⟩ (fun hHeld=>?_);refine with_tabW scrub_Response.tab1 scrub_Response.bits1 (fun HT_ HW_=>?_)
 generalize w8.drew=w9 at BK87 BK88 HB hHeld ⊢
 refine pure_ (i:=0) (N:=some 11) (v:=?_) (a' := ?_) #[true,false,false,false,false,false,false,false,false,false] rfl rfl (any_of HT_.out (by kernel_rfl)) (fun _ _ _ h=>h) (Or.inl ⟨by rfl,?_⟩) ?_ ?_
 rotate_left
 ·intro w';go_simp;with_reducible rfl
 rotate_left
 ·simp only [Act.put,zqA,zqB,zqC,i64_w,i32_w];rfl
 refine pure_ (i:=2) (N:=some 13) (v:=?_) (a' := ?_) #[true,false,true,false,false,false,false,false,false,false] rfl rfl (any_of HT_.out (by kernel_rfl)) (fun _ _ _ h=>h) (Or.inl ⟨by rfl,?_⟩) ?_ ?_
 rotate_left
 ·intro w';go_simp;with_reducible rfl
 rotate_left
 ·simp only [Act.put,zqA,zqB,zqC,i64_w,i32_w];rfl
 refine pure_ (i:=4) (N:=some 15) (v:=?_) (a' := ?_) #[true,false,true,false,true,false,false,false,false,false] rfl rfl (any_of HT_.out (by kernel_rfl)) (fun _ _ _ h=>h) (Or.inl ⟨by rfl,?_⟩) ?_ ?_
 rotate_left
 ·intro w';go_simp;with_reducible rfl
 rotate_left
 ·simp only [Act.put,zqA,zqB,zqC,i64_w,i32_w];rfl
 refine take_ (i:=1) (N:=some 12) (v:=?_) (a' := ?_) #[true,true,true,false,true,false,false,false,false,false] rfl rfl (take_ofW HT_.out HW_.out (by kernel_rfl)) (fun _ _ _ h=>h) (Or.inl ⟨by rfl,?_⟩) hHeld ?_ ?_
 rotate_left
 ·rintro w' ⟨s0,s1,s2,s3,s4⟩;go_simp;with_reducible rfl
 rotate_left
 ·simp only [Act.put,zqA,zqB,zqC,i64_w,i32_w];rfl
 refine take_ (i:=3) (N:=some 14) (v:=?_) (a' := ?_) #[true,true,true,true,true,false,false,false,false,false] rfl rfl (take_ofW HT_.out HW_.out (by kernel_rfl)) (fun _ _ _ h=>h) (Or.inl ⟨by rfl,?_⟩) hHeld ?_ ?_
 rotate_left
 ·rintro w' ⟨s0,s1,s2,s3,s4⟩;go_simp;with_reducible rfl
 rotate_left
 ·simp only [Act.put,zqA,zqB,zqC,i64_w,i32_w];rfl
 refine take_ (i:=5) (N:=some 16) (v:=?_) (a' := ?_) #[true,true,true,true,true,true,false,false,false,false] rfl rfl (take_ofW HT_.out HW_.out (by kernel_rfl)) (fun _ _ _ h=>h) (Or.inl ⟨by rfl,?_⟩) hHeld ?_ ?_
 rotate_left
 ·rintro w' ⟨s0,s1,s2,s3,s4⟩;go_simp;with_reducible rfl
 rotate_left
 ·simp only [Act.put,zqA,zqB,zqC,i64_w,i32_w];rfl
 refine join_ (σ:=Value × Nat) 1 #[true,true,true,true,true,true,true,true,true,false] (fun s_=>[(17,s_.1),(7,.pointer (some ⟨s_.2,0,none⟩)),(18,.agg #[.int .i64 a0_0,.string a0_1,.int .i64 1,s_.1,.slice none 0 0])]) (fun s_ w' => (w'.cell? ⟨gb87,0,none⟩=some (.int .i64 a0_0)∧w'.cell? ⟨gb87,1,none⟩=some (.string a0_1)∧w'.cell? ⟨gb87,2,none⟩=some (.int .i64 a0_2)∧w'.cell? ⟨gb87,3,none⟩=some (.slice A0_3 l0_3.length c0_3)∧w'.cell? ⟨gb87,4,none⟩=some (.slice A0_4 l0_4.length c0_4))∧(Kd.R k41 41 w' w.heap.size (fun _=>True) s_.1 t90)∧(w'.heap[gb87]? = some (.cells #[.int .i64 a0_0,.string a0_1,.int .i64 a0_2,.slice A0_3 l0_3.length c0_3,.slice A0_4 l0_4.length c0_4] 48 (0,0)))∧(w'.heap[gb88]? = some (.cells #[.int .i64 0,.string (⟨#[]⟩:ByteArray),.int .i64 0,.slice none 0 0,.slice none 0 0] 48 (0,0)))∧(w'.heap[s_.2]? = some (.cells #[.int .i64 0,.string (⟨#[]⟩:ByteArray),.int .i64 0,.slice none 0 0,.slice none 0 0] 48 (0,0)))∧(w.heap.size ≤ s_.2)∧(w.heap.size ≤ s_.2)∧(gb87 ≠ s_.2)∧(s_.2 ≠ gb87)∧(gb88 ≠ s_.2)∧(s_.2 ≠ gb88)∧(Below w.heap.size w w')) ?_ ?_
 rotate_left
 ·intro hCont
  refine two_ (i:=6) (j:=8) (Ni:=some 17) (Nj:=some 7) #[true,true,true,true,true,true,true,false,false,false] #[true,true,true,true,true,true,false,false,true,false] rfl rfl rfl rfl (two_of HT_.out (by kernel_rfl)) (by decide) (by decide) (fun K hK=>?_) (fun K hK=>?_)
  ·skip
   refine goes_ Tryd.func37 (by kernel_rfl) rfl #[.slice A0_3 l0_3.length c0_3] (by rfl) rfl rfl (by (try simp only [List.map_toArray,List.map_cons,List.map_nil]);first|done|rfl|(simp only [List.length_drop,List.length_take];rfl)) ?_
   with_reducible refine (scrub_onward.calls k _ _ l0_3 t90 _ ?side1 ?side2 A4.out).mono ?_
   (case side1=>repeat (first|exact (Kd.C_below HR0_3.out HB.out)|(with_reducible refine Kd.C_alloc ?_ _)|(with_reducible refine Kd.C_drewN ?_ _)|(with_reducible refine Kd.C_drew ?_)))
   (case side2=>exact HC0_3.out)
   rintro e w10 ⟨v394,rfl,ho0,hb⟩
   refine ⟨_,rfl,?_⟩
   have n0_:=Aside0.mk (Kd.R_lower ho0 (below_size (by repeat (first|(with_reducible first|exact HB.out|apply below_alloc|apply pw_below_drewN|apply below_drew1|refine below_set ?_ GE87.out|refine below_set ?_ GE88.out)|exact HB.out))))
   have n1_:=Aside0.mk (blk_below (g:=gb87) (o:=.cells #[.int .i64 a0_0,.string a0_1,.int .i64 a0_2,.slice A0_3 l0_3.length c0_3,.slice A0_4 l0_4.length c0_4] 48 (0,0)) (by (with_reducible repeat (first|refine blk_drewN ?_ _|refine blk_drew ?_|refine blk_alloc ?_ _));exact BK87.out) hb)
   have n2_:=Aside0.mk (blk_below (g:=gb88) (o:=.cells #[.int .i64 0,.string (⟨#[]⟩:ByteArray),.int .i64 0,.slice none 0 0,.slice none 0 0] 48 (0,0)) (by (with_reducible repeat (first|refine blk_drewN ?_ _|refine blk_drew ?_|refine blk_alloc ?_ _));exact BK88.out) hb)
   have n3_:=Aside0.mk (below_step (by repeat (first|(with_reducible first|exact HB.out|apply below_alloc|apply pw_below_drewN|apply below_drew1|refine below_set ?_ GE87.out|refine below_set ?_ GE88.out)|exact HB.out)) hb)
   clear BK87 BK88 HB
   have HO97:=n0_
   have BK87:=n1_
   have BK88:=n2_
   have HB:=n3_
   clear n0_ n1_ n2_ n3_
   (try clear hb)
   (try clear hb2)
   (try clear hk)
   (try clear hi)
   (try clear ho0)
   obtain ⟨Ao11,co11,eo11⟩:=Kd.R_slice HO97.out
   (first|subst eo11|(injection eo11 with f1_ f2_ f3_;have f4_:=f1_.symm;have f5_:=f3_.symm;clear f1_ f2_ f3_;subst f4_;subst f5_))
   refine hK.out _ _ ⟨(blk_cell BK87.out 0).trans rfl,(blk_cell BK87.out 1).trans rfl,(blk_cell BK87.out 2).trans rfl,(blk_cell BK87.out 3).trans rfl,(blk_cell BK87.out 4).trans rfl⟩ (fun hHeld=>?_)
   clear hK K
   refine norm_ (a' := ?_) ?_ ?_
   rotate_left
   ·show Act.put _ (some 17) _=_
    simp only [Act.put,zqA,zqB,zqC,i64_w,i32_w]
    rfl
   refine pure_ (i:=7) (N:=some 18) (v:=?_) (a' := ?_) #[true,true,true,true,true,true,true,true,false,false] rfl rfl (any_of HT_.out (by kernel_rfl)) (fun _ _ _ h=>h) (Or.inl ⟨by rfl,?_⟩) ?_ ?_
   rotate_left
   ·intro w';go_simp;with_reducible rfl
   rotate_left
   ·simp only [Act.put,zqA,zqB,zqC,i64_w,i32_w];rfl
   refine one_ (i:=8) (N:=some 7) #[true,true,true,true,true,true,true,true,true,false] rfl rfl (one_of HT_.out (by kernel_rfl)) (by decide) (fun K hK=>?_)
   refine box_step ?hg (N:=7) ?hd (cs:=#[.int .i64 0,.string (⟨#[]⟩:ByteArray),.int .i64 0,.slice none 0 0,.slice none 0 0]) (t:=48) ?hr ?_;(case hd=>rfl);(case hg=>rfl);(case hr=>first|(go_simp;done)|(go_simp;rfl))
   intro gb86 hg w12 hbox hb
   have n0_:=Aside0.mk (Kd.R_below (by (with_reducible repeat (first|apply Kd.R_alloc|apply Kd.R_drewN|apply Kd.R_drew));exact HO97.out) hb)
   have n1_:=Aside0.mk (blk_below (g:=gb87) (o:=.cells #[.int .i64 a0_0,.string a0_1,.int .i64 a0_2,.slice A0_3 l0_3.length c0_3,.slice A0_4 l0_4.length c0_4] 48 (0,0)) (by (with_reducible repeat (first|refine blk_drewN ?_ _|refine blk_drew ?_|refine blk_alloc ?_ _));exact BK87.out) hb)
   have n2_:=Aside0.mk (blk_below (g:=gb88) (o:=.cells #[.int .i64 0,.string (⟨#[]⟩:ByteArray),.int .i64 0,.slice none 0 0,.slice none 0 0] 48 (0,0)) (by (with_reducible repeat (first|refine blk_drewN ?_ _|refine blk_drew ?_|refine blk_alloc ?_ _));exact BK88.out) hb)
   have n3_:=Aside0.mk (below_step (by repeat (first|(with_reducible first|exact HB.out|apply below_alloc|apply pw_below_drewN|apply below_drew1|refine below_set ?_ GE87.out|refine below_set ?_ GE88.out)|exact HB.out)) hb)
   have n4_:=Aside0.mk (hbox)
   have n5_:=Aside0.mk ((by rw [hg];exact (below_size (by repeat (first|(with_reducible first|exact HB.out|apply below_alloc|apply pw_below_drewN|apply below_drew1|refine below_set ?_ GE87.out|refine below_set ?_ GE88.out)|exact HB.out))):w.heap.size ≤ gb86))
   have n6_:=Aside0.mk ((by rw [hg];exact (below_size (by repeat (first|(with_reducible first|exact HB.out|apply below_alloc|apply pw_below_drewN|apply below_drew1|refine below_set ?_ GE87.out|refine below_set ?_ GE88.out)|exact HB.out))):w.heap.size ≤ gb86))
   have n7_:=Aside0.mk ((by rw [hg];exact Nat.ne_of_lt (blk_lt (g:=gb87) (o:=.cells #[.int .i64 a0_0,.string a0_1,.int .i64 a0_2,.slice A0_3 l0_3.length c0_3,.slice A0_4 l0_4.length c0_4] 48 (0,0)) (by (with_reducible repeat (first|refine blk_drewN ?_ _|refine blk_drew ?_|refine blk_alloc ?_ _));exact BK87.out)):gb87 ≠ gb86))
   have n8_:=Aside0.mk ((by rw [hg];exact Nat.ne_of_gt (blk_lt (g:=gb87) (o:=.cells #[.int .i64 a0_0,.string a0_1,.int .i64 a0_2,.slice A0_3 l0_3.length c0_3,.slice A0_4 l0_4.length c0_4] 48 (0,0)) (by (with_reducible repeat (first|refine blk_drewN ?_ _|refine blk_drew ?_|refine blk_alloc ?_ _));exact BK87.out)):gb86 ≠ gb87))
   have n9_:=Aside0.mk ((by rw [hg];exact Nat.ne_of_lt (blk_lt (g:=gb88) (o:=.cells #[.int .i64 0,.string (⟨#[]⟩:ByteArray),.int .i64 0,.slice none 0 0,.slice none 0 0] 48 (0,0)) (by (with_reducible repeat (first|refine blk_drewN ?_ _|refine blk_drew ?_|refine blk_alloc ?_ _));exact BK88.out)):gb88 ≠ gb86))
   have n10_:=Aside0.mk ((by rw [hg];exact Nat.ne_of_gt (blk_lt (g:=gb88) (o:=.cells #[.int .i64 0,.string (⟨#[]⟩:ByteArray),.int .i64 0,.slice none 0 0,.slice none 0 0] 48 (0,0)) (by (with_reducible repeat (first|refine blk_drewN ?_ _|refine blk_drew ?_|refine blk_alloc ?_ _));exact BK88.out)):gb86 ≠ gb88))
   clear HO97 BK87 BK88 HB
   have HO97:=n0_
   have BK87:=n1_
   have BK88:=n2_
   have HB:=n3_
   have BK86:=n4_
   have GW86:=n5_
   have GE86:=n6_
   have NB87_396:=n7_
   have NB86_391:=n8_
   have NB88_396:=n9_
   have NB86_392:=n10_
   clear n0_ n1_ n2_ n3_ n4_ n5_ n6_ n7_ n8_ n9_ n10_ hb hbox hg
   refine hK.out _ _ ⟨(blk_cell BK87.out 0).trans rfl,(blk_cell BK87.out 1).trans rfl,(blk_cell BK87.out 2).trans rfl,(blk_cell BK87.out 3).trans rfl,(blk_cell BK87.out 4).trans rfl⟩ (fun hHeld=>?_)
   clear hK K
   refine norm_ (a' := ?_) ?_ ?_
   rotate_left
   ·show Act.put _ (some 7) _=_
    simp only [Act.put,zqA,zqB,zqC,i64_w,i32_w]
    rfl
   exact norm_ (by simp only [putAll,Act.put,zqA,zqB,zqC]) (hCont (.slice Ao11 t90.length co11,gb86) _ ⟨hHeld,(by (with_reducible repeat (first|apply Kd.R_alloc|apply Kd.R_drewN|apply Kd.R_drew));exact HO97.out),(by (with_reducible repeat (first|refine blk_drewN ?_ _|refine blk_drew ?_|refine blk_alloc ?_ _));exact BK87.out),(by (with_reducible repeat (first|refine blk_drewN ?_ _|refine blk_drew ?_|refine blk_alloc ?_ _));exact BK88.out),(by (with_reducible repeat (first|refine blk_drewN ?_ _|refine blk_drew ?_|refine blk_alloc ?_ _));exact BK86.out),GW86.out,GE86.out,NB87_396.out,NB86_391.out,NB88_396.out,NB86_392.out,(by repeat (first|(with_reducible first|exact HB.out|apply below_alloc|apply pw_below_drewN|apply below_drew1|refine below_set ?_ GE87.out|refine below_set ?_ GE88.out|refine below_set ?_ GE86.out)|exact HB.out))⟩)
  ·skip
   refine box_step ?hg (N:=7) ?hd (cs:=#[.int .i64 0,.string (⟨#[]⟩:ByteArray),.int .i64 0,.slice none 0 0,.slice none 0 0]) (t:=48) ?hr ?_;(case hd=>rfl);(case hg=>rfl);(case hr=>first|(go_simp;done)|(go_simp;rfl))
   intro gb86 hg w10 hbox hb
   have n0_:=Aside0.mk (blk_below (g:=gb87) (o:=.cells #[.int .i64 a0_0,.string a0_1,.int .i64 a0_2,.slice A0_3 l0_3.length c0_3,.slice A0_4 l0_4.length c0_4] 48 (0,0)) (by (with_reducible repeat (first|refine blk_drewN ?_ _|refine blk_drew ?_|refine blk_alloc ?_ _));exact BK87.out) hb)
   have n1_:=Aside0.mk (blk_below (g:=gb88) (o:=.cells #[.int .i64 0,.string (⟨#[]⟩:ByteArray),.int .i64 0,.slice none 0 0,.slice none 0 0] 48 (0,0)) (by (with_reducible repeat (first|refine blk_drewN ?_ _|refine blk_drew ?_|refine blk_alloc ?_ _));exact BK88.out) hb)
   have n2_:=Aside0.mk (below_step (by repeat (first|(with_reducible first|exact HB.out|apply below_alloc|apply pw_below_drewN|apply below_drew1|refine below_set ?_ GE87.out|refine below_set ?_ GE88.out)|exact HB.out)) hb)
   have n3_:=Aside0.mk (hbox)
   have n4_:=Aside0.mk ((by rw [hg];exact (below_size (by repeat (first|(with_reducible first|exact HB.out|apply below_alloc|apply pw_below_drewN|apply below_drew1|refine below_set ?_ GE87.out|refine below_set ?_ GE88.out)|exact HB.out))):w.heap.size ≤ gb86))
   have n5_:=Aside0.mk ((by rw [hg];exact (below_size (by repeat (first|(with_reducible first|exact HB.out|apply below_alloc|apply pw_below_drewN|apply below_drew1|refine below_set ?_ GE87.out|refine below_set ?_ GE88.out)|exact HB.out))):w.heap.size ≤ gb86))
   have n6_:=Aside0.mk ((by rw [hg];exact Nat.ne_of_lt (blk_lt (g:=gb87) (o:=.cells #[.int .i64 a0_0,.string a0_1,.int .i64 a0_2,.slice A0_3 l0_3.length c0_3,.slice A0_4 l0_4.length c0_4] 48 (0,0)) (by (with_reducible repeat (first|refine blk_drewN ?_ _|refine blk_drew ?_|refine blk_alloc ?_ _));exact BK87.out)):gb87 ≠ gb86))
   have n7_:=Aside0.mk ((by rw [hg];exact Nat.ne_of_gt (blk_lt (g:=gb87) (o:=.cells #[.int .i64 a0_0,.string a0_1,.int .i64 a0_2,.slice A0_3 l0_3.length c0_3,.slice A0_4 l0_4.length c0_4] 48 (0,0)) (by (with_reducible repeat (first|refine blk_drewN ?_ _|refine blk_drew ?_|refine blk_alloc ?_ _));exact BK87.out)):gb86 ≠ gb87))
   have n8_:=Aside0.mk ((by rw [hg];exact Nat.ne_of_lt (blk_lt (g:=gb88) (o:=.cells #[.int .i64 0,.string (⟨#[]⟩:ByteArray),.int .i64 0,.slice none 0 0,.slice none 0 0] 48 (0,0)) (by (with_reducible repeat (first|refine blk_drewN ?_ _|refine blk_drew ?_|refine blk_alloc ?_ _));exact BK88.out)):gb88 ≠ gb86))
   have n9_:=Aside0.mk ((by rw [hg];exact Nat.ne_of_gt (blk_lt (g:=gb88) (o:=.cells #[.int .i64 0,.string (⟨#[]⟩:ByteArray),.int .i64 0,.slice none 0 0,.slice none 0 0] 48 (0,0)) (by (with_reducible repeat (first|refine blk_drewN ?_ _|refine blk_drew ?_|refine blk_alloc ?_ _));exact BK88.out)):gb86 ≠ gb88))
   clear BK87 BK88 HB
   have BK87:=n0_
   have BK88:=n1_
   have HB:=n2_
   have BK86:=n3_
   have GW86:=n4_
   have GE86:=n5_
   have NB87_396:=n6_
   have NB86_391:=n7_
   have NB88_396:=n8_
   have NB86_392:=n9_
   clear n0_ n1_ n2_ n3_ n4_ n5_ n6_ n7_ n8_ n9_ hb hbox hg
   refine hK.out _ _ ⟨(blk_cell BK87.out 0).trans rfl,(blk_cell BK87.out 1).trans rfl,(blk_cell BK87.out 2).trans rfl,(blk_cell BK87.out 3).trans rfl,(blk_cell BK87.out 4).trans rfl⟩ (fun hHeld=>?_)
   clear hK K
   refine norm_ (a' := ?_) ?_ ?_
   rotate_left
   ·show Act.put _ (some 7) _=_
    simp only [Act.put,zqA,zqB,zqC,i64_w,i32_w]
    rfl
   refine one_ (i:=6) (N:=some 17) #[true,true,true,true,true,true,true,false,true,false] rfl rfl (one_of HT_.out (by kernel_rfl)) (by decide) (fun K hK=>?_)
   refine goes_ Tryd.func37 (by kernel_rfl) rfl #[.slice A0_3 l0_3.length c0_3] (by rfl) rfl rfl (by (try simp only [List.map_toArray,List.map_cons,List.map_nil]);first|done|rfl|(simp only [List.length_drop,List.length_take];rfl)) ?_
   with_reducible refine (scrub_onward.calls k _ _ l0_3 t90 _ ?side1 ?side2 A4.out).mono ?_
   (case side1=>repeat (first|exact (Kd.C_below HR0_3.out HB.out)|(with_reducible refine Kd.C_alloc ?_ _)|(with_reducible refine Kd.C_drewN ?_ _)|(with_reducible refine Kd.C_drew ?_)))
   (case side2=>exact HC0_3.out)
   rintro e w11 ⟨v394,rfl,ho0,hb⟩
   refine ⟨_,rfl,?_⟩
   have n0_:=Aside0.mk (Kd.R_lower ho0 (below_size (by repeat (first|(with_reducible first|exact HB.out|apply below_alloc|apply pw_below_drewN|apply below_drew1|refine below_set ?_ GE87.out|refine below_set ?_ GE88.out|refine below_set ?_ GE86.out)|exact HB.out))))
   have n1_:=Aside0.mk (blk_below (g:=gb87) (o:=.cells #[.int .i64 a0_0,.string a0_1,.int .i64 a0_2,.slice A0_3 l0_3.length c0_3,.slice A0_4 l0_4.length c0_4] 48 (0,0)) (by (with_reducible repeat (first|refine blk_drewN ?_ _|refine blk_drew ?_|refine blk_alloc ?_ _));exact BK87.out) hb)
   have n2_:=Aside0.mk (blk_below (g:=gb88) (o:=.cells #[.int .i64 0,.string (⟨#[]⟩:ByteArray),.int .i64 0,.slice none 0 0,.slice none 0 0] 48 (0,0)) (by (with_reducible repeat (first|refine blk_drewN ?_ _|refine blk_drew ?_|refine blk_alloc ?_ _));exact BK88.out) hb)
   have n3_:=Aside0.mk (blk_below (g:=gb86) (o:=.cells #[.int .i64 0,.string (⟨#[]⟩:ByteArray),.int .i64 0,.slice none 0 0,.slice none 0 0] 48 (0,0)) (by (with_reducible repeat (first|refine blk_drewN ?_ _|refine blk_drew ?_|refine blk_alloc ?_ _));exact BK86.out) hb)
   have n4_:=Aside0.mk (below_step (by repeat (first|(with_reducible first|exact HB.out|apply below_alloc|apply pw_below_drewN|apply below_drew1|refine below_set ?_ GE87.out|refine below_set ?_ GE88.out|refine below_set ?_ GE86.out)|exact HB.out)) hb)
   clear BK87 BK88 BK86 HB
   have HO97:=n0_
   have BK87:=n1_
   have BK88:=n2_
   have BK86:=n3_
   have HB:=n4_
   clear n0_ n1_ n2_ n3_ n4_
   (try clear hb)
   (try clear hb2)
   (try clear hk)
   (try clear hi)
   (try clear ho0)
   obtain ⟨Ao12,co12,eo12⟩:=Kd.R_slice HO97.out
   (first|subst eo12|(injection eo12 with f1_ f2_ f3_;have f4_:=f1_.symm;have f5_:=f3_.symm;clear f1_ f2_ f3_;subst f4_;subst f5_))
   refine hK.out _ _ ⟨(blk_cell BK87.out 0).trans rfl,(blk_cell BK87.out 1).trans rfl,(blk_cell BK87.out 2).trans rfl,(blk_cell BK87.out 3).trans rfl,(blk_cell BK87.out 4).trans rfl⟩ (fun hHeld=>?_)
   clear hK K
   refine norm_ (a' := ?_) ?_ ?_
   rotate_left
   ·show Act.put _ (some 17) _=_
    simp only [Act.put,zqA,zqB,zqC,i64_w,i32_w]
    rfl
   refine pure_ (i:=7) (N:=some 18) (v:=?_) (a' := ?_) #[true,true,true,true,true,true,true,true,true,false] rfl rfl (any_of HT_.out (by kernel_rfl)) (fun _ _ _ h=>h) (Or.inl ⟨by rfl,?_⟩) ?_ ?_
   rotate_left
   ·intro w';go_simp;with_reducible rfl
   rotate_left
   ·simp only [Act.put,zqA,zqB,zqC,i64_w,i32_w];rfl
   exact norm_ (by simp only [putAll,Act.put,zqA,zqB,zqC]) (hCont (.slice Ao12 t90.length co12,gb86) _ ⟨hHeld,(by (with_reducible repeat (first|apply Kd.R_alloc|apply Kd.R_drewN|apply Kd.R_drew));exact HO97.out),(by (with_reducible repeat (first|refine blk_drewN ?_ _|refine blk_drew ?_|refine blk_alloc ?_ _));exact BK87.out),(by (with_reducible repeat (first|refine blk_drewN ?_ _|refine blk_drew ?_|refine blk_alloc ?_ _));exact BK88.out),(by (with_reducible repeat (first|refine blk_drewN ?_ _|refine blk_drew ?_|refine blk_alloc ?_ _));exact BK86.out),GW86.out,GE86.out,NB87_396.out,NB86_391.out,NB88_396.out,NB86_392.out,(by repeat (first|(with_reducible first|exact HB.out|apply below_alloc|apply pw_below_drewN|apply below_drew1|refine below_set ?_ GE87.out|refine below_set ?_ GE88.out|refine below_set ?_ GE86.out)|exact HB.out))⟩)
 rintro ⟨v394,gb86⟩ w13 ⟨hS_,h0_,h1_,h2_,h3_,h4_,h5_,h6_,h7_,h8_,h9_,h10_⟩
 have n0_:Aside0 (Kd.R k41 41 w13 w.heap.size (fun _=>True) v394 t90):=⟨h0_⟩
 have n1_:Aside0 (w13.heap[gb87]? = some (.cells #[.int .i64 a0_0,.string a0_1,.int .i64 a0_2,.slice A0_3 l0_3.length c0_3,.slice A0_4 l0_4.length c0_4] 48 (0,0))):=⟨h1_⟩
 have n2_:Aside0 (w13.heap[gb88]? = some (.cells #[.int .i64 0,.string (⟨#[]⟩:ByteArray),.int .i64 0,.slice none 0 0,.slice none 0 0] 48 (0,0))):=⟨h2_⟩
 have n3_:Aside0 (w13.heap[gb86]? = some (.cells #[.int .i64 0,.string (⟨#[]⟩:ByteArray),.int .i64 0,.slice none 0 0,.slice none 0 0] 48 (0,0))):=⟨h3_⟩
 have n4_:Aside0 (w.heap.size ≤ gb86):=⟨h4_⟩
 have n5_:Aside0 (w.heap.size ≤ gb86):=⟨h5_⟩
 have n6_:Aside0 (gb87 ≠ gb86):=⟨h6_⟩
 have n7_:Aside0 (gb86 ≠ gb87):=⟨h7_⟩
 have n8_:Aside0 (gb88 ≠ gb86):=⟨h8_⟩
 have n9_:Aside0 (gb86 ≠ gb88):=⟨h9_⟩
 have n10_:Aside0 (Below w.heap.size w w13):=⟨h10_⟩
 clear BK87 BK88 HB h0_ h1_ h2_ h3_ h4_ h5_ h6_ h7_ h8_ h9_ h10_
 have HO97:=n0_
 have BK87:=n1_
 have BK88:=n2_
 have BK86:=n3_
 have GW86:=n4_
 have GE86:=n5_
 have NB87_396:=n6_
 have NB86_391:=n7_
 have NB88_396:=n8_
 have NB86_392:=n9_
 have HB:=n10_
 clear n0_ n1_ n2_ n3_ n4_ n5_ n6_ n7_ n8_ n9_ n10_
 have hHeld:w13.cell? ⟨gb87,0,none⟩=some (.int .i64 a0_0)∧w13.cell? ⟨gb87,1,none⟩=some (.string a0_1)∧w13.cell? ⟨gb87,2,none⟩=some (.int .i64 a0_2)∧w13.cell? ⟨gb87,3,none⟩=some (.slice A0_3 l0_3.length c0_3)∧w13.cell? ⟨gb87,4,none⟩=some (.slice A0_4 l0_4.length c0_4):=hS_
 obtain ⟨Ao14,co14,eo14⟩:=Kd.R_slice HO97.out
 (first|subst eo14|(injection eo14 with f1_ f2_ f3_;have f4_:=f1_.symm;have f5_:=f3_.symm;clear f1_ f2_ f3_;subst f4_;subst f5_))
 refine norm_ (a' := ?_) ?_ ?_
 rotate_left
 ·simp only [putAll,Act.put,zqA,zqB,zqC];rfl
 refine one_ (i:=9) (N:=none) #[true,true,true,true,true,true,true,true,true,true] rfl rfl (one_of HT_.out (by kernel_rfl)) (by decide) (fun K hK=>?_)
 have hs15:w13.cell? ⟨gb86,0,none⟩=some (.int .i64 0):=(blk_cell BK86.out 0).trans rfl
 have hfs15:=blk_frozen BK86.out 0
 have hns15_0:=NB87_396.out
 have hns15_1:=NB88_396.out
 have hms15_0:=NB86_391.out
 have hms15_1:=NB86_392.out
 have hs16:w13.cell? ⟨gb86,1,none⟩=some (.string (⟨#[]⟩:ByteArray)):=(blk_cell BK86.out 1).trans rfl
 have hfs16:=blk_frozen BK86.out 1
 have hns16_0:=NB87_396.out
 have hns16_1:=NB88_396.out
 have hms16_0:=NB86_391.out
 have hms16_1:=NB86_392.out
 have hs17:w13.cell? ⟨gb86,2,none⟩=some (.int .i64 0):=(blk_cell BK86.out 2).trans rfl
 have hfs17:=blk_frozen BK86.out 2
 have hns17_0:=NB87_396.out
 have hns17_1:=NB88_396.out
 have hms17_0:=NB86_391.out
 have hms17_1:=NB86_392.out
 have hs18:w13.cell? ⟨gb86,3,none⟩=some (.slice none 0 0):=(blk_cell BK86.out 3).trans rfl
 have hfs18:=blk_frozen BK86.out 3
 have hns18_0:=NB87_396.out
 have hns18_1:=NB88_396.out
 have hms18_0:=NB86_391.out
 have hms18_1:=NB86_392.out
 have hs19:w13.cell? ⟨gb86,4,none⟩=some (.slice none 0 0):=(blk_cell BK86.out 4).trans rfl
 have hfs19:=blk_frozen BK86.out 4
 have hns19_0:=NB87_396.out
 have hns19_1:=NB88_396.out
 have hms19_0:=NB86_391.out
 have hms19_1:=NB86_392.out
 refine skip_ (w1:=?_) (by rfl) rfl ?_ ?_
 rotate_left
 ·go_simp
  rfl
 refine hK.out _ _ ⟨((cell_far (p:=⟨gb86,_,none⟩) NB87_396.out _).trans (((cell_far (p:=⟨gb86,_,none⟩) NB87_396.out _).trans (((cell_far (p:=⟨gb86,_,none⟩) NB87_396.out _).trans (((cell_far (p:=⟨gb86,_,none⟩) NB87_396.out _).trans (((cell_far (p:=⟨gb86,_,none⟩) NB87_396.out _).trans (hHeld.1)))))))))),((cell_far (p:=⟨gb86,_,none⟩) NB87_396.out _).trans (((cell_far (p:=⟨gb86,_,none⟩) NB87_396.out _).trans (((cell_far (p:=⟨gb86,_,none⟩) NB87_396.out _).trans (((cell_far (p:=⟨gb86,_,none⟩) NB87_396.out _).trans (((cell_far (p:=⟨gb86,_,none⟩) NB87_396.out _).trans (hHeld.2.1)))))))))),((cell_far (p:=⟨gb86,_,none⟩) NB87_396.out _).trans (((cell_far (p:=⟨gb86,_,none⟩) NB87_396.out _).trans (((cell_far (p:=⟨gb86,_,none⟩) NB87_396.out _).trans (((cell_far (p:=⟨gb86,_,none⟩) NB87_396.out _).trans (((cell_far (p:=⟨gb86,_,none⟩) NB87_396.out _).trans (hHeld.2.2.1)))))))))),((cell_far (p:=⟨gb86,_,none⟩) NB87_396.out _).trans (((cell_far (p:=⟨gb86,_,none⟩) NB87_396.out _).trans (((cell_far (p:=⟨gb86,_,none⟩) NB87_396.out _).trans (((cell_far (p:=⟨gb86,_,none⟩) NB87_396.out _).trans (((cell_far (p:=⟨gb86,_,none⟩) NB87_396.out _).trans (hHeld.2.2.2.1)))))))))),((cell_far (p:=⟨gb86,_,none⟩) NB87_396.out _).trans (((cell_far (p:=⟨gb86,_,none⟩) NB87_396.out _).trans (((cell_far (p:=⟨gb86,_,none⟩) NB87_396.out _).trans (((cell_far (p:=⟨gb86,_,none⟩) NB87_396.out _).trans (((cell_far (p:=⟨gb86,_,none⟩) NB87_396.out _).trans (hHeld.2.2.2.2))))))))))⟩ (fun hHeld=>?_)
 clear hK K
 refine done_ (done_of HT_.out (by kernel_rfl)) ?_
 have hnb20:=NB87_392.out
 have hnc20:=NB88_391.out
 have hnb21:=NB87_396.out
 have hnc21:=NB86_391.out
 have hcz22_0:w13.cell? ⟨gb87,0,none⟩=some (.int .i64 a0_0):=(blk_cell BK87.out 0).trans rfl
 have hcz22_1:w13.cell? ⟨gb87,1,none⟩=some (.string a0_1):=(blk_cell BK87.out 1).trans rfl
 have hcz22_2:w13.cell? ⟨gb87,2,none⟩=some (.int .i64 a0_2):=(blk_cell BK87.out 2).trans rfl
 have hcz22_3:w13.cell? ⟨gb87,3,none⟩=some (.slice A0_3 l0_3.length c0_3):=(blk_cell BK87.out 3).trans rfl
 have hcz22_4:w13.cell? ⟨gb87,4,none⟩=some (.slice A0_4 l0_4.length c0_4):=(blk_cell BK87.out 4).trans rfl
 have hfz22_0:=blk_frozen BK87.out 0
 have hfz22_1:=blk_frozen BK87.out 1
 have hfz22_2:=blk_frozen BK87.out 2
 have hfz22_3:=blk_frozen BK87.out 3
 have hfz22_4:=blk_frozen BK87.out 4
 go_upto_region 3 with (first|((with_reducible refine gate_callee (f:=47) rfl ?_);refine goesL_ (some 22) rfl rfl Tryd.func47 (by kernel_rfl) rfl #[.string a1,.agg #[.int .i64 a0_0,.string a0_1,.int .i64 a0_2,.slice A0_3 l0_3.length c0_3,.slice A0_4 l0_4.length c0_4]] rfl (by (try simp only [List.map_toArray,List.map_cons,List.map_nil]);first|done|rfl|(simp only [List.length_drop,List.length_take];rfl)) ?_;(with_reducible refine (frame_Response.calls k a1 a0_0 a0_1 a0_2 _ _ l0_3 _ _ l0_4 t397 t398 t399 _ ?side1 ?side2 ?side3 ?side4 A5.out).mono ?_);(case side1=>exact Kd.C_below HR0_3.out (by repeat (first|(with_reducible first|exact HB.out|apply below_alloc|apply pw_below_drewN|apply below_drew1|refine below_set ?_ GE87.out|refine below_set ?_ GE88.out|refine below_set ?_ GE86.out)|exact HB.out)));(case side2=>exact HC0_3.out);(case side3=>exact Kd.C_below HR0_4.out (by repeat (first|(with_reducible first|exact HB.out|apply below_alloc|apply pw_below_drewN|apply below_drew1|refine below_set ?_ GE87.out|refine below_set ?_ GE88.out|refine below_set ?_ GE86.out)|exact HB.out)));(case side4=>exact HC0_4.out);rintro e w23 ⟨rfl,hb⟩;refine ⟨_,rfl,?_⟩;have n0_:=Aside0.mk (Kd.R_below (by (with_reducible repeat (first|apply Kd.R_alloc|apply Kd.R_drewN|apply Kd.R_drew));exact (Kd.R_mono (Kd.R_far (p:=⟨gb86,4,none⟩) (Kd.R_far (p:=⟨gb86,3,none⟩) (Kd.R_far (p:=⟨gb86,2,none⟩) (Kd.R_far (p:=⟨gb86,1,none⟩) (Kd.R_far (p:=⟨gb86,0,none⟩) (Kd.R_types HO97.out BK86.out (by decide)) (fun _ hk=>hk.2) (.int .i64 a0_0)) (fun _ hk=>hk.2) (.string a0_1)) (fun _ hk=>hk.2) (.int .i64 1)) (fun _ hk=>hk.2) (.slice Ao14 t90.length co14)) (fun _ hk=>hk.2) (.slice none 0 0)) (fun _ h_=>h_.1))) hb);have n1_:=Aside0.mk (blk_below (g:=gb87) (o:=.cells #[.int .i64 a0_0,.string a0_1,.int .i64 a0_2,.slice A0_3 l0_3.length c0_3,.slice A0_4 l0_4.length c0_4] 48 (0,0)) (by (with_reducible repeat (first|refine blk_drewN ?_ _|refine blk_drew ?_|refine blk_alloc ?_ _));refine blk_far ?_ NB87_396.out _;(with_reducible repeat (first|refine blk_drewN ?_ _|refine blk_drew ?_|refine blk_alloc ?_ _));refine blk_far ?_ NB87_396.out _;(with_reducible repeat (first|refine blk_drewN ?_ _|refine blk_drew ?_|refine blk_alloc ?_ _));refine blk_far ?_ NB87_396.out _;(with_reducible repeat (first|refine blk_drewN ?_ _|refine blk_drew ?_|refine blk_alloc ?_ _));refine blk_far ?_ NB87_396.out _;(with_reducible repeat (first|refine blk_drewN ?_ _|refine blk_drew ?_|refine blk_alloc ?_ _));refine blk_far ?_ NB87_396.out _;(with_reducible repeat (first|refine blk_drewN ?_ _|refine blk_drew ?_|refine blk_alloc ?_ _));exact BK87.out) hb);have n2_:=Aside0.mk (blk_below (g:=gb88) (o:=.cells #[.int .i64 0,.string (⟨#[]⟩:ByteArray),.int .i64 0,.slice none 0 0,.slice none 0 0] 48 (0,0)) (by (with_reducible repeat (first|refine blk_drewN ?_ _|refine blk_drew ?_|refine blk_alloc ?_ _));refine blk_far ?_ NB88_396.out _;(with_reducible repeat (first|refine blk_drewN ?_ _|refine blk_drew ?_|refine blk_alloc ?_ _));refine blk_far ?_ NB88_396.out _;(with_reducible repeat (first|refine blk_drewN ?_ _|refine blk_drew ?_|refine blk_alloc ?_ _));refine blk_far ?_ NB88_396.out _;(with_reducible repeat (first|refine blk_drewN ?_ _|refine blk_drew ?_|refine blk_alloc ?_ _));refine blk_far ?_ NB88_396.out _;(with_reducible repeat (first|refine blk_drewN ?_ _|refine blk_drew ?_|refine blk_alloc ?_ _));refine blk_far ?_ NB88_396.out _;(with_reducible repeat (first|refine blk_drewN ?_ _|refine blk_drew ?_|refine blk_alloc ?_ _));exact BK88.out) hb);have n3_:=Aside0.mk (blk_below (g:=gb86) (o:=.cells #[.int .i64 a0_0,.string a0_1,.int .i64 1,.slice Ao14 t90.length co14,.slice none 0 0] 48 (0,0)) (by (with_reducible repeat (first|refine blk_drewN ?_ _|refine blk_drew ?_|refine blk_alloc ?_ _));refine blk_put (cs:=#[.int .i64 a0_0,.string a0_1,.int .i64 1,.slice Ao14 t90.length co14,.slice none 0 0]) ?_ 4 _ rfl;(with_reducible repeat (first|refine blk_drewN ?_ _|refine blk_drew ?_|refine blk_alloc ?_ _));refine blk_put (cs:=#[.int .i64 a0_0,.string a0_1,.int .i64 1,.slice none 0 0,.slice none 0 0]) ?_ 3 _ rfl;(with_reducible repeat (first|refine blk_drewN ?_ _|refine blk_drew ?_|refine blk_alloc ?_ _));refine blk_put (cs:=#[.int .i64 a0_0,.string a0_1,.int .i64 0,.slice none 0 0,.slice none 0 0]) ?_ 2 _ rfl;(with_reducible repeat (first|refine blk_drewN ?_ _|refine blk_drew ?_|refine blk_alloc ?_ _));refine blk_put (cs:=#[.int .i64 a0_0,.string (⟨#[]⟩:ByteArray),.int .i64 0,.slice none 0 0,.slice none 0 0]) ?_ 1 _ rfl;(with_reducible repeat (first|refine blk_drewN ?_ _|refine blk_drew ?_|refine blk_alloc ?_ _));refine blk_put (cs:=#[.int .i64 0,.string (⟨#[]⟩:ByteArray),.int .i64 0,.slice none 0 0,.slice none 0 0]) ?_ 0 _ rfl;(with_reducible repeat (first|refine blk_drewN ?_ _|refine blk_drew ?_|refine blk_alloc ?_ _));exact BK86.out) hb);have n4_:=Aside0.mk (below_step (by repeat (first|(with_reducible first|exact HB.out|apply below_alloc|apply pw_below_drewN|apply below_drew1|refine below_set ?_ GE87.out|refine below_set ?_ GE88.out|refine below_set ?_ GE86.out)|exact HB.out)) hb);clear HO97;clear BK87;clear BK88;clear BK86;clear HB;have HO97:=n0_;have BK87:=n1_;have BK88:=n2_;have BK86:=n3_;have HB:=n4_;clear n0_ n1_ n2_ n3_ n4_;(try clear hb);(try clear hb2);(try clear hk);(try clear hi)))
 (try simp only [Act.put,zqA,zqB,zqC])
 go_cut [31] (fun v31 wc => ∃ (kq:Nat) (x31_5:Bool),v31 = .bool x31_5∧Aside0 (scrub_Response.j0 kq a2 x31_5 a0_0 a0_1 a0_2 l0_3 l0_4 a0_0 a0_1 1 t90=some (r1,r2,r3,r4,r5))∧Aside0 (kq ≤ k)∧Aside0 (Kd.R k41 41 wc w.heap.size (fun _=>True) (.slice Ao14 t90.length co14) t90)∧Aside0 (wc.heap[gb87]? = some (.cells #[.int .i64 a0_0,.string a0_1,.int .i64 a0_2,(.slice A0_3 l0_3.length c0_3),(.slice A0_4 l0_4.length c0_4)] 48 (0,0)))∧Aside0 (wc.heap[gb88]? = some (.cells #[.int .i64 0,.string (⟨#[]⟩:ByteArray),.int .i64 0,(.slice none 0 0),(.slice none 0 0)] 48 (0,0)))∧Aside0 (wc.heap[gb86]? = some (.cells #[.int .i64 a0_0,.string a0_1,.int .i64 1,(.slice Ao14 t90.length co14),(.slice none 0 0)] 48 (0,0)))∧Aside0 (Below w.heap.size w wc))
 case first =>
  have H:=HC6.out
  clear HC6
  by_cases c24:t399=true
  ·subst c24
   have H1:(scrub_Response.j0 k a2 (t397 != 0) a0_0 a0_1 a0_2 l0_3 l0_4 a0_0 a0_1 1 t90)=some (r1,r2,r3,r4,r5):=by rw [if_pos rfl] at H;exact H
   clear H
   have H:=H1
   clear H1
   have H' := Aside0.mk H
   clear H
   go_wp2
   go_meet
   case rel=>exact ⟨_,((t397 != 0)),(by first|rfl|(simp;done)|(simp [*];done)),H',⟨by first|omega|exact Nat.le_refl _⟩,⟨by (with_reducible repeat (first|apply Kd.R_alloc|apply Kd.R_drewN|apply Kd.R_drew));exact HO97.out⟩,⟨by (with_reducible repeat (first|refine blk_drewN ?_ _|refine blk_drew ?_|refine blk_alloc ?_ _));exact BK87.out⟩,⟨by (with_reducible repeat (first|refine blk_drewN ?_ _|refine blk_drew ?_|refine blk_alloc ?_ _));exact BK88.out⟩,⟨by (with_reducible repeat (first|refine blk_drewN ?_ _|refine blk_drew ?_|refine blk_alloc ?_ _));exact BK86.out⟩,⟨by repeat (first|(with_reducible first|exact HB.out|apply below_alloc|apply pw_below_drewN|apply below_drew1|refine below_set ?_ GE87.out|refine below_set ?_ GE88.out|refine below_set ?_ GE86.out)|exact HB.out)⟩⟩
  ·replace c24:=Bool.eq_false_iff.mpr c24
   subst c24
   have H1:(scrub_Response.j0 k a2 true a0_0 a0_1 a0_2 l0_3 l0_4 a0_0 a0_1 1 t90)=some (r1,r2,r3,r4,r5):=by rw [if_neg (show ¬ (false=true) by decide)] at H;exact H
   clear H
   have H:=H1
   clear H1
   have H' := Aside0.mk H
   clear H
   go_wp2
   go_meet
   case rel=>exact ⟨_,(true),(by first|rfl|(simp;done)|(simp [*];done)),H',⟨by first|omega|exact Nat.le_refl _⟩,⟨by (with_reducible repeat (first|apply Kd.R_alloc|apply Kd.R_drewN|apply Kd.R_drew));exact HO97.out⟩,⟨by (with_reducible repeat (first|refine blk_drewN ?_ _|refine blk_drew ?_|refine blk_alloc ?_ _));exact BK87.out⟩,⟨by (with_reducible repeat (first|refine blk_drewN ?_ _|refine blk_drew ?_|refine blk_alloc ?_ _));exact BK88.out⟩,⟨by (with_reducible repeat (first|refine blk_drewN ?_ _|refine blk_drew ?_|refine blk_alloc ?_ _));exact BK86.out⟩,⟨by repeat (first|(with_reducible first|exact HB.out|apply below_alloc|apply pw_below_drewN|apply below_drew1|refine below_set ?_ GE87.out|refine below_set ?_ GE88.out|refine below_set ?_ GE86.out)|exact HB.out)⟩⟩
 case rest =>
  clear HC6
  try clear c2
  try clear p2
  try clear c3
  try clear c4
  try clear c20
  try clear c21
  try clear c24
  try clear hcz22_0
  try clear hcz22_1
  try clear hcz22_2
  try clear hcz22_3
  try clear hcz22_4
  try clear hfz22_0
  try clear hfz22_1
  try clear hfz22_2
  try clear hfz22_3
  try clear hfz22_4
  obtain ⟨kq,x31_5,rfl,HA,HJ5,HO_89,BK87,BK88,BK86,HB⟩:=hcut
  cases kq with
  | zero=>exact absurd HA.out (by simp [scrub_Response.j0])
  | succ kj5 =>
   have H:=HA.out
   clear HA
   simp only [scrub_Response.j0] at H
   by_cases c25:x31_5=true
   ·subst c25
    have H1:((bytes_Clone.f l0_4).bind fun t91=>((scrub_length.f (l0_4.length:Int)).bind fun bt96=>(if t90.length < 4398046511104 then ((some (t90 ++ [(⟨bt96.1,bt96.2⟩:S41)]:List (S41))).bind fun y92=>(if a2=true then ((scrub_closing.f).bind fun bt94=>(if y92.length < 4398046511104 then (some (a0_0,a0_1,1,(y92 ++ [(⟨bt94.1,bt94.2⟩:S41)]),t91)) else (none))) else (some (a0_0,a0_1,1,y92,t91)))) else (none))))=some (r1,r2,r3,r4,r5):=by rw [if_pos rfl] at H;exact H
    clear H
    have H:=H1
    clear H1
    replace H:=Option.bind_eq_some_iff.mp H
    obtain ⟨t91,A260,H⟩:=H
    replace H:((scrub_length.f (l0_4.length:Int)).bind fun bt96=>(if t90.length < 4398046511104 then ((some (t90 ++ [(⟨bt96.1,bt96.2⟩:S41)]:List (S41))).bind fun y92=>(if a2=true then ((scrub_closing.f).bind fun bt94=>(if y92.length < 4398046511104 then (some (a0_0,a0_1,1,(y92 ++ [(⟨bt94.1,bt94.2⟩:S41)]),t91)) else (none))) else (some (a0_0,a0_1,1,y92,t91)))) else (none)))=some (r1,r2,r3,r4,r5):=H
    have A26:=Aside0.mk A260
    clear A260
    replace H:=Option.bind_eq_some_iff.mp H
    obtain ⟨⟨t96,t404⟩,A270,H⟩:=H
    replace H:(if t90.length < 4398046511104 then ((some (t90 ++ [(⟨t96,t404⟩:S41)]:List (S41))).bind fun y92=>(if a2=true then ((scrub_closing.f).bind fun bt94=>(if y92.length < 4398046511104 then (some (a0_0,a0_1,1,(y92 ++ [(⟨bt94.1,bt94.2⟩:S41)]),t91)) else (none))) else (some (a0_0,a0_1,1,y92,t91)))) else (none))=some (r1,r2,r3,r4,r5):=H
    have A27:=Aside0.mk A270
    clear A270
    by_cases c28:t90.length < 4398046511104
    ·rw [if_pos c28] at H
     have LMc28:=Aside0.mk c28
     clear c28
     obtain ⟨y92,hy92⟩ : ∃ y_:List (S41),y_=(t90 ++ [(⟨t96,t404⟩:S41)]):=⟨_,rfl⟩
     replace H:(if a2=true then ((scrub_closing.f).bind fun bt94=>(if y92.length < 4398046511104 then (some (a0_0,a0_1,1,(y92 ++ [(⟨bt94.1,bt94.2⟩:S41)]),t91)) else (none))) else (some (a0_0,a0_1,1,y92,t91)))=some (r1,r2,r3,r4,r5):=by first|(rw [hy92];with_reducible exact H)|(have H2_:=(Option.bind_some _ _).symm.trans H;rw [hy92];with_reducible exact H2_)|(have H2_:=(Option.bind_some _ _).symm.trans H;with_reducible exact H2_)|with_reducible exact H|(rw [hy92];exact H)|exact H
     have Ny92:=Aside0.mk hy92
     clear hy92
     by_cases c29:a2=true
     ·subst c29
      have H1:((scrub_closing.f).bind fun bt94=>(if y92.length < 4398046511104 then (some (a0_0,a0_1,1,(y92 ++ [(⟨bt94.1,bt94.2⟩:S41)]),t91)) else (none)))=some (r1,r2,r3,r4,r5):=by rw [if_pos rfl] at H;exact H
      clear H
      have H:=H1
      clear H1
      replace H:=Option.bind_eq_some_iff.mp H
      obtain ⟨⟨t94,t409⟩,A300,H⟩:=H
      replace H:(if y92.length < 4398046511104 then (some (a0_0,a0_1,1,(y92 ++ [(⟨t94,t409⟩:S41)]),t91)) else (none))=some (r1,r2,r3,r4,r5):=H
      have A30:=Aside0.mk A300
      clear A300
      by_cases c31:y92.length < 4398046511104
      ·rw [if_pos c31] at H
       have LMc31:=Aside0.mk c31
       clear c31
       obtain ⟨y98,hy98⟩ : ∃ y_:List (S41),y_=(y92 ++ [(⟨t94,t409⟩:S41)]):=⟨_,rfl⟩
       replace H:(some (a0_0,a0_1,1,y98,t91))=some (r1,r2,r3,r4,r5):=by first|(rw [hy98];with_reducible exact H)|(have H2_:=(Option.bind_some _ _).symm.trans H;rw [hy98];with_reducible exact H2_)|(have H2_:=(Option.bind_some _ _).symm.trans H;with_reducible exact H2_)|with_reducible exact H|(rw [hy98];exact H)|exact H
       have Ny98:=Aside0.mk hy98
       clear hy98
       simp only [Option.some.injEq,Prod.mk.injEq] at H
       obtain ⟨rfl,rfl,rfl,rfl,rfl⟩:=H
       have hnb32:=NB87_392.out
       have hnc32:=NB88_391.out
       have hnb33:=NB87_396.out
       have hnc33:=NB86_391.out
       have hcz34_0:wc.cell? ⟨gb87,0,none⟩=some (.int .i64 a0_0):=(blk_cell BK87.out 0).trans rfl
       have hcz34_1:wc.cell? ⟨gb87,1,none⟩=some (.string a0_1):=(blk_cell BK87.out 1).trans rfl
       have hcz34_2:wc.cell? ⟨gb87,2,none⟩=some (.int .i64 a0_2):=(blk_cell BK87.out 2).trans rfl
       have hcz34_3:wc.cell? ⟨gb87,3,none⟩=some (.slice A0_3 l0_3.length c0_3):=(blk_cell BK87.out 3).trans rfl
       have hcz34_4:wc.cell? ⟨gb87,4,none⟩=some (.slice A0_4 l0_4.length c0_4):=(blk_cell BK87.out 4).trans rfl
       have hfz34_0:=blk_frozen BK87.out 0
       have hfz34_1:=blk_frozen BK87.out 1
       have hfz34_2:=blk_frozen BK87.out 2
       have hfz34_3:=blk_frozen BK87.out 3
       have hfz34_4:=blk_frozen BK87.out 4
       try go_wp2_with (first|((with_reducible refine gate_callee (f:=39) rfl ?_);refine goesL_ (some 34) rfl rfl Tryd.func39 (by kernel_rfl) rfl #[.slice A0_4 l0_4.length c0_4] rfl (by (try simp only [List.map_toArray,List.map_cons,List.map_nil]);first|done|rfl|(simp only [List.length_drop,List.length_take];rfl)) ?_;(with_reducible refine (bytes_Clone.calls _ _ l0_4 t91 _ ?side1 ?side2 A26.out).mono ?_);(case side1=>repeat (first|exact (Kd.C_below HR0_4.out HB.out)|(with_reducible refine Kd.C_alloc ?_ _)|(with_reducible refine Kd.C_drewN ?_ _)|(with_reducible refine Kd.C_drew ?_)));(case side2=>exact HC0_4.out);rintro e w35 ⟨v401,rfl,ho0,hb⟩;(try clear A26);refine ⟨_,rfl,?_⟩;have n0_:=Aside0.mk (Kd.R_below (by (with_reducible repeat (first|apply Kd.R_alloc|apply Kd.R_drewN|apply Kd.R_drew));exact HO_89.out) hb);have n1_:=Aside0.mk (Kd.R_lower ho0 (below_size (by repeat (first|(with_reducible first|exact HB.out|apply below_alloc|apply pw_below_drewN|apply below_drew1|refine below_set ?_ GE87.out|refine below_set ?_ GE88.out|refine below_set ?_ GE86.out)|exact HB.out))));have n2_:=Aside0.mk (blk_below (g:=gb87) (o:=.cells #[.int .i64 a0_0,.string a0_1,.int .i64 a0_2,.slice A0_3 l0_3.length c0_3,.slice A0_4 l0_4.length c0_4] 48 (0,0)) (by (with_reducible repeat (first|refine blk_drewN ?_ _|refine blk_drew ?_|refine blk_alloc ?_ _));exact BK87.out) hb);have n3_:=Aside0.mk (blk_below (g:=gb88) (o:=.cells #[.int .i64 0,.string (⟨#[]⟩:ByteArray),.int .i64 0,.slice none 0 0,.slice none 0 0] 48 (0,0)) (by (with_reducible repeat (first|refine blk_drewN ?_ _|refine blk_drew ?_|refine blk_alloc ?_ _));exact BK88.out) hb);have n4_:=Aside0.mk (blk_below (g:=gb86) (o:=.cells #[.int .i64 a0_0,.string a0_1,.int .i64 1,.slice Ao14 t90.length co14,.slice none 0 0] 48 (0,0)) (by (with_reducible repeat (first|refine blk_drewN ?_ _|refine blk_drew ?_|refine blk_alloc ?_ _));exact BK86.out) hb);have n5_:=Aside0.mk (below_step (by repeat (first|(with_reducible first|exact HB.out|apply below_alloc|apply pw_below_drewN|apply below_drew1|refine below_set ?_ GE87.out|refine below_set ?_ GE88.out|refine below_set ?_ GE86.out)|exact HB.out)) hb);clear HO_89;clear BK87;clear BK88;clear BK86;clear HB;have HO_89:=n0_;have HO93:=n1_;have BK87:=n2_;have BK88:=n3_;have BK86:=n4_;have HB:=n5_;clear n0_ n1_ n2_ n3_ n4_ n5_;(try clear hb);(try clear hb2);(try clear hk);(try clear hi);(try clear ho0);obtain ⟨Ao36,co36,eo36⟩:=Kd.R_slice HO93.out;subst eo36;have hnb37:=NB86_392.out;have hnc37:=NB88_396.out;have hcz38_0:w35.cell? ⟨gb86,0,none⟩=some (.int .i64 a0_0):=(blk_cell BK86.out 0).trans rfl;have hcz38_1:w35.cell? ⟨gb86,1,none⟩=some (.string a0_1):=(blk_cell BK86.out 1).trans rfl;have hcz38_2:w35.cell? ⟨gb86,2,none⟩=some (.int .i64 1):=(blk_cell BK86.out 2).trans rfl;have hcz38_3:w35.cell? ⟨gb86,3,none⟩=some (.slice Ao14 t90.length co14):=(blk_cell BK86.out 3).trans rfl;have hcz38_4:w35.cell? ⟨gb86,4,none⟩=some (.slice none 0 0):=(blk_cell BK86.out 4).trans rfl;have hfz38_0:=blk_frozen BK86.out 0;have hfz38_1:=blk_frozen BK86.out 1;have hfz38_2:=blk_frozen BK86.out 2;have hfz38_3:=blk_frozen BK86.out 3;have hfz38_4:=blk_frozen BK86.out 4))
       have n0_:Aside0 (Kd.R k41 41 (w35.setCell ⟨gb86,4,none⟩ (.slice Ao36 t91.length co36)) w.heap.size (fun _=>True) (.slice Ao14 t90.length co14) t90):=⟨by (with_reducible repeat (first|apply Kd.R_alloc|apply Kd.R_drewN|apply Kd.R_drew));exact Kd.R_mono (Kd.R_far (p:=⟨gb86,4,none⟩) (Kd.R_types HO_89.out BK86.out (by decide)) (fun _ hk=>hk.2) (.slice Ao36 t91.length co36)) (fun _ hk=>trivial)⟩
       have n1_:Aside0 (Kd.R (Kd.int .u8) 5 (w35.setCell ⟨gb86,4,none⟩ (.slice Ao36 t91.length co36)) w.heap.size (fun _=>True) (.slice Ao36 t91.length co36) t91):=⟨by (with_reducible repeat (first|apply Kd.R_alloc|apply Kd.R_drewN|apply Kd.R_drew));exact Kd.R_mono (Kd.R_far (p:=⟨gb86,4,none⟩) (Kd.R_types HO93.out BK86.out (by decide)) (fun _ hk=>hk.2) (.slice Ao36 t91.length co36)) (fun _ hk=>trivial)⟩
       have n2_:Aside0 ((w35.setCell ⟨gb86,4,none⟩ (.slice Ao36 t91.length co36)).heap[gb87]? = some (.cells #[.int .i64 a0_0,.string a0_1,.int .i64 a0_2,.slice A0_3 l0_3.length c0_3,.slice A0_4 l0_4.length c0_4] 48 (0,0))):=⟨by (with_reducible repeat (first|refine blk_drewN ?_ _|refine blk_drew ?_|refine blk_alloc ?_ _));refine blk_far ?_ NB87_396.out _;(with_reducible repeat (first|refine blk_drewN ?_ _|refine blk_drew ?_|refine blk_alloc ?_ _));exact BK87.out⟩
       have n3_:Aside0 ((w35.setCell ⟨gb86,4,none⟩ (.slice Ao36 t91.length co36)).heap[gb88]? = some (.cells #[.int .i64 0,.string (⟨#[]⟩:ByteArray),.int .i64 0,.slice none 0 0,.slice none 0 0] 48 (0,0))):=⟨by (with_reducible repeat (first|refine blk_drewN ?_ _|refine blk_drew ?_|refine blk_alloc ?_ _));refine blk_far ?_ NB88_396.out _;(with_reducible repeat (first|refine blk_drewN ?_ _|refine blk_drew ?_|refine blk_alloc ?_ _));exact BK88.out⟩
       have n4_:Aside0 ((w35.setCell ⟨gb86,4,none⟩ (.slice Ao36 t91.length co36)).heap[gb86]? = some (.cells #[.int .i64 a0_0,.string a0_1,.int .i64 1,.slice Ao14 t90.length co14,.slice Ao36 t91.length co36] 48 (0,0))):=⟨by (with_reducible repeat (first|refine blk_drewN ?_ _|refine blk_drew ?_|refine blk_alloc ?_ _));refine blk_put (cs:=#[.int .i64 a0_0,.string a0_1,.int .i64 1,.slice Ao14 t90.length co14,.slice none 0 0]) ?_ 4 _ rfl;(with_reducible repeat (first|refine blk_drewN ?_ _|refine blk_drew ?_|refine blk_alloc ?_ _));exact BK86.out⟩
       have n5_:Aside0 (Below w.heap.size w (w35.setCell ⟨gb86,4,none⟩ (.slice Ao36 t91.length co36))):=⟨by repeat (first|(with_reducible first|exact HB.out|apply below_alloc|apply pw_below_drewN|apply below_drew1|refine below_set ?_ GE87.out|refine below_set ?_ GE88.out|refine below_set ?_ GE86.out)|exact HB.out)⟩
       (try clear HO_89)
       (try clear HO93)
       (try clear BK87)
       (try clear BK88)
       (try clear BK86)
       (try clear HB)
       generalize (w35.setCell ⟨gb86,4,none⟩ (.slice Ao36 t91.length co36))=w39 at n0_ n1_ n2_ n3_ n4_ n5_ ⊢
       have HO_89:=n0_
       have HO93:=n1_
       have BK87:=n2_
       have BK88:=n3_
       have BK86:=n4_
       have HB:=n5_
       clear n0_ n1_ n2_ n3_ n4_ n5_
       replace HO_89:=Aside0.mk (Kd.R_drew HO_89.out)
       replace HO93:=Aside0.mk (Kd.R_drew HO93.out)
       replace BK87:=Aside0.mk (blk_drew BK87.out)
       replace BK88:=Aside0.mk (blk_drew BK88.out)
       replace BK86:=Aside0.mk (blk_drew BK86.out)
       replace HB:=Aside0.mk (below_drew1 HB.out)
       refine start_ (n:=10) (S:=fun w' => w'.cell? ⟨gb86,0,none⟩=some (.int .i64 a0_0)∧w'.cell? ⟨gb86,1,none⟩=some (.string a0_1)∧w'.cell? ⟨gb86,2,none⟩=some (.int .i64 1)∧w'.cell? ⟨gb86,3,none⟩=some (.slice Ao14 t90.length co14)∧w'.cell? ⟨gb86,4,none⟩=some (.slice Ao36 t91.length co36)∧w'.cell? ⟨gb87,0,none⟩=some (.int .i64 a0_0)∧w'.cell? ⟨gb87,1,none⟩=some (.string a0_1)∧w'.cell? ⟨gb87,2,none⟩=some (.int .i64 a0_2)∧w'.cell? ⟨gb87,3,none⟩=some (.slice A0_3 l0_3.length c0_3)∧w'.cell? ⟨gb87,4,none⟩=some (.slice A0_4 l0_4.length c0_4)) (ds:=[9]) #[false,false,false,false,false,false,false,false,false,false] (by kernel_rfl) rfl rfl ⟨(blk_cell BK86.out 0).trans rfl,(blk_cell BK86.out 1).trans rfl,(blk_cell BK86.out 2).trans rfl,(blk_cell BK86.out 3).trans rfl,(blk_cell BK86.out 4).trans rfl,(blk_cell BK87.out 0).trans rfl,(blk_cell BK87.out 1).trans rfl,(blk_cell BK87.out 2).trans rfl,(blk_cell BK87.out 3).trans rfl,(blk_cell BK87.out 4).trans rfl⟩ (fun hHeld=>?_);refine with_tabW scrub_Response.tab5 scrub_Response.bits5 (fun HT_ HW_=>?_)
       generalize w39.drew=w40 at HO_89 HO93 BK87 BK88 BK86 HB hHeld ⊢
       refine pure_ (i:=0) (N:=some 36) (v:=?_) (a' := ?_) #[true,false,false,false,false,false,false,false,false,false] rfl rfl (any_of HT_.out (by kernel_rfl)) (fun _ _ _ h=>h) (Or.inl ⟨by rfl,?_⟩) ?_ ?_
       rotate_left
       ·intro w';go_simp;with_reducible rfl
       rotate_left
       ·simp only [Act.put,zqA,zqB,zqC,i64_w,i32_w];rfl
       refine pure_ (i:=2) (N:=some 38) (v:=?_) (a' := ?_) #[true,false,true,false,false,false,false,false,false,false] rfl rfl (any_of HT_.out (by kernel_rfl)) (fun _ _ _ h=>h) (Or.inl ⟨by rfl,?_⟩) ?_ ?_
       rotate_left
       ·intro w';go_simp;with_reducible rfl
       rotate_left
       ·simp only [Act.put,zqA,zqB,zqC,i64_w,i32_w];rfl
       refine take_ (i:=1) (N:=some 37) (v:=?_) (a' := ?_) #[true,true,true,false,false,false,false,false,false,false] rfl rfl (take_ofW HT_.out HW_.out (by kernel_rfl)) (fun _ _ _ h=>h) (Or.inl ⟨by rfl,?_⟩) hHeld ?_ ?_
       rotate_left
       ·rintro w' ⟨s0,s1,s2,s3,s4,s5,s6,s7,s8,s9⟩;go_simp;with_reducible rfl
       rotate_left
       ·simp only [Act.put,zqA,zqB,zqC,i64_w,i32_w];rfl
       refine take_ (i:=3) (N:=some 39) (v:=?_) (a' := ?_) #[true,true,true,true,false,false,false,false,false,false] rfl rfl (take_ofW HT_.out HW_.out (by kernel_rfl)) (fun _ _ _ h=>h) (Or.inl ⟨by rfl,?_⟩) hHeld ?_ ?_
       rotate_left
       ·rintro w' ⟨s0,s1,s2,s3,s4,s5,s6,s7,s8,s9⟩;go_simp;with_reducible rfl
       rotate_left
       ·simp only [Act.put,zqA,zqB,zqC,i64_w,i32_w];rfl
       refine pure_ (i:=4) (N:=some 40) (v:=?_) (a' := ?_) #[true,true,true,true,true,false,false,false,false,false] rfl rfl (any_of HT_.out (by kernel_rfl)) (fun _ _ _ h=>h) (Or.inl ⟨by rfl,?_⟩) ?_ ?_
       rotate_left
       ·intro w';go_simp;with_reducible rfl
       rotate_left
       ·simp only [Act.put,zqA,zqB,zqC,i64_w,i32_w];rfl
       refine one_ (i:=5) (N:=some 41) #[true,true,true,true,true,true,false,false,false,false] rfl rfl (one_of HT_.out (by kernel_rfl)) (by decide) (fun K hK=>?_)
       refine goes_ Tryd.func38 (by kernel_rfl) rfl #[.int .i64 (l0_4.length:Int)] (by rfl) rfl rfl (by (try simp only [List.map_toArray,List.map_cons,List.map_nil]);first|done|rfl|(simp only [List.length_drop,List.length_take];rfl)) ?_
       with_reducible refine (scrub_length.calls (l0_4.length:Int) t96 t404 _ A27.out ?hT).mono ?_;(case hT=>exact HTB.out.below (by repeat (first|(with_reducible first|exact HB.out|apply below_alloc|apply pw_below_drewN|apply below_drew1|refine below_set ?_ GE87.out|refine below_set ?_ GE88.out|refine below_set ?_ GE86.out)|exact HB.out)))
       rintro e w41 ⟨rfl,hb⟩
       refine ⟨_,rfl,?_⟩
       replace HO_89:=Aside0.mk (Kd.R_below (by (with_reducible repeat (first|apply Kd.R_alloc|apply Kd.R_drewN|apply Kd.R_drew));exact HO_89.out) hb)
       replace HO93:=Aside0.mk (Kd.R_below (by (with_reducible repeat (first|apply Kd.R_alloc|apply Kd.R_drewN|apply Kd.R_drew));exact HO93.out) hb)
       replace BK87:=Aside0.mk (blk_below (g:=gb87) (o:=.cells #[.int .i64 a0_0,.string a0_1,.int .i64 a0_2,.slice A0_3 l0_3.length c0_3,.slice A0_4 l0_4.length c0_4] 48 (0,0)) (by (with_reducible repeat (first|refine blk_drewN ?_ _|refine blk_drew ?_|refine blk_alloc ?_ _));exact BK87.out) hb)
       replace BK88:=Aside0.mk (blk_below (g:=gb88) (o:=.cells #[.int .i64 0,.string (⟨#[]⟩:ByteArray),.int .i64 0,.slice none 0 0,.slice none 0 0] 48 (0,0)) (by (with_reducible repeat (first|refine blk_drewN ?_ _|refine blk_drew ?_|refine blk_alloc ?_ _));exact BK88.out) hb)
       replace BK86:=Aside0.mk (blk_below (g:=gb86) (o:=.cells #[.int .i64 a0_0,.string a0_1,.int .i64 1,.slice Ao14 t90.length co14,.slice Ao36 t91.length co36] 48 (0,0)) (by (with_reducible repeat (first|refine blk_drewN ?_ _|refine blk_drew ?_|refine blk_alloc ?_ _));exact BK86.out) hb)
       replace HB:=Aside0.mk (below_step (by repeat (first|(with_reducible first|exact HB.out|apply below_alloc|apply pw_below_drewN|apply below_drew1|refine below_set ?_ GE87.out|refine below_set ?_ GE88.out|refine below_set ?_ GE86.out)|exact HB.out)) hb)
       (try clear hb)
       (try clear hb2)
       (try clear hk)
       (try clear hi)
       refine hK.out _ _ ⟨(blk_cell BK86.out 0).trans rfl,(blk_cell BK86.out 1).trans rfl,(blk_cell BK86.out 2).trans rfl,(blk_cell BK86.out 3).trans rfl,(blk_cell BK86.out 4).trans rfl,(blk_cell BK87.out 0).trans rfl,(blk_cell BK87.out 1).trans rfl,(blk_cell BK87.out 2).trans rfl,(blk_cell BK87.out 3).trans rfl,(blk_cell BK87.out 4).trans rfl⟩ (fun hHeld=>?_)
       clear hK K
       refine norm_ (a' := ?_) ?_ ?_
       rotate_left
       ·show Act.put _ (some 41) _=_
        simp only [Act.put,zqA,zqB,zqC,i64_w,i32_w]
        rfl
       refine one_ (i:=6) (N:=some 42) #[true,true,true,true,true,true,true,false,false,false] rfl rfl (one_of HT_.out (by kernel_rfl)) (by decide) (fun K hK=>?_)
       refine value_ (w1:=?_) (v:=?_) (by rfl) rfl ?_ ?_
       rotate_left 2
       ·go_simp
        constructor
        ·rfl
        ·rfl
       refine hK.out _ _ ⟨(blk_cell (blk_alloc BK86.out _) 0).trans rfl,(blk_cell (blk_alloc BK86.out _) 1).trans rfl,(blk_cell (blk_alloc BK86.out _) 2).trans rfl,(blk_cell (blk_alloc BK86.out _) 3).trans rfl,(blk_cell (blk_alloc BK86.out _) 4).trans rfl,(blk_cell (blk_alloc BK87.out _) 0).trans rfl,(blk_cell (blk_alloc BK87.out _) 1).trans rfl,(blk_cell (blk_alloc BK87.out _) 2).trans rfl,(blk_cell (blk_alloc BK87.out _) 3).trans rfl,(blk_cell (blk_alloc BK87.out _) 4).trans rfl⟩ (fun hHeld=>?_)
       clear hK K
       refine norm_ (a' := ?_) ?_ ?_
       rotate_left
       ·show Act.put _ (some 42) _=_
        simp only [Act.put,zqA,zqB,zqC,i64_w,i32_w]
        rfl
       refine one_ (i:=7) (N:=some 43) #[true,true,true,true,true,true,true,true,false,false] rfl rfl (one_of HT_.out (by kernel_rfl)) (by decide) (fun K hK=>?_)
       refine Kd.R_append_step k41 (w0:=w) w.heap.size (by rfl) (.tmp 37) (.tmp 42) 31 41 (.agg #[(.string ⟨#[]⟩),(.string ⟨#[]⟩)]) 32 rfl Tryd.underlying31 info41 rfl (by decide) (by omega) (.slice Ao14 t90.length co14) t90 (⟨t96,t404⟩:S41) [.string t96,.string t404] (fun _=>True) (fun _=>False) rfl rfl ?aP (fun _ hk=>hk.elim) ?aF ?aO ?aB ?aS ?aL ?_
       (case aP=>exact k41_mkM _ _ _ (⟨t96,t404⟩:S41))
       (case aB=>exact (by repeat (first|(with_reducible first|exact HB.out|apply below_alloc|apply pw_below_drewN|apply below_drew1|refine below_set ?_ GE87.out|refine below_set ?_ GE88.out|refine below_set ?_ GE86.out)|exact HB.out)))
       (case aF=>exact (fun _ _=>trivial))
       (case aO=>exact (by (with_reducible repeat (first|apply Kd.R_alloc|apply Kd.R_drewN|apply Kd.R_drew));exact HO_89.out))
       (case aS=>exact (below_size (by repeat (first|(with_reducible first|exact HB.out|apply below_alloc|apply pw_below_drewN|apply below_drew1|refine below_set ?_ GE87.out|refine below_set ?_ GE88.out|refine below_set ?_ GE86.out)|exact HB.out))))
       (case aL=>have:=LMc28.out;omega)
       intro v406 w42 ho hb hg hat
       rw [← Ny92.out] at ho
       have n0_:=Aside0.mk (blk_grown (g:=gb87) (o:=.cells #[.int .i64 a0_0,.string a0_1,.int .i64 a0_2,.slice A0_3 l0_3.length c0_3,.slice A0_4 l0_4.length c0_4] 48 (0,0)) (by (with_reducible repeat (first|refine blk_drewN ?_ _|refine blk_drew ?_|refine blk_alloc ?_ _));exact BK87.out) hg (Kd.R_ne HO_89.out BK87.out (by decide)))
       have n1_:=Aside0.mk (blk_grown (g:=gb88) (o:=.cells #[.int .i64 0,.string (⟨#[]⟩:ByteArray),.int .i64 0,.slice none 0 0,.slice none 0 0] 48 (0,0)) (by (with_reducible repeat (first|refine blk_drewN ?_ _|refine blk_drew ?_|refine blk_alloc ?_ _));exact BK88.out) hg (Kd.R_ne HO_89.out BK88.out (by decide)))
       have n2_:=Aside0.mk (blk_grown (g:=gb86) (o:=.cells #[.int .i64 a0_0,.string a0_1,.int .i64 1,.slice Ao14 t90.length co14,.slice Ao36 t91.length co36] 48 (0,0)) (by (with_reducible repeat (first|refine blk_drewN ?_ _|refine blk_drew ?_|refine blk_alloc ?_ _));exact BK86.out) hg (Kd.R_ne HO_89.out BK86.out (by decide)))
       have n3_:=Aside0.mk (Kd.R_over' (by (with_reducible repeat (first|apply Kd.R_alloc|apply Kd.R_drewN|apply Kd.R_drew));exact HO93.out) (Kd.R_typed (by (with_reducible repeat (first|apply Kd.R_alloc|apply Kd.R_drewN|apply Kd.R_drew));exact HO_89.out)) (by decide) hg)
       have n4_:=Aside0.mk (hb)
       have n5_:=Aside0.mk (ho)
       clear BK87 BK88 BK86 HO93 HB HO_89
       have BK87:=n0_
       have BK88:=n1_
       have BK86:=n2_
       have HO93:=n3_
       have HB:=n4_
       have HO95:=n5_
       clear n0_ n1_ n2_ n3_ n4_ n5_ ho hb hg hat
       obtain ⟨Ao43,co43,eo43⟩:=Kd.R_slice HO95.out
       (first|subst eo43|(injection eo43 with f1_ f2_ f3_;have f4_:=f1_.symm;have f5_:=f3_.symm;clear f1_ f2_ f3_;subst f4_;subst f5_))
       refine hK.out _ _ ⟨(blk_cell BK86.out 0).trans rfl,(blk_cell BK86.out 1).trans rfl,(blk_cell BK86.out 2).trans rfl,(blk_cell BK86.out 3).trans rfl,(blk_cell BK86.out 4).trans rfl,(blk_cell BK87.out 0).trans rfl,(blk_cell BK87.out 1).trans rfl,(blk_cell BK87.out 2).trans rfl,(blk_cell BK87.out 3).trans rfl,(blk_cell BK87.out 4).trans rfl⟩ (fun hHeld=>?_)
       clear hK K
       refine norm_ (a' := ?_) ?_ ?_
       rotate_left
       ·show Act.put _ (some 43) _=_
        simp only [Act.put,zqA,zqB,zqC,i64_w,i32_w]
        rfl
       refine pure_ (i:=8) (N:=some 44) (v:=?_) (a' := ?_) #[true,true,true,true,true,true,true,true,true,false] rfl rfl (any_of HT_.out (by kernel_rfl)) (fun _ _ _ h=>h) (Or.inl ⟨by rfl,?_⟩) ?_ ?_
       rotate_left
       ·intro w';go_simp;with_reducible rfl
       rotate_left
       ·simp only [Act.put,zqA,zqB,zqC,i64_w,i32_w];rfl
       refine last_ (i:=9) (N:=none) #[true,true,true,true,true,true,true,true,true,true] rfl rfl (one_of HT_.out (by kernel_rfl)) (by decide) (fun K hK=>?_)
       have hs44:w42.cell? ⟨gb86,3,none⟩=some (.slice Ao14 t90.length co14):=(blk_cell BK86.out 3).trans rfl
       have hfs44:=blk_frozen BK86.out 3
       have hns44_0:=NB87_396.out
       have hns44_1:=NB88_396.out
       have hms44_0:=NB86_391.out
       have hms44_1:=NB86_392.out
       refine skip_ (w1:=?_) (by rfl) rfl ?_ ?_
       rotate_left
       ·go_simp
        rfl
       refine hK.out _ _ ?_
       clear hK K
       refine done_ (done_of HT_.out (by kernel_rfl)) ?_
       try go_wp2
       have n0_:Aside0 (Kd.R (Kd.int .u8) 5 (w42.setCell ⟨gb86,3,none⟩ (.slice Ao43 y92.length co43)) w.heap.size (fun _=>True) (.slice Ao36 t91.length co36) t91):=⟨by (with_reducible repeat (first|apply Kd.R_alloc|apply Kd.R_drewN|apply Kd.R_drew));exact Kd.R_mono (Kd.R_far (p:=⟨gb86,3,none⟩) (Kd.R_types HO93.out BK86.out (by decide)) (fun _ hk=>hk.2) (.slice Ao43 y92.length co43)) (fun _ hk=>trivial)⟩
       have n1_:Aside0 (Kd.R k41 41 (w42.setCell ⟨gb86,3,none⟩ (.slice Ao43 y92.length co43)) w.heap.size (fun _=>True) (.slice Ao43 y92.length co43) y92):=⟨by (with_reducible repeat (first|apply Kd.R_alloc|apply Kd.R_drewN|apply Kd.R_drew));exact Kd.R_mono (Kd.R_far (p:=⟨gb86,3,none⟩) (Kd.R_types HO95.out BK86.out (by decide)) (fun _ hk=>hk.2) (.slice Ao43 y92.length co43)) (fun _ hk=>trivial)⟩
       have n2_:Aside0 ((w42.setCell ⟨gb86,3,none⟩ (.slice Ao43 y92.length co43)).heap[gb87]? = some (.cells #[.int .i64 a0_0,.string a0_1,.int .i64 a0_2,.slice A0_3 l0_3.length c0_3,.slice A0_4 l0_4.length c0_4] 48 (0,0))):=⟨by (with_reducible repeat (first|refine blk_drewN ?_ _|refine blk_drew ?_|refine blk_alloc ?_ _));refine blk_far ?_ NB87_396.out _;(with_reducible repeat (first|refine blk_drewN ?_ _|refine blk_drew ?_|refine blk_alloc ?_ _));exact BK87.out⟩
       have n3_:Aside0 ((w42.setCell ⟨gb86,3,none⟩ (.slice Ao43 y92.length co43)).heap[gb88]? = some (.cells #[.int .i64 0,.string (⟨#[]⟩:ByteArray),.int .i64 0,.slice none 0 0,.slice none 0 0] 48 (0,0))):=⟨by (with_reducible repeat (first|refine blk_drewN ?_ _|refine blk_drew ?_|refine blk_alloc ?_ _));refine blk_far ?_ NB88_396.out _;(with_reducible repeat (first|refine blk_drewN ?_ _|refine blk_drew ?_|refine blk_alloc ?_ _));exact BK88.out⟩
       have n4_:Aside0 ((w42.setCell ⟨gb86,3,none⟩ (.slice Ao43 y92.length co43)).heap[gb86]? = some (.cells #[.int .i64 a0_0,.string a0_1,.int .i64 1,.slice Ao43 y92.length co43,.slice Ao36 t91.length co36] 48 (0,0))):=⟨by (with_reducible repeat (first|refine blk_drewN ?_ _|refine blk_drew ?_|refine blk_alloc ?_ _));refine blk_put (cs:=#[.int .i64 a0_0,.string a0_1,.int .i64 1,.slice Ao14 t90.length co14,.slice Ao36 t91.length co36]) ?_ 3 _ rfl;(with_reducible repeat (first|refine blk_drewN ?_ _|refine blk_drew ?_|refine blk_alloc ?_ _));exact BK86.out⟩
       have n5_:Aside0 (Below w.heap.size w (w42.setCell ⟨gb86,3,none⟩ (.slice Ao43 y92.length co43))):=⟨by repeat (first|(with_reducible first|exact HB.out|apply below_alloc|apply pw_below_drewN|apply below_drew1|refine below_set ?_ GE87.out|refine below_set ?_ GE88.out|refine below_set ?_ GE86.out)|exact HB.out)⟩
       (try clear HO93)
       (try clear HO95)
       (try clear BK87)
       (try clear BK88)
       (try clear BK86)
       (try clear HB)
       generalize (w42.setCell ⟨gb86,3,none⟩ (.slice Ao43 y92.length co43))=w45 at n0_ n1_ n2_ n3_ n4_ n5_ ⊢
       have HO93:=n0_
       have HO95:=n1_
       have BK87:=n2_
       have BK88:=n3_
       have BK86:=n4_
       have HB:=n5_
       clear n0_ n1_ n2_ n3_ n4_ n5_
       replace HO93:=Aside0.mk (Kd.R_drew HO93.out)
       replace HO95:=Aside0.mk (Kd.R_drew HO95.out)
       replace BK87:=Aside0.mk (blk_drew BK87.out)
       replace BK88:=Aside0.mk (blk_drew BK88.out)
       replace BK86:=Aside0.mk (blk_drew BK86.out)
       replace HB:=Aside0.mk (below_drew1 HB.out)
       refine start_ (n:=7) (S:=fun w' => w'.cell? ⟨gb86,0,none⟩=some (.int .i64 a0_0)∧w'.cell? ⟨gb86,1,none⟩=some (.string a0_1)∧w'.cell? ⟨gb86,2,none⟩=some (.int .i64 1)∧w'.cell? ⟨gb86,3,none⟩=some (.slice Ao43 y92.length co43)∧w'.cell? ⟨gb86,4,none⟩=some (.slice Ao36 t91.length co36)) (ds:=[6]) #[false,false,false,false,false,false,false] (by kernel_rfl) rfl rfl ⟨(blk_cell BK86.out 0).trans rfl,(blk_cell BK86.out 1).trans rfl,(blk_cell BK86.out 2).trans rfl,(blk_cell BK86.out 3).trans rfl,(blk_cell BK86.out 4).trans rfl⟩ (fun hHeld=>?_)
       generalize w45.drew=w46 at HO93 HO95 BK87 BK88 BK86 HB hHeld ⊢
       refine pure_ (i:=0) (N:=some 46) (v:=?_) (a' := ?_) #[true,false,false,false,false,false,false] rfl rfl (by kernel_rfl) (fun _ _ _ h=>h) (Or.inl ⟨by rfl,?_⟩) ?_ ?_
       rotate_left
       ·intro w';go_simp;with_reducible rfl
       rotate_left
       ·simp only [Act.put,zqA,zqB,zqC,i64_w,i32_w];rfl
       refine take_ (i:=1) (N:=some 47) (v:=?_) (a' := ?_) #[true,true,false,false,false,false,false] rfl rfl (by kernel_rfl) (fun _ _ _ h=>h) (Or.inl ⟨by rfl,?_⟩) hHeld ?_ ?_
       rotate_left
       ·rintro w' ⟨s0,s1,s2,s3,s4⟩;go_simp;with_reducible rfl
       rotate_left
       ·simp only [Act.put,zqA,zqB,zqC,i64_w,i32_w];rfl
       refine one_ (i:=2) (N:=some 48) #[true,true,true,false,false,false,false] rfl rfl (by kernel_rfl) (by decide) (fun K hK=>?_)
       refine goes_ Tryd.func56 (by kernel_rfl) rfl #[] (by rfl) rfl rfl (by (try simp only [List.map_toArray,List.map_cons,List.map_nil]);first|done|rfl|(simp only [List.length_drop,List.length_take];rfl)) ?_
       with_reducible refine (scrub_closing.calls  t94 t409 _ A30.out).mono ?_
       rintro e w47 ⟨rfl,hb⟩
       refine ⟨_,rfl,?_⟩
       replace HO93:=Aside0.mk (Kd.R_below (by (with_reducible repeat (first|apply Kd.R_alloc|apply Kd.R_drewN|apply Kd.R_drew));exact HO93.out) hb)
       replace HO95:=Aside0.mk (Kd.R_below (by (with_reducible repeat (first|apply Kd.R_alloc|apply Kd.R_drewN|apply Kd.R_drew));exact HO95.out) hb)
       replace BK87:=Aside0.mk (blk_below (g:=gb87) (o:=.cells #[.int .i64 a0_0,.string a0_1,.int .i64 a0_2,.slice A0_3 l0_3.length c0_3,.slice A0_4 l0_4.length c0_4] 48 (0,0)) (by (with_reducible repeat (first|refine blk_drewN ?_ _|refine blk_drew ?_|refine blk_alloc ?_ _));exact BK87.out) hb)
       replace BK88:=Aside0.mk (blk_below (g:=gb88) (o:=.cells #[.int .i64 0,.string (⟨#[]⟩:ByteArray),.int .i64 0,.slice none 0 0,.slice none 0 0] 48 (0,0)) (by (with_reducible repeat (first|refine blk_drewN ?_ _|refine blk_drew ?_|refine blk_alloc ?_ _));exact BK88.out) hb)
       replace BK86:=Aside0.mk (blk_below (g:=gb86) (o:=.cells #[.int .i64 a0_0,.string a0_1,.int .i64 1,.slice Ao43 y92.length co43,.slice Ao36 t91.length co36] 48 (0,0)) (by (with_reducible repeat (first|refine blk_drewN ?_ _|refine blk_drew ?_|refine blk_alloc ?_ _));exact BK86.out) hb)
       replace HB:=Aside0.mk (below_step (by repeat (first|(with_reducible first|exact HB.out|apply below_alloc|apply pw_below_drewN|apply below_drew1|refine below_set ?_ GE87.out|refine below_set ?_ GE88.out|refine below_set ?_ GE86.out)|exact HB.out)) hb)
       (try clear hb)
       (try clear hb2)
       (try clear hk)
       (try clear hi)
       refine hK.out _ _ ⟨(blk_cell BK86.out 0).trans rfl,(blk_cell BK86.out 1).trans rfl,(blk_cell BK86.out 2).trans rfl,(blk_cell BK86.out 3).trans rfl,(blk_cell BK86.out 4).trans rfl⟩ (fun hHeld=>?_)
       clear hK K
       refine norm_ (a' := ?_) ?_ ?_
       rotate_left
       ·show Act.put _ (some 48) _=_
        simp only [Act.put,zqA,zqB,zqC,i64_w,i32_w]
        rfl
       refine one_ (i:=3) (N:=some 49) #[true,true,true,true,false,false,false] rfl rfl (by kernel_rfl) (by decide) (fun K hK=>?_)
       refine value_ (w1:=?_) (v:=?_) (by rfl) rfl ?_ ?_
       rotate_left 2
       ·go_simp
        constructor
        ·rfl
        ·rfl
       refine hK.out _ _ ⟨(blk_cell (blk_alloc BK86.out _) 0).trans rfl,(blk_cell (blk_alloc BK86.out _) 1).trans rfl,(blk_cell (blk_alloc BK86.out _) 2).trans rfl,(blk_cell (blk_alloc BK86.out _) 3).trans rfl,(blk_cell (blk_alloc BK86.out _) 4).trans rfl⟩ (fun hHeld=>?_)
       clear hK K
       refine norm_ (a' := ?_) ?_ ?_
       rotate_left
       ·show Act.put _ (some 49) _=_
        simp only [Act.put,zqA,zqB,zqC,i64_w,i32_w]
        rfl
       refine one_ (i:=4) (N:=some 50) #[true,true,true,true,true,false,false] rfl rfl (by kernel_rfl) (by decide) (fun K hK=>?_)
       refine Kd.R_append_step k41 (w0:=w) w.heap.size (by rfl) (.tmp 47) (.tmp 49) 31 41 (.agg #[(.string ⟨#[]⟩),(.string ⟨#[]⟩)]) 32 rfl Tryd.underlying31 info41 rfl (by decide) (by omega) (.slice Ao43 y92.length co43) y92 (⟨t94,t409⟩:S41) [.string t94,.string t409] (fun _=>True) (fun _=>False) rfl rfl ?aP (fun _ hk=>hk.elim) ?aF ?aO ?aB ?aS ?aL ?_
       (case aP=>exact k41_mkM _ _ _ (⟨t94,t409⟩:S41))
       (case aB=>exact (by repeat (first|(with_reducible first|exact HB.out|apply below_alloc|apply pw_below_drewN|apply below_drew1|refine below_set ?_ GE87.out|refine below_set ?_ GE88.out|refine below_set ?_ GE86.out)|exact HB.out)))
       (case aF=>exact (fun _ _=>trivial))
       (case aO=>exact (by (with_reducible repeat (first|apply Kd.R_alloc|apply Kd.R_drewN|apply Kd.R_drew));exact HO95.out))
       (case aS=>exact (below_size (by repeat (first|(with_reducible first|exact HB.out|apply below_alloc|apply pw_below_drewN|apply below_drew1|refine below_set ?_ GE87.out|refine below_set ?_ GE88.out|refine below_set ?_ GE86.out)|exact HB.out))))
       (case aL=>have:=LMc31.out;omega)
       intro v411 w48 ho hb hg hat
       rw [← Ny98.out] at ho
       have n0_:=Aside0.mk (blk_grown (g:=gb87) (o:=.cells #[.int .i64 a0_0,.string a0_1,.int .i64 a0_2,.slice A0_3 l0_3.length c0_3,.slice A0_4 l0_4.length c0_4] 48 (0,0)) (by (with_reducible repeat (first|refine blk_drewN ?_ _|refine blk_drew ?_|refine blk_alloc ?_ _));exact BK87.out) hg (Kd.R_ne HO95.out BK87.out (by decide)))
       have n1_:=Aside0.mk (blk_grown (g:=gb88) (o:=.cells #[.int .i64 0,.string (⟨#[]⟩:ByteArray),.int .i64 0,.slice none 0 0,.slice none 0 0] 48 (0,0)) (by (with_reducible repeat (first|refine blk_drewN ?_ _|refine blk_drew ?_|refine blk_alloc ?_ _));exact BK88.out) hg (Kd.R_ne HO95.out BK88.out (by decide)))
       have n2_:=Aside0.mk (blk_grown (g:=gb86) (o:=.cells #[.int .i64 a0_0,.string a0_1,.int .i64 1,.slice Ao43 y92.length co43,.slice Ao36 t91.length co36] 48 (0,0)) (by (with_reducible repeat (first|refine blk_drewN ?_ _|refine blk_drew ?_|refine blk_alloc ?_ _));exact BK86.out) hg (Kd.R_ne HO95.out BK86.out (by decide)))
       have n3_:=Aside0.mk (Kd.R_over' (by (with_reducible repeat (first|apply Kd.R_alloc|apply Kd.R_drewN|apply Kd.R_drew));exact HO93.out) (Kd.R_typed (by (with_reducible repeat (first|apply Kd.R_alloc|apply Kd.R_drewN|apply Kd.R_drew));exact HO95.out)) (by decide) hg)
       have n4_:=Aside0.mk (hb)
       have n5_:=Aside0.mk (ho)
       clear BK87 BK88 BK86 HO93 HB HO95
       have BK87:=n0_
       have BK88:=n1_
       have BK86:=n2_
       have HO93:=n3_
       have HB:=n4_
       have HO412:=n5_
       clear n0_ n1_ n2_ n3_ n4_ n5_ ho hb hg hat
       obtain ⟨Ao49,co49,eo49⟩:=Kd.R_slice HO412.out
       (first|subst eo49|(injection eo49 with f1_ f2_ f3_;have f4_:=f1_.symm;have f5_:=f3_.symm;clear f1_ f2_ f3_;subst f4_;subst f5_))
       refine hK.out _ _ ⟨(blk_cell BK86.out 0).trans rfl,(blk_cell BK86.out 1).trans rfl,(blk_cell BK86.out 2).trans rfl,(blk_cell BK86.out 3).trans rfl,(blk_cell BK86.out 4).trans rfl⟩ (fun hHeld=>?_)
       clear hK K
       refine norm_ (a' := ?_) ?_ ?_
       rotate_left
       ·show Act.put _ (some 50) _=_
        simp only [Act.put,zqA,zqB,zqC,i64_w,i32_w]
        rfl
       refine pure_ (i:=5) (N:=some 51) (v:=?_) (a' := ?_) #[true,true,true,true,true,true,false] rfl rfl (by kernel_rfl) (fun _ _ _ h=>h) (Or.inl ⟨by rfl,?_⟩) ?_ ?_
       rotate_left
       ·intro w';go_simp;with_reducible rfl
       rotate_left
       ·simp only [Act.put,zqA,zqB,zqC,i64_w,i32_w];rfl
       refine last_ (i:=6) (N:=none) #[true,true,true,true,true,true,true] rfl rfl (by kernel_rfl) (by decide) (fun K hK=>?_)
       have hs50:w48.cell? ⟨gb86,3,none⟩=some (.slice Ao43 y92.length co43):=(blk_cell BK86.out 3).trans rfl
       have hfs50:=blk_frozen BK86.out 3
       have hns50_0:=NB87_396.out
       have hns50_1:=NB88_396.out
       have hms50_0:=NB86_391.out
       have hms50_1:=NB86_392.out
       refine skip_ (w1:=?_) (by rfl) rfl ?_ ?_
       rotate_left
       ·go_simp
        rfl
       refine hK.out _ _ ?_
       clear hK K
       refine done_ (by kernel_rfl) ?_
       have hcz51_0:w48.cell? ⟨gb86,0,none⟩=some (.int .i64 a0_0):=(blk_cell BK86.out 0).trans rfl
       have hcz51_1:w48.cell? ⟨gb86,1,none⟩=some (.string a0_1):=(blk_cell BK86.out 1).trans rfl
       have hcz51_2:w48.cell? ⟨gb86,2,none⟩=some (.int .i64 1):=(blk_cell BK86.out 2).trans rfl
       have hcz51_3:w48.cell? ⟨gb86,3,none⟩=some (.slice Ao43 y92.length co43):=(blk_cell BK86.out 3).trans rfl
       have hcz51_4:w48.cell? ⟨gb86,4,none⟩=some (.slice Ao36 t91.length co36):=(blk_cell BK86.out 4).trans rfl
       have hfz51_0:=blk_frozen BK86.out 0
       have hfz51_1:=blk_frozen BK86.out 1
       have hfz51_2:=blk_frozen BK86.out 2
       have hfz51_3:=blk_frozen BK86.out 3
       have hfz51_4:=blk_frozen BK86.out 4
       have hcz52_0:w48.cell? ⟨gb88,0,none⟩=some (.int .i64 0):=(blk_cell BK88.out 0).trans rfl
       have hcz52_1:w48.cell? ⟨gb88,1,none⟩=some (.string (⟨#[]⟩:ByteArray)):=(blk_cell BK88.out 1).trans rfl
       have hcz52_2:w48.cell? ⟨gb88,2,none⟩=some (.int .i64 0):=(blk_cell BK88.out 2).trans rfl
       have hcz52_3:w48.cell? ⟨gb88,3,none⟩=some (.slice none 0 0):=(blk_cell BK88.out 3).trans rfl
       have hcz52_4:w48.cell? ⟨gb88,4,none⟩=some (.slice none 0 0):=(blk_cell BK88.out 4).trans rfl
       have hfz52_0:=blk_frozen BK88.out 0
       have hfz52_1:=blk_frozen BK88.out 1
       have hfz52_2:=blk_frozen BK88.out 2
       have hfz52_3:=blk_frozen BK88.out 3
       have hfz52_4:=blk_frozen BK88.out 4
       try go_wp2
       refine bodyPost_ret (results_cell_row rfl _ _ gb88 48 #[.int .i64 a0_0,.string a0_1,.int .i64 1,.slice Ao49 y98.length co49,.slice Ao36 t91.length co36] (0,0) _ rfl (by (with_reducible repeat (first|refine blk_drewN ?_ _|refine blk_drew ?_|refine blk_alloc ?_ _));refine blk_put (cs:=#[.int .i64 a0_0,.string a0_1,.int .i64 1,.slice Ao49 y98.length co49,.slice none 0 0]) ?_ 4 _ rfl;(with_reducible repeat (first|refine blk_drewN ?_ _|refine blk_drew ?_|refine blk_alloc ?_ _));refine blk_put (cs:=#[.int .i64 a0_0,.string a0_1,.int .i64 1,.slice none 0 0,.slice none 0 0]) ?_ 3 _ rfl;(with_reducible repeat (first|refine blk_drewN ?_ _|refine blk_drew ?_|refine blk_alloc ?_ _));refine blk_put (cs:=#[.int .i64 a0_0,.string a0_1,.int .i64 0,.slice none 0 0,.slice none 0 0]) ?_ 2 _ rfl;(with_reducible repeat (first|refine blk_drewN ?_ _|refine blk_drew ?_|refine blk_alloc ?_ _));refine blk_put (cs:=#[.int .i64 a0_0,.string (⟨#[]⟩:ByteArray),.int .i64 0,.slice none 0 0,.slice none 0 0]) ?_ 1 _ rfl;(with_reducible repeat (first|refine blk_drewN ?_ _|refine blk_drew ?_|refine blk_alloc ?_ _));refine blk_put (cs:=#[.int .i64 0,.string (⟨#[]⟩:ByteArray),.int .i64 0,.slice none 0 0,.slice none 0 0]) ?_ 0 _ rfl;(with_reducible repeat (first|refine blk_drewN ?_ _|refine blk_drew ?_|refine blk_alloc ?_ _));refine blk_far ?_ NB88_396.out _;(with_reducible repeat (first|refine blk_drewN ?_ _|refine blk_drew ?_|refine blk_alloc ?_ _));exact BK88.out) Tryd.underlying48 rfl (by kernel_rfl)) rfl ?_
       exact ⟨_,_,by first|rfl|(simp [errW_none,errW_some] <;> rfl)|(simp [*,errW_none,errW_some] <;> rfl),by (with_reducible repeat (first|apply Kd.R_alloc|apply Kd.R_drewN|apply Kd.R_drew));exact Kd.R_mono (Kd.R_far (p:=⟨gb88,4,none⟩) (Kd.R_far (p:=⟨gb88,3,none⟩) (Kd.R_far (p:=⟨gb88,2,none⟩) (Kd.R_far (p:=⟨gb88,1,none⟩) (Kd.R_far (p:=⟨gb88,0,none⟩) (Kd.R_far (p:=⟨gb86,3,none⟩) (Kd.R_types (Kd.R_types HO412.out BK86.out (by decide)) BK88.out (by decide)) (fun _ hk=>hk.1.2) (.slice Ao49 y98.length co49)) (fun _ hk=>hk.2) (.int .i64 a0_0)) (fun _ hk=>hk.2) (.string a0_1)) (fun _ hk=>hk.2) (.int .i64 1)) (fun _ hk=>hk.2) (.slice Ao49 y98.length co49)) (fun _ hk=>hk.2) (.slice Ao36 t91.length co36)) (fun _ hk=>trivial),by (with_reducible repeat (first|apply Kd.R_alloc|apply Kd.R_drewN|apply Kd.R_drew));exact Kd.R_mono (Kd.R_far (p:=⟨gb88,4,none⟩) (Kd.R_far (p:=⟨gb88,3,none⟩) (Kd.R_far (p:=⟨gb88,2,none⟩) (Kd.R_far (p:=⟨gb88,1,none⟩) (Kd.R_far (p:=⟨gb88,0,none⟩) (Kd.R_far (p:=⟨gb86,3,none⟩) (Kd.R_types (Kd.R_types HO93.out BK86.out (by decide)) BK88.out (by decide)) (fun _ hk=>hk.1.2) (.slice Ao49 y98.length co49)) (fun _ hk=>hk.2) (.int .i64 a0_0)) (fun _ hk=>hk.2) (.string a0_1)) (fun _ hk=>hk.2) (.int .i64 1)) (fun _ hk=>hk.2) (.slice Ao49 y98.length co49)) (fun _ hk=>hk.2) (.slice Ao36 t91.length co36)) (fun _ hk=>trivial),by repeat (first|(with_reducible first|exact HB.out|apply below_alloc|apply pw_below_drewN|apply below_drew1|refine below_set ?_ GE87.out|refine below_set ?_ GE88.out|refine below_set ?_ GE86.out)|exact HB.out)⟩
      ·rw [if_neg c31] at H
       exact absurd H (by simp)
     ·replace c29:=Bool.eq_false_iff.mpr c29
      subst c29
      have H1:(some (a0_0,a0_1,1,y92,t91))=some (r1,r2,r3,r4,r5):=by rw [if_neg (show ¬ (false=true) by decide)] at H;exact H
      clear H
      have H:=H1
      clear H1
      simp only [Option.some.injEq,Prod.mk.injEq] at H
      obtain ⟨rfl,rfl,rfl,rfl,rfl⟩:=H
      have hnb53:=NB87_392.out
      have hnc53:=NB88_391.out
      have hnb54:=NB87_396.out
      have hnc54:=NB86_391.out
      have hcz55_0:wc.cell? ⟨gb87,0,none⟩=some (.int .i64 a0_0):=(blk_cell BK87.out 0).trans rfl
      have hcz55_1:wc.cell? ⟨gb87,1,none⟩=some (.string a0_1):=(blk_cell BK87.out 1).trans rfl
      have hcz55_2:wc.cell? ⟨gb87,2,none⟩=some (.int .i64 a0_2):=(blk_cell BK87.out 2).trans rfl
      have hcz55_3:wc.cell? ⟨gb87,3,none⟩=some (.slice A0_3 l0_3.length c0_3):=(blk_cell BK87.out 3).trans rfl
      have hcz55_4:wc.cell? ⟨gb87,4,none⟩=some (.slice A0_4 l0_4.length c0_4):=(blk_cell BK87.out 4).trans rfl
      have hfz55_0:=blk_frozen BK87.out 0
      have hfz55_1:=blk_frozen BK87.out 1
      have hfz55_2:=blk_frozen BK87.out 2
      have hfz55_3:=blk_frozen BK87.out 3
      have hfz55_4:=blk_frozen BK87.out 4
      try go_wp2_with (first|((with_reducible refine gate_callee (f:=39) rfl ?_);refine goesL_ (some 34) rfl rfl Tryd.func39 (by kernel_rfl) rfl #[.slice A0_4 l0_4.length c0_4] rfl (by (try simp only [List.map_toArray,List.map_cons,List.map_nil]);first|done|rfl|(simp only [List.length_drop,List.length_take];rfl)) ?_;(with_reducible refine (bytes_Clone.calls _ _ l0_4 t91 _ ?side1 ?side2 A26.out).mono ?_);(case side1=>repeat (first|exact (Kd.C_below HR0_4.out HB.out)|(with_reducible refine Kd.C_alloc ?_ _)|(with_reducible refine Kd.C_drewN ?_ _)|(with_reducible refine Kd.C_drew ?_)));(case side2=>exact HC0_4.out);rintro e w56 ⟨v401,rfl,ho0,hb⟩;(try clear A26);refine ⟨_,rfl,?_⟩;have n0_:=Aside0.mk (Kd.R_below (by (with_reducible repeat (first|apply Kd.R_alloc|apply Kd.R_drewN|apply Kd.R_drew));exact HO_89.out) hb);have n1_:=Aside0.mk (Kd.R_lower ho0 (below_size (by repeat (first|(with_reducible first|exact HB.out|apply below_alloc|apply pw_below_drewN|apply below_drew1|refine below_set ?_ GE87.out|refine below_set ?_ GE88.out|refine below_set ?_ GE86.out)|exact HB.out))));have n2_:=Aside0.mk (blk_below (g:=gb87) (o:=.cells #[.int .i64 a0_0,.string a0_1,.int .i64 a0_2,.slice A0_3 l0_3.length c0_3,.slice A0_4 l0_4.length c0_4] 48 (0,0)) (by (with_reducible repeat (first|refine blk_drewN ?_ _|refine blk_drew ?_|refine blk_alloc ?_ _));exact BK87.out) hb);have n3_:=Aside0.mk (blk_below (g:=gb88) (o:=.cells #[.int .i64 0,.string (⟨#[]⟩:ByteArray),.int .i64 0,.slice none 0 0,.slice none 0 0] 48 (0,0)) (by (with_reducible repeat (first|refine blk_drewN ?_ _|refine blk_drew ?_|refine blk_alloc ?_ _));exact BK88.out) hb);have n4_:=Aside0.mk (blk_below (g:=gb86) (o:=.cells #[.int .i64 a0_0,.string a0_1,.int .i64 1,.slice Ao14 t90.length co14,.slice none 0 0] 48 (0,0)) (by (with_reducible repeat (first|refine blk_drewN ?_ _|refine blk_drew ?_|refine blk_alloc ?_ _));exact BK86.out) hb);have n5_:=Aside0.mk (below_step (by repeat (first|(with_reducible first|exact HB.out|apply below_alloc|apply pw_below_drewN|apply below_drew1|refine below_set ?_ GE87.out|refine below_set ?_ GE88.out|refine below_set ?_ GE86.out)|exact HB.out)) hb);clear HO_89;clear BK87;clear BK88;clear BK86;clear HB;have HO_89:=n0_;have HO93:=n1_;have BK87:=n2_;have BK88:=n3_;have BK86:=n4_;have HB:=n5_;clear n0_ n1_ n2_ n3_ n4_ n5_;(try clear hb);(try clear hb2);(try clear hk);(try clear hi);(try clear ho0);obtain ⟨Ao57,co57,eo57⟩:=Kd.R_slice HO93.out;subst eo57;have hnb58:=NB86_392.out;have hnc58:=NB88_396.out;have hcz59_0:w56.cell? ⟨gb86,0,none⟩=some (.int .i64 a0_0):=(blk_cell BK86.out 0).trans rfl;have hcz59_1:w56.cell? ⟨gb86,1,none⟩=some (.string a0_1):=(blk_cell BK86.out 1).trans rfl;have hcz59_2:w56.cell? ⟨gb86,2,none⟩=some (.int .i64 1):=(blk_cell BK86.out 2).trans rfl;have hcz59_3:w56.cell? ⟨gb86,3,none⟩=some (.slice Ao14 t90.length co14):=(blk_cell BK86.out 3).trans rfl;have hcz59_4:w56.cell? ⟨gb86,4,none⟩=some (.slice none 0 0):=(blk_cell BK86.out 4).trans rfl;have hfz59_0:=blk_frozen BK86.out 0;have hfz59_1:=blk_frozen BK86.out 1;have hfz59_2:=blk_frozen BK86.out 2;have hfz59_3:=blk_frozen BK86.out 3;have hfz59_4:=blk_frozen BK86.out 4))
      have n0_:Aside0 (Kd.R k41 41 (w56.setCell ⟨gb86,4,none⟩ (.slice Ao57 t91.length co57)) w.heap.size (fun _=>True) (.slice Ao14 t90.length co14) t90):=⟨by (with_reducible repeat (first|apply Kd.R_alloc|apply Kd.R_drewN|apply Kd.R_drew));exact Kd.R_mono (Kd.R_far (p:=⟨gb86,4,none⟩) (Kd.R_types HO_89.out BK86.out (by decide)) (fun _ hk=>hk.2) (.slice Ao57 t91.length co57)) (fun _ hk=>trivial)⟩
      have n1_:Aside0 (Kd.R (Kd.int .u8) 5 (w56.setCell ⟨gb86,4,none⟩ (.slice Ao57 t91.length co57)) w.heap.size (fun _=>True) (.slice Ao57 t91.length co57) t91):=⟨by (with_reducible repeat (first|apply Kd.R_alloc|apply Kd.R_drewN|apply Kd.R_drew));exact Kd.R_mono (Kd.R_far (p:=⟨gb86,4,none⟩) (Kd.R_types HO93.out BK86.out (by decide)) (fun _ hk=>hk.2) (.slice Ao57 t91.length co57)) (fun _ hk=>trivial)⟩
      have n2_:Aside0 ((w56.setCell ⟨gb86,4,none⟩ (.slice Ao57 t91.length co57)).heap[gb87]? = some (.cells #[.int .i64 a0_0,.string a0_1,.int .i64 a0_2,.slice A0_3 l0_3.length c0_3,.slice A0_4 l0_4.length c0_4] 48 (0,0))):=⟨by (with_reducible repeat (first|refine blk_drewN ?_ _|refine blk_drew ?_|refine blk_alloc ?_ _));refine blk_far ?_ NB87_396.out _;(with_reducible repeat (first|refine blk_drewN ?_ _|refine blk_drew ?_|refine blk_alloc ?_ _));exact BK87.out⟩
      have n3_:Aside0 ((w56.setCell ⟨gb86,4,none⟩ (.slice Ao57 t91.length co57)).heap[gb88]? = some (.cells #[.int .i64 0,.string (⟨#[]⟩:ByteArray),.int .i64 0,.slice none 0 0,.slice none 0 0] 48 (0,0))):=⟨by (with_reducible repeat (first|refine blk_drewN ?_ _|refine blk_drew ?_|refine blk_alloc ?_ _));refine blk_far ?_ NB88_396.out _;(with_reducible repeat (first|refine blk_drewN ?_ _|refine blk_drew ?_|refine blk_alloc ?_ _));exact BK88.out⟩
      have n4_:Aside0 ((w56.setCell ⟨gb86,4,none⟩ (.slice Ao57 t91.length co57)).heap[gb86]? = some (.cells #[.int .i64 a0_0,.string a0_1,.int .i64 1,.slice Ao14 t90.length co14,.slice Ao57 t91.length co57] 48 (0,0))):=⟨by (with_reducible repeat (first|refine blk_drewN ?_ _|refine blk_drew ?_|refine blk_alloc ?_ _));refine blk_put (cs:=#[.int .i64 a0_0,.string a0_1,.int .i64 1,.slice Ao14 t90.length co14,.slice none 0 0]) ?_ 4 _ rfl;(with_reducible repeat (first|refine blk_drewN ?_ _|refine blk_drew ?_|refine blk_alloc ?_ _));exact BK86.out⟩
      have n5_:Aside0 (Below w.heap.size w (w56.setCell ⟨gb86,4,none⟩ (.slice Ao57 t91.length co57))):=⟨by repeat (first|(with_reducible first|exact HB.out|apply below_alloc|apply pw_below_drewN|apply below_drew1|refine below_set ?_ GE87.out|refine below_set ?_ GE88.out|refine below_set ?_ GE86.out)|exact HB.out)⟩
      (try clear HO_89)
      (try clear HO93)
      (try clear BK87)
      (try clear BK88)
      (try clear BK86)
      (try clear HB)
      generalize (w56.setCell ⟨gb86,4,none⟩ (.slice Ao57 t91.length co57))=w60 at n0_ n1_ n2_ n3_ n4_ n5_ ⊢
      have HO_89:=n0_
      have HO93:=n1_
      have BK87:=n2_
      have BK88:=n3_
      have BK86:=n4_
      have HB:=n5_
      clear n0_ n1_ n2_ n3_ n4_ n5_
      replace HO_89:=Aside0.mk (Kd.R_drew HO_89.out)
      replace HO93:=Aside0.mk (Kd.R_drew HO93.out)
      replace BK87:=Aside0.mk (blk_drew BK87.out)
      replace BK88:=Aside0.mk (blk_drew BK88.out)
      replace BK86:=Aside0.mk (blk_drew BK86.out)
      replace HB:=Aside0.mk (below_drew1 HB.out)
      refine start_ (n:=10) (S:=fun w' => w'.cell? ⟨gb86,0,none⟩=some (.int .i64 a0_0)∧w'.cell? ⟨gb86,1,none⟩=some (.string a0_1)∧w'.cell? ⟨gb86,2,none⟩=some (.int .i64 1)∧w'.cell? ⟨gb86,3,none⟩=some (.slice Ao14 t90.length co14)∧w'.cell? ⟨gb86,4,none⟩=some (.slice Ao57 t91.length co57)∧w'.cell? ⟨gb87,0,none⟩=some (.int .i64 a0_0)∧w'.cell? ⟨gb87,1,none⟩=some (.string a0_1)∧w'.cell? ⟨gb87,2,none⟩=some (.int .i64 a0_2)∧w'.cell? ⟨gb87,3,none⟩=some (.slice A0_3 l0_3.length c0_3)∧w'.cell? ⟨gb87,4,none⟩=some (.slice A0_4 l0_4.length c0_4)) (ds:=[9]) #[false,false,false,false,false,false,false,false,false,false] (by kernel_rfl) rfl rfl ⟨(blk_cell BK86.out 0).trans rfl,(blk_cell BK86.out 1).trans rfl,(blk_cell BK86.out 2).trans rfl,(blk_cell BK86.out 3).trans rfl,(blk_cell BK86.out 4).trans rfl,(blk_cell BK87.out 0).trans rfl,(blk_cell BK87.out 1).trans rfl,(blk_cell BK87.out 2).trans rfl,(blk_cell BK87.out 3).trans rfl,(blk_cell BK87.out 4).trans rfl⟩ (fun hHeld=>?_);refine with_tabW scrub_Response.tab5 scrub_Response.bits5 (fun HT_ HW_=>?_)
      generalize w60.drew=w61 at HO_89 HO93 BK87 BK88 BK86 HB hHeld ⊢
      refine pure_ (i:=0) (N:=some 36) (v:=?_) (a' := ?_) #[true,false,false,false,false,false,false,false,false,false] rfl rfl (any_of HT_.out (by kernel_rfl)) (fun _ _ _ h=>h) (Or.inl ⟨by rfl,?_⟩) ?_ ?_
      rotate_left
      ·intro w';go_simp;with_reducible rfl
      rotate_left
      ·simp only [Act.put,zqA,zqB,zqC,i64_w,i32_w];rfl
      refine pure_ (i:=2) (N:=some 38) (v:=?_) (a' := ?_) #[true,false,true,false,false,false,false,false,false,false] rfl rfl (any_of HT_.out (by kernel_rfl)) (fun _ _ _ h=>h) (Or.inl ⟨by rfl,?_⟩) ?_ ?_
      rotate_left
      ·intro w';go_simp;with_reducible rfl
      rotate_left
      ·simp only [Act.put,zqA,zqB,zqC,i64_w,i32_w];rfl
      refine take_ (i:=1) (N:=some 37) (v:=?_) (a' := ?_) #[true,true,true,false,false,false,false,false,false,false] rfl rfl (take_ofW HT_.out HW_.out (by kernel_rfl)) (fun _ _ _ h=>h) (Or.inl ⟨by rfl,?_⟩) hHeld ?_ ?_
      rotate_left
      ·rintro w' ⟨s0,s1,s2,s3,s4,s5,s6,s7,s8,s9⟩;go_simp;with_reducible rfl
      rotate_left
      ·simp only [Act.put,zqA,zqB,zqC,i64_w,i32_w];rfl
      refine take_ (i:=3) (N:=some 39) (v:=?_) (a' := ?_) #[true,true,true,true,false,false,false,false,false,false] rfl rfl (take_ofW HT_.out HW_.out (by kernel_rfl)) (fun _ _ _ h=>h) (Or.inl ⟨by rfl,?_⟩) hHeld ?_ ?_
      rotate_left
      ·rintro w' ⟨s0,s1,s2,s3,s4,s5,s6,s7,s8,s9⟩;go_simp;with_reducible rfl
      rotate_left
      ·simp only [Act.put,zqA,zqB,zqC,i64_w,i32_w];rfl
      refine pure_ (i:=4) (N:=some 40) (v:=?_) (a' := ?_) #[true,true,true,true,true,false,false,false,false,false] rfl rfl (any_of HT_.out (by kernel_rfl)) (fun _ _ _ h=>h) (Or.inl ⟨by rfl,?_⟩) ?_ ?_
      rotate_left
      ·intro w';go_simp;with_reducible rfl
      rotate_left
      ·simp only [Act.put,zqA,zqB,zqC,i64_w,i32_w];rfl
      refine one_ (i:=5) (N:=some 41) #[true,true,true,true,true,true,false,false,false,false] rfl rfl (one_of HT_.out (by kernel_rfl)) (by decide) (fun K hK=>?_)
      refine goes_ Tryd.func38 (by kernel_rfl) rfl #[.int .i64 (l0_4.length:Int)] (by rfl) rfl rfl (by (try simp only [List.map_toArray,List.map_cons,List.map_nil]);first|done|rfl|(simp only [List.length_drop,List.length_take];rfl)) ?_
      with_reducible refine (scrub_length.calls (l0_4.length:Int) t96 t404 _ A27.out ?hT).mono ?_;(case hT=>exact HTB.out.below (by repeat (first|(with_reducible first|exact HB.out|apply below_alloc|apply pw_below_drewN|apply below_drew1|refine below_set ?_ GE87.out|refine below_set ?_ GE88.out|refine below_set ?_ GE86.out)|exact HB.out)))
      rintro e w62 ⟨rfl,hb⟩
      refine ⟨_,rfl,?_⟩
      replace HO_89:=Aside0.mk (Kd.R_below (by (with_reducible repeat (first|apply Kd.R_alloc|apply Kd.R_drewN|apply Kd.R_drew));exact HO_89.out) hb)
      replace HO93:=Aside0.mk (Kd.R_below (by (with_reducible repeat (first|apply Kd.R_alloc|apply Kd.R_drewN|apply Kd.R_drew));exact HO93.out) hb)
      replace BK87:=Aside0.mk (blk_below (g:=gb87) (o:=.cells #[.int .i64 a0_0,.string a0_1,.int .i64 a0_2,.slice A0_3 l0_3.length c0_3,.slice A0_4 l0_4.length c0_4] 48 (0,0)) (by (with_reducible repeat (first|refine blk_drewN ?_ _|refine blk_drew ?_|refine blk_alloc ?_ _));exact BK87.out) hb)
      replace BK88:=Aside0.mk (blk_below (g:=gb88) (o:=.cells #[.int .i64 0,.string (⟨#[]⟩:ByteArray),.int .i64 0,.slice none 0 0,.slice none 0 0] 48 (0,0)) (by (with_reducible repeat (first|refine blk_drewN ?_ _|refine blk_drew ?_|refine blk_alloc ?_ _));exact BK88.out) hb)
      replace BK86:=Aside0.mk (blk_below (g:=gb86) (o:=.cells #[.int .i64 a0_0,.string a0_1,.int .i64 1,.slice Ao14 t90.length co14,.slice Ao57 t91.length co57] 48 (0,0)) (by (with_reducible repeat (first|refine blk_drewN ?_ _|refine blk_drew ?_|refine blk_alloc ?_ _));exact BK86.out) hb)
      replace HB:=Aside0.mk (below_step (by repeat (first|(with_reducible first|exact HB.out|apply below_alloc|apply pw_below_drewN|apply below_drew1|refine below_set ?_ GE87.out|refine below_set ?_ GE88.out|refine below_set ?_ GE86.out)|exact HB.out)) hb)
      (try clear hb)
      (try clear hb2)
      (try clear hk)
      (try clear hi)
      refine hK.out _ _ ⟨(blk_cell BK86.out 0).trans rfl,(blk_cell BK86.out 1).trans rfl,(blk_cell BK86.out 2).trans rfl,(blk_cell BK86.out 3).trans rfl,(blk_cell BK86.out 4).trans rfl,(blk_cell BK87.out 0).trans rfl,(blk_cell BK87.out 1).trans rfl,(blk_cell BK87.out 2).trans rfl,(blk_cell BK87.out 3).trans rfl,(blk_cell BK87.out 4).trans rfl⟩ (fun hHeld=>?_)
      clear hK K
      refine norm_ (a' := ?_) ?_ ?_
      rotate_left
      ·show Act.put _ (some 41) _=_
       simp only [Act.put,zqA,zqB,zqC,i64_w,i32_w]
       rfl
      refine one_ (i:=6) (N:=some 42) #[true,true,true,true,true,true,true,false,false,false] rfl rfl (one_of HT_.out (by kernel_rfl)) (by decide) (fun K hK=>?_)
      refine value_ (w1:=?_) (v:=?_) (by rfl) rfl ?_ ?_
      rotate_left 2
      ·go_simp
       constructor
       ·rfl
       ·rfl
      refine hK.out _ _ ⟨(blk_cell (blk_alloc BK86.out _) 0).trans rfl,(blk_cell (blk_alloc BK86.out _) 1).trans rfl,(blk_cell (blk_alloc BK86.out _) 2).trans rfl,(blk_cell (blk_alloc BK86.out _) 3).trans rfl,(blk_cell (blk_alloc BK86.out _) 4).trans rfl,(blk_cell (blk_alloc BK87.out _) 0).trans rfl,(blk_cell (blk_alloc BK87.out _) 1).trans rfl,(blk_cell (blk_alloc BK87.out _) 2).trans rfl,(blk_cell (blk_alloc BK87.out _) 3).trans rfl,(blk_cell (blk_alloc BK87.out _) 4).trans rfl⟩ (fun hHeld=>?_)
      clear hK K
      refine norm_ (a' := ?_) ?_ ?_
      rotate_left
      ·show Act.put _ (some 42) _=_
       simp only [Act.put,zqA,zqB,zqC,i64_w,i32_w]
       rfl
      refine one_ (i:=7) (N:=some 43) #[true,true,true,true,true,true,true,true,false,false] rfl rfl (one_of HT_.out (by kernel_rfl)) (by decide) (fun K hK=>?_)
      refine Kd.R_append_step k41 (w0:=w) w.heap.size (by rfl) (.tmp 37) (.tmp 42) 31 41 (.agg #[(.string ⟨#[]⟩),(.string ⟨#[]⟩)]) 32 rfl Tryd.underlying31 info41 rfl (by decide) (by omega) (.slice Ao14 t90.length co14) t90 (⟨t96,t404⟩:S41) [.string t96,.string t404] (fun _=>True) (fun _=>False) rfl rfl ?aP (fun _ hk=>hk.elim) ?aF ?aO ?aB ?aS ?aL ?_
      (case aP=>exact k41_mkM _ _ _ (⟨t96,t404⟩:S41))
      (case aB=>exact (by repeat (first|(with_reducible first|exact HB.out|apply below_alloc|apply pw_below_drewN|apply below_drew1|refine below_set ?_ GE87.out|refine below_set ?_ GE88.out|refine below_set ?_ GE86.out)|exact HB.out)))
      (case aF=>exact (fun _ _=>trivial))
      (case aO=>exact (by (with_reducible repeat (first|apply Kd.R_alloc|apply Kd.R_drewN|apply Kd.R_drew));exact HO_89.out))
      (case aS=>exact (below_size (by repeat (first|(with_reducible first|exact HB.out|apply below_alloc|apply pw_below_drewN|apply below_drew1|refine below_set ?_ GE87.out|refine below_set ?_ GE88.out|refine below_set ?_ GE86.out)|exact HB.out))))
      (case aL=>have:=LMc28.out;omega)
      intro v406 w63 ho hb hg hat
      rw [← Ny92.out] at ho
      have n0_:=Aside0.mk (blk_grown (g:=gb87) (o:=.cells #[.int .i64 a0_0,.string a0_1,.int .i64 a0_2,.slice A0_3 l0_3.length c0_3,.slice A0_4 l0_4.length c0_4] 48 (0,0)) (by (with_reducible repeat (first|refine blk_drewN ?_ _|refine blk_drew ?_|refine blk_alloc ?_ _));exact BK87.out) hg (Kd.R_ne HO_89.out BK87.out (by decide)))
      have n1_:=Aside0.mk (blk_grown (g:=gb88) (o:=.cells #[.int .i64 0,.string (⟨#[]⟩:ByteArray),.int .i64 0,.slice none 0 0,.slice none 0 0] 48 (0,0)) (by (with_reducible repeat (first|refine blk_drewN ?_ _|refine blk_drew ?_|refine blk_alloc ?_ _));exact BK88.out) hg (Kd.R_ne HO_89.out BK88.out (by decide)))
      have n2_:=Aside0.mk (blk_grown (g:=gb86) (o:=.cells #[.int .i64 a0_0,.string a0_1,.int .i64 1,.slice Ao14 t90.length co14,.slice Ao57 t91.length co57] 48 (0,0)) (by (with_reducible repeat (first|refine blk_drewN ?_ _|refine blk_drew ?_|refine blk_alloc ?_ _));exact BK86.out) hg (Kd.R_ne HO_89.out BK86.out (by decide)))
      have n3_:=Aside0.mk (Kd.R_over' (by (with_reducible repeat (first|apply Kd.R_alloc|apply Kd.R_drewN|apply Kd.R_drew));exact HO93.out) (Kd.R_typed (by (with_reducible repeat (first|apply Kd.R_alloc|apply Kd.R_drewN|apply Kd.R_drew));exact HO_89.out)) (by decide) hg)
      have n4_:=Aside0.mk (hb)
      have n5_:=Aside0.mk (ho)
      clear BK87 BK88 BK86 HO93 HB HO_89
      have BK87:=n0_
      have BK88:=n1_
      have BK86:=n2_
      have HO93:=n3_
      have HB:=n4_
      have HO95:=n5_
      clear n0_ n1_ n2_ n3_ n4_ n5_ ho hb hg hat
      obtain ⟨Ao64,co64,eo64⟩:=Kd.R_slice HO95.out
      (first|subst eo64|(injection eo64 with f1_ f2_ f3_;have f4_:=f1_.symm;have f5_:=f3_.symm;clear f1_ f2_ f3_;subst f4_;subst f5_))
      refine hK.out _ _ ⟨(blk_cell BK86.out 0).trans rfl,(blk_cell BK86.out 1).trans rfl,(blk_cell BK86.out 2).trans rfl,(blk_cell BK86.out 3).trans rfl,(blk_cell BK86.out 4).trans rfl,(blk_cell BK87.out 0).trans rfl,(blk_cell BK87.out 1).trans rfl,(blk_cell BK87.out 2).trans rfl,(blk_cell BK87.out 3).trans rfl,(blk_cell BK87.out 4).trans rfl⟩ (fun hHeld=>?_)
      clear hK K
      refine norm_ (a' := ?_) ?_ ?_
      rotate_left
      ·show Act.put _ (some 43) _=_
       simp only [Act.put,zqA,zqB,zqC,i64_w,i32_w]
       rfl
      refine pure_ (i:=8) (N:=some 44) (v:=?_) (a' := ?_) #[true,true,true,true,true,true,true,true,true,false] rfl rfl (any_of HT_.out (by kernel_rfl)) (fun _ _ _ h=>h) (Or.inl ⟨by rfl,?_⟩) ?_ ?_
      rotate_left
      ·intro w';go_simp;with_reducible rfl
      rotate_left
      ·simp only [Act.put,zqA,zqB,zqC,i64_w,i32_w];rfl
      refine last_ (i:=9) (N:=none) #[true,true,true,true,true,true,true,true,true,true] rfl rfl (one_of HT_.out (by kernel_rfl)) (by decide) (fun K hK=>?_)
      have hs65:w63.cell? ⟨gb86,3,none⟩=some (.slice Ao14 t90.length co14):=(blk_cell BK86.out 3).trans rfl
      have hfs65:=blk_frozen BK86.out 3
      have hns65_0:=NB87_396.out
      have hns65_1:=NB88_396.out
      have hms65_0:=NB86_391.out
      have hms65_1:=NB86_392.out
      refine skip_ (w1:=?_) (by rfl) rfl ?_ ?_
      rotate_left
      ·go_simp
       rfl
      refine hK.out _ _ ?_
      clear hK K
      refine done_ (done_of HT_.out (by kernel_rfl)) ?_
      have hcz66_0:w63.cell? ⟨gb86,0,none⟩=some (.int .i64 a0_0):=(blk_cell BK86.out 0).trans rfl
      have hcz66_1:w63.cell? ⟨gb86,1,none⟩=some (.string a0_1):=(blk_cell BK86.out 1).trans rfl
      have hcz66_2:w63.cell? ⟨gb86,2,none⟩=some (.int .i64 1):=(blk_cell BK86.out 2).trans rfl
      have hcz66_3:w63.cell? ⟨gb86,3,none⟩=some (.slice Ao14 t90.length co14):=(blk_cell BK86.out 3).trans rfl
      have hcz66_4:w63.cell? ⟨gb86,4,none⟩=some (.slice Ao57 t91.length co57):=(blk_cell BK86.out 4).trans rfl
      have hfz66_0:=blk_frozen BK86.out 0
      have hfz66_1:=blk_frozen BK86.out 1
      have hfz66_2:=blk_frozen BK86.out 2
      have hfz66_3:=blk_frozen BK86.out 3
      have hfz66_4:=blk_frozen BK86.out 4
      have hcz67_0:w63.cell? ⟨gb88,0,none⟩=some (.int .i64 0):=(blk_cell BK88.out 0).trans rfl
      have hcz67_1:w63.cell? ⟨gb88,1,none⟩=some (.string (⟨#[]⟩:ByteArray)):=(blk_cell BK88.out 1).trans rfl
      have hcz67_2:w63.cell? ⟨gb88,2,none⟩=some (.int .i64 0):=(blk_cell BK88.out 2).trans rfl
      have hcz67_3:w63.cell? ⟨gb88,3,none⟩=some (.slice none 0 0):=(blk_cell BK88.out 3).trans rfl
      have hcz67_4:w63.cell? ⟨gb88,4,none⟩=some (.slice none 0 0):=(blk_cell BK88.out 4).trans rfl
      have hfz67_0:=blk_frozen BK88.out 0
      have hfz67_1:=blk_frozen BK88.out 1
      have hfz67_2:=blk_frozen BK88.out 2
      have hfz67_3:=blk_frozen BK88.out 3
      have hfz67_4:=blk_frozen BK88.out 4
      try go_wp2
      refine bodyPost_ret (results_cell_row rfl _ _ gb88 48 #[.int .i64 a0_0,.string a0_1,.int .i64 1,.slice Ao64 y92.length co64,.slice Ao57 t91.length co57] (0,0) _ rfl (by (with_reducible repeat (first|refine blk_drewN ?_ _|refine blk_drew ?_|refine blk_alloc ?_ _));refine blk_put (cs:=#[.int .i64 a0_0,.string a0_1,.int .i64 1,.slice Ao64 y92.length co64,.slice none 0 0]) ?_ 4 _ rfl;(with_reducible repeat (first|refine blk_drewN ?_ _|refine blk_drew ?_|refine blk_alloc ?_ _));refine blk_put (cs:=#[.int .i64 a0_0,.string a0_1,.int .i64 1,.slice none 0 0,.slice none 0 0]) ?_ 3 _ rfl;(with_reducible repeat (first|refine blk_drewN ?_ _|refine blk_drew ?_|refine blk_alloc ?_ _));refine blk_put (cs:=#[.int .i64 a0_0,.string a0_1,.int .i64 0,.slice none 0 0,.slice none 0 0]) ?_ 2 _ rfl;(with_reducible repeat (first|refine blk_drewN ?_ _|refine blk_drew ?_|refine blk_alloc ?_ _));refine blk_put (cs:=#[.int .i64 a0_0,.string (⟨#[]⟩:ByteArray),.int .i64 0,.slice none 0 0,.slice none 0 0]) ?_ 1 _ rfl;(with_reducible repeat (first|refine blk_drewN ?_ _|refine blk_drew ?_|refine blk_alloc ?_ _));refine blk_put (cs:=#[.int .i64 0,.string (⟨#[]⟩:ByteArray),.int .i64 0,.slice none 0 0,.slice none 0 0]) ?_ 0 _ rfl;(with_reducible repeat (first|refine blk_drewN ?_ _|refine blk_drew ?_|refine blk_alloc ?_ _));refine blk_far ?_ NB88_396.out _;(with_reducible repeat (first|refine blk_drewN ?_ _|refine blk_drew ?_|refine blk_alloc ?_ _));exact BK88.out) Tryd.underlying48 rfl (by kernel_rfl)) rfl ?_
      exact ⟨_,_,by first|rfl|(simp [errW_none,errW_some] <;> rfl)|(simp [*,errW_none,errW_some] <;> rfl),by (with_reducible repeat (first|apply Kd.R_alloc|apply Kd.R_drewN|apply Kd.R_drew));exact Kd.R_mono (Kd.R_far (p:=⟨gb88,4,none⟩) (Kd.R_far (p:=⟨gb88,3,none⟩) (Kd.R_far (p:=⟨gb88,2,none⟩) (Kd.R_far (p:=⟨gb88,1,none⟩) (Kd.R_far (p:=⟨gb88,0,none⟩) (Kd.R_far (p:=⟨gb86,3,none⟩) (Kd.R_types (Kd.R_types HO95.out BK86.out (by decide)) BK88.out (by decide)) (fun _ hk=>hk.1.2) (.slice Ao64 y92.length co64)) (fun _ hk=>hk.2) (.int .i64 a0_0)) (fun _ hk=>hk.2) (.string a0_1)) (fun _ hk=>hk.2) (.int .i64 1)) (fun _ hk=>hk.2) (.slice Ao64 y92.length co64)) (fun _ hk=>hk.2) (.slice Ao57 t91.length co57)) (fun _ hk=>trivial),by (with_reducible repeat (first|apply Kd.R_alloc|apply Kd.R_drewN|apply Kd.R_drew));exact Kd.R_mono (Kd.R_far (p:=⟨gb88,4,none⟩) (Kd.R_far (p:=⟨gb88,3,none⟩) (Kd.R_far (p:=⟨gb88,2,none⟩) (Kd.R_far (p:=⟨gb88,1,none⟩) (Kd.R_far (p:=⟨gb88,0,none⟩) (Kd.R_far (p:=⟨gb86,3,none⟩) (Kd.R_types (Kd.R_types HO93.out BK86.out (by decide)) BK88.out (by decide)) (fun _ hk=>hk.1.2) (.slice Ao64 y92.length co64)) (fun _ hk=>hk.2) (.int .i64 a0_0)) (fun _ hk=>hk.2) (.string a0_1)) (fun _ hk=>hk.2) (.int .i64 1)) (fun _ hk=>hk.2) (.slice Ao64 y92.length co64)) (fun _ hk=>hk.2) (.slice Ao57 t91.length co57)) (fun _ hk=>trivial),by repeat (first|(with_reducible first|exact HB.out|apply below_alloc|apply pw_below_drewN|apply below_drew1|refine below_set ?_ GE87.out|refine below_set ?_ GE88.out|refine below_set ?_ GE86.out)|exact HB.out)⟩
    ·rw [if_neg c28] at H
     exact absurd H (by simp)
   ·replace c25:=Bool.eq_false_iff.mpr c25
    subst c25
    have H1:(if a2=true then ((scrub_closing.f).bind fun bt413=>(if t90.length < 4398046511104 then (some (a0_0,a0_1,1,(t90 ++ [(⟨bt413.1,bt413.2⟩:S41)]),([]:List Int))) else (none))) else (some (a0_0,a0_1,1,t90,([]:List Int))))=some (r1,r2,r3,r4,r5):=by rw [if_neg (show ¬ (false=true) by decide)] at H;exact H
    clear H
    have H:=H1
    clear H1
    by_cases c68:a2=true
    ·subst c68
     have H1:((scrub_closing.f).bind fun bt413=>(if t90.length < 4398046511104 then (some (a0_0,a0_1,1,(t90 ++ [(⟨bt413.1,bt413.2⟩:S41)]),([]:List Int))) else (none)))=some (r1,r2,r3,r4,r5):=by rw [if_pos rfl] at H;exact H
     clear H
     have H:=H1
     clear H1
     replace H:=Option.bind_eq_some_iff.mp H
     obtain ⟨⟨t413,t414⟩,A690,H⟩:=H
     replace H:(if t90.length < 4398046511104 then (some (a0_0,a0_1,1,(t90 ++ [(⟨t413,t414⟩:S41)]),([]:List Int))) else (none))=some (r1,r2,r3,r4,r5):=H
     have A69:=Aside0.mk A690
     clear A690
     by_cases c70:t90.length < 4398046511104
     ·rw [if_pos c70] at H
      have LMc70:=Aside0.mk c70
      clear c70
      obtain ⟨y99,hy99⟩ : ∃ y_:List (S41),y_=(t90 ++ [(⟨t413,t414⟩:S41)]):=⟨_,rfl⟩
      replace H:(some (a0_0,a0_1,1,y99,([]:List Int)))=some (r1,r2,r3,r4,r5):=by first|(rw [hy99];with_reducible exact H)|(have H2_:=(Option.bind_some _ _).symm.trans H;rw [hy99];with_reducible exact H2_)|(have H2_:=(Option.bind_some _ _).symm.trans H;with_reducible exact H2_)|with_reducible exact H|(rw [hy99];exact H)|exact H
      have Ny99:=Aside0.mk hy99
      clear hy99
      simp only [Option.some.injEq,Prod.mk.injEq] at H
      obtain ⟨rfl,rfl,rfl,rfl,rfl⟩:=H
      try go_wp2
      replace HO_89:=Aside0.mk (Kd.R_drew HO_89.out)
      replace BK87:=Aside0.mk (blk_drew BK87.out)
      replace BK88:=Aside0.mk (blk_drew BK88.out)
      replace BK86:=Aside0.mk (blk_drew BK86.out)
      replace HB:=Aside0.mk (below_drew1 HB.out)
      refine start_ (n:=7) (S:=fun w' => w'.cell? ⟨gb86,0,none⟩=some (.int .i64 a0_0)∧w'.cell? ⟨gb86,1,none⟩=some (.string a0_1)∧w'.cell? ⟨gb86,2,none⟩=some (.int .i64 1)∧w'.cell? ⟨gb86,3,none⟩=some (.slice Ao14 t90.length co14)∧w'.cell? ⟨gb86,4,none⟩=some (.slice none 0 0)) (ds:=[6]) #[false,false,false,false,false,false,false] (by kernel_rfl) rfl rfl ⟨(blk_cell BK86.out 0).trans rfl,(blk_cell BK86.out 1).trans rfl,(blk_cell BK86.out 2).trans rfl,(blk_cell BK86.out 3).trans rfl,(blk_cell BK86.out 4).trans rfl⟩ (fun hHeld=>?_)
      generalize wc.drew=w71 at HO_89 BK87 BK88 BK86 HB hHeld ⊢
      refine pure_ (i:=0) (N:=some 46) (v:=?_) (a' := ?_) #[true,false,false,false,false,false,false] rfl rfl (by kernel_rfl) (fun _ _ _ h=>h) (Or.inl ⟨by rfl,?_⟩) ?_ ?_
      rotate_left
      ·intro w';go_simp;with_reducible rfl
      rotate_left
      ·simp only [Act.put,zqA,zqB,zqC,i64_w,i32_w];rfl
      refine take_ (i:=1) (N:=some 47) (v:=?_) (a' := ?_) #[true,true,false,false,false,false,false] rfl rfl (by kernel_rfl) (fun _ _ _ h=>h) (Or.inl ⟨by rfl,?_⟩) hHeld ?_ ?_
      rotate_left
      ·rintro w' ⟨s0,s1,s2,s3,s4⟩;go_simp;with_reducible rfl
      rotate_left
      ·simp only [Act.put,zqA,zqB,zqC,i64_w,i32_w];rfl
      refine one_ (i:=2) (N:=some 48) #[true,true,true,false,false,false,false] rfl rfl (by kernel_rfl) (by decide) (fun K hK=>?_)
      refine goes_ Tryd.func56 (by kernel_rfl) rfl #[] (by rfl) rfl rfl (by (try simp only [List.map_toArray,List.map_cons,List.map_nil]);first|done|rfl|(simp only [List.length_drop,List.length_take];rfl)) ?_
      with_reducible refine (scrub_closing.calls  t413 t414 _ A69.out).mono ?_
      rintro e w72 ⟨rfl,hb⟩
      refine ⟨_,rfl,?_⟩
      replace HO_89:=Aside0.mk (Kd.R_below (by (with_reducible repeat (first|apply Kd.R_alloc|apply Kd.R_drewN|apply Kd.R_drew));exact HO_89.out) hb)
      replace BK87:=Aside0.mk (blk_below (g:=gb87) (o:=.cells #[.int .i64 a0_0,.string a0_1,.int .i64 a0_2,.slice A0_3 l0_3.length c0_3,.slice A0_4 l0_4.length c0_4] 48 (0,0)) (by (with_reducible repeat (first|refine blk_drewN ?_ _|refine blk_drew ?_|refine blk_alloc ?_ _));exact BK87.out) hb)
      replace BK88:=Aside0.mk (blk_below (g:=gb88) (o:=.cells #[.int .i64 0,.string (⟨#[]⟩:ByteArray),.int .i64 0,.slice none 0 0,.slice none 0 0] 48 (0,0)) (by (with_reducible repeat (first|refine blk_drewN ?_ _|refine blk_drew ?_|refine blk_alloc ?_ _));exact BK88.out) hb)
      replace BK86:=Aside0.mk (blk_below (g:=gb86) (o:=.cells #[.int .i64 a0_0,.string a0_1,.int .i64 1,.slice Ao14 t90.length co14,.slice none 0 0] 48 (0,0)) (by (with_reducible repeat (first|refine blk_drewN ?_ _|refine blk_drew ?_|refine blk_alloc ?_ _));exact BK86.out) hb)
      replace HB:=Aside0.mk (below_step (by repeat (first|(with_reducible first|exact HB.out|apply below_alloc|apply pw_below_drewN|apply below_drew1|refine below_set ?_ GE87.out|refine below_set ?_ GE88.out|refine below_set ?_ GE86.out)|exact HB.out)) hb)
      (try clear hb)
      (try clear hb2)
      (try clear hk)
      (try clear hi)
      refine hK.out _ _ ⟨(blk_cell BK86.out 0).trans rfl,(blk_cell BK86.out 1).trans rfl,(blk_cell BK86.out 2).trans rfl,(blk_cell BK86.out 3).trans rfl,(blk_cell BK86.out 4).trans rfl⟩ (fun hHeld=>?_)
      clear hK K
      refine norm_ (a' := ?_) ?_ ?_
      rotate_left
      ·show Act.put _ (some 48) _=_
       simp only [Act.put,zqA,zqB,zqC,i64_w,i32_w]
       rfl
      refine one_ (i:=3) (N:=some 49) #[true,true,true,true,false,false,false] rfl rfl (by kernel_rfl) (by decide) (fun K hK=>?_)
      refine value_ (w1:=?_) (v:=?_) (by rfl) rfl ?_ ?_
      rotate_left 2
      ·go_simp
       constructor
       ·rfl
       ·rfl
      refine hK.out _ _ ⟨(blk_cell (blk_alloc BK86.out _) 0).trans rfl,(blk_cell (blk_alloc BK86.out _) 1).trans rfl,(blk_cell (blk_alloc BK86.out _) 2).trans rfl,(blk_cell (blk_alloc BK86.out _) 3).trans rfl,(blk_cell (blk_alloc BK86.out _) 4).trans rfl⟩ (fun hHeld=>?_)
      clear hK K
      refine norm_ (a' := ?_) ?_ ?_
      rotate_left
      ·show Act.put _ (some 49) _=_
       simp only [Act.put,zqA,zqB,zqC,i64_w,i32_w]
       rfl
      refine one_ (i:=4) (N:=some 50) #[true,true,true,true,true,false,false] rfl rfl (by kernel_rfl) (by decide) (fun K hK=>?_)
      refine Kd.R_append_step k41 (w0:=w) w.heap.size (by rfl) (.tmp 47) (.tmp 49) 31 41 (.agg #[(.string ⟨#[]⟩),(.string ⟨#[]⟩)]) 32 rfl Tryd.underlying31 info41 rfl (by decide) (by omega) (.slice Ao14 t90.length co14) t90 (⟨t413,t414⟩:S41) [.string t413,.string t414] (fun _=>True) (fun _=>False) rfl rfl ?aP (fun _ hk=>hk.elim) ?aF ?aO ?aB ?aS ?aL ?_
      (case aP=>exact k41_mkM _ _ _ (⟨t413,t414⟩:S41))
      (case aB=>exact (by repeat (first|(with_reducible first|exact HB.out|apply below_alloc|apply pw_below_drewN|apply below_drew1|refine below_set ?_ GE87.out|refine below_set ?_ GE88.out|refine below_set ?_ GE86.out)|exact HB.out)))
      (case aF=>exact (fun _ _=>trivial))
      (case aO=>exact (by (with_reducible repeat (first|apply Kd.R_alloc|apply Kd.R_drewN|apply Kd.R_drew));exact HO_89.out))
      (case aS=>exact (below_size (by repeat (first|(with_reducible first|exact HB.out|apply below_alloc|apply pw_below_drewN|apply below_drew1|refine below_set ?_ GE87.out|refine below_set ?_ GE88.out|refine below_set ?_ GE86.out)|exact HB.out))))
      (case aL=>have:=LMc70.out;omega)
      intro v416 w73 ho hb hg hat
      rw [← Ny99.out] at ho
      have n0_:=Aside0.mk (blk_grown (g:=gb87) (o:=.cells #[.int .i64 a0_0,.string a0_1,.int .i64 a0_2,.slice A0_3 l0_3.length c0_3,.slice A0_4 l0_4.length c0_4] 48 (0,0)) (by (with_reducible repeat (first|refine blk_drewN ?_ _|refine blk_drew ?_|refine blk_alloc ?_ _));exact BK87.out) hg (Kd.R_ne HO_89.out BK87.out (by decide)))
      have n1_:=Aside0.mk (blk_grown (g:=gb88) (o:=.cells #[.int .i64 0,.string (⟨#[]⟩:ByteArray),.int .i64 0,.slice none 0 0,.slice none 0 0] 48 (0,0)) (by (with_reducible repeat (first|refine blk_drewN ?_ _|refine blk_drew ?_|refine blk_alloc ?_ _));exact BK88.out) hg (Kd.R_ne HO_89.out BK88.out (by decide)))
      have n2_:=Aside0.mk (blk_grown (g:=gb86) (o:=.cells #[.int .i64 a0_0,.string a0_1,.int .i64 1,.slice Ao14 t90.length co14,.slice none 0 0] 48 (0,0)) (by (with_reducible repeat (first|refine blk_drewN ?_ _|refine blk_drew ?_|refine blk_alloc ?_ _));exact BK86.out) hg (Kd.R_ne HO_89.out BK86.out (by decide)))
      have n3_:=Aside0.mk (hb)
      have n4_:=Aside0.mk (ho)
      clear BK87 BK88 BK86 HB HO_89
      have BK87:=n0_
      have BK88:=n1_
      have BK86:=n2_
      have HB:=n3_
      have HO417:=n4_
      clear n0_ n1_ n2_ n3_ n4_ ho hb hg hat
      obtain ⟨Ao74,co74,eo74⟩:=Kd.R_slice HO417.out
      (first|subst eo74|(injection eo74 with f1_ f2_ f3_;have f4_:=f1_.symm;have f5_:=f3_.symm;clear f1_ f2_ f3_;subst f4_;subst f5_))
      refine hK.out _ _ ⟨(blk_cell BK86.out 0).trans rfl,(blk_cell BK86.out 1).trans rfl,(blk_cell BK86.out 2).trans rfl,(blk_cell BK86.out 3).trans rfl,(blk_cell BK86.out 4).trans rfl⟩ (fun hHeld=>?_)
      clear hK K
      refine norm_ (a' := ?_) ?_ ?_
      rotate_left
      ·show Act.put _ (some 50) _=_
       simp only [Act.put,zqA,zqB,zqC,i64_w,i32_w]
       rfl
      refine pure_ (i:=5) (N:=some 51) (v:=?_) (a' := ?_) #[true,true,true,true,true,true,false] rfl rfl (by kernel_rfl) (fun _ _ _ h=>h) (Or.inl ⟨by rfl,?_⟩) ?_ ?_
      rotate_left
      ·intro w';go_simp;with_reducible rfl
      rotate_left
      ·simp only [Act.put,zqA,zqB,zqC,i64_w,i32_w];rfl
      refine last_ (i:=6) (N:=none) #[true,true,true,true,true,true,true] rfl rfl (by kernel_rfl) (by decide) (fun K hK=>?_)
      have hs75:w73.cell? ⟨gb86,3,none⟩=some (.slice Ao14 t90.length co14):=(blk_cell BK86.out 3).trans rfl
      have hfs75:=blk_frozen BK86.out 3
      have hns75_0:=NB87_396.out
      have hns75_1:=NB88_396.out
      have hms75_0:=NB86_391.out
      have hms75_1:=NB86_392.out
      refine skip_ (w1:=?_) (by rfl) rfl ?_ ?_
      rotate_left
      ·go_simp
       rfl
      refine hK.out _ _ ?_
      clear hK K
      refine done_ (by kernel_rfl) ?_
      have hnb76:=NB86_391.out
      have hnc76:=NB87_396.out
      have hnb77:=NB86_392.out
      have hnc77:=NB88_396.out
      have hcz78_0:w73.cell? ⟨gb86,0,none⟩=some (.int .i64 a0_0):=(blk_cell BK86.out 0).trans rfl
      have hcz78_1:w73.cell? ⟨gb86,1,none⟩=some (.string a0_1):=(blk_cell BK86.out 1).trans rfl
      have hcz78_2:w73.cell? ⟨gb86,2,none⟩=some (.int .i64 1):=(blk_cell BK86.out 2).trans rfl
      have hcz78_3:w73.cell? ⟨gb86,3,none⟩=some (.slice Ao14 t90.length co14):=(blk_cell BK86.out 3).trans rfl
      have hcz78_4:w73.cell? ⟨gb86,4,none⟩=some (.slice none 0 0):=(blk_cell BK86.out 4).trans rfl
      have hfz78_0:=blk_frozen BK86.out 0
      have hfz78_1:=blk_frozen BK86.out 1
      have hfz78_2:=blk_frozen BK86.out 2
      have hfz78_3:=blk_frozen BK86.out 3
      have hfz78_4:=blk_frozen BK86.out 4
      have hnb79:=NB88_391.out
      have hnc79:=NB87_392.out
      have hcz80_0:w73.cell? ⟨gb88,0,none⟩=some (.int .i64 0):=(blk_cell BK88.out 0).trans rfl
      have hcz80_1:w73.cell? ⟨gb88,1,none⟩=some (.string (⟨#[]⟩:ByteArray)):=(blk_cell BK88.out 1).trans rfl
      have hcz80_2:w73.cell? ⟨gb88,2,none⟩=some (.int .i64 0):=(blk_cell BK88.out 2).trans rfl
      have hcz80_3:w73.cell? ⟨gb88,3,none⟩=some (.slice none 0 0):=(blk_cell BK88.out 3).trans rfl
      have hcz80_4:w73.cell? ⟨gb88,4,none⟩=some (.slice none 0 0):=(blk_cell BK88.out 4).trans rfl
      have hfz80_0:=blk_frozen BK88.out 0
      have hfz80_1:=blk_frozen BK88.out 1
      have hfz80_2:=blk_frozen BK88.out 2
      have hfz80_3:=blk_frozen BK88.out 3
      have hfz80_4:=blk_frozen BK88.out 4
      try go_wp2
      refine bodyPost_ret (results_cell_row rfl _ _ gb88 48 #[.int .i64 a0_0,.string a0_1,.int .i64 1,.slice Ao74 y99.length co74,.slice none 0 0] (0,0) _ rfl (by (with_reducible repeat (first|refine blk_drewN ?_ _|refine blk_drew ?_|refine blk_alloc ?_ _));refine blk_put (cs:=#[.int .i64 a0_0,.string a0_1,.int .i64 1,.slice Ao74 y99.length co74,.slice none 0 0]) ?_ 4 _ rfl;(with_reducible repeat (first|refine blk_drewN ?_ _|refine blk_drew ?_|refine blk_alloc ?_ _));refine blk_put (cs:=#[.int .i64 a0_0,.string a0_1,.int .i64 1,.slice none 0 0,.slice none 0 0]) ?_ 3 _ rfl;(with_reducible repeat (first|refine blk_drewN ?_ _|refine blk_drew ?_|refine blk_alloc ?_ _));refine blk_put (cs:=#[.int .i64 a0_0,.string a0_1,.int .i64 0,.slice none 0 0,.slice none 0 0]) ?_ 2 _ rfl;(with_reducible repeat (first|refine blk_drewN ?_ _|refine blk_drew ?_|refine blk_alloc ?_ _));refine blk_put (cs:=#[.int .i64 a0_0,.string (⟨#[]⟩:ByteArray),.int .i64 0,.slice none 0 0,.slice none 0 0]) ?_ 1 _ rfl;(with_reducible repeat (first|refine blk_drewN ?_ _|refine blk_drew ?_|refine blk_alloc ?_ _));refine blk_put (cs:=#[.int .i64 0,.string (⟨#[]⟩:ByteArray),.int .i64 0,.slice none 0 0,.slice none 0 0]) ?_ 0 _ rfl;(with_reducible repeat (first|refine blk_drewN ?_ _|refine blk_drew ?_|refine blk_alloc ?_ _));refine blk_far ?_ NB88_396.out _;(with_reducible repeat (first|refine blk_drewN ?_ _|refine blk_drew ?_|refine blk_alloc ?_ _));exact BK88.out) Tryd.underlying48 rfl (by kernel_rfl)) rfl ?_
      exact ⟨_,_,by first|rfl|(simp [errW_none,errW_some] <;> rfl)|(simp [*,errW_none,errW_some] <;> rfl),by (with_reducible repeat (first|apply Kd.R_alloc|apply Kd.R_drewN|apply Kd.R_drew));exact Kd.R_mono (Kd.R_far (p:=⟨gb88,4,none⟩) (Kd.R_far (p:=⟨gb88,3,none⟩) (Kd.R_far (p:=⟨gb88,2,none⟩) (Kd.R_far (p:=⟨gb88,1,none⟩) (Kd.R_far (p:=⟨gb88,0,none⟩) (Kd.R_far (p:=⟨gb86,3,none⟩) (Kd.R_types (Kd.R_types HO417.out BK86.out (by decide)) BK88.out (by decide)) (fun _ hk=>hk.1.2) (.slice Ao74 y99.length co74)) (fun _ hk=>hk.2) (.int .i64 a0_0)) (fun _ hk=>hk.2) (.string a0_1)) (fun _ hk=>hk.2) (.int .i64 1)) (fun _ hk=>hk.2) (.slice Ao74 y99.length co74)) (fun _ hk=>hk.2) (.slice none 0 0)) (fun _ hk=>trivial),by first|exact Kd.R_nil _ _ _ _ _|exact Kd.N_nil _ _ _ _ _|exact Kd.V_nil _ _ _ _ _|exact Kd.Q_nil _ _ _ _ _|exact Kd.S_nil _ _ _ _ _,by repeat (first|(with_reducible first|exact HB.out|apply below_alloc|apply pw_below_drewN|apply below_drew1|refine below_set ?_ GE87.out|refine below_set ?_ GE88.out|refine below_set ?_ GE86.out)|exact HB.out)⟩
     ·rw [if_neg c70] at H
      exact absurd H (by simp)
    ·replace c68:=Bool.eq_false_iff.mpr c68
     subst c68
     have H1:(some (a0_0,a0_1,1,t90,([]:List Int)))=some (r1,r2,r3,r4,r5):=by rw [if_neg (show ¬ (false=true) by decide)] at H;exact H
     clear H
     have H:=H1
     clear H1
     simp only [Option.some.injEq,Prod.mk.injEq] at H
     obtain ⟨rfl,rfl,rfl,rfl,rfl⟩:=H
     have hnb81:=NB86_391.out
     have hnc81:=NB87_396.out
     have hnb82:=NB86_392.out
     have hnc82:=NB88_396.out
     have hcz83_0:wc.cell? ⟨gb86,0,none⟩=some (.int .i64 a0_0):=(blk_cell BK86.out 0).trans rfl
     have hcz83_1:wc.cell? ⟨gb86,1,none⟩=some (.string a0_1):=(blk_cell BK86.out 1).trans rfl
     have hcz83_2:wc.cell? ⟨gb86,2,none⟩=some (.int .i64 1):=(blk_cell BK86.out 2).trans rfl
     have hcz83_3:wc.cell? ⟨gb86,3,none⟩=some (.slice Ao14 t90.length co14):=(blk_cell BK86.out 3).trans rfl
     have hcz83_4:wc.cell? ⟨gb86,4,none⟩=some (.slice none 0 0):=(blk_cell BK86.out 4).trans rfl
     have hfz83_0:=blk_frozen BK86.out 0
     have hfz83_1:=blk_frozen BK86.out 1
     have hfz83_2:=blk_frozen BK86.out 2
     have hfz83_3:=blk_frozen BK86.out 3
     have hfz83_4:=blk_frozen BK86.out 4
     have hnb84:=NB88_391.out
     have hnc84:=NB87_392.out
     have hcz85_0:wc.cell? ⟨gb88,0,none⟩=some (.int .i64 0):=(blk_cell BK88.out 0).trans rfl
     have hcz85_1:wc.cell? ⟨gb88,1,none⟩=some (.string (⟨#[]⟩:ByteArray)):=(blk_cell BK88.out 1).trans rfl
     have hcz85_2:wc.cell? ⟨gb88,2,none⟩=some (.int .i64 0):=(blk_cell BK88.out 2).trans rfl
     have hcz85_3:wc.cell? ⟨gb88,3,none⟩=some (.slice none 0 0):=(blk_cell BK88.out 3).trans rfl
     have hcz85_4:wc.cell? ⟨gb88,4,none⟩=some (.slice none 0 0):=(blk_cell BK88.out 4).trans rfl
     have hfz85_0:=blk_frozen BK88.out 0
     have hfz85_1:=blk_frozen BK88.out 1
     have hfz85_2:=blk_frozen BK88.out 2
     have hfz85_3:=blk_frozen BK88.out 3
     have hfz85_4:=blk_frozen BK88.out 4
     go_wp2
     refine bodyPost_ret (results_cell_row rfl _ _ gb88 48 #[.int .i64 a0_0,.string a0_1,.int .i64 1,.slice Ao14 t90.length co14,.slice none 0 0] (0,0) _ rfl (by (with_reducible repeat (first|refine blk_drewN ?_ _|refine blk_drew ?_|refine blk_alloc ?_ _));refine blk_put (cs:=#[.int .i64 a0_0,.string a0_1,.int .i64 1,.slice Ao14 t90.length co14,.slice none 0 0]) ?_ 4 _ rfl;(with_reducible repeat (first|refine blk_drewN ?_ _|refine blk_drew ?_|refine blk_alloc ?_ _));refine blk_put (cs:=#[.int .i64 a0_0,.string a0_1,.int .i64 1,.slice none 0 0,.slice none 0 0]) ?_ 3 _ rfl;(with_reducible repeat (first|refine blk_drewN ?_ _|refine blk_drew ?_|refine blk_alloc ?_ _));refine blk_put (cs:=#[.int .i64 a0_0,.string a0_1,.int .i64 0,.slice none 0 0,.slice none 0 0]) ?_ 2 _ rfl;(with_reducible repeat (first|refine blk_drewN ?_ _|refine blk_drew ?_|refine blk_alloc ?_ _));refine blk_put (cs:=#[.int .i64 a0_0,.string (⟨#[]⟩:ByteArray),.int .i64 0,.slice none 0 0,.slice none 0 0]) ?_ 1 _ rfl;(with_reducible repeat (first|refine blk_drewN ?_ _|refine blk_drew ?_|refine blk_alloc ?_ _));refine blk_put (cs:=#[.int .i64 0,.string (⟨#[]⟩:ByteArray),.int .i64 0,.slice none 0 0,.slice none 0 0]) ?_ 0 _ rfl;(with_reducible repeat (first|refine blk_drewN ?_ _|refine blk_drew ?_|refine blk_alloc ?_ _));exact BK88.out) Tryd.underlying48 rfl (by kernel_rfl)) rfl ?_
     exact ⟨_,_,by first|rfl|(simp [errW_none,errW_some] <;> rfl)|(simp [*,errW_none,errW_some] <;> rfl),by (with_reducible repeat (first|apply Kd.R_alloc|apply Kd.R_drewN|apply Kd.R_drew));exact Kd.R_mono (Kd.R_far (p:=⟨gb88,4,none⟩) (Kd.R_far (p:=⟨gb88,3,none⟩) (Kd.R_far (p:=⟨gb88,2,none⟩) (Kd.R_far (p:=⟨gb88,1,none⟩) (Kd.R_far (p:=⟨gb88,0,none⟩) (Kd.R_types HO_89.out BK88.out (by decide)) (fun _ hk=>hk.2) (.int .i64 a0_0)) (fun _ hk=>hk.2) (.string a0_1)) (fun _ hk=>hk.2) (.int .i64 1)) (fun _ hk=>hk.2) (.slice Ao14 t90.length co14)) (fun _ hk=>hk.2) (.slice none 0 0)) (fun _ hk=>trivial),by first|exact Kd.R_nil _ _ _ _ _|exact Kd.N_nil _ _ _ _ _|exact Kd.V_nil _ _ _ _ _|exact Kd.Q_nil _ _ _ _ _|exact Kd.S_nil _ _ _ _ _,by repeat (first|(with_reducible first|exact HB.out|apply below_alloc|apply pw_below_drewN|apply below_drew1|refine below_set ?_ GE87.out|refine below_set ?_ GE88.out|refine below_set ?_ GE86.out)|exact HB.out)⟩
def tollbarref04_Same.l0:Nat → List (S41) → List (S41) → Int → Option (Bool)
 | 0,_,_,_=>none
 | k + 1,x0,x1,x5=>if x5 < (x0.length:Int) then (if 0 ≤ x5 then (if x5 < (x1.length:Int) then (if ((rd_T41 x0 x5).f0).toList=((rd_T41 x1 x5).f0).toList then (if ((rd_T41 x0 x5).f1).toList=((rd_T41 x1 x5).f1).toList then (tollbarref04_Same.l0 k x0 x1 (wrap64 (x5 + 1))) else (some false)) else (some false)) else (none)) else (none)) else (some true)
def tollbarref04_Same.f (k:Nat) (l0:List (S41)) (l1:List (S41)):Option (Bool):=if (l0.length:Int)=(l1.length:Int) then (tollbarref04_Same.l0 k l0 l1 0) else (some false)
set_option maxHeartbeats 8000000 in
set_option maxRecDepth 100000 in
theorem tollbarref04_Same.calls (k:Nat) (A0:Option Addr) (c0:Nat) (l0:List (S41)) (A1:Option Addr) (c1:Nat) (l1:List (S41)) (r:Bool) (w:World) (hr0:Kd.C k41 w A0 l0.length l0) (hc0:l0.length ≤ c0) (hr1:Kd.C k41 w A1 l1.length l1) (hc1:l1.length ≤ c1) (h:tollbarref04_Same.f k l0 l1=some r) :
  Calls Tryd.prog 26 #[.slice A0 l0.length c0,.slice A1 l1.length c1] w fun e w' => e = .returned (.bool r)∧Drawn0 w w' := by
 have HR0:=Aside0.mk hr0
 have HC0:=Aside0.mk hc0
 clear hr0 hc0
 have HR1:=Aside0.mk hr1
 have HC1:=Aside0.mk hc1
 clear hr1 hc1
 have H:(if (l0.length:Int)=(l1.length:Int) then (tollbarref04_Same.l0 k l0 l1 0) else (some false))=some r:=h
 clear h
 by_cases c3:(l0.length:Int)=(l1.length:Int)
 ·rw [if_pos c3] at H
  have c3b0:((l0.length:Int) == (l1.length:Int))=true:=beq_iff_eq.mpr c3
  have c3b1:((l0.length:Int) != (l1.length:Int))=false:=bne_eq_false_iff_eq.mpr c3
  have c3b2:(l0.length == l1.length)=true:=by first|simpa using c3|(simp at c3 ⊢;omega)
  clear c3
  have H' := Aside0.mk H
  clear H
  go_enter Tryd.func26,Tryd.ntmps26
  go_wp2
  repeat (go_quiet (fail);try go_wp2)
  go_loopg [5] k (fun kq v5 w' => ∃ (x5_1:Int),v5 = .int .i64 x5_1∧Aside0 (tollbarref04_Same.l0 kq l0 l1 x5_1=some r)∧Aside0 (kq ≤ k)∧Drawn0 w w')
  case atStart=>exact ⟨(0),(by first|rfl|(simp;done)|(simp [*];done)),H',⟨Nat.le_refl _⟩,by repeat (first|exact Drawn0.refl _|apply Drawn0.step)⟩
  case round =>
   clear H'
   try clear c1
   try clear c2
   try clear p2
   try clear c3
   try clear c3b0
   try clear c3b1
   try clear c3b2
   obtain ⟨x5_1,rfl,HA,HK1,⟨m1,rfl⟩⟩:=hrel
   cases gk with
   | zero=>exact absurd HA.out (by simp [tollbarref04_Same.l0])
   | succ k1 =>
    have H:=HA.out
    clear HA
    simp only [tollbarref04_Same.l0] at H
    by_cases c4:x5_1 < (l0.length:Int)
    ·rw [if_pos c4] at H
     have c4b0:decide (x5_1 < (l0.length:Int))=true:=decide_eq_true c4
     clear c4
     by_cases c5:0 ≤ x5_1
     ·rw [if_pos c5] at H
      have c5b0:decide (0 ≤ x5_1)=true:=decide_eq_true c5
      clear c5
      by_cases c6:x5_1 < (l1.length:Int)
      ·rw [if_pos c6] at H
       have c6b0:decide (x5_1 < (l1.length:Int))=true:=decide_eq_true c6
       clear c6
       by_cases c7:((rd_T41 l0 x5_1).f0).toList=((rd_T41 l1 x5_1).f0).toList
       ·rw [if_pos c7] at H
        have c7b0:(((rd_T41 l0 x5_1).f0).toList == ((rd_T41 l1 x5_1).f0).toList)=true:=beq_iff_eq.mpr c7
        have c7b1:(((rd_T41 l0 x5_1).f0).toList != ((rd_T41 l1 x5_1).f0).toList)=false:=bne_eq_false_iff_eq.mpr c7
        clear c7
        by_cases c8:((rd_T41 l0 x5_1).f1).toList=((rd_T41 l1 x5_1).f1).toList
        ·rw [if_pos c8] at H
         have c8b0:(((rd_T41 l0 x5_1).f1).toList == ((rd_T41 l1 x5_1).f1).toList)=true:=beq_iff_eq.mpr c8
         have c8b1:(((rd_T41 l0 x5_1).f1).toList != ((rd_T41 l1 x5_1).f1).toList)=false:=bne_eq_false_iff_eq.mpr c8
         clear c8
         have H' := Aside0.mk H
         clear H
         have p418:0 ≤ (x5_1:Int):=of_decide_eq_true (by first|(with_reducible assumption)|assumption)
         have q418:x5_1 < (l0.length:Int):=of_decide_eq_true (by first|(with_reducible assumption)|assumption)
         obtain ⟨ad418,e418,hx418_0,hx418_1⟩:=at_T41 HR0.out x5_1 p418 q418
         cases e418
         replace p418:=eq_true p418
         replace q418:=eq_true q418
         have p419:0 ≤ (x5_1:Int):=of_decide_eq_true (by first|(with_reducible assumption)|assumption)
         have q419:x5_1 < (l1.length:Int):=of_decide_eq_true (by first|(with_reducible assumption)|assumption)
         obtain ⟨ad419,e419,hx419_0,hx419_1⟩:=at_T41 HR1.out x5_1 p419 q419
         cases e419
         replace p419:=eq_true p419
         replace q419:=eq_true q419
         have p420:0 ≤ (x5_1:Int):=of_decide_eq_true (by first|(with_reducible assumption)|assumption)
         have q420:x5_1 < (l0.length:Int):=of_decide_eq_true (by first|(with_reducible assumption)|assumption)
         obtain ⟨ad420,e420,hx420_0,hx420_1⟩:=at_T41 HR0.out x5_1 p420 q420
         obtain rfl:ad418=ad420:=(by injection e420)
         replace p420:=eq_true p420
         replace q420:=eq_true q420
         have p421:0 ≤ (x5_1:Int):=of_decide_eq_true (by first|(with_reducible assumption)|assumption)
         have q421:x5_1 < (l1.length:Int):=of_decide_eq_true (by first|(with_reducible assumption)|assumption)
         obtain ⟨ad421,e421,hx421_0,hx421_1⟩:=at_T41 HR1.out x5_1 p421 q421
         obtain rfl:ad419=ad421:=(by injection e421)
         replace p421:=eq_true p421
         replace q421:=eq_true q421
         go_wp2
         repeat (go_quiet (fail);try go_wp2)
         go_roundg k1
         case measure=>have:=HK1.out;omega
         case rel=>exact ⟨(wrap64 (x5_1 + 1)),(by first|rfl|(simp;done)|(simp [*];done)),H',⟨by have:=HK1.out;omega⟩,by repeat (first|exact Drawn0.refl _|apply Drawn0.step)⟩
        ·rw [if_neg c8] at H
         have c8b0:(((rd_T41 l0 x5_1).f1).toList == ((rd_T41 l1 x5_1).f1).toList)=false:=beq_eq_false_iff_ne.mpr c8
         have c8b1:(((rd_T41 l0 x5_1).f1).toList != ((rd_T41 l1 x5_1).f1).toList)=true:=bne_iff_ne.mpr c8
         obtain rfl:=Option.some.inj H
         have p418:0 ≤ (x5_1:Int):=of_decide_eq_true (by first|(with_reducible assumption)|assumption)
         have q418:x5_1 < (l0.length:Int):=of_decide_eq_true (by first|(with_reducible assumption)|assumption)
         obtain ⟨ad418,e418,hx418_0,hx418_1⟩:=at_T41 HR0.out x5_1 p418 q418
         cases e418
         replace p418:=eq_true p418
         replace q418:=eq_true q418
         have p419:0 ≤ (x5_1:Int):=of_decide_eq_true (by first|(with_reducible assumption)|assumption)
         have q419:x5_1 < (l1.length:Int):=of_decide_eq_true (by first|(with_reducible assumption)|assumption)
         obtain ⟨ad419,e419,hx419_0,hx419_1⟩:=at_T41 HR1.out x5_1 p419 q419
         cases e419
         replace p419:=eq_true p419
         replace q419:=eq_true q419
         have p420:0 ≤ (x5_1:Int):=of_decide_eq_true (by first|(with_reducible assumption)|assumption)
         have q420:x5_1 < (l0.length:Int):=of_decide_eq_true (by first|(with_reducible assumption)|assumption)
         obtain ⟨ad420,e420,hx420_0,hx420_1⟩:=at_T41 HR0.out x5_1 p420 q420
         obtain rfl:ad418=ad420:=(by injection e420)
         replace p420:=eq_true p420
         replace q420:=eq_true q420
         have p421:0 ≤ (x5_1:Int):=of_decide_eq_true (by first|(with_reducible assumption)|assumption)
         have q421:x5_1 < (l1.length:Int):=of_decide_eq_true (by first|(with_reducible assumption)|assumption)
         obtain ⟨ad421,e421,hx421_0,hx421_1⟩:=at_T41 HR1.out x5_1 p421 q421
         obtain rfl:ad419=ad421:=(by injection e421)
         replace p421:=eq_true p421
         replace q421:=eq_true q421
         go_wp2
         repeat (go_quiet (fail);try go_wp2)
         go_ret
         exact ⟨by first|rfl|(simp;done)|(simp [*];done),by repeat (first|exact Drawn0.refl _|apply Drawn0.step)⟩
       ·rw [if_neg c7] at H
        have c7b0:(((rd_T41 l0 x5_1).f0).toList == ((rd_T41 l1 x5_1).f0).toList)=false:=beq_eq_false_iff_ne.mpr c7
        have c7b1:(((rd_T41 l0 x5_1).f0).toList != ((rd_T41 l1 x5_1).f0).toList)=true:=bne_iff_ne.mpr c7
        obtain rfl:=Option.some.inj H
        have p418:0 ≤ (x5_1:Int):=of_decide_eq_true (by first|(with_reducible assumption)|assumption)
        have q418:x5_1 < (l0.length:Int):=of_decide_eq_true (by first|(with_reducible assumption)|assumption)
        obtain ⟨ad418,e418,hx418_0,hx418_1⟩:=at_T41 HR0.out x5_1 p418 q418
        cases e418
        replace p418:=eq_true p418
        replace q418:=eq_true q418
        have p419:0 ≤ (x5_1:Int):=of_decide_eq_true (by first|(with_reducible assumption)|assumption)
        have q419:x5_1 < (l1.length:Int):=of_decide_eq_true (by first|(with_reducible assumption)|assumption)
        obtain ⟨ad419,e419,hx419_0,hx419_1⟩:=at_T41 HR1.out x5_1 p419 q419
        cases e419
        replace p419:=eq_true p419
        replace q419:=eq_true q419
        go_wp2
        repeat (go_quiet (fail);try go_wp2)
        go_ret
        exact ⟨by first|rfl|(simp;done)|(simp [*];done),by repeat (first|exact Drawn0.refl _|apply Drawn0.step)⟩
      ·rw [if_neg c6] at H
       exact absurd H (by simp)
     ·rw [if_neg c5] at H
      exact absurd H (by simp)
    ·rw [if_neg c4] at H
     have c4b0:decide (x5_1 < (l0.length:Int))=false:=decide_eq_false c4
     clear c4
     obtain rfl:=Option.some.inj H
     go_wp2
     repeat (go_quiet (fail);try go_wp2)
     go_ret
     exact ⟨by first|rfl|(simp;done)|(simp [*];done),by repeat (first|exact Drawn0.refl _|apply Drawn0.step)⟩
 ·rw [if_neg c3] at H
  have c3b0:((l0.length:Int) == (l1.length:Int))=false:=beq_eq_false_iff_ne.mpr c3
  have c3b1:((l0.length:Int) != (l1.length:Int))=true:=bne_iff_ne.mpr c3
  have c3b2:(l0.length == l1.length)=false:=by first|simpa using c3|(simp at c3 ⊢;omega)
  obtain rfl:=Option.some.inj H
  go_enter Tryd.func26,Tryd.ntmps26
  go_wp2
  repeat (go_quiet (fail);try go_wp2)
  go_ret
  exact ⟨by first|rfl|(simp;done)|(simp [*];done),by repeat (first|exact Drawn0.refl _|apply Drawn0.step)⟩
def al12_fs:List (S41):=[⟨⟨#[72,111,115,116]⟩,⟨#[104]⟩⟩,⟨⟨#[88]⟩,⟨#[49]⟩⟩,⟨⟨#[67,111,110,110,101,99,116,105,111,110]⟩,⟨#[120,44,32,99,108,111,115,101]⟩⟩,⟨⟨#[89]⟩,⟨#[50]⟩⟩]
def al12_out:List (S41):=[⟨⟨#[72,111,115,116]⟩,⟨#[104]⟩⟩,⟨⟨#[89]⟩,⟨#[50]⟩⟩,⟨⟨#[90]⟩,⟨#[51]⟩⟩]
def al12_len (n:Int):S41:=⟨⟨#[67,111,110,116,101,110,116,45,76,101,110,103,116,104]⟩,⟨(Lib.itoa n).toArray⟩⟩
theorem al12_1:scrub_Request.f 60 ⟨#[71,69,84]⟩ ⟨#[47]⟩ 1 al12_fs [] [] [] [⟨⟨#[90]⟩,⟨#[51]⟩⟩] [] 0 0 0 0 ⟨#[104]⟩ ⟨#[47,110]⟩=some (⟨#[71,69,84]⟩,⟨#[47,110]⟩,1,al12_out,[]):=by kernel_rfl
theorem al12_2:scrub_Own.f 404 true=some (404,⟨#[78,111,116,32,70,111,117,110,100]⟩,1,[al12_len 0,⟨⟨#[67,111,110,110,101,99,116,105,111,110]⟩,⟨#[99,108,111,115,101]⟩⟩],[]):=by kernel_rfl
theorem al12_3:scrub_Response.f 60 200 ⟨#[79,75]⟩ 0 al12_fs [97,98] ⟨#[71,69,84]⟩ false=some (200,⟨#[79,75]⟩,1,[⟨⟨#[89]⟩,⟨#[50]⟩⟩,al12_len 2],[97,98]):=by kernel_rfl
theorem al12_4:tollbarref04_Same.f 60 al12_out al12_out=some true:=by kernel_rfl
theorem al12_5:scrub_Hop.f 60 al12_fs ⟨#[120]⟩=some true:=by kernel_rfl
theorem al12_6:scrub_Hop.f 60 al12_fs ⟨#[121]⟩=some false:=by kernel_rfl
theorem al12_7:(⟨(Lib.itoa 2).toArray⟩:ByteArray)=⟨#[50]⟩:=by
 simp [Lib.itoa,Lib.decDigits_one]
def tollbarlaw12_alive.f:Option Bool:=some true
/-- The cells of fields in a row. -/
def fcells (xs:List (S41)):List Value:=xs.flatMap fun x=>[.string x.f0,.string x.f1]
theorem fcells_get : ∀ (xs:List (S41)) (j i:Nat) (x:S41) (u:Value),xs[j]? = some x → ([Value.string x.f0,.string x.f1])[i]? = some u → (fcells xs)[j * 2 + i]? = some u
 | [],j,i,x,u,h,_=>by simp at h
 | y :: r,0,i,x,u,h,hu=>by
  simp only [List.getElem?_cons_zero,Option.some.injEq] at h
  subst h
  have hi:i < 2:=by have:=(List.getElem?_eq_some_iff.1 hu).1;simpa using this
  show ([Value.string y.f0,.string y.f1] ++ fcells r)[0 * 2 + i]? = some u
  rw [Nat.zero_mul,Nat.zero_add,List.getElem?_append_left (by simpa using hi)]
  exact hu
 | y :: r,j + 1,i,x,u,h,hu=>by
  have hi:i < 2:=by have:=(List.getElem?_eq_some_iff.1 hu).1;simpa using this
  show ([Value.string y.f0,.string y.f1] ++ fcells r)[(j + 1) * 2 + i]? = some u
  rw [List.getElem?_append_right (by simp;omega)]
  have:=fcells_get r j i x u (by simpa using h) hu
  rw [show (j + 1) * 2 + i - ([Value.string y.f0,.string y.f1]:List Value).length=j * 2 + i by simp;omega]
  exact this
/-- A row of fields that a literal laid. -/
theorem C_fields (W:World) (g e:Nat) (xs:List (S41)) (fr:Nat × Nat) (hb:W.heap[g]? = some (.cells (fcells xs).toArray e fr)) (hm:xs.length ≤ 9223372036854775807):Kd.C k41 W (some ⟨g,0,none⟩) xs.length xs:=by
 refine ⟨rfl,hm,fun _=>⟨_,rfl,fun j x hj=>⟨[.string x.f0,.string x.f1],rfl,k41_mk W x,fun i u hu=>?_⟩⟩⟩
 rw [add_plain,cell_of_row _ _ _ _ _ _ hb]
 rw [List.getElem?_toArray]
 exact fcells_get xs j i x u hj hu
def al12_w (w:World):World:=(((w.alloc (.cells (fcells al12_fs).toArray 41)).alloc (.cells #[.string ⟨#[71,69,84]⟩,.string ⟨#[47]⟩,.int .i64 1,.slice (some ⟨w.heap.size,0,none⟩) 4 4,.slice none 0 0] 33)).alloc (.cells (fcells [⟨⟨#[90]⟩,⟨#[51]⟩⟩]).toArray 41)).alloc (.cells #[.slice none 0 0,.slice none 0 0,.slice (some ⟨w.heap.size + 1 + 1,0,none⟩) 1 1,.slice none 0 0,.int .i64 0,.int .i64 0,.int .i64 0,.int .i64 0] 38)
theorem al12_b0 (w:World):(al12_w w).heap[w.heap.size]? = some (.cells (fcells al12_fs).toArray 41):=blk_alloc (blk_alloc (blk_alloc (blk_new w _) _) _) _
theorem al12_b1 (w:World):(al12_w w).heap[w.heap.size + 1]? = some (.cells #[.string ⟨#[71,69,84]⟩,.string ⟨#[47]⟩,.int .i64 1,.slice (some ⟨w.heap.size,0,none⟩) 4 4,.slice none 0 0] 33):=by
 have h:=blk_new (w.alloc (.cells (fcells al12_fs).toArray 41)) (.cells #[.string ⟨#[71,69,84]⟩,.string ⟨#[47]⟩,.int .i64 1,.slice (some ⟨w.heap.size,0,none⟩) 4 4,.slice none 0 0] 33)
 have hz:(w.alloc (.cells (fcells al12_fs).toArray 41)).heap.size=w.heap.size + 1:=by simp
 rw [hz] at h
 exact blk_alloc (blk_alloc h _) _
theorem al12_b2 (w:World):(al12_w w).heap[w.heap.size + 1 + 1]? = some (.cells (fcells [⟨⟨#[90]⟩,⟨#[51]⟩⟩]).toArray 41):=by
 have h:=blk_new ((w.alloc (.cells (fcells al12_fs).toArray 41)).alloc (.cells #[.string ⟨#[71,69,84]⟩,.string ⟨#[47]⟩,.int .i64 1,.slice (some ⟨w.heap.size,0,none⟩) 4 4,.slice none 0 0] 33)) (.cells (fcells [⟨⟨#[90]⟩,⟨#[51]⟩⟩]).toArray 41)
 have hz:((w.alloc (.cells (fcells al12_fs).toArray 41)).alloc (.cells #[.string ⟨#[71,69,84]⟩,.string ⟨#[47]⟩,.int .i64 1,.slice (some ⟨w.heap.size,0,none⟩) 4 4,.slice none 0 0] 33)).heap.size=w.heap.size + 1 + 1:=by simp
 rw [hz] at h
 exact blk_alloc h _
theorem al12_below (w:World):Below w.heap.size w (al12_w w):=below_alloc (below_alloc (below_alloc (below_alloc (Below.refl _ _) _) _) _) _
set_option maxHeartbeats 8000000 in
set_option maxRecDepth 100000 in
theorem tollbarlaw12_alive.calls (r:Bool) (w:World) (h:tollbarlaw12_alive.f=some r) (ht:Tabs w) :
  Calls Tryd.prog 10 #[] w fun e w' => e = .returned (.bool r)∧Below w.heap.size w w' := by
 obtain rfl:=Option.some.inj h
 clear h
 have HTB:=Aside0.mk ht
 clear ht
 have hu1:=Tryd.underlying33
 have hu2:=Tryd.underlying38
 have hu3:=Tryd.underlying48
 have hu4:=Tryd.underlying41
 have kc:=fun (w:World) (C:Array Value) (n c:Nat)=>Lib.run_convert_bytes_const (P:=Tryd.prog) w 25 5 C n c Tryd.underlying25 Tryd.underlying5
 go_enter Tryd.func10,Tryd.ntmps10
 go_wp2_with fail
 go_at_call 15
 refine (scrub_Request.calls 60 ⟨#[71,69,84]⟩ ⟨#[47]⟩ 1 _ _ al12_fs _ _ [] _ _ [] _ _ [] _ _ [⟨⟨#[90]⟩,⟨#[51]⟩⟩] _ _ [] 0 0 0 0 ⟨#[104]⟩ ⟨#[47,110]⟩ _ _ _ _ _ (al12_w w) (C_fields _ _ _ _ _ (al12_b0 w) (by decide)) (Nat.le_refl _) (Kd.C_nil _ _) (Nat.le_refl _) (Kd.C_nil _ _) (Nat.le_refl _) (Kd.C_nil _ _) (Nat.le_refl _) (C_fields _ _ _ _ _ (al12_b2 w) (by decide)) (Nat.le_refl _) (Kd.C_nil _ _) (Nat.le_refl _) al12_1 (HTB.out.below (al12_below w))).mono ?_
 rintro e w1 ⟨v1,v2,rfl,hr1,hr2,hb⟩
 obtain ⟨A1,c1,rfl,hl1,hC1⟩:=Kd.R_reads hr1
 obtain ⟨A2,c2,rfl⟩:=Kd.R_slice hr2
 have B1:=Aside0.mk (below_step (al12_below w) hb)
 have R1:=Aside0.mk hC1
 have F0:=Aside0.mk (blk_below (al12_b0 w) hb)
 have F1:=Aside0.mk (blk_below (al12_b1 w) hb)
 clear hr1 hr2 hC1 hb
 go_wp2_with fail
 go_at_call 24
 refine (scrub_Own.calls 404 true _ _ _ _ _ _ al12_2 (HTB.out.below (below_alloc B1.out _))).mono ?_
 rintro e w2 ⟨v3,v4,rfl,hr3,hr4,hb⟩
 obtain ⟨A3,c3,rfl⟩:=Kd.R_slice hr3
 obtain ⟨A4,c4,rfl⟩:=Kd.R_slice hr4
 have B2:=Aside0.mk (below_step (below_alloc B1.out _) hb)
 have R2:=Aside0.mk (Kd.C_below (Kd.C_alloc R1.out _) hb)
 have G0:=Aside0.mk (blk_below (blk_alloc F0.out _) hb)
 have G1:=Aside0.mk (blk_below (blk_alloc F1.out _) hb)
 have G3:=Aside0.mk (blk_below (blk_new w1 _) hb)
 clear hr3 hr4 hb B1 R1 F0 F1
 have k1:(w2.alloc (.cells #[.int .i64 404,.string ⟨#[78,111,116,32,70,111,117,110,100]⟩,.int .i64 1,.slice A3 2 c3,.slice A4 0 c4] 48)).cell? ⟨w.heap.size + 1,3,none⟩=some (.slice (some ⟨w.heap.size,0,none⟩) 4 4):=(blk_cell (blk_alloc G1.out _) 3).trans rfl
 have hz:(w2.alloc (.cells #[.int .i64 404,.string ⟨#[78,111,116,32,70,111,117,110,100]⟩,.int .i64 1,.slice A3 2 c3,.slice A4 0 c4] 48)).heap.size=w2.heap.size + 1:=by simp
 have kc:=Lib.run_convert_bytes_const (P:=Tryd.prog) (w2.alloc (.cells #[.int .i64 404,.string ⟨#[78,111,116,32,70,111,117,110,100]⟩,.int .i64 1,.slice A3 2 c3,.slice A4 0 c4] 48)) 25 5 #[.int .u8 97,.int .u8 98] 2 2 Tryd.underlying25 Tryd.underlying5
 rw [hz] at kc
 have hcb:=C_const (w2.alloc (.cells #[.int .i64 404,.string ⟨#[78,111,116,32,70,111,117,110,100]⟩,.int .i64 1,.slice A3 2 c3,.slice A4 0 c4] 48)) 5 [97,98] (2,3) (by decide)
 rw [hz] at hcb
 have HCB:=Aside0.mk hcb
 clear hcb hz
 go_wp2_with fail
 go_at_call 25
 refine (scrub_Response.calls 60 200 ⟨#[79,75]⟩ 0 _ _ al12_fs _ _ [97,98] ⟨#[71,69,84]⟩ false _ _ _ _ _ _ (C_fields _ _ _ _ _ (blk_alloc (blk_alloc G0.out _) _) (by decide)) (Nat.le_refl _) HCB.out (Nat.le_refl _) al12_3 (HTB.out.below (below_alloc (below_alloc B2.out _) _))).mono ?_
 rintro e w3 ⟨v5,v6,rfl,hr5,hr6,hb⟩
 obtain ⟨A5,c5,rfl,hl5,hC5⟩:=Kd.R_reads hr5
 obtain ⟨A6,c6,rfl⟩:=Kd.R_slice hr6
 have B3:=Aside0.mk (below_step (below_alloc (below_alloc B2.out _) _) hb)
 have R3:=Aside0.mk (Kd.C_below (Kd.C_alloc (Kd.C_alloc R2.out _) _) hb)
 have H0:=Aside0.mk (blk_below (blk_alloc (blk_alloc G0.out _) _) hb)
 have H1:=Aside0.mk (blk_below (blk_alloc (blk_alloc G1.out _) _) hb)
 have H3:=Aside0.mk (blk_below (blk_alloc (blk_alloc G3.out _) _) hb)
 have H4:=Aside0.mk (blk_below (blk_alloc (blk_new w2 (.cells #[.int .i64 404,.string ⟨#[78,111,116,32,70,111,117,110,100]⟩,.int .i64 1,.slice A3 2 c3,.slice A4 0 c4] 48)) _) hb)
 have R5:=Aside0.mk hC5
 have R6:=Aside0.mk hr6
 clear B2 R2 G0 G1 G3 hr5 hC5 hb kc k1
 have s1:(w3.alloc (.cells #[.int .i64 200,.string ⟨#[79,75]⟩,.int .i64 1,.slice A5 2 c5,.slice A6 2 c6] 48)).cell? ⟨w1.heap.size,1,none⟩=some (.string ⟨#[47,110]⟩):=(blk_cell (blk_alloc H3.out _) 1).trans rfl
 have s2:(w3.alloc (.cells #[.int .i64 200,.string ⟨#[79,75]⟩,.int .i64 1,.slice A5 2 c5,.slice A6 2 c6] 48)).cell? ⟨w1.heap.size,2,none⟩=some (.int .i64 1):=(blk_cell (blk_alloc H3.out _) 2).trans rfl
 have s3:(w3.alloc (.cells #[.int .i64 200,.string ⟨#[79,75]⟩,.int .i64 1,.slice A5 2 c5,.slice A6 2 c6] 48)).cell? ⟨w1.heap.size,3,none⟩=some (.slice A1 3 c1):=(blk_cell (blk_alloc H3.out _) 3).trans rfl
 have hz:(w3.alloc (.cells #[.int .i64 200,.string ⟨#[79,75]⟩,.int .i64 1,.slice A5 2 c5,.slice A6 2 c6] 48)).heap.size=w3.heap.size + 1:=by simp
 have hlit:=C_fields ((w3.alloc (.cells #[.int .i64 200,.string ⟨#[79,75]⟩,.int .i64 1,.slice A5 2 c5,.slice A6 2 c6] 48)).alloc (.cells (fcells al12_out).toArray 41)) (w3.alloc (.cells #[.int .i64 200,.string ⟨#[79,75]⟩,.int .i64 1,.slice A5 2 c5,.slice A6 2 c6] 48)).heap.size 41 al12_out (0,0) (blk_new _ _) (by decide)
 rw [hz] at hlit
 have HLIT:=Aside0.mk hlit
 clear hlit hz
 go_wp2_with fail
 go_at_call 26
 refine (tollbarref04_Same.calls 60 _ _ al12_out _ _ al12_out true ((w3.alloc (.cells #[.int .i64 200,.string ⟨#[79,75]⟩,.int .i64 1,.slice A5 2 c5,.slice A6 2 c6] 48)).alloc (.cells (fcells al12_out).toArray 41)) (Kd.C_alloc (Kd.C_alloc R3.out _) _) hl1 HLIT.out (Nat.le_refl _) al12_4).mono ?_
 rintro e w4 ⟨rfl,hd⟩
 have hb:Below ((w3.alloc (.cells #[.int .i64 200,.string ⟨#[79,75]⟩,.int .i64 1,.slice A5 2 c5,.slice A6 2 c6] 48)).alloc (.cells (fcells al12_out).toArray 41)).heap.size ((w3.alloc (.cells #[.int .i64 200,.string ⟨#[79,75]⟩,.int .i64 1,.slice A5 2 c5,.slice A6 2 c6] 48)).alloc (.cells (fcells al12_out).toArray 41)) w4:=by
  obtain ⟨n,rfl⟩:=hd.out
  exact pw_below_drewN (Below.refl _ _) _
 have B4:=Aside0.mk (below_step (below_alloc (below_alloc B3.out _) _) hb)
 have J0:=Aside0.mk (blk_below (blk_alloc (blk_alloc H0.out _) _) hb)
 have J1:=Aside0.mk (blk_below (blk_alloc (blk_alloc H1.out _) _) hb)
 have J4:=Aside0.mk (blk_below (blk_alloc (blk_alloc H4.out _) _) hb)
 have J5:=Aside0.mk (blk_below (blk_alloc (blk_new w3 (.cells #[.int .i64 200,.string ⟨#[79,75]⟩,.int .i64 1,.slice A5 2 c5,.slice A6 2 c6] 48)) _) hb)
 have R7:=Aside0.mk (Kd.C_below (Kd.C_alloc (Kd.C_alloc R5.out _) _) hb)
 have R8:=Aside0.mk (Kd.R_below (Kd.R_alloc (Kd.R_alloc R6.out _) _) hb)
 clear hd hb B3 H0 H1 H4 R5 R6 R3 H3 HLIT s1 s2 s3
 have o0:w4.cell? ⟨w2.heap.size,0,none⟩=some (.int .i64 404):=(blk_cell J4.out 0).trans rfl
 have o3:w4.cell? ⟨w2.heap.size,3,none⟩=some (.slice A3 2 c3):=(blk_cell J4.out 3).trans rfl
 have p3:w4.cell? ⟨w3.heap.size,3,none⟩=some (.slice A5 2 c5):=(blk_cell J5.out 3).trans rfl
 have p4:w4.cell? ⟨w3.heap.size,4,none⟩=some (.slice A6 2 c6):=(blk_cell J5.out 4).trans rfl
 have r3:w4.cell? ⟨w.heap.size + 1,3,none⟩=some (.slice (some ⟨w.heap.size,0,none⟩) 4 4):=(blk_cell J1.out 3).trans rfl
 have hcv:(convert 25 9 (.slice A6 2 c6)).run Tryd.prog w4 = .ok (.string ⟨#[97,98]⟩) w4:=own_string (P:=Tryd.prog) Tryd.underlying25 Tryd.underlying5 Tryd.underlying9 (Kd.own_of_R R8.out)
 obtain ⟨ad5,e5,x50,x51⟩:=at_T41 R7.out 1 (by decide) (by decide)
 have y51:w4.cell? ⟨(ad5.add 2).block,(ad5.add 2).off + 1,none⟩=some (.string ⟨#[50]⟩):=by
  have h:=x51
  rw [show (rd_T41 [⟨⟨#[89]⟩,⟨#[50]⟩⟩,al12_len 2] 1).f1=⟨#[50]⟩ from al12_7] at h
  exact h
 have z51:w4.cell? ⟨ad5.block,ad5.off + 2 + 1,none⟩=some (.string ⟨#[50]⟩):=by
  have h1:(ad5.add 2).block=ad5.block:=by simp [Addr.add]
  have h2:(ad5.add 2).off=ad5.off + 2:=by simp [Addr.add]
  rw [h1,h2] at y51
  exact y51
 subst e5
 clear x50 x51 y51
 go_wp2_with fail
 go_at_call 12
 refine (scrub_Hop.calls 60 _ _ al12_fs ⟨#[120]⟩ true w4 (C_fields _ _ _ _ _ J0.out (by decide)) (Nat.le_refl _) al12_5).mono ?_
 rintro e w5 ⟨rfl,hb⟩
 have r35:=pw_cell_below hb r3
 have K0:=Aside0.mk (blk_below J0.out hb)
 have B5:=Aside0.mk (below_step B4.out hb)
 clear hb
 go_wp2_with fail
 go_at_call 12
 refine (scrub_Hop.calls 60 _ _ al12_fs ⟨#[121]⟩ false w5 (C_fields _ _ _ _ _ K0.out (by decide)) (Nat.le_refl _) al12_6).mono ?_
 rintro e w6 ⟨rfl,hb⟩
 have B6:=Aside0.mk (below_step B5.out hb)
 clear hb
 go_wp2
 go_ret
 exact ⟨by first|rfl|(simp;done),B6.out⟩
def tollbarlaw12_few.f (l0:List (S41)) (l1:List ByteArray):Option (Bool):=if (l0.length:Int) ≤ 60 then (some (decide ((l1.length:Int) ≤ 60))) else (some false)
set_option maxHeartbeats 8000000 in
set_option maxRecDepth 100000 in
theorem tollbarlaw12_few.calls (A0:Option Addr) (c0:Nat) (l0:List (S41)) (A1:Option Addr) (c1:Nat) (l1:List ByteArray) (r:Bool) (w:World) (hr0:Kd.C k41 w A0 l0.length l0) (hc0:l0.length ≤ c0) (hr1:Kd.C Kd.string w A1 l1.length l1) (hc1:l1.length ≤ c1) (h:tollbarlaw12_few.f l0 l1=some r) :
  Calls Tryd.prog 11 #[.slice A0 l0.length c0,.slice A1 l1.length c1] w fun e w' => e = .returned (.bool r)∧Drawn0 w w' := by
 have HR0:=Aside0.mk hr0
 have HC0:=Aside0.mk hc0
 clear hr0 hc0
 have HR1:=Aside0.mk hr1
 have HC1:=Aside0.mk hc1
 clear hr1 hc1
 have H:(if (l0.length:Int) ≤ 60 then (some (decide ((l1.length:Int) ≤ 60))) else (some false))=some r:=h
 clear h
 by_cases c3:(l0.length:Int) ≤ 60
 ·rw [if_pos c3] at H
  have c3b0:decide ((l0.length:Int) ≤ 60)=true:=decide_eq_true c3
  have c3b1:decide (l0.length ≤ 60)=true:=decide_eq_true (by omega)
  clear c3
  obtain rfl:=Option.some.inj H
  go_enter Tryd.func11,Tryd.ntmps11
  go_wp2
  go_ret
  exact ⟨by first|rfl|(simp;done)|(simp [*];done),by repeat (first|exact Drawn0.refl _|apply Drawn0.step)⟩
 ·rw [if_neg c3] at H
  have c3b0:decide ((l0.length:Int) ≤ 60)=false:=decide_eq_false c3
  have c3b1:decide (l0.length ≤ 60)=false:=decide_eq_false (by omega)
  clear c3
  obtain rfl:=Option.some.inj H
  go_enter Tryd.func11,Tryd.ntmps11
  go_wp2
  go_ret
  exact ⟨by first|rfl|(simp;done)|(simp [*];done),by repeat (first|exact Drawn0.refl _|apply Drawn0.step)⟩
def tollbarref01_SameBytes.l0:Nat → List Int → List Int → Int → Option (Bool)
 | 0,_,_,_=>none
 | k + 1,x0,x1,x5=>if x5 < (x0.length:Int) then (if 0 ≤ x5 then (if x5 < (x1.length:Int) then (if (rd x0 x5)=(rd x1 x5) then (tollbarref01_SameBytes.l0 k x0 x1 (wrap64 (x5 + 1))) else (some false)) else (none)) else (none)) else (some true)
def tollbarref01_SameBytes.f (k:Nat) (l0:List Int) (l1:List Int):Option (Bool):=if (l0.length:Int)=(l1.length:Int) then (tollbarref01_SameBytes.l0 k l0 l1 0) else (some false)
set_option maxHeartbeats 8000000 in
set_option maxRecDepth 100000 in
theorem tollbarref01_SameBytes.calls (k:Nat) (A0:Option Addr) (c0:Nat) (l0:List Int) (A1:Option Addr) (c1:Nat) (l1:List Int) (r:Bool) (w:World) (hr0:Kd.C (Kd.int .u8) w A0 l0.length l0) (hc0:l0.length ≤ c0) (hr1:Kd.C (Kd.int .u8) w A1 l1.length l1) (hc1:l1.length ≤ c1) (h:tollbarref01_SameBytes.f k l0 l1=some r) :
  Calls Tryd.prog 9 #[.slice A0 l0.length c0,.slice A1 l1.length c1] w fun e w' => e = .returned (.bool r)∧Drawn0 w w' := by
 have HR0:=Aside0.mk hr0
 have HC0:=Aside0.mk hc0
 clear hr0 hc0
 have HR1:=Aside0.mk hr1
 have HC1:=Aside0.mk hc1
 clear hr1 hc1
 have H:(if (l0.length:Int)=(l1.length:Int) then (tollbarref01_SameBytes.l0 k l0 l1 0) else (some false))=some r:=h
 clear h
 by_cases c3:(l0.length:Int)=(l1.length:Int)
 ·rw [if_pos c3] at H
  have c3b0:((l0.length:Int) == (l1.length:Int))=true:=beq_iff_eq.mpr c3
  have c3b1:((l0.length:Int) != (l1.length:Int))=false:=bne_eq_false_iff_eq.mpr c3
  have c3b2:(l0.length == l1.length)=true:=by first|simpa using c3|(simp at c3 ⊢;omega)
  clear c3
  have H' := Aside0.mk H
  clear H
  go_enter Tryd.func9,Tryd.ntmps9
  go_wp2
  repeat (go_quiet (fail);try go_wp2)
  go_loopg [5] k (fun kq v5 w' => ∃ (x5_1:Int),v5 = .int .i64 x5_1∧Aside0 (tollbarref01_SameBytes.l0 kq l0 l1 x5_1=some r)∧Aside0 (kq ≤ k)∧Drawn0 w w')
  case atStart=>exact ⟨(0),(by first|rfl|(simp;done)|(simp [*];done)),H',⟨Nat.le_refl _⟩,by repeat (first|exact Drawn0.refl _|apply Drawn0.step)⟩
  case round =>
   clear H'
   try clear c1
   try clear p2
   try clear c3
   try clear c3b0
   try clear c3b1
   try clear c3b2
   obtain ⟨x5_1,rfl,HA,HK1,⟨m1,rfl⟩⟩:=hrel
   cases gk with
   | zero=>exact absurd HA.out (by simp [tollbarref01_SameBytes.l0])
   | succ k1 =>
    have H:=HA.out
    clear HA
    simp only [tollbarref01_SameBytes.l0] at H
    by_cases c4:x5_1 < (l0.length:Int)
    ·rw [if_pos c4] at H
     have c4b0:decide (x5_1 < (l0.length:Int))=true:=decide_eq_true c4
     clear c4
     by_cases c5:0 ≤ x5_1
     ·rw [if_pos c5] at H
      have c5b0:decide (0 ≤ x5_1)=true:=decide_eq_true c5
      clear c5
      by_cases c6:x5_1 < (l1.length:Int)
      ·rw [if_pos c6] at H
       have c6b0:decide (x5_1 < (l1.length:Int))=true:=decide_eq_true c6
       clear c6
       by_cases c7:(rd l0 x5_1)=(rd l1 x5_1)
       ·rw [if_pos c7] at H
        have c7b0:((rd l0 x5_1) == (rd l1 x5_1))=true:=beq_iff_eq.mpr c7
        have c7b1:((rd l0 x5_1) != (rd l1 x5_1))=false:=bne_eq_false_iff_eq.mpr c7
        clear c7
        have H' := Aside0.mk H
        clear H
        have p192:0 ≤ (x5_1:Int):=of_decide_eq_true (by first|(with_reducible assumption)|assumption)
        have q192:x5_1 < (l0.length:Int):=of_decide_eq_true (by first|(with_reducible assumption)|assumption)
        obtain ⟨ad192,e192,hx192_0⟩:=Kd.at_int HR0.out x5_1 p192 q192
        cases e192
        replace p192:=eq_true p192
        replace q192:=eq_true q192
        have p193:0 ≤ (x5_1:Int):=of_decide_eq_true (by first|(with_reducible assumption)|assumption)
        have q193:x5_1 < (l1.length:Int):=of_decide_eq_true (by first|(with_reducible assumption)|assumption)
        obtain ⟨ad193,e193,hx193_0⟩:=Kd.at_int HR1.out x5_1 p193 q193
        cases e193
        replace p193:=eq_true p193
        replace q193:=eq_true q193
        go_wp2
        repeat (go_quiet (fail);try go_wp2)
        go_roundg k1
        case measure=>have:=HK1.out;omega
        case rel=>exact ⟨(wrap64 (x5_1 + 1)),(by first|rfl|(simp;done)|(simp [*];done)),H',⟨by have:=HK1.out;omega⟩,by repeat (first|exact Drawn0.refl _|apply Drawn0.step)⟩
       ·rw [if_neg c7] at H
        have c7b0:((rd l0 x5_1) == (rd l1 x5_1))=false:=beq_eq_false_iff_ne.mpr c7
        have c7b1:((rd l0 x5_1) != (rd l1 x5_1))=true:=bne_iff_ne.mpr c7
        obtain rfl:=Option.some.inj H
        have p192:0 ≤ (x5_1:Int):=of_decide_eq_true (by first|(with_reducible assumption)|assumption)
        have q192:x5_1 < (l0.length:Int):=of_decide_eq_true (by first|(with_reducible assumption)|assumption)
        obtain ⟨ad192,e192,hx192_0⟩:=Kd.at_int HR0.out x5_1 p192 q192
        cases e192
        replace p192:=eq_true p192
        replace q192:=eq_true q192
        have p193:0 ≤ (x5_1:Int):=of_decide_eq_true (by first|(with_reducible assumption)|assumption)
        have q193:x5_1 < (l1.length:Int):=of_decide_eq_true (by first|(with_reducible assumption)|assumption)
        obtain ⟨ad193,e193,hx193_0⟩:=Kd.at_int HR1.out x5_1 p193 q193
        cases e193
        replace p193:=eq_true p193
        replace q193:=eq_true q193
        go_wp2
        repeat (go_quiet (fail);try go_wp2)
        go_ret
        exact ⟨by first|rfl|(simp;done)|(simp [*];done),by repeat (first|exact Drawn0.refl _|apply Drawn0.step)⟩
      ·rw [if_neg c6] at H
       exact absurd H (by simp)
     ·rw [if_neg c5] at H
      exact absurd H (by simp)
    ·rw [if_neg c4] at H
     have c4b0:decide (x5_1 < (l0.length:Int))=false:=decide_eq_false c4
     clear c4
     obtain rfl:=Option.some.inj H
     go_wp2
     repeat (go_quiet (fail);try go_wp2)
     go_ret
     exact ⟨by first|rfl|(simp;done)|(simp [*];done),by repeat (first|exact Drawn0.refl _|apply Drawn0.step)⟩
 ·rw [if_neg c3] at H
  have c3b0:((l0.length:Int) == (l1.length:Int))=false:=beq_eq_false_iff_ne.mpr c3
  have c3b1:((l0.length:Int) != (l1.length:Int))=true:=bne_iff_ne.mpr c3
  have c3b2:(l0.length == l1.length)=false:=by first|simpa using c3|(simp at c3 ⊢;omega)
  obtain rfl:=Option.some.inj H
  go_enter Tryd.func9,Tryd.ntmps9
  go_wp2
  repeat (go_quiet (fail);try go_wp2)
  go_ret
  exact ⟨by first|rfl|(simp;done)|(simp [*];done),by repeat (first|exact Drawn0.refl _|apply Drawn0.step)⟩
def tollbarref08_SameReq.f (k:Nat) (a0_0:ByteArray) (a0_1:ByteArray) (a0_2:Int) (l0_3:List (S41)) (l0_4:List Int) (a1_0:ByteArray) (a1_1:ByteArray) (a1_2:Int) (l1_3:List (S41)) (l1_4:List Int):Option (Bool):=if a0_0.toList=a1_0.toList then (if a0_1.toList=a1_1.toList then (if a0_2=a1_2 then ((tollbarref04_Same.f k l0_3 l1_3).bind fun t482=>(if t482=true then ((tollbarref01_SameBytes.f k l0_4 l1_4).bind fun t483=>(some t483)) else (some false))) else (some false)) else (some false)) else (some false)
set_option maxHeartbeats 8000000 in
set_option maxRecDepth 100000 in
theorem tollbarref08_SameReq.calls (k:Nat) (a0_0:ByteArray) (a0_1:ByteArray) (a0_2:Int) (A0_3:Option Addr) (c0_3:Nat) (l0_3:List (S41)) (A0_4:Option Addr) (c0_4:Nat) (l0_4:List Int) (a1_0:ByteArray) (a1_1:ByteArray) (a1_2:Int) (A1_3:Option Addr) (c1_3:Nat) (l1_3:List (S41)) (A1_4:Option Addr) (c1_4:Nat) (l1_4:List Int) (r:Bool) (w:World) (hr0_3:Kd.C k41 w A0_3 l0_3.length l0_3) (hc0_3:l0_3.length ≤ c0_3) (hr0_4:Kd.C (Kd.int .u8) w A0_4 l0_4.length l0_4) (hc0_4:l0_4.length ≤ c0_4) (hr1_3:Kd.C k41 w A1_3 l1_3.length l1_3) (hc1_3:l1_3.length ≤ c1_3) (hr1_4:Kd.C (Kd.int .u8) w A1_4 l1_4.length l1_4) (hc1_4:l1_4.length ≤ c1_4) (h:tollbarref08_SameReq.f k a0_0 a0_1 a0_2 l0_3 l0_4 a1_0 a1_1 a1_2 l1_3 l1_4=some r) :
  Calls Tryd.prog 14 #[.agg #[.string a0_0,.string a0_1,.int .i64 a0_2,.slice A0_3 l0_3.length c0_3,.slice A0_4 l0_4.length c0_4],.agg #[.string a1_0,.string a1_1,.int .i64 a1_2,.slice A1_3 l1_3.length c1_3,.slice A1_4 l1_4.length c1_4]] w fun e w' => e = .returned (.bool r)∧Below w.heap.size w w' := by
 have hu33:=Tryd.underlying33
 have HR0_3:=Aside0.mk hr0_3
 have HC0_3:=Aside0.mk hc0_3
 clear hr0_3 hc0_3
 have HR0_4:=Aside0.mk hr0_4
 have HC0_4:=Aside0.mk hc0_4
 clear hr0_4 hc0_4
 have HR1_3:=Aside0.mk hr1_3
 have HC1_3:=Aside0.mk hc1_3
 clear hr1_3 hc1_3
 have HR1_4:=Aside0.mk hr1_4
 have HC1_4:=Aside0.mk hc1_4
 clear hr1_4 hc1_4
 have HB:=Aside0.mk (Below.refl w.heap.size w)
 have H:(if a0_0.toList=a1_0.toList then (if a0_1.toList=a1_1.toList then (if a0_2=a1_2 then ((tollbarref04_Same.f k l0_3 l1_3).bind fun t37=>(if t37=true then ((tollbarref01_SameBytes.f k l0_4 l1_4).bind fun t36=>(some t36)) else (some false))) else (some false)) else (some false)) else (some false))=some r:=h
 clear h
 by_cases c3:a0_0.toList=a1_0.toList
 ·rw [if_pos c3] at H
  have c3b0:(a0_0.toList == a1_0.toList)=true:=beq_iff_eq.mpr c3
  have c3b1:(a0_0.toList != a1_0.toList)=false:=bne_eq_false_iff_eq.mpr c3
  clear c3
  by_cases c4:a0_1.toList=a1_1.toList
  ·rw [if_pos c4] at H
   have c4b0:(a0_1.toList == a1_1.toList)=true:=beq_iff_eq.mpr c4
   have c4b1:(a0_1.toList != a1_1.toList)=false:=bne_eq_false_iff_eq.mpr c4
   clear c4
   by_cases c5:a0_2=a1_2
   ·rw [if_pos c5] at H
    have c5b0:(a0_2 == a1_2)=true:=beq_iff_eq.mpr c5
    have c5b1:(a0_2 != a1_2)=false:=bne_eq_false_iff_eq.mpr c5
    clear c5
    replace H:=Option.bind_eq_some_iff.mp H
    obtain ⟨t37,A60,H⟩:=H
    replace H:(if t37=true then ((tollbarref01_SameBytes.f k l0_4 l1_4).bind fun t36=>(some t36)) else (some false))=some r:=H
    have A6:=Aside0.mk A60
    clear A60
    by_cases c7:t37=true
    ·subst c7
     have H1:((tollbarref01_SameBytes.f k l0_4 l1_4).bind fun t36=>(some t36))=some r:=by rw [if_pos rfl] at H;exact H
     clear H
     have H:=H1
     clear H1
     replace H:=Option.bind_eq_some_iff.mp H
     obtain ⟨t36,A80,H⟩:=H
     replace H:(some t36)=some r:=H
     have A8:=Aside0.mk A80
     clear A80
     obtain rfl:=Option.some.inj H
     go_enter Tryd.func14,Tryd.ntmps14
     go_wp2_with (first|((with_reducible refine gate_dst (N:=2) rfl ?_);refine box_event ?hg (N:=2) ?hd (cs:=#[.string a0_0,.string a0_1,.int .i64 a0_2,.slice A0_3 l0_3.length c0_3,.slice A0_4 l0_4.length c0_4]) (t:=33) ?hr ?_;(case hd=>rfl);(case hg=>rfl);(case hr=>first|(go_simp;done)|(go_simp;rfl));intro gb34 hg w9 hbox hb;have n0_:=Aside0.mk (below_step (by repeat (first|(with_reducible first|exact HB.out|apply below_alloc|apply pw_below_drewN|apply below_drew1)|exact HB.out)) hb);have n1_:=Aside0.mk (hbox);have n2_:=Aside0.mk ((by rw [hg];exact (below_size (by repeat (first|(with_reducible first|exact HB.out|apply below_alloc|apply pw_below_drewN|apply below_drew1)|exact HB.out))):w.heap.size ≤ gb34));have n3_:=Aside0.mk ((by rw [hg];exact (below_size (by repeat (first|(with_reducible first|exact HB.out|apply below_alloc|apply pw_below_drewN|apply below_drew1)|exact HB.out))):w.heap.size ≤ gb34));clear HB;have HB:=n0_;have BK34:=n1_;have GW34:=n2_;have GE34:=n3_;clear n0_ n1_ n2_ n3_;clear hb hbox hg)|((with_reducible refine gate_dst (N:=3) rfl ?_);refine box_event ?hg (N:=3) ?hd (cs:=#[.string a1_0,.string a1_1,.int .i64 a1_2,.slice A1_3 l1_3.length c1_3,.slice A1_4 l1_4.length c1_4]) (t:=33) ?hr ?_;(case hd=>rfl);(case hg=>rfl);(case hr=>first|(go_simp;done)|(go_simp;rfl));intro gb35 hg w10 hbox hb;have n0_:=Aside0.mk (blk_below (g:=gb34) (o:=.cells #[.string a0_0,.string a0_1,.int .i64 a0_2,.slice A0_3 l0_3.length c0_3,.slice A0_4 l0_4.length c0_4] 33 (0,0)) (by (with_reducible repeat (first|refine blk_drewN ?_ _|refine blk_drew ?_|refine blk_alloc ?_ _));exact BK34.out) hb);have n1_:=Aside0.mk (below_step (by repeat (first|(with_reducible first|exact HB.out|apply below_alloc|apply pw_below_drewN|apply below_drew1|refine below_set ?_ GE34.out)|exact HB.out)) hb);have n2_:=Aside0.mk (hbox);have n3_:=Aside0.mk ((by rw [hg];exact (below_size (by repeat (first|(with_reducible first|exact HB.out|apply below_alloc|apply pw_below_drewN|apply below_drew1|refine below_set ?_ GE34.out)|exact HB.out))):w.heap.size ≤ gb35));have n4_:=Aside0.mk ((by rw [hg];exact (below_size (by repeat (first|(with_reducible first|exact HB.out|apply below_alloc|apply pw_below_drewN|apply below_drew1|refine below_set ?_ GE34.out)|exact HB.out))):w.heap.size ≤ gb35));have n5_:=Aside0.mk ((by rw [hg];exact Nat.ne_of_lt (blk_lt (g:=gb34) (o:=.cells #[.string a0_0,.string a0_1,.int .i64 a0_2,.slice A0_3 l0_3.length c0_3,.slice A0_4 l0_4.length c0_4] 33 (0,0)) (by (with_reducible repeat (first|refine blk_drewN ?_ _|refine blk_drew ?_|refine blk_alloc ?_ _));exact BK34.out)):gb34 ≠ gb35));have n6_:=Aside0.mk ((by rw [hg];exact Nat.ne_of_gt (blk_lt (g:=gb34) (o:=.cells #[.string a0_0,.string a0_1,.int .i64 a0_2,.slice A0_3 l0_3.length c0_3,.slice A0_4 l0_4.length c0_4] 33 (0,0)) (by (with_reducible repeat (first|refine blk_drewN ?_ _|refine blk_drew ?_|refine blk_alloc ?_ _));exact BK34.out)):gb35 ≠ gb34));clear BK34;clear HB;have BK34:=n0_;have HB:=n1_;have BK35:=n2_;have GW35:=n3_;have GE35:=n4_;have NB34_481:=n5_;have NB35_480:=n6_;clear n0_ n1_ n2_ n3_ n4_ n5_ n6_;clear hb hbox hg;have hnb11:=NB34_481.out;have hnc11:=NB35_480.out;have hcz12_0:w10.cell? ⟨gb34,0,none⟩=some (.string a0_0):=(blk_cell BK34.out 0).trans rfl;have hcz12_1:w10.cell? ⟨gb34,1,none⟩=some (.string a0_1):=(blk_cell BK34.out 1).trans rfl;have hcz12_2:w10.cell? ⟨gb34,2,none⟩=some (.int .i64 a0_2):=(blk_cell BK34.out 2).trans rfl;have hcz12_3:w10.cell? ⟨gb34,3,none⟩=some (.slice A0_3 l0_3.length c0_3):=(blk_cell BK34.out 3).trans rfl;have hcz12_4:w10.cell? ⟨gb34,4,none⟩=some (.slice A0_4 l0_4.length c0_4):=(blk_cell BK34.out 4).trans rfl;have hfz12_0:=blk_frozen BK34.out 0;have hfz12_1:=blk_frozen BK34.out 1;have hfz12_2:=blk_frozen BK34.out 2;have hfz12_3:=blk_frozen BK34.out 3;have hfz12_4:=blk_frozen BK34.out 4;have hcz13_0:w10.cell? ⟨gb35,0,none⟩=some (.string a1_0):=(blk_cell BK35.out 0).trans rfl;have hcz13_1:w10.cell? ⟨gb35,1,none⟩=some (.string a1_1):=(blk_cell BK35.out 1).trans rfl;have hcz13_2:w10.cell? ⟨gb35,2,none⟩=some (.int .i64 a1_2):=(blk_cell BK35.out 2).trans rfl;have hcz13_3:w10.cell? ⟨gb35,3,none⟩=some (.slice A1_3 l1_3.length c1_3):=(blk_cell BK35.out 3).trans rfl;have hcz13_4:w10.cell? ⟨gb35,4,none⟩=some (.slice A1_4 l1_4.length c1_4):=(blk_cell BK35.out 4).trans rfl;have hfz13_0:=blk_frozen BK35.out 0;have hfz13_1:=blk_frozen BK35.out 1;have hfz13_2:=blk_frozen BK35.out 2;have hfz13_3:=blk_frozen BK35.out 3;have hfz13_4:=blk_frozen BK35.out 4)|(go_at_call 26;(with_reducible refine (tollbarref04_Same.calls k _ _ l0_3 _ _ l1_3 true _ ?side1 ?side2 ?side3 ?side4 A6.out).mono ?_);(case side1=>repeat (first|exact (Kd.C_below HR0_3.out HB.out)|(with_reducible refine Kd.C_alloc ?_ _)|(with_reducible refine Kd.C_drewN ?_ _)|(with_reducible refine Kd.C_drew ?_)));(case side2=>exact HC0_3.out);(case side3=>repeat (first|exact (Kd.C_below HR1_3.out HB.out)|(with_reducible refine Kd.C_alloc ?_ _)|(with_reducible refine Kd.C_drewN ?_ _)|(with_reducible refine Kd.C_drew ?_)));(case side4=>exact HC1_3.out);rintro e w' ⟨rfl,⟨nd,rfl⟩⟩;(try clear A6))|(go_at_call 9;(with_reducible refine (tollbarref01_SameBytes.calls k _ _ l0_4 _ _ l1_4 t36 _ ?side1 ?side2 ?side3 ?side4 A8.out).mono ?_);(case side1=>repeat (first|exact (Kd.C_below HR0_4.out (by repeat (first|(with_reducible first|exact HB.out|apply below_alloc|apply pw_below_drewN|apply below_drew1|refine below_set ?_ GE34.out|refine below_set ?_ GE35.out)|exact HB.out)))|(with_reducible refine Kd.C_alloc ?_ _)|(with_reducible refine Kd.C_drewN ?_ _)|(with_reducible refine Kd.C_drew ?_)));(case side2=>exact HC0_4.out);(case side3=>repeat (first|exact (Kd.C_below HR1_4.out (by repeat (first|(with_reducible first|exact HB.out|apply below_alloc|apply pw_below_drewN|apply below_drew1|refine below_set ?_ GE34.out|refine below_set ?_ GE35.out)|exact HB.out)))|(with_reducible refine Kd.C_alloc ?_ _)|(with_reducible refine Kd.C_drewN ?_ _)|(with_reducible refine Kd.C_drew ?_)));(case side4=>exact HC1_4.out);rintro e w' ⟨rfl,⟨nd,rfl⟩⟩;(try clear A8)))
     go_ret
     exact ⟨by first|rfl|(simp [errW_none,errW_some] <;> rfl)|(simp [*,errW_none,errW_some] <;> rfl),by repeat (first|(with_reducible first|exact HB.out|apply below_alloc|apply pw_below_drewN|apply below_drew1|refine below_set ?_ GE34.out|refine below_set ?_ GE35.out)|exact HB.out)⟩
    ·replace c7:=Bool.eq_false_iff.mpr c7
     subst c7
     have H1:(some false)=some r:=by rw [if_neg (show ¬ (false=true) by decide)] at H;exact H
     clear H
     have H:=H1
     clear H1
     obtain rfl:=Option.some.inj H
     go_enter Tryd.func14,Tryd.ntmps14
     go_wp2_with (first|((with_reducible refine gate_dst (N:=2) rfl ?_);refine box_event ?hg (N:=2) ?hd (cs:=#[.string a0_0,.string a0_1,.int .i64 a0_2,.slice A0_3 l0_3.length c0_3,.slice A0_4 l0_4.length c0_4]) (t:=33) ?hr ?_;(case hd=>rfl);(case hg=>rfl);(case hr=>first|(go_simp;done)|(go_simp;rfl));intro gb34 hg w14 hbox hb;have n0_:=Aside0.mk (below_step (by repeat (first|(with_reducible first|exact HB.out|apply below_alloc|apply pw_below_drewN|apply below_drew1)|exact HB.out)) hb);have n1_:=Aside0.mk (hbox);have n2_:=Aside0.mk ((by rw [hg];exact (below_size (by repeat (first|(with_reducible first|exact HB.out|apply below_alloc|apply pw_below_drewN|apply below_drew1)|exact HB.out))):w.heap.size ≤ gb34));have n3_:=Aside0.mk ((by rw [hg];exact (below_size (by repeat (first|(with_reducible first|exact HB.out|apply below_alloc|apply pw_below_drewN|apply below_drew1)|exact HB.out))):w.heap.size ≤ gb34));clear HB;have HB:=n0_;have BK34:=n1_;have GW34:=n2_;have GE34:=n3_;clear n0_ n1_ n2_ n3_;clear hb hbox hg)|((with_reducible refine gate_dst (N:=3) rfl ?_);refine box_event ?hg (N:=3) ?hd (cs:=#[.string a1_0,.string a1_1,.int .i64 a1_2,.slice A1_3 l1_3.length c1_3,.slice A1_4 l1_4.length c1_4]) (t:=33) ?hr ?_;(case hd=>rfl);(case hg=>rfl);(case hr=>first|(go_simp;done)|(go_simp;rfl));intro gb35 hg w15 hbox hb;have n0_:=Aside0.mk (blk_below (g:=gb34) (o:=.cells #[.string a0_0,.string a0_1,.int .i64 a0_2,.slice A0_3 l0_3.length c0_3,.slice A0_4 l0_4.length c0_4] 33 (0,0)) (by (with_reducible repeat (first|refine blk_drewN ?_ _|refine blk_drew ?_|refine blk_alloc ?_ _));exact BK34.out) hb);have n1_:=Aside0.mk (below_step (by repeat (first|(with_reducible first|exact HB.out|apply below_alloc|apply pw_below_drewN|apply below_drew1|refine below_set ?_ GE34.out)|exact HB.out)) hb);have n2_:=Aside0.mk (hbox);have n3_:=Aside0.mk ((by rw [hg];exact (below_size (by repeat (first|(with_reducible first|exact HB.out|apply below_alloc|apply pw_below_drewN|apply below_drew1|refine below_set ?_ GE34.out)|exact HB.out))):w.heap.size ≤ gb35));have n4_:=Aside0.mk ((by rw [hg];exact (below_size (by repeat (first|(with_reducible first|exact HB.out|apply below_alloc|apply pw_below_drewN|apply below_drew1|refine below_set ?_ GE34.out)|exact HB.out))):w.heap.size ≤ gb35));have n5_:=Aside0.mk ((by rw [hg];exact Nat.ne_of_lt (blk_lt (g:=gb34) (o:=.cells #[.string a0_0,.string a0_1,.int .i64 a0_2,.slice A0_3 l0_3.length c0_3,.slice A0_4 l0_4.length c0_4] 33 (0,0)) (by (with_reducible repeat (first|refine blk_drewN ?_ _|refine blk_drew ?_|refine blk_alloc ?_ _));exact BK34.out)):gb34 ≠ gb35));have n6_:=Aside0.mk ((by rw [hg];exact Nat.ne_of_gt (blk_lt (g:=gb34) (o:=.cells #[.string a0_0,.string a0_1,.int .i64 a0_2,.slice A0_3 l0_3.length c0_3,.slice A0_4 l0_4.length c0_4] 33 (0,0)) (by (with_reducible repeat (first|refine blk_drewN ?_ _|refine blk_drew ?_|refine blk_alloc ?_ _));exact BK34.out)):gb35 ≠ gb34));clear BK34;clear HB;have BK34:=n0_;have HB:=n1_;have BK35:=n2_;have GW35:=n3_;have GE35:=n4_;have NB34_481:=n5_;have NB35_480:=n6_;clear n0_ n1_ n2_ n3_ n4_ n5_ n6_;clear hb hbox hg;have hnb16:=NB34_481.out;have hnc16:=NB35_480.out;have hcz17_0:w15.cell? ⟨gb34,0,none⟩=some (.string a0_0):=(blk_cell BK34.out 0).trans rfl;have hcz17_1:w15.cell? ⟨gb34,1,none⟩=some (.string a0_1):=(blk_cell BK34.out 1).trans rfl;have hcz17_2:w15.cell? ⟨gb34,2,none⟩=some (.int .i64 a0_2):=(blk_cell BK34.out 2).trans rfl;have hcz17_3:w15.cell? ⟨gb34,3,none⟩=some (.slice A0_3 l0_3.length c0_3):=(blk_cell BK34.out 3).trans rfl;have hcz17_4:w15.cell? ⟨gb34,4,none⟩=some (.slice A0_4 l0_4.length c0_4):=(blk_cell BK34.out 4).trans rfl;have hfz17_0:=blk_frozen BK34.out 0;have hfz17_1:=blk_frozen BK34.out 1;have hfz17_2:=blk_frozen BK34.out 2;have hfz17_3:=blk_frozen BK34.out 3;have hfz17_4:=blk_frozen BK34.out 4;have hcz18_0:w15.cell? ⟨gb35,0,none⟩=some (.string a1_0):=(blk_cell BK35.out 0).trans rfl;have hcz18_1:w15.cell? ⟨gb35,1,none⟩=some (.string a1_1):=(blk_cell BK35.out 1).trans rfl;have hcz18_2:w15.cell? ⟨gb35,2,none⟩=some (.int .i64 a1_2):=(blk_cell BK35.out 2).trans rfl;have hcz18_3:w15.cell? ⟨gb35,3,none⟩=some (.slice A1_3 l1_3.length c1_3):=(blk_cell BK35.out 3).trans rfl;have hcz18_4:w15.cell? ⟨gb35,4,none⟩=some (.slice A1_4 l1_4.length c1_4):=(blk_cell BK35.out 4).trans rfl;have hfz18_0:=blk_frozen BK35.out 0;have hfz18_1:=blk_frozen BK35.out 1;have hfz18_2:=blk_frozen BK35.out 2;have hfz18_3:=blk_frozen BK35.out 3;have hfz18_4:=blk_frozen BK35.out 4)|(go_at_call 26;(with_reducible refine (tollbarref04_Same.calls k _ _ l0_3 _ _ l1_3 false _ ?side1 ?side2 ?side3 ?side4 A6.out).mono ?_);(case side1=>repeat (first|exact (Kd.C_below HR0_3.out HB.out)|(with_reducible refine Kd.C_alloc ?_ _)|(with_reducible refine Kd.C_drewN ?_ _)|(with_reducible refine Kd.C_drew ?_)));(case side2=>exact HC0_3.out);(case side3=>repeat (first|exact (Kd.C_below HR1_3.out HB.out)|(with_reducible refine Kd.C_alloc ?_ _)|(with_reducible refine Kd.C_drewN ?_ _)|(with_reducible refine Kd.C_drew ?_)));(case side4=>exact HC1_3.out);rintro e w' ⟨rfl,⟨nd,rfl⟩⟩;(try clear A6)))
     go_ret
     exact ⟨by first|rfl|(simp [errW_none,errW_some] <;> rfl)|(simp [*,errW_none,errW_some] <;> rfl),by repeat (first|(with_reducible first|exact HB.out|apply below_alloc|apply pw_below_drewN|apply below_drew1|refine below_set ?_ GE34.out|refine below_set ?_ GE35.out)|exact HB.out)⟩
   ·rw [if_neg c5] at H
    have c5b0:(a0_2 == a1_2)=false:=beq_eq_false_iff_ne.mpr c5
    have c5b1:(a0_2 != a1_2)=true:=bne_iff_ne.mpr c5
    obtain rfl:=Option.some.inj H
    go_enter Tryd.func14,Tryd.ntmps14
    go_wp2_with (first|((with_reducible refine gate_dst (N:=2) rfl ?_);refine box_event ?hg (N:=2) ?hd (cs:=#[.string a0_0,.string a0_1,.int .i64 a0_2,.slice A0_3 l0_3.length c0_3,.slice A0_4 l0_4.length c0_4]) (t:=33) ?hr ?_;(case hd=>rfl);(case hg=>rfl);(case hr=>first|(go_simp;done)|(go_simp;rfl));intro gb34 hg w19 hbox hb;have n0_:=Aside0.mk (below_step (by repeat (first|(with_reducible first|exact HB.out|apply below_alloc|apply pw_below_drewN|apply below_drew1)|exact HB.out)) hb);have n1_:=Aside0.mk (hbox);have n2_:=Aside0.mk ((by rw [hg];exact (below_size (by repeat (first|(with_reducible first|exact HB.out|apply below_alloc|apply pw_below_drewN|apply below_drew1)|exact HB.out))):w.heap.size ≤ gb34));have n3_:=Aside0.mk ((by rw [hg];exact (below_size (by repeat (first|(with_reducible first|exact HB.out|apply below_alloc|apply pw_below_drewN|apply below_drew1)|exact HB.out))):w.heap.size ≤ gb34));clear HB;have HB:=n0_;have BK34:=n1_;have GW34:=n2_;have GE34:=n3_;clear n0_ n1_ n2_ n3_;clear hb hbox hg)|((with_reducible refine gate_dst (N:=3) rfl ?_);refine box_event ?hg (N:=3) ?hd (cs:=#[.string a1_0,.string a1_1,.int .i64 a1_2,.slice A1_3 l1_3.length c1_3,.slice A1_4 l1_4.length c1_4]) (t:=33) ?hr ?_;(case hd=>rfl);(case hg=>rfl);(case hr=>first|(go_simp;done)|(go_simp;rfl));intro gb35 hg w20 hbox hb;have n0_:=Aside0.mk (blk_below (g:=gb34) (o:=.cells #[.string a0_0,.string a0_1,.int .i64 a0_2,.slice A0_3 l0_3.length c0_3,.slice A0_4 l0_4.length c0_4] 33 (0,0)) (by (with_reducible repeat (first|refine blk_drewN ?_ _|refine blk_drew ?_|refine blk_alloc ?_ _));exact BK34.out) hb);have n1_:=Aside0.mk (below_step (by repeat (first|(with_reducible first|exact HB.out|apply below_alloc|apply pw_below_drewN|apply below_drew1|refine below_set ?_ GE34.out)|exact HB.out)) hb);have n2_:=Aside0.mk (hbox);have n3_:=Aside0.mk ((by rw [hg];exact (below_size (by repeat (first|(with_reducible first|exact HB.out|apply below_alloc|apply pw_below_drewN|apply below_drew1|refine below_set ?_ GE34.out)|exact HB.out))):w.heap.size ≤ gb35));have n4_:=Aside0.mk ((by rw [hg];exact (below_size (by repeat (first|(with_reducible first|exact HB.out|apply below_alloc|apply pw_below_drewN|apply below_drew1|refine below_set ?_ GE34.out)|exact HB.out))):w.heap.size ≤ gb35));have n5_:=Aside0.mk ((by rw [hg];exact Nat.ne_of_lt (blk_lt (g:=gb34) (o:=.cells #[.string a0_0,.string a0_1,.int .i64 a0_2,.slice A0_3 l0_3.length c0_3,.slice A0_4 l0_4.length c0_4] 33 (0,0)) (by (with_reducible repeat (first|refine blk_drewN ?_ _|refine blk_drew ?_|refine blk_alloc ?_ _));exact BK34.out)):gb34 ≠ gb35));have n6_:=Aside0.mk ((by rw [hg];exact Nat.ne_of_gt (blk_lt (g:=gb34) (o:=.cells #[.string a0_0,.string a0_1,.int .i64 a0_2,.slice A0_3 l0_3.length c0_3,.slice A0_4 l0_4.length c0_4] 33 (0,0)) (by (with_reducible repeat (first|refine blk_drewN ?_ _|refine blk_drew ?_|refine blk_alloc ?_ _));exact BK34.out)):gb35 ≠ gb34));clear BK34;clear HB;have BK34:=n0_;have HB:=n1_;have BK35:=n2_;have GW35:=n3_;have GE35:=n4_;have NB34_481:=n5_;have NB35_480:=n6_;clear n0_ n1_ n2_ n3_ n4_ n5_ n6_;clear hb hbox hg;have hnb21:=NB34_481.out;have hnc21:=NB35_480.out;have hcz22_0:w20.cell? ⟨gb34,0,none⟩=some (.string a0_0):=(blk_cell BK34.out 0).trans rfl;have hcz22_1:w20.cell? ⟨gb34,1,none⟩=some (.string a0_1):=(blk_cell BK34.out 1).trans rfl;have hcz22_2:w20.cell? ⟨gb34,2,none⟩=some (.int .i64 a0_2):=(blk_cell BK34.out 2).trans rfl;have hcz22_3:w20.cell? ⟨gb34,3,none⟩=some (.slice A0_3 l0_3.length c0_3):=(blk_cell BK34.out 3).trans rfl;have hcz22_4:w20.cell? ⟨gb34,4,none⟩=some (.slice A0_4 l0_4.length c0_4):=(blk_cell BK34.out 4).trans rfl;have hfz22_0:=blk_frozen BK34.out 0;have hfz22_1:=blk_frozen BK34.out 1;have hfz22_2:=blk_frozen BK34.out 2;have hfz22_3:=blk_frozen BK34.out 3;have hfz22_4:=blk_frozen BK34.out 4;have hcz23_0:w20.cell? ⟨gb35,0,none⟩=some (.string a1_0):=(blk_cell BK35.out 0).trans rfl;have hcz23_1:w20.cell? ⟨gb35,1,none⟩=some (.string a1_1):=(blk_cell BK35.out 1).trans rfl;have hcz23_2:w20.cell? ⟨gb35,2,none⟩=some (.int .i64 a1_2):=(blk_cell BK35.out 2).trans rfl;have hcz23_3:w20.cell? ⟨gb35,3,none⟩=some (.slice A1_3 l1_3.length c1_3):=(blk_cell BK35.out 3).trans rfl;have hcz23_4:w20.cell? ⟨gb35,4,none⟩=some (.slice A1_4 l1_4.length c1_4):=(blk_cell BK35.out 4).trans rfl;have hfz23_0:=blk_frozen BK35.out 0;have hfz23_1:=blk_frozen BK35.out 1;have hfz23_2:=blk_frozen BK35.out 2;have hfz23_3:=blk_frozen BK35.out 3;have hfz23_4:=blk_frozen BK35.out 4))
    go_ret
    exact ⟨by first|rfl|(simp [errW_none,errW_some] <;> rfl)|(simp [*,errW_none,errW_some] <;> rfl),by repeat (first|(with_reducible first|exact HB.out|apply below_alloc|apply pw_below_drewN|apply below_drew1|refine below_set ?_ GE34.out|refine below_set ?_ GE35.out)|exact HB.out)⟩
  ·rw [if_neg c4] at H
   have c4b0:(a0_1.toList == a1_1.toList)=false:=beq_eq_false_iff_ne.mpr c4
   have c4b1:(a0_1.toList != a1_1.toList)=true:=bne_iff_ne.mpr c4
   obtain rfl:=Option.some.inj H
   go_enter Tryd.func14,Tryd.ntmps14
   go_wp2_with (first|((with_reducible refine gate_dst (N:=2) rfl ?_);refine box_event ?hg (N:=2) ?hd (cs:=#[.string a0_0,.string a0_1,.int .i64 a0_2,.slice A0_3 l0_3.length c0_3,.slice A0_4 l0_4.length c0_4]) (t:=33) ?hr ?_;(case hd=>rfl);(case hg=>rfl);(case hr=>first|(go_simp;done)|(go_simp;rfl));intro gb34 hg w24 hbox hb;have n0_:=Aside0.mk (below_step (by repeat (first|(with_reducible first|exact HB.out|apply below_alloc|apply pw_below_drewN|apply below_drew1)|exact HB.out)) hb);have n1_:=Aside0.mk (hbox);have n2_:=Aside0.mk ((by rw [hg];exact (below_size (by repeat (first|(with_reducible first|exact HB.out|apply below_alloc|apply pw_below_drewN|apply below_drew1)|exact HB.out))):w.heap.size ≤ gb34));have n3_:=Aside0.mk ((by rw [hg];exact (below_size (by repeat (first|(with_reducible first|exact HB.out|apply below_alloc|apply pw_below_drewN|apply below_drew1)|exact HB.out))):w.heap.size ≤ gb34));clear HB;have HB:=n0_;have BK34:=n1_;have GW34:=n2_;have GE34:=n3_;clear n0_ n1_ n2_ n3_;clear hb hbox hg)|((with_reducible refine gate_dst (N:=3) rfl ?_);refine box_event ?hg (N:=3) ?hd (cs:=#[.string a1_0,.string a1_1,.int .i64 a1_2,.slice A1_3 l1_3.length c1_3,.slice A1_4 l1_4.length c1_4]) (t:=33) ?hr ?_;(case hd=>rfl);(case hg=>rfl);(case hr=>first|(go_simp;done)|(go_simp;rfl));intro gb35 hg w25 hbox hb;have n0_:=Aside0.mk (blk_below (g:=gb34) (o:=.cells #[.string a0_0,.string a0_1,.int .i64 a0_2,.slice A0_3 l0_3.length c0_3,.slice A0_4 l0_4.length c0_4] 33 (0,0)) (by (with_reducible repeat (first|refine blk_drewN ?_ _|refine blk_drew ?_|refine blk_alloc ?_ _));exact BK34.out) hb);have n1_:=Aside0.mk (below_step (by repeat (first|(with_reducible first|exact HB.out|apply below_alloc|apply pw_below_drewN|apply below_drew1|refine below_set ?_ GE34.out)|exact HB.out)) hb);have n2_:=Aside0.mk (hbox);have n3_:=Aside0.mk ((by rw [hg];exact (below_size (by repeat (first|(with_reducible first|exact HB.out|apply below_alloc|apply pw_below_drewN|apply below_drew1|refine below_set ?_ GE34.out)|exact HB.out))):w.heap.size ≤ gb35));have n4_:=Aside0.mk ((by rw [hg];exact (below_size (by repeat (first|(with_reducible first|exact HB.out|apply below_alloc|apply pw_below_drewN|apply below_drew1|refine below_set ?_ GE34.out)|exact HB.out))):w.heap.size ≤ gb35));have n5_:=Aside0.mk ((by rw [hg];exact Nat.ne_of_lt (blk_lt (g:=gb34) (o:=.cells #[.string a0_0,.string a0_1,.int .i64 a0_2,.slice A0_3 l0_3.length c0_3,.slice A0_4 l0_4.length c0_4] 33 (0,0)) (by (with_reducible repeat (first|refine blk_drewN ?_ _|refine blk_drew ?_|refine blk_alloc ?_ _));exact BK34.out)):gb34 ≠ gb35));have n6_:=Aside0.mk ((by rw [hg];exact Nat.ne_of_gt (blk_lt (g:=gb34) (o:=.cells #[.string a0_0,.string a0_1,.int .i64 a0_2,.slice A0_3 l0_3.length c0_3,.slice A0_4 l0_4.length c0_4] 33 (0,0)) (by (with_reducible repeat (first|refine blk_drewN ?_ _|refine blk_drew ?_|refine blk_alloc ?_ _));exact BK34.out)):gb35 ≠ gb34));clear BK34;clear HB;have BK34:=n0_;have HB:=n1_;have BK35:=n2_;have GW35:=n3_;have GE35:=n4_;have NB34_481:=n5_;have NB35_480:=n6_;clear n0_ n1_ n2_ n3_ n4_ n5_ n6_;clear hb hbox hg;have hnb26:=NB34_481.out;have hnc26:=NB35_480.out;have hcz27_0:w25.cell? ⟨gb34,0,none⟩=some (.string a0_0):=(blk_cell BK34.out 0).trans rfl;have hcz27_1:w25.cell? ⟨gb34,1,none⟩=some (.string a0_1):=(blk_cell BK34.out 1).trans rfl;have hcz27_2:w25.cell? ⟨gb34,2,none⟩=some (.int .i64 a0_2):=(blk_cell BK34.out 2).trans rfl;have hcz27_3:w25.cell? ⟨gb34,3,none⟩=some (.slice A0_3 l0_3.length c0_3):=(blk_cell BK34.out 3).trans rfl;have hcz27_4:w25.cell? ⟨gb34,4,none⟩=some (.slice A0_4 l0_4.length c0_4):=(blk_cell BK34.out 4).trans rfl;have hfz27_0:=blk_frozen BK34.out 0;have hfz27_1:=blk_frozen BK34.out 1;have hfz27_2:=blk_frozen BK34.out 2;have hfz27_3:=blk_frozen BK34.out 3;have hfz27_4:=blk_frozen BK34.out 4;have hcz28_0:w25.cell? ⟨gb35,0,none⟩=some (.string a1_0):=(blk_cell BK35.out 0).trans rfl;have hcz28_1:w25.cell? ⟨gb35,1,none⟩=some (.string a1_1):=(blk_cell BK35.out 1).trans rfl;have hcz28_2:w25.cell? ⟨gb35,2,none⟩=some (.int .i64 a1_2):=(blk_cell BK35.out 2).trans rfl;have hcz28_3:w25.cell? ⟨gb35,3,none⟩=some (.slice A1_3 l1_3.length c1_3):=(blk_cell BK35.out 3).trans rfl;have hcz28_4:w25.cell? ⟨gb35,4,none⟩=some (.slice A1_4 l1_4.length c1_4):=(blk_cell BK35.out 4).trans rfl;have hfz28_0:=blk_frozen BK35.out 0;have hfz28_1:=blk_frozen BK35.out 1;have hfz28_2:=blk_frozen BK35.out 2;have hfz28_3:=blk_frozen BK35.out 3;have hfz28_4:=blk_frozen BK35.out 4))
   go_ret
   exact ⟨by first|rfl|(simp [errW_none,errW_some] <;> rfl)|(simp [*,errW_none,errW_some] <;> rfl),by repeat (first|(with_reducible first|exact HB.out|apply below_alloc|apply pw_below_drewN|apply below_drew1|refine below_set ?_ GE34.out|refine below_set ?_ GE35.out)|exact HB.out)⟩
 ·rw [if_neg c3] at H
  have c3b0:(a0_0.toList == a1_0.toList)=false:=beq_eq_false_iff_ne.mpr c3
  have c3b1:(a0_0.toList != a1_0.toList)=true:=bne_iff_ne.mpr c3
  obtain rfl:=Option.some.inj H
  go_enter Tryd.func14,Tryd.ntmps14
  go_wp2_with (first|((with_reducible refine gate_dst (N:=2) rfl ?_);refine box_event ?hg (N:=2) ?hd (cs:=#[.string a0_0,.string a0_1,.int .i64 a0_2,.slice A0_3 l0_3.length c0_3,.slice A0_4 l0_4.length c0_4]) (t:=33) ?hr ?_;(case hd=>rfl);(case hg=>rfl);(case hr=>first|(go_simp;done)|(go_simp;rfl));intro gb34 hg w29 hbox hb;have n0_:=Aside0.mk (below_step (by repeat (first|(with_reducible first|exact HB.out|apply below_alloc|apply pw_below_drewN|apply below_drew1)|exact HB.out)) hb);have n1_:=Aside0.mk (hbox);have n2_:=Aside0.mk ((by rw [hg];exact (below_size (by repeat (first|(with_reducible first|exact HB.out|apply below_alloc|apply pw_below_drewN|apply below_drew1)|exact HB.out))):w.heap.size ≤ gb34));have n3_:=Aside0.mk ((by rw [hg];exact (below_size (by repeat (first|(with_reducible first|exact HB.out|apply below_alloc|apply pw_below_drewN|apply below_drew1)|exact HB.out))):w.heap.size ≤ gb34));clear HB;have HB:=n0_;have BK34:=n1_;have GW34:=n2_;have GE34:=n3_;clear n0_ n1_ n2_ n3_;clear hb hbox hg)|((with_reducible refine gate_dst (N:=3) rfl ?_);refine box_event ?hg (N:=3) ?hd (cs:=#[.string a1_0,.string a1_1,.int .i64 a1_2,.slice A1_3 l1_3.length c1_3,.slice A1_4 l1_4.length c1_4]) (t:=33) ?hr ?_;(case hd=>rfl);(case hg=>rfl);(case hr=>first|(go_simp;done)|(go_simp;rfl));intro gb35 hg w30 hbox hb;have n0_:=Aside0.mk (blk_below (g:=gb34) (o:=.cells #[.string a0_0,.string a0_1,.int .i64 a0_2,.slice A0_3 l0_3.length c0_3,.slice A0_4 l0_4.length c0_4] 33 (0,0)) (by (with_reducible repeat (first|refine blk_drewN ?_ _|refine blk_drew ?_|refine blk_alloc ?_ _));exact BK34.out) hb);have n1_:=Aside0.mk (below_step (by repeat (first|(with_reducible first|exact HB.out|apply below_alloc|apply pw_below_drewN|apply below_drew1|refine below_set ?_ GE34.out)|exact HB.out)) hb);have n2_:=Aside0.mk (hbox);have n3_:=Aside0.mk ((by rw [hg];exact (below_size (by repeat (first|(with_reducible first|exact HB.out|apply below_alloc|apply pw_below_drewN|apply below_drew1|refine below_set ?_ GE34.out)|exact HB.out))):w.heap.size ≤ gb35));have n4_:=Aside0.mk ((by rw [hg];exact (below_size (by repeat (first|(with_reducible first|exact HB.out|apply below_alloc|apply pw_below_drewN|apply below_drew1|refine below_set ?_ GE34.out)|exact HB.out))):w.heap.size ≤ gb35));have n5_:=Aside0.mk ((by rw [hg];exact Nat.ne_of_lt (blk_lt (g:=gb34) (o:=.cells #[.string a0_0,.string a0_1,.int .i64 a0_2,.slice A0_3 l0_3.length c0_3,.slice A0_4 l0_4.length c0_4] 33 (0,0)) (by (with_reducible repeat (first|refine blk_drewN ?_ _|refine blk_drew ?_|refine blk_alloc ?_ _));exact BK34.out)):gb34 ≠ gb35));have n6_:=Aside0.mk ((by rw [hg];exact Nat.ne_of_gt (blk_lt (g:=gb34) (o:=.cells #[.string a0_0,.string a0_1,.int .i64 a0_2,.slice A0_3 l0_3.length c0_3,.slice A0_4 l0_4.length c0_4] 33 (0,0)) (by (with_reducible repeat (first|refine blk_drewN ?_ _|refine blk_drew ?_|refine blk_alloc ?_ _));exact BK34.out)):gb35 ≠ gb34));clear BK34;clear HB;have BK34:=n0_;have HB:=n1_;have BK35:=n2_;have GW35:=n3_;have GE35:=n4_;have NB34_481:=n5_;have NB35_480:=n6_;clear n0_ n1_ n2_ n3_ n4_ n5_ n6_;clear hb hbox hg;have hnb31:=NB34_481.out;have hnc31:=NB35_480.out;have hcz32_0:w30.cell? ⟨gb34,0,none⟩=some (.string a0_0):=(blk_cell BK34.out 0).trans rfl;have hcz32_1:w30.cell? ⟨gb34,1,none⟩=some (.string a0_1):=(blk_cell BK34.out 1).trans rfl;have hcz32_2:w30.cell? ⟨gb34,2,none⟩=some (.int .i64 a0_2):=(blk_cell BK34.out 2).trans rfl;have hcz32_3:w30.cell? ⟨gb34,3,none⟩=some (.slice A0_3 l0_3.length c0_3):=(blk_cell BK34.out 3).trans rfl;have hcz32_4:w30.cell? ⟨gb34,4,none⟩=some (.slice A0_4 l0_4.length c0_4):=(blk_cell BK34.out 4).trans rfl;have hfz32_0:=blk_frozen BK34.out 0;have hfz32_1:=blk_frozen BK34.out 1;have hfz32_2:=blk_frozen BK34.out 2;have hfz32_3:=blk_frozen BK34.out 3;have hfz32_4:=blk_frozen BK34.out 4;have hcz33_0:w30.cell? ⟨gb35,0,none⟩=some (.string a1_0):=(blk_cell BK35.out 0).trans rfl;have hcz33_1:w30.cell? ⟨gb35,1,none⟩=some (.string a1_1):=(blk_cell BK35.out 1).trans rfl;have hcz33_2:w30.cell? ⟨gb35,2,none⟩=some (.int .i64 a1_2):=(blk_cell BK35.out 2).trans rfl;have hcz33_3:w30.cell? ⟨gb35,3,none⟩=some (.slice A1_3 l1_3.length c1_3):=(blk_cell BK35.out 3).trans rfl;have hcz33_4:w30.cell? ⟨gb35,4,none⟩=some (.slice A1_4 l1_4.length c1_4):=(blk_cell BK35.out 4).trans rfl;have hfz33_0:=blk_frozen BK35.out 0;have hfz33_1:=blk_frozen BK35.out 1;have hfz33_2:=blk_frozen BK35.out 2;have hfz33_3:=blk_frozen BK35.out 3;have hfz33_4:=blk_frozen BK35.out 4))
  go_ret
  exact ⟨by first|rfl|(simp [errW_none,errW_some] <;> rfl)|(simp [*,errW_none,errW_some] <;> rfl),by repeat (first|(with_reducible first|exact HB.out|apply below_alloc|apply pw_below_drewN|apply below_drew1|refine below_set ?_ GE34.out|refine below_set ?_ GE35.out)|exact HB.out)⟩
def tollbarref02_Fold.l0:Nat → ByteArray → List Int → Int → Option (ByteArray)
 | 0,_,_,_=>none
 | k + 1,x0,x3,x4=>if x4 < (x0.size:Int) then (if 0 ≤ x4 then (if (bt x0 x4) ≥ 65 then (if (bt x0 x4) ≤ 90 then (if x3.length < 140737488355328 then (tollbarref02_Fold.l0 k x0 (x3 ++ [((bt x0 x4) + 32) % 256]) (wrap64 (x4 + 1))) else (none)) else (if x3.length < 140737488355328 then (tollbarref02_Fold.l0 k x0 (x3 ++ [bt x0 x4]) (wrap64 (x4 + 1))) else (none))) else (if x3.length < 140737488355328 then (tollbarref02_Fold.l0 k x0 (x3 ++ [bt x0 x4]) (wrap64 (x4 + 1))) else (none))) else (none)) else (some (strOfNums x3))
def tollbarref02_Fold.f (k:Nat) (a0:ByteArray):Option (ByteArray):=tollbarref02_Fold.l0 k a0 (([]:List Int)) 0
set_option maxHeartbeats 8000000 in
set_option maxRecDepth 100000 in
theorem tollbarref02_Fold.calls (k:Nat) (a0:ByteArray) (r:ByteArray) (w:World) (h:tollbarref02_Fold.f k a0=some r) :
  Calls Tryd.prog 31 #[.string a0] w fun e w' => e = .returned (.string r)∧Below w.heap.size w w' := by
 have HB:=Aside0.mk (Below.refl w.heap.size w)
 have H:(tollbarref02_Fold.l0 k a0 (([]:List Int)) 0)=some r:=h
 clear h
 obtain ⟨y422,hy422⟩ : ∃ y_:List Int,y_=(([]:List Int)):=⟨_,rfl⟩
 replace H:(tollbarref02_Fold.l0 k a0 y422 0)=some r:=by first|(rw [hy422];with_reducible exact H)|(have H2_:=(Option.bind_some _ _).symm.trans H;rw [hy422];with_reducible exact H2_)|(have H2_:=(Option.bind_some _ _).symm.trans H;with_reducible exact H2_)|with_reducible exact H|(rw [hy422];exact H)|exact H
 have Ny422:=Aside0.mk hy422
 clear hy422
 have H' := Aside0.mk H
 clear H
 go_enter Tryd.func31,Tryd.ntmps31
 go_wp2_with (first|((with_reducible refine gate_dst (N:=6) rfl ?_);refine Kd.R_lit (Kd.int .u8) _ 5 ?hg (N:=6) ?hd (xs:=([]:List Int)) (inner:=[]) (ok:=fun _=>True) (okp:=fun _=>True) ?hr ?hp (fun _ hk=>hk) trivial (Below.refl _ _) (Nat.le_refl _) (by simp) ?_;(case hd=>rfl);(case hg=>rfl);(case hr=>first|(go_simp;done)|(go_simp;rfl));(case hp=>exact (Reps.none _ _));intro v423 w2 ho3 hb hg_ hnew_;clear hg_ hnew_;(first|rw [← Ny422.out] at ho3|(simp only [Int.reduceToNat] at ho3;rw [← Ny422.out] at ho3));have n0_:=Aside0.mk (Kd.R_lower ho3 (below_size (by repeat (first|(with_reducible first|exact HB.out|apply below_alloc|apply pw_below_drewN|apply below_drew1)|exact HB.out))));have n1_:=Aside0.mk (below_step (by repeat (first|(with_reducible first|exact HB.out|apply below_alloc|apply pw_below_drewN|apply below_drew1)|exact HB.out)) hb);clear HB;have HO424:=n0_;have HB:=n1_;clear n0_ n1_;clear hb ho3))
 go_loopg [3,4] k (fun kq v3 v4 w' => ∃ (x3_1:List Int) (x4_1:Int),v4 = .int .i64 x4_1∧Aside0 (tollbarref02_Fold.l0 kq a0 x3_1 x4_1=some r)∧Aside0 (kq ≤ k)∧Aside0 (Kd.R (Kd.int .u8) 5 w' w.heap.size (fun _=>True) v3 x3_1)∧Aside0 (Below w.heap.size w w'))
 case atStart=>exact ⟨(y422),(0),(by first|rfl|(simp;done)|(simp [*];done)),H',⟨Nat.le_refl _⟩,⟨by (with_reducible repeat (first|apply Kd.R_alloc|apply Kd.R_drewN|apply Kd.R_drew));exact HO424.out⟩,⟨by repeat (first|(with_reducible first|exact HB.out|apply below_alloc|apply pw_below_drewN|apply below_drew1)|exact HB.out)⟩⟩
 case round =>
  clear H'
  try clear p2
  try clear c3
  obtain ⟨x3_1,x4_1,rfl,HA,HK1,HO_3,HB⟩:=hrel
  cases gk with
  | zero=>exact absurd HA.out (by simp [tollbarref02_Fold.l0])
  | succ k1 =>
   have H:=HA.out
   clear HA
   simp only [tollbarref02_Fold.l0] at H
   by_cases c4:x4_1 < (a0.size:Int)
   ·rw [if_pos c4] at H
    have c4b0:decide (x4_1 < (a0.size:Int))=true:=decide_eq_true c4
    clear c4
    by_cases c5:0 ≤ x4_1
    ·rw [if_pos c5] at H
     have c5b0:decide (0 ≤ x4_1)=true:=decide_eq_true c5
     clear c5
     by_cases c7:(bt a0 x4_1) ≥ 65
     ·rw [if_pos c7] at H
      have c7b0:decide (65 ≤ (bt a0 x4_1))=true:=decide_eq_true c7
      clear c7
      by_cases c8:(bt a0 x4_1) ≤ 90
      ·rw [if_pos c8] at H
       have c8b0:decide ((bt a0 x4_1) ≤ 90)=true:=decide_eq_true c8
       clear c8
       by_cases c9:x3_1.length < 140737488355328
       ·rw [if_pos c9] at H
        have LMc9:=Aside0.mk c9
        clear c9
        obtain ⟨y425,hy425⟩ : ∃ y_:List Int,y_=(x3_1 ++ [((bt a0 x4_1) + 32) % 256]):=⟨_,rfl⟩
        replace H:(tollbarref02_Fold.l0 k1 a0 y425 (wrap64 (x4_1 + 1)))=some r:=by first|(rw [hy425];with_reducible exact H)|(have H2_:=(Option.bind_some _ _).symm.trans H;rw [hy425];with_reducible exact H2_)|(have H2_:=(Option.bind_some _ _).symm.trans H;with_reducible exact H2_)|with_reducible exact H|(rw [hy425];exact H)|exact H
        have Ny425:=Aside0.mk hy425
        clear hy425
        have H' := Aside0.mk H
        clear H
        have p6:0 ≤ (x4_1:Int):=of_decide_eq_true (by first|(with_reducible assumption)|assumption)
        have q6:x4_1 < (a0.size:Int):=of_decide_eq_true (by first|(with_reducible assumption)|assumption)
        have hx6:=bt_at a0 x4_1
        replace p6:=eq_true p6
        replace q6:=eq_true q6
        go_wp2_with (first|((with_reducible refine gate_builtin (b:=.append) (xs:=#[.tmp 24,.tmp 26]) rfl ?_);at_builtin;refine Kd.R_append (Kd.int .u8) (w0:=w) w.heap.size rfl (.tmp 24) (.tmp 26) 25 5 (.int .u8 0) 1 rfl Tryd.underlying25 info5 rfl (by decide) (by omega) u3 x3_1 (((bt a0 x4_1) + 32) % 256) [.int .u8 (((bt a0 x4_1) + 32) % 256)] (fun _=>True) (fun _=>False) rfl rfl ?aP (fun _ hk=>hk.elim) ?aF ?aO ?aB ?aS ?aL ?_;(case aP=>exact rfl);(case aB=>exact (by repeat (first|(with_reducible first|exact HB.out|apply below_alloc|apply pw_below_drewN|apply below_drew1)|exact HB.out)));(case aF=>exact (fun _ _=>trivial));(case aO=>exact (by (with_reducible repeat (first|apply Kd.R_alloc|apply Kd.R_drewN|apply Kd.R_drew));exact HO_3.out));(case aS=>exact (below_size (by repeat (first|(with_reducible first|exact HB.out|apply below_alloc|apply pw_below_drewN|apply below_drew1)|exact HB.out))));(case aL=>have:=LMc9.out;omega);intro v426 w10 ho hb hg hat;rw [← Ny425.out] at ho;have n0_:=Aside0.mk (hb);have n1_:=Aside0.mk (ho);clear HB;clear HO_3;have HB:=n0_;have HO427:=n1_;clear n0_ n1_;clear ho hb hg hat))
        go_roundg k1
        case measure=>have:=HK1.out;omega
        case rel=>exact ⟨(y425),(wrap64 (x4_1 + 1)),(by first|rfl|(simp;done)|(simp [*];done)),H',⟨by have:=HK1.out;omega⟩,⟨by (with_reducible repeat (first|apply Kd.R_alloc|apply Kd.R_drewN|apply Kd.R_drew));exact HO427.out⟩,⟨by repeat (first|(with_reducible first|exact HB.out|apply below_alloc|apply pw_below_drewN|apply below_drew1)|exact HB.out)⟩⟩
       ·rw [if_neg c9] at H
        exact absurd H (by simp)
      ·rw [if_neg c8] at H
       have c8b0:decide ((bt a0 x4_1) ≤ 90)=false:=decide_eq_false c8
       clear c8
       by_cases c11:x3_1.length < 140737488355328
       ·rw [if_pos c11] at H
        have LMc11:=Aside0.mk c11
        clear c11
        obtain ⟨y428,hy428⟩ : ∃ y_:List Int,y_=(x3_1 ++ [bt a0 x4_1]):=⟨_,rfl⟩
        replace H:(tollbarref02_Fold.l0 k1 a0 y428 (wrap64 (x4_1 + 1)))=some r:=by first|(rw [hy428];with_reducible exact H)|(have H2_:=(Option.bind_some _ _).symm.trans H;rw [hy428];with_reducible exact H2_)|(have H2_:=(Option.bind_some _ _).symm.trans H;with_reducible exact H2_)|with_reducible exact H|(rw [hy428];exact H)|exact H
        have Ny428:=Aside0.mk hy428
        clear hy428
        have H' := Aside0.mk H
        clear H
        have p6:0 ≤ (x4_1:Int):=of_decide_eq_true (by first|(with_reducible assumption)|assumption)
        have q6:x4_1 < (a0.size:Int):=of_decide_eq_true (by first|(with_reducible assumption)|assumption)
        have hx6:=bt_at a0 x4_1
        replace p6:=eq_true p6
        replace q6:=eq_true q6
        go_wp2_with (first|((with_reducible refine gate_builtin (b:=.append) (xs:=#[.tmp 24,.tmp 26]) rfl ?_);at_builtin;refine Kd.R_append (Kd.int .u8) (w0:=w) w.heap.size rfl (.tmp 24) (.tmp 26) 25 5 (.int .u8 0) 1 rfl Tryd.underlying25 info5 rfl (by decide) (by omega) u3 x3_1 (bt a0 x4_1) [.int .u8 (bt a0 x4_1)] (fun _=>True) (fun _=>False) rfl rfl ?aP (fun _ hk=>hk.elim) ?aF ?aO ?aB ?aS ?aL ?_;(case aP=>exact rfl);(case aB=>exact (by repeat (first|(with_reducible first|exact HB.out|apply below_alloc|apply pw_below_drewN|apply below_drew1)|exact HB.out)));(case aF=>exact (fun _ _=>trivial));(case aO=>exact (by (with_reducible repeat (first|apply Kd.R_alloc|apply Kd.R_drewN|apply Kd.R_drew));exact HO_3.out));(case aS=>exact (below_size (by repeat (first|(with_reducible first|exact HB.out|apply below_alloc|apply pw_below_drewN|apply below_drew1)|exact HB.out))));(case aL=>have:=LMc11.out;omega);intro v429 w12 ho hb hg hat;rw [← Ny428.out] at ho;have n0_:=Aside0.mk (hb);have n1_:=Aside0.mk (ho);clear HB;clear HO_3;have HB:=n0_;have HO430:=n1_;clear n0_ n1_;clear ho hb hg hat))
        go_roundg k1
        case measure=>have:=HK1.out;omega
        case rel=>exact ⟨(y428),(wrap64 (x4_1 + 1)),(by first|rfl|(simp;done)|(simp [*];done)),H',⟨by have:=HK1.out;omega⟩,⟨by (with_reducible repeat (first|apply Kd.R_alloc|apply Kd.R_drewN|apply Kd.R_drew));exact HO430.out⟩,⟨by repeat (first|(with_reducible first|exact HB.out|apply below_alloc|apply pw_below_drewN|apply below_drew1)|exact HB.out)⟩⟩
       ·rw [if_neg c11] at H
        exact absurd H (by simp)
     ·rw [if_neg c7] at H
      have c7b0:decide (65 ≤ (bt a0 x4_1))=false:=decide_eq_false c7
      clear c7
      by_cases c13:x3_1.length < 140737488355328
      ·rw [if_pos c13] at H
       have LMc13:=Aside0.mk c13
       clear c13
       obtain ⟨y431,hy431⟩ : ∃ y_:List Int,y_=(x3_1 ++ [bt a0 x4_1]):=⟨_,rfl⟩
       replace H:(tollbarref02_Fold.l0 k1 a0 y431 (wrap64 (x4_1 + 1)))=some r:=by first|(rw [hy431];with_reducible exact H)|(have H2_:=(Option.bind_some _ _).symm.trans H;rw [hy431];with_reducible exact H2_)|(have H2_:=(Option.bind_some _ _).symm.trans H;with_reducible exact H2_)|with_reducible exact H|(rw [hy431];exact H)|exact H
       have Ny431:=Aside0.mk hy431
       clear hy431
       have H' := Aside0.mk H
       clear H
       have p6:0 ≤ (x4_1:Int):=of_decide_eq_true (by first|(with_reducible assumption)|assumption)
       have q6:x4_1 < (a0.size:Int):=of_decide_eq_true (by first|(with_reducible assumption)|assumption)
       have hx6:=bt_at a0 x4_1
       replace p6:=eq_true p6
       replace q6:=eq_true q6
       go_wp2_with (first|((with_reducible refine gate_builtin (b:=.append) (xs:=#[.tmp 24,.tmp 26]) rfl ?_);at_builtin;refine Kd.R_append (Kd.int .u8) (w0:=w) w.heap.size rfl (.tmp 24) (.tmp 26) 25 5 (.int .u8 0) 1 rfl Tryd.underlying25 info5 rfl (by decide) (by omega) u3 x3_1 (bt a0 x4_1) [.int .u8 (bt a0 x4_1)] (fun _=>True) (fun _=>False) rfl rfl ?aP (fun _ hk=>hk.elim) ?aF ?aO ?aB ?aS ?aL ?_;(case aP=>exact rfl);(case aB=>exact (by repeat (first|(with_reducible first|exact HB.out|apply below_alloc|apply pw_below_drewN|apply below_drew1)|exact HB.out)));(case aF=>exact (fun _ _=>trivial));(case aO=>exact (by (with_reducible repeat (first|apply Kd.R_alloc|apply Kd.R_drewN|apply Kd.R_drew));exact HO_3.out));(case aS=>exact (below_size (by repeat (first|(with_reducible first|exact HB.out|apply below_alloc|apply pw_below_drewN|apply below_drew1)|exact HB.out))));(case aL=>have:=LMc13.out;omega);intro v432 w14 ho hb hg hat;rw [← Ny431.out] at ho;have n0_:=Aside0.mk (hb);have n1_:=Aside0.mk (ho);clear HB;clear HO_3;have HB:=n0_;have HO433:=n1_;clear n0_ n1_;clear ho hb hg hat))
       go_roundg k1
       case measure=>have:=HK1.out;omega
       case rel=>exact ⟨(y431),(wrap64 (x4_1 + 1)),(by first|rfl|(simp;done)|(simp [*];done)),H',⟨by have:=HK1.out;omega⟩,⟨by (with_reducible repeat (first|apply Kd.R_alloc|apply Kd.R_drewN|apply Kd.R_drew));exact HO433.out⟩,⟨by repeat (first|(with_reducible first|exact HB.out|apply below_alloc|apply pw_below_drewN|apply below_drew1)|exact HB.out)⟩⟩
      ·rw [if_neg c13] at H
       exact absurd H (by simp)
    ·rw [if_neg c5] at H
     exact absurd H (by simp)
   ·rw [if_neg c4] at H
    have c4b0:decide (x4_1 < (a0.size:Int))=false:=decide_eq_false c4
    clear c4
    obtain rfl:=Option.some.inj H
    have hcv15:=own_string (P:=Tryd.prog) Tryd.underlying25 Tryd.underlying5 Tryd.underlying9 (Kd.own_of_R HO_3.out)
    go_wp2
    go_ret
    exact ⟨by first|rfl|(simp [errW_none,errW_some] <;> rfl)|(simp [*,errW_none,errW_some] <;> rfl),by repeat (first|(with_reducible first|exact HB.out|apply below_alloc|apply pw_below_drewN|apply below_drew1)|exact HB.out)⟩
def tollbarref04_same.f (k:Nat) (a0:ByteArray) (a1:ByteArray):Option (Bool):=(tollbarref02_Fold.f k a0).bind fun t434=>((tollbarref02_Fold.f k a1).bind fun t435=>(some (t434.toList == t435.toList)))
set_option maxHeartbeats 8000000 in
set_option maxRecDepth 100000 in
theorem tollbarref04_same.calls (k:Nat) (a0:ByteArray) (a1:ByteArray) (r:Bool) (w:World) (h:tollbarref04_same.f k a0 a1=some r) :
  Calls Tryd.prog 63 #[.string a0,.string a1] w fun e w' => e = .returned (.bool r)∧Below w.heap.size w w' := by
 have HB:=Aside0.mk (Below.refl w.heap.size w)
 have H:((tollbarref02_Fold.f k a0).bind fun t434=>((tollbarref02_Fold.f k a1).bind fun t435=>(some (t434.toList == t435.toList))))=some r:=h
 clear h
 replace H:=Option.bind_eq_some_iff.mp H
 obtain ⟨t434,A30,H⟩:=H
 replace H:((tollbarref02_Fold.f k a1).bind fun t435=>(some (t434.toList == t435.toList)))=some r:=H
 have A3:=Aside0.mk A30
 clear A30
 replace H:=Option.bind_eq_some_iff.mp H
 obtain ⟨t435,A40,H⟩:=H
 replace H:(some (t434.toList == t435.toList))=some r:=H
 have A4:=Aside0.mk A40
 clear A40
 obtain rfl:=Option.some.inj H
 go_enter Tryd.func63,Tryd.ntmps63
 go_wp2_with (first|((with_reducible refine gate_callee (f:=31) rfl ?_);refine goesL_ (some 6) rfl rfl Tryd.func31 (by kernel_rfl) rfl #[.string a0] rfl (by (try simp only [List.map_toArray,List.map_cons,List.map_nil]);first|done|rfl|(simp only [List.length_drop,List.length_take];rfl)) ?_;(with_reducible refine (tollbarref02_Fold.calls k a0 t434 _ A3.out).mono ?_);rintro e w5 ⟨rfl,hb⟩;(try clear A3);refine ⟨_,rfl,?_⟩;have n0_:=Aside0.mk (below_step (by repeat (first|(with_reducible first|exact HB.out|apply below_alloc|apply pw_below_drewN|apply below_drew1)|exact HB.out)) hb);clear HB;have HB:=n0_;clear n0_;(try clear hb);(try clear hb2);(try clear hk);(try clear hi))|((with_reducible refine gate_callee (f:=31) rfl ?_);refine goesL_ (some 8) rfl rfl Tryd.func31 (by kernel_rfl) rfl #[.string a1] rfl (by (try simp only [List.map_toArray,List.map_cons,List.map_nil]);first|done|rfl|(simp only [List.length_drop,List.length_take];rfl)) ?_;(with_reducible refine (tollbarref02_Fold.calls k a1 t435 _ A4.out).mono ?_);rintro e w6 ⟨rfl,hb⟩;(try clear A4);refine ⟨_,rfl,?_⟩;have n0_:=Aside0.mk (below_step (by repeat (first|(with_reducible first|exact HB.out|apply below_alloc|apply pw_below_drewN|apply below_drew1)|exact HB.out)) hb);clear HB;have HB:=n0_;clear n0_;(try clear hb);(try clear hb2);(try clear hk);(try clear hi)))
 go_ret
 exact ⟨by first|rfl|(simp [errW_none,errW_some] <;> rfl)|(simp [*,errW_none,errW_some] <;> rfl),by repeat (first|(with_reducible first|exact HB.out|apply below_alloc|apply pw_below_drewN|apply below_drew1)|exact HB.out)⟩
def tollbarref04_In.l0:Nat → List ByteArray → ByteArray → Int → Option (Bool)
 | 0,_,_,_=>none
 | k + 1,x0,x1,x5=>if x5 < (x0.length:Int) then (if 0 ≤ x5 then ((tollbarref04_same.f k (rdOf ByteArray.empty x0 x5) x1).bind fun t437=>(if t437=true then (some true) else (tollbarref04_In.l0 k x0 x1 (wrap64 (x5 + 1))))) else (none)) else (some false)
def tollbarref04_In.f (k:Nat) (l0:List ByteArray) (a1:ByteArray):Option (Bool):=tollbarref04_In.l0 k l0 a1 0
set_option maxHeartbeats 8000000 in
set_option maxRecDepth 100000 in
theorem tollbarref04_In.calls (k:Nat) (A0:Option Addr) (c0:Nat) (l0:List ByteArray) (a1:ByteArray) (r:Bool) (w:World) (hr0:Kd.C Kd.string w A0 l0.length l0) (hc0:l0.length ≤ c0) (h:tollbarref04_In.f k l0 a1=some r) :
  Calls Tryd.prog 33 #[.slice A0 l0.length c0,.string a1] w fun e w' => e = .returned (.bool r)∧Below w.heap.size w w' := by
 have HR0:=Aside0.mk hr0
 have HC0:=Aside0.mk hc0
 clear hr0 hc0
 have HB:=Aside0.mk (Below.refl w.heap.size w)
 have H:(tollbarref04_In.l0 k l0 a1 0)=some r:=h
 clear h
 have H' := Aside0.mk H
 clear H
 go_enter Tryd.func33,Tryd.ntmps33
 go_wp2
 go_loopg [5] k (fun kq v5 w' => ∃ (x5_1:Int),v5 = .int .i64 x5_1∧Aside0 (tollbarref04_In.l0 kq l0 a1 x5_1=some r)∧Aside0 (kq ≤ k)∧Aside0 (Below w.heap.size w w'))
 case atStart=>exact ⟨(0),(by first|rfl|(simp;done)|(simp [*];done)),H',⟨Nat.le_refl _⟩,⟨by repeat (first|(with_reducible first|exact HB.out|apply below_alloc|apply pw_below_drewN|apply below_drew1)|exact HB.out)⟩⟩
 case round =>
  clear H'
  try clear p2
  obtain ⟨x5_1,rfl,HA,HK1,HB⟩:=hrel
  cases gk with
  | zero=>exact absurd HA.out (by simp [tollbarref04_In.l0])
  | succ k1 =>
   have H:=HA.out
   clear HA
   simp only [tollbarref04_In.l0] at H
   by_cases c3:x5_1 < (l0.length:Int)
   ·rw [if_pos c3] at H
    have c3b0:decide (x5_1 < (l0.length:Int))=true:=decide_eq_true c3
    clear c3
    by_cases c4:0 ≤ x5_1
    ·rw [if_pos c4] at H
     have c4b0:decide (0 ≤ x5_1)=true:=decide_eq_true c4
     clear c4
     replace H:=Option.bind_eq_some_iff.mp H
     obtain ⟨t437,A50,H⟩:=H
     replace H:(if t437=true then (some true) else (tollbarref04_In.l0 k1 l0 a1 (wrap64 (x5_1 + 1))))=some r:=H
     have A5:=Aside0.mk A50
     clear A50
     by_cases c6:t437=true
     ·subst c6
      have H1:(some true)=some r:=by rw [if_pos rfl] at H;exact H
      clear H
      have H:=H1
      clear H1
      obtain rfl:=Option.some.inj H
      have p436:0 ≤ (x5_1:Int):=of_decide_eq_true (by first|(with_reducible assumption)|assumption)
      have q436:x5_1 < (l0.length:Int):=of_decide_eq_true (by first|(with_reducible assumption)|assumption)
      obtain ⟨ad436,e436,hx436_0⟩:=Kd.at_string HR0.out x5_1 p436 q436
      cases e436
      replace hx436_0:=(HB.out.cell (World.block_lt_of_cell? w _ hx436_0)).trans hx436_0
      replace p436:=eq_true p436
      replace q436:=eq_true q436
      go_wp2_with (first|((with_reducible refine gate_callee (f:=63) rfl ?_);refine goesL_ (some 17) rfl rfl Tryd.func63 (by kernel_rfl) rfl #[.string (rdOf ByteArray.empty l0 x5_1),.string a1] rfl (by (try simp only [List.map_toArray,List.map_cons,List.map_nil]);first|done|rfl|(simp only [List.length_drop,List.length_take];rfl)) ?_;(with_reducible refine (tollbarref04_same.calls k1 (rdOf ByteArray.empty l0 x5_1) a1 true _ A5.out).mono ?_);rintro e w7 ⟨rfl,hb⟩;(try clear A5);refine ⟨_,rfl,?_⟩;have n0_:=Aside0.mk (below_step (by repeat (first|(with_reducible first|exact HB.out|apply below_alloc|apply pw_below_drewN|apply below_drew1)|exact HB.out)) hb);clear HB;have HB:=n0_;clear n0_;(try clear hb);(try clear hb2);(try clear hk);(try clear hi)))
      go_ret
      exact ⟨by first|rfl|(simp [errW_none,errW_some] <;> rfl)|(simp [*,errW_none,errW_some] <;> rfl),by repeat (first|(with_reducible first|exact HB.out|apply below_alloc|apply pw_below_drewN|apply below_drew1)|exact HB.out)⟩
     ·replace c6:=Bool.eq_false_iff.mpr c6
      subst c6
      have H1:(tollbarref04_In.l0 k1 l0 a1 (wrap64 (x5_1 + 1)))=some r:=by rw [if_neg (show ¬ (false=true) by decide)] at H;exact H
      clear H
      have H:=H1
      clear H1
      have H' := Aside0.mk H
      clear H
      have p436:0 ≤ (x5_1:Int):=of_decide_eq_true (by first|(with_reducible assumption)|assumption)
      have q436:x5_1 < (l0.length:Int):=of_decide_eq_true (by first|(with_reducible assumption)|assumption)
      obtain ⟨ad436,e436,hx436_0⟩:=Kd.at_string HR0.out x5_1 p436 q436
      cases e436
      replace hx436_0:=(HB.out.cell (World.block_lt_of_cell? w _ hx436_0)).trans hx436_0
      replace p436:=eq_true p436
      replace q436:=eq_true q436
      go_wp2_with (first|((with_reducible refine gate_callee (f:=63) rfl ?_);refine goesL_ (some 17) rfl rfl Tryd.func63 (by kernel_rfl) rfl #[.string (rdOf ByteArray.empty l0 x5_1),.string a1] rfl (by (try simp only [List.map_toArray,List.map_cons,List.map_nil]);first|done|rfl|(simp only [List.length_drop,List.length_take];rfl)) ?_;(with_reducible refine (tollbarref04_same.calls k1 (rdOf ByteArray.empty l0 x5_1) a1 false _ A5.out).mono ?_);rintro e w8 ⟨rfl,hb⟩;(try clear A5);refine ⟨_,rfl,?_⟩;have n0_:=Aside0.mk (below_step (by repeat (first|(with_reducible first|exact HB.out|apply below_alloc|apply pw_below_drewN|apply below_drew1)|exact HB.out)) hb);clear HB;have HB:=n0_;clear n0_;(try clear hb);(try clear hb2);(try clear hk);(try clear hi)))
      go_roundg k1
      case measure=>have:=HK1.out;omega
      case rel=>exact ⟨(wrap64 (x5_1 + 1)),(by first|rfl|(simp;done)|(simp [*];done)),H',⟨by have:=HK1.out;omega⟩,⟨by repeat (first|(with_reducible first|exact HB.out|apply below_alloc|apply pw_below_drewN|apply below_drew1)|exact HB.out)⟩⟩
    ·rw [if_neg c4] at H
     exact absurd H (by simp)
   ·rw [if_neg c3] at H
    have c3b0:decide (x5_1 < (l0.length:Int))=false:=decide_eq_false c3
    clear c3
    obtain rfl:=Option.some.inj H
    go_wp2
    go_ret
    exact ⟨by first|rfl|(simp [errW_none,errW_some] <;> rfl)|(simp [*,errW_none,errW_some] <;> rfl),by repeat (first|(with_reducible first|exact HB.out|apply below_alloc|apply pw_below_drewN|apply below_drew1)|exact HB.out)⟩
def tollbarref02_blank.f (a0:Int):Option (Bool):=if a0=32 then (some true) else (some (a0 == 9))
set_option maxHeartbeats 8000000 in
set_option maxRecDepth 100000 in
theorem tollbarref02_blank.calls (a0:Int) (r:Bool) (w:World) (h:tollbarref02_blank.f a0=some r) :
  Calls Tryd.prog 106 #[.int .u8 a0] w fun e w' => e = .returned (.bool r)∧Drawn0 w w' := by
 have H:(if a0=32 then (some true) else (some (a0 == 9)))=some r:=h
 clear h
 by_cases c2:a0=32
 ·rw [if_pos c2] at H
  have c2b0:(a0 == 32)=true:=beq_iff_eq.mpr c2
  have c2b1:(a0 != 32)=false:=bne_eq_false_iff_eq.mpr c2
  clear c2
  obtain rfl:=Option.some.inj H
  go_enter Tryd.func106,Tryd.ntmps106
  go_wp2
  go_ret
  exact ⟨by first|rfl|(simp;done)|(simp [*];done),by repeat (first|exact Drawn0.refl _|apply Drawn0.step)⟩
 ·rw [if_neg c2] at H
  have c2b0:(a0 == 32)=false:=beq_eq_false_iff_ne.mpr c2
  have c2b1:(a0 != 32)=true:=bne_iff_ne.mpr c2
  obtain rfl:=Option.some.inj H
  go_enter Tryd.func106,Tryd.ntmps106
  go_wp2
  go_ret
  exact ⟨by first|rfl|(simp;done)|(simp [*];done),by repeat (first|exact Drawn0.refl _|apply Drawn0.step)⟩
mutual
def tollbarref02_Trim.j1:Nat → ByteArray → Option (ByteArray)
 | 0,_=>none
 | k + 1,x0=>tollbarref02_Trim.l1 k x0
def tollbarref02_Trim.l1:Nat → ByteArray → Option (ByteArray)
 | 0,_=>none
 | k + 1,x0=>if (x0.size:Int) > 0 then (if 0 ≤ (wrap64 ((x0.size:Int) - 1)) then (if (wrap64 ((x0.size:Int) - 1)) < (x0.size:Int) then ((tollbarref02_blank.f (bt x0 (wrap64 ((x0.size:Int) - 1)))).bind fun t452=>(if t452=true then (if (wrap64 ((x0.size:Int) - 1)) ≤ (x0.size:Int) then (tollbarref02_Trim.l1 k (x0.extract 0 ((wrap64 ((x0.size:Int) - 1)):Int).toNat)) else (none)) else (some x0))) else (none)) else (none)) else (some x0)
def tollbarref02_Trim.l0:Nat → ByteArray → Option (ByteArray)
 | 0,_=>none
 | k + 1,x0=>if (x0.size:Int) > 0 then (if 0 < (x0.size:Int) then ((tollbarref02_blank.f (bt x0 0)).bind fun t451=>(if t451=true then (if 1 ≤ (x0.size:Int) then (tollbarref02_Trim.l0 k (x0.extract 1 x0.size)) else (none)) else (tollbarref02_Trim.j1 k x0))) else (none)) else (tollbarref02_Trim.j1 k x0)
end
def tollbarref02_Trim.f (k:Nat) (a0:ByteArray):Option (ByteArray):=tollbarref02_Trim.l0 k a0
set_option maxHeartbeats 8000000 in
set_option maxRecDepth 100000 in
theorem tollbarref02_Trim.calls (k:Nat) (a0:ByteArray) (r:ByteArray) (w:World) (h:tollbarref02_Trim.f k a0=some r) :
  Calls Tryd.prog 92 #[.string a0] w fun e w' => e = .returned (.string r)∧Drawn0 w w' := by
 have H:(tollbarref02_Trim.l0 k a0)=some r:=h
 clear h
 have HC2:=Aside0.mk H
 clear H
 go_enter Tryd.func92,Tryd.ntmps92
 go_upto_block 0 with (fail)
 go_cut [0] (fun v0 wc => ∃ (kq:Nat) (x0_1:ByteArray),v0 = .string x0_1∧Aside0 (tollbarref02_Trim.j1 kq x0_1=some r)∧Aside0 (kq ≤ k)∧Drawn0 w wc)
 case first =>
  have H:=HC2.out
  clear HC2
  have H' := Aside0.mk H
  clear H
  go_wp2
  go_loopg [0] k (fun kq v0 w' => ∃ (x0_1:ByteArray),v0 = .string x0_1∧Aside0 (tollbarref02_Trim.l0 kq x0_1=some r)∧Aside0 (kq ≤ k)∧Drawn0 w w')
  case atStart=>exact ⟨(a0),(by first|rfl|(simp;done)|(simp [*];done)),H',⟨Nat.le_refl _⟩,by repeat (first|exact Drawn0.refl _|apply Drawn0.step)⟩
  case round =>
   clear H'
   try clear p2
   obtain ⟨x0_1,rfl,HA,HK1,⟨m1,rfl⟩⟩:=hrel
   cases gk with
   | zero=>exact absurd HA.out (by simp [tollbarref02_Trim.l0])
   | succ k1 =>
    have H:=HA.out
    clear HA
    simp only [tollbarref02_Trim.l0] at H
    by_cases c3:(x0_1.size:Int) > 0
    ·rw [if_pos c3] at H
     have c3b0:decide (0 < (x0_1.size:Int))=true:=decide_eq_true c3
     have c3b1:decide (0 < x0_1.size)=true:=decide_eq_true (by omega)
     clear c3
     (first|rw [c3b0]|(simp only [i64_w,i32_w];rw [c3b0])|rw [c3b1]|skip)
     by_cases c4:0 < (x0_1.size:Int)
     ·rw [if_pos c4] at H
      have c4b0:decide (0 < (x0_1.size:Int))=true:=decide_eq_true c4
      have c4b1:decide (0 < x0_1.size)=true:=decide_eq_true (by omega)
      clear c4
      replace H:=Option.bind_eq_some_iff.mp H
      obtain ⟨t451,A60,H⟩:=H
      replace H:(if t451=true then (if 1 ≤ (x0_1.size:Int) then (tollbarref02_Trim.l0 k1 (x0_1.extract 1 x0_1.size)) else (none)) else (tollbarref02_Trim.j1 k1 x0_1))=some r:=H
      have A6:=Aside0.mk A60
      clear A60
      by_cases c7:t451=true
      ·subst c7
       have H1:(if 1 ≤ (x0_1.size:Int) then (tollbarref02_Trim.l0 k1 (x0_1.extract 1 x0_1.size)) else (none))=some r:=by rw [if_pos rfl] at H;exact H
       clear H
       have H:=H1
       clear H1
       by_cases c8:1 ≤ (x0_1.size:Int)
       ·rw [if_pos c8] at H
        have c8b0:=eq_true c8
        have c8b1:decide (1 ≤ (x0_1.size:Int))=true:=decide_eq_true c8
        clear c8
        have H' := Aside0.mk H
        clear H
        have p5:0 ≤ (0:Int):=(by omega)
        have q5:0 < x0_1.size:=(by have:(0:Int) < (x0_1.size:Int):=of_decide_eq_true (by first|(with_reducible assumption)|assumption);omega)
        have hx5 : ∀ h:0 < x0_1.size,((x0_1[0]'h).toNat:Int)=bt x0_1 0:=bt_at x0_1 0
        clear p5
        have qi5:(0 < (x0_1.size:Int))=True:=eq_true (of_decide_eq_true (by first|(with_reducible assumption)|assumption))
        replace q5:=eq_true q5
        go_wp2_with (first|(go_at_call 106;(with_reducible refine (tollbarref02_blank.calls (bt x0_1 0) true _ A6.out).mono ?_);rintro e w' ⟨rfl,⟨nd,rfl⟩⟩;(try clear A6)))
        go_roundg k1
        case measure=>have:=HK1.out;omega
        case rel=>exact ⟨(x0_1.extract 1 x0_1.size),(by first|rfl|(simp;done)|(simp [*];done)),H',⟨by have:=HK1.out;omega⟩,by repeat (first|exact Drawn0.refl _|apply Drawn0.step)⟩
       ·rw [if_neg c8] at H
        exact absurd H (by simp)
      ·replace c7:=Bool.eq_false_iff.mpr c7
       subst c7
       have H1:(tollbarref02_Trim.j1 k1 x0_1)=some r:=by rw [if_neg (show ¬ (false=true) by decide)] at H;exact H
       clear H
       have H:=H1
       clear H1
       have H' := Aside0.mk H
       clear H
       have p5:0 ≤ (0:Int):=(by omega)
       have q5:0 < x0_1.size:=(by have:(0:Int) < (x0_1.size:Int):=of_decide_eq_true (by first|(with_reducible assumption)|assumption);omega)
       have hx5 : ∀ h:0 < x0_1.size,((x0_1[0]'h).toNat:Int)=bt x0_1 0:=bt_at x0_1 0
       clear p5
       have qi5:(0 < (x0_1.size:Int))=True:=eq_true (of_decide_eq_true (by first|(with_reducible assumption)|assumption))
       replace q5:=eq_true q5
       go_wp2_with (first|(go_at_call 106;(with_reducible refine (tollbarref02_blank.calls (bt x0_1 0) false _ A6.out).mono ?_);rintro e w' ⟨rfl,⟨nd,rfl⟩⟩;(try clear A6)))
       go_meet
       case rel=>exact ⟨_,(x0_1),(by first|rfl|(simp;done)|(simp [*];done)),H',⟨by have:=HK1.out;first|omega|exact Nat.le_refl _⟩,by repeat (first|exact Drawn0.refl _|apply Drawn0.step)⟩
     ·rw [if_neg c4] at H
      exact absurd H (by simp)
    ·rw [if_neg c3] at H
     have c3b0:decide (0 < (x0_1.size:Int))=false:=decide_eq_false c3
     have c3b1:decide (0 < x0_1.size)=false:=decide_eq_false (by omega)
     clear c3
     (first|rw [c3b0]|(simp only [i64_w,i32_w];rw [c3b0])|rw [c3b1]|skip)
     have H' := Aside0.mk H
     clear H
     go_wp2
     go_meet
     case rel=>exact ⟨_,(x0_1),(by first|rfl|(simp;done)|(simp [*];done)),H',⟨by have:=HK1.out;first|omega|exact Nat.le_refl _⟩,by repeat (first|exact Drawn0.refl _|apply Drawn0.step)⟩
 case rest =>
  clear HC2
  try clear p2
  try clear c3
  try clear c3b0
  try clear c3b1
  try clear c4
  try clear c4b0
  try clear c4b1
  try clear p5
  try clear q5
  try clear hx5
  try clear qi5
  try clear c7
  try clear c8
  try clear c8b0
  try clear c8b1
  try clear p2
  try clear p5
  try clear q5
  obtain ⟨kq,x0_1,rfl,HA,HJ1,⟨mc1,rfl⟩⟩:=hcut
  cases kq with
  | zero=>exact absurd HA.out (by simp [tollbarref02_Trim.j1])
  | succ kj1 =>
   have H:=HA.out
   clear HA
   simp only [tollbarref02_Trim.j1] at H
   have H' := Aside0.mk H
   clear H
   go_wp2
   go_loopg [0] kj1 (fun kq v0 w' => ∃ (x0_2:ByteArray),v0 = .string x0_2∧Aside0 (tollbarref02_Trim.l1 kq x0_2=some r)∧Aside0 (kq ≤ kj1)∧Drawn0 w w')
   case atStart=>exact ⟨(x0_1),(by first|rfl|(simp;done)|(simp [*];done)),H',⟨Nat.le_refl _⟩,by repeat (first|exact Drawn0.refl _|apply Drawn0.step)⟩
   case round =>
    clear H'
    try clear c1
    try clear p2
    try clear c3
    try clear c3b0
    try clear c3b1
    try clear c4
    try clear c4b0
    try clear c4b1
    try clear p5
    try clear q5
    try clear hx5
    try clear qi5
    try clear c7
    try clear c8
    try clear c8b0
    try clear c8b1
    try clear p2
    try clear p5
    try clear q5
    obtain ⟨x0_2,rfl,HA,HK2,⟨m2,rfl⟩⟩:=hrel
    cases gk with
    | zero=>exact absurd HA.out (by simp [tollbarref02_Trim.l1])
    | succ k2 =>
     have H:=HA.out
     clear HA
     simp only [tollbarref02_Trim.l1] at H
     by_cases c9:(x0_2.size:Int) > 0
     ·rw [if_pos c9] at H
      have c9b0:decide (0 < (x0_2.size:Int))=true:=decide_eq_true c9
      have c9b1:decide (0 < x0_2.size)=true:=decide_eq_true (by omega)
      clear c9
      obtain ⟨ji10,hji10⟩ : ∃ j_:Int,(wrap64 ((x0_2.size:Int) - 1))=j_:=⟨_,rfl⟩
      replace H:(if 0 ≤ (ji10) then (if (ji10) < (x0_2.size:Int) then ((tollbarref02_blank.f (bt x0_2 (ji10))).bind fun t452=>(if t452=true then (if (ji10) ≤ (x0_2.size:Int) then (tollbarref02_Trim.l1 k2 (x0_2.extract 0 ((ji10):Int).toNat)) else (none)) else (some x0_2))) else (none)) else (none))=some r:=by first|(rw [hji10] at H;exact H)|(simp only [hji10] at H ⊢;exact H)
      have hji10w:(IntKind.i64.wrap ((x0_2.size:Int) - 1))=ji10:=(i64_w _).trans hji10
      by_cases c11:0 ≤ (ji10)
      ·rw [if_pos c11] at H
       have c11b0:decide (0 ≤ (ji10))=true:=decide_eq_true c11
       clear c11
       by_cases c12:(ji10) < (x0_2.size:Int)
       ·rw [if_pos c12] at H
        have c12b0:decide ((ji10) < (x0_2.size:Int))=true:=decide_eq_true c12
        clear c12
        replace H:=Option.bind_eq_some_iff.mp H
        obtain ⟨t452,A140,H⟩:=H
        replace H:(if t452=true then (if (ji10) ≤ (x0_2.size:Int) then (tollbarref02_Trim.l1 k2 (x0_2.extract 0 ((ji10):Int).toNat)) else (none)) else (some x0_2))=some r:=H
        have A14:=Aside0.mk A140
        clear A140
        by_cases c15:t452=true
        ·subst c15
         have H1:(if (ji10) ≤ (x0_2.size:Int) then (tollbarref02_Trim.l1 k2 (x0_2.extract 0 ((ji10):Int).toNat)) else (none))=some r:=by rw [if_pos rfl] at H;exact H
         clear H
         have H:=H1
         clear H1
         have c16b0:=eq_true (of_decide_eq_true (by first|(with_reducible assumption)|assumption):0 ≤ (ji10))
         by_cases c17:(ji10) ≤ (x0_2.size:Int)
         ·rw [if_pos c17] at H
          have c17b0:=eq_true c17
          have c17b1:decide ((ji10) ≤ (x0_2.size:Int))=true:=decide_eq_true c17
          clear c17
          have H' := Aside0.mk H
          clear H
          have p13:0 ≤ ((ji10):Int):=of_decide_eq_true (by first|(with_reducible assumption)|assumption)
          have q13:(ji10) < (x0_2.size:Int):=of_decide_eq_true (by first|(with_reducible assumption)|assumption)
          have hx13:=bt_at x0_2 (ji10)
          replace p13:=eq_true p13
          replace q13:=eq_true q13
          go_wp2_with (first|(go_at_call 106;(with_reducible refine (tollbarref02_blank.calls (bt x0_2 (ji10)) true _ A14.out).mono ?_);rintro e w' ⟨rfl,⟨nd,rfl⟩⟩;(try clear A14)))
          go_roundg k2
          case measure=>have:=HJ1.out;have:=HK2.out;omega
          case rel=>exact ⟨(x0_2.extract 0 ((ji10):Int).toNat),(by first|rfl|(simp;done)|(simp only [← hji10] <;> (first|rfl|simp))|(simp [*];done)),H',⟨by have:=HJ1.out;have:=HK2.out;omega⟩,by repeat (first|exact Drawn0.refl _|apply Drawn0.step)⟩
         ·rw [if_neg c17] at H
          exact absurd H (by simp)
        ·replace c15:=Bool.eq_false_iff.mpr c15
         subst c15
         have H1:(some x0_2)=some r:=by rw [if_neg (show ¬ (false=true) by decide)] at H;exact H
         clear H
         have H:=H1
         clear H1
         obtain rfl:=Option.some.inj H
         have p13:0 ≤ ((ji10):Int):=of_decide_eq_true (by first|(with_reducible assumption)|assumption)
         have q13:(ji10) < (x0_2.size:Int):=of_decide_eq_true (by first|(with_reducible assumption)|assumption)
         have hx13:=bt_at x0_2 (ji10)
         replace p13:=eq_true p13
         replace q13:=eq_true q13
         go_wp2_with (first|(go_at_call 106;(with_reducible refine (tollbarref02_blank.calls (bt x0_2 (ji10)) false _ A14.out).mono ?_);rintro e w' ⟨rfl,⟨nd,rfl⟩⟩;(try clear A14)))
         go_ret
         exact ⟨by first|rfl|(simp;done)|(simp only [← hji10] <;> (first|rfl|simp))|(simp [*];done),by repeat (first|exact Drawn0.refl _|apply Drawn0.step)⟩
       ·rw [if_neg c12] at H
        exact absurd H (by simp)
      ·rw [if_neg c11] at H
       exact absurd H (by simp)
     ·rw [if_neg c9] at H
      have c9b0:decide (0 < (x0_2.size:Int))=false:=decide_eq_false c9
      have c9b1:decide (0 < x0_2.size)=false:=decide_eq_false (by omega)
      clear c9
      obtain rfl:=Option.some.inj H
      go_wp2
      go_ret
      exact ⟨by first|rfl|(simp;done)|(simp [*];done),by repeat (first|exact Drawn0.refl _|apply Drawn0.step)⟩
mutual
def tollbarref02_Split.l0:Nat → ByteArray → List ByteArray → Int → Int → Option (List ByteArray)
 | 0,_,_,_,_=>none
 | k + 1,x0,x3,x4,x5=>if x5 ≤ (x0.size:Int) then (if x5=(x0.size:Int) then (tollbarref02_Split.j1 k x0 x3 x4 x5 true) else (if 0 ≤ x5 then (if x5 < (x0.size:Int) then (tollbarref02_Split.j1 k x0 x3 x4 x5 ((bt x0 x5) == 44)) else (none)) else (none))) else (some x3)
def tollbarref02_Split.j1:Nat → ByteArray → List ByteArray → Int → Int → Bool → Option (List ByteArray)
 | 0,_,_,_,_,_=>none
 | k + 1,x0,x3,x4,x5,x23=>if x23=true then (if 0 ≤ x4 then (if x4 ≤ x5 then (if x5 ≤ (x0.size:Int) then ((tollbarref02_Trim.f k (x0.extract (x4:Int).toNat (x5:Int).toNat)).bind fun t456=>(if t456.toList=([]:List UInt8) then (tollbarref02_Split.l0 k x0 x3 (wrap64 (x5 + 1)) (wrap64 (x5 + 1))) else (if x3.length < 8796093022208 then (tollbarref02_Split.l0 k x0 (x3 ++ [t456]) (wrap64 (x5 + 1)) (wrap64 (x5 + 1))) else (none)))) else (none)) else (none)) else (none)) else (tollbarref02_Split.l0 k x0 x3 x4 (wrap64 (x5 + 1)))
end
def tollbarref02_Split.f (k:Nat) (a0:ByteArray):Option (List ByteArray):=tollbarref02_Split.l0 k a0 (([]:List ByteArray)) 0 0
set_option maxHeartbeats 8000000 in
set_option maxRecDepth 100000 in
theorem tollbarref02_Split.calls (k:Nat) (a0:ByteArray) (r:List ByteArray) (w:World) (h:tollbarref02_Split.f k a0=some r) :
  Calls Tryd.prog 65 #[.string a0] w fun e w' => ∃ v0_:Value,e = .returned (v0_)∧Kd.R Kd.string 9 w' w.heap.size (fun _=>True) v0_ r∧Below w.heap.size w w' := by
 have HB:=Aside0.mk (Below.refl w.heap.size w)
 have H:(tollbarref02_Split.l0 k a0 (([]:List ByteArray)) 0 0)=some r:=h
 clear h
 obtain ⟨y453,hy453⟩ : ∃ y_:List ByteArray,y_=(([]:List ByteArray)):=⟨_,rfl⟩
 replace H:(tollbarref02_Split.l0 k a0 y453 0 0)=some r:=by first|(rw [hy453];with_reducible exact H)|(have H2_:=(Option.bind_some _ _).symm.trans H;rw [hy453];with_reducible exact H2_)|(have H2_:=(Option.bind_some _ _).symm.trans H;with_reducible exact H2_)|with_reducible exact H|(rw [hy453];exact H)|exact H
 have Ny453:=Aside0.mk hy453
 clear hy453
 have H' := Aside0.mk H
 clear H
 go_enter Tryd.func65,Tryd.ntmps65
 go_wp2_with (first|((with_reducible refine gate_dst (N:=7) rfl ?_);refine Kd.R_lit Kd.string _ 9 ?hg (N:=7) ?hd (xs:=([]:List ByteArray)) (inner:=[]) (ok:=fun _=>True) (okp:=fun _=>True) ?hr ?hp (fun _ hk=>hk) trivial (Below.refl _ _) (Nat.le_refl _) (by simp) ?_;(case hd=>rfl);(case hg=>rfl);(case hr=>first|(go_simp;done)|(go_simp;rfl));(case hp=>exact (Reps.none _ _));intro v454 w2 ho3 hb hg_ hnew_;clear hg_ hnew_;(first|rw [← Ny453.out] at ho3|(simp only [Int.reduceToNat] at ho3;rw [← Ny453.out] at ho3));have n0_:=Aside0.mk (Kd.R_lower ho3 (below_size (by repeat (first|(with_reducible first|exact HB.out|apply below_alloc|apply pw_below_drewN|apply below_drew1)|exact HB.out))));have n1_:=Aside0.mk (below_step (by repeat (first|(with_reducible first|exact HB.out|apply below_alloc|apply pw_below_drewN|apply below_drew1)|exact HB.out)) hb);clear HB;have HO455:=n0_;have HB:=n1_;clear n0_ n1_;clear hb ho3))
 go_loopg [3,4,5] k (fun kq v3 v4 v5 w' => ∃ (x3_1:List ByteArray) (x4_1:Int) (x5_1:Int),v4 = .int .i64 x4_1∧v5 = .int .i64 x5_1∧Aside0 (tollbarref02_Split.l0 kq a0 x3_1 x4_1 x5_1=some r)∧Aside0 (kq ≤ k)∧Aside0 (Kd.R Kd.string 9 w' w.heap.size (fun _=>True) v3 x3_1)∧Aside0 (Below w.heap.size w w'))
 case atStart=>exact ⟨(y453),(0),(0),(by first|rfl|(simp;done)|(simp [*];done)),(by first|rfl|(simp;done)|(simp [*];done)),H',⟨Nat.le_refl _⟩,⟨by (with_reducible repeat (first|apply Kd.R_alloc|apply Kd.R_drewN|apply Kd.R_drew));exact HO455.out⟩,⟨by repeat (first|(with_reducible first|exact HB.out|apply below_alloc|apply pw_below_drewN|apply below_drew1)|exact HB.out)⟩⟩
 case round =>
  clear H'
  try clear p2
  obtain ⟨x3_1,x4_1,x5_1,rfl,rfl,HA,HK1,HO_3,HB⟩:=hrel
  cases gk with
  | zero=>exact absurd HA.out (by simp [tollbarref02_Split.l0])
  | succ k1 =>
   have H:=HA.out
   clear HA
   simp only [tollbarref02_Split.l0] at H
   by_cases c4:x5_1 ≤ (a0.size:Int)
   ·rw [if_pos c4] at H
    have c4b0:decide (x5_1 ≤ (a0.size:Int))=true:=decide_eq_true c4
    clear c4
    have HC5:=Aside0.mk H
    clear H
    go_upto_region 6 with (fail)
    go_cut [23] (fun v23 wc => ∃ (kq:Nat) (x23_4:Bool),v23 = .bool x23_4∧Aside0 (tollbarref02_Split.j1 kq a0 x3_1 x4_1 x5_1 x23_4=some r)∧Aside0 (kq ≤ k1)∧Aside0 (Kd.R Kd.string 9 wc w.heap.size (fun _=>True) u3 x3_1)∧Aside0 (Below w.heap.size w wc))
    case first =>
     have H:=HC5.out
     clear HC5
     by_cases c6:x5_1=(a0.size:Int)
     ·rw [if_pos c6] at H
      have c6b0:(x5_1 == (a0.size:Int))=true:=beq_iff_eq.mpr c6
      have c6b1:(x5_1 != (a0.size:Int))=false:=bne_eq_false_iff_eq.mpr c6
      clear c6
      (first|rw [c6b0]|(simp only [i64_w,i32_w];rw [c6b0])|rw [c6b1]|skip)
      have H' := Aside0.mk H
      clear H
      go_wp2
      go_meet
      case rel=>exact ⟨_,(true),(by first|rfl|(simp;done)|(simp [*];done)),H',⟨by have:=HK1.out;first|omega|exact Nat.le_refl _⟩,⟨by (with_reducible repeat (first|apply Kd.R_alloc|apply Kd.R_drewN|apply Kd.R_drew));exact HO_3.out⟩,⟨by repeat (first|(with_reducible first|exact HB.out|apply below_alloc|apply pw_below_drewN|apply below_drew1)|exact HB.out)⟩⟩
     ·rw [if_neg c6] at H
      have c6b0:(x5_1 == (a0.size:Int))=false:=beq_eq_false_iff_ne.mpr c6
      have c6b1:(x5_1 != (a0.size:Int))=true:=bne_iff_ne.mpr c6
      (first|rw [c6b0]|(simp only [i64_w,i32_w];rw [c6b0])|rw [c6b1]|skip)
      by_cases c7:0 ≤ x5_1
      ·rw [if_pos c7] at H
       have c7b0:decide (0 ≤ x5_1)=true:=decide_eq_true c7
       clear c7
       by_cases c8:x5_1 < (a0.size:Int)
       ·rw [if_pos c8] at H
        have c8b0:decide (x5_1 < (a0.size:Int))=true:=decide_eq_true c8
        clear c8
        have H' := Aside0.mk H
        clear H
        have p9:0 ≤ (x5_1:Int):=of_decide_eq_true (by first|(with_reducible assumption)|assumption)
        have q9:x5_1 < (a0.size:Int):=of_decide_eq_true (by first|(with_reducible assumption)|assumption)
        have hx9:=bt_at a0 x5_1
        replace p9:=eq_true p9
        replace q9:=eq_true q9
        go_wp2
        go_meet
        case rel=>exact ⟨_,(((bt a0 x5_1) == 44)),(by first|rfl|(simp;done)|(simp [*];done)),H',⟨by have:=HK1.out;first|omega|exact Nat.le_refl _⟩,⟨by (with_reducible repeat (first|apply Kd.R_alloc|apply Kd.R_drewN|apply Kd.R_drew));exact HO_3.out⟩,⟨by repeat (first|(with_reducible first|exact HB.out|apply below_alloc|apply pw_below_drewN|apply below_drew1)|exact HB.out)⟩⟩
       ·rw [if_neg c8] at H
        exact absurd H (by simp)
      ·rw [if_neg c7] at H
       exact absurd H (by simp)
    case rest =>
     clear HC5
     try clear p2
     try clear c4
     try clear c4b0
     try clear c6
     try clear c6b0
     try clear c6b1
     try clear c7
     try clear c7b0
     try clear c8
     try clear c8b0
     try clear p9
     try clear q9
     try clear hx9
     try clear p2
     try clear p9
     try clear q9
     obtain ⟨kq,x23_4,rfl,HA,HJ4,HO_3,HB⟩:=hcut
     cases kq with
     | zero=>exact absurd HA.out (by simp [tollbarref02_Split.j1])
     | succ kj4 =>
      have H:=HA.out
      clear HA
      simp only [tollbarref02_Split.j1] at H
      by_cases c10:x23_4=true
      ·subst c10
       have H1:(if 0 ≤ x4_1 then (if x4_1 ≤ x5_1 then (if x5_1 ≤ (a0.size:Int) then ((tollbarref02_Trim.f kj4 (a0.extract (x4_1:Int).toNat (x5_1:Int).toNat)).bind fun t456=>(if t456.toList=([]:List UInt8) then (tollbarref02_Split.l0 kj4 a0 x3_1 (wrap64 (x5_1 + 1)) (wrap64 (x5_1 + 1))) else (if x3_1.length < 8796093022208 then (tollbarref02_Split.l0 kj4 a0 (x3_1 ++ [t456]) (wrap64 (x5_1 + 1)) (wrap64 (x5_1 + 1))) else (none)))) else (none)) else (none)) else (none))=some r:=by rw [if_pos rfl] at H;exact H
       clear H
       have H:=H1
       clear H1
       by_cases c11:0 ≤ x4_1
       ·rw [if_pos c11] at H
        have c11b0:=eq_true c11
        have c11b1:decide (0 ≤ x4_1)=true:=decide_eq_true c11
        clear c11
        by_cases c12:x4_1 ≤ x5_1
        ·rw [if_pos c12] at H
         have c12b0:=eq_true c12
         have c12b1:decide (x4_1 ≤ x5_1)=true:=decide_eq_true c12
         clear c12
         by_cases c13:x5_1 ≤ (a0.size:Int)
         ·rw [if_pos c13] at H
          have c13b0:=eq_true c13
          have c13b1:decide (x5_1 ≤ (a0.size:Int))=true:=decide_eq_true c13
          clear c13
          replace H:=Option.bind_eq_some_iff.mp H
          obtain ⟨t456,A140,H⟩:=H
          replace H:(if t456.toList=([]:List UInt8) then (tollbarref02_Split.l0 kj4 a0 x3_1 (wrap64 (x5_1 + 1)) (wrap64 (x5_1 + 1))) else (if x3_1.length < 8796093022208 then (tollbarref02_Split.l0 kj4 a0 (x3_1 ++ [t456]) (wrap64 (x5_1 + 1)) (wrap64 (x5_1 + 1))) else (none)))=some r:=H
          have A14:=Aside0.mk A140
          clear A140
          by_cases c15:t456.toList=([]:List UInt8)
          ·rw [if_pos c15] at H
           have c15b0:(t456.toList == ([]:List UInt8))=true:=beq_iff_eq.mpr c15
           have c15b1:(t456.toList != ([]:List UInt8))=false:=bne_eq_false_iff_eq.mpr c15
           clear c15
           have H' := Aside0.mk H
           clear H
           go_wp2_with (first|((with_reducible refine gate_callee (f:=92) rfl ?_);refine goesL_ (some 28) rfl rfl Tryd.func92 (by kernel_rfl) rfl #[.string (a0.extract (x4_1:Int).toNat (x5_1:Int).toNat)] rfl (by (try simp only [List.map_toArray,List.map_cons,List.map_nil]);first|done|rfl|(simp only [List.length_drop,List.length_take];rfl)) ?_;(with_reducible refine (tollbarref02_Trim.calls kj4 (a0.extract (x4_1:Int).toNat (x5_1:Int).toNat) t456 _ A14.out).mono ?_);rintro e w' ⟨rfl,⟨nd,rfl⟩⟩;(try clear A14);refine ⟨_,rfl,?_⟩))
           go_roundg kj4
           case measure=>have:=HK1.out;have:=HJ4.out;omega
           case rel=>exact ⟨(x3_1),(wrap64 (x5_1 + 1)),(wrap64 (x5_1 + 1)),(by first|rfl|(simp;done)|(simp [*];done)),(by first|rfl|(simp;done)|(simp [*];done)),H',⟨by have:=HK1.out;have:=HJ4.out;omega⟩,⟨by (with_reducible repeat (first|apply Kd.R_alloc|apply Kd.R_drewN|apply Kd.R_drew));exact HO_3.out⟩,⟨by repeat (first|(with_reducible first|exact HB.out|apply below_alloc|apply pw_below_drewN|apply below_drew1)|exact HB.out)⟩⟩
          ·rw [if_neg c15] at H
           have c15b0:(t456.toList == ([]:List UInt8))=false:=beq_eq_false_iff_ne.mpr c15
           have c15b1:(t456.toList != ([]:List UInt8))=true:=bne_iff_ne.mpr c15
           by_cases c16:x3_1.length < 8796093022208
           ·rw [if_pos c16] at H
            have LMc16:=Aside0.mk c16
            clear c16
            obtain ⟨y457,hy457⟩ : ∃ y_:List ByteArray,y_=(x3_1 ++ [t456]):=⟨_,rfl⟩
            replace H:(tollbarref02_Split.l0 kj4 a0 y457 (wrap64 (x5_1 + 1)) (wrap64 (x5_1 + 1)))=some r:=by first|(rw [hy457];with_reducible exact H)|(have H2_:=(Option.bind_some _ _).symm.trans H;rw [hy457];with_reducible exact H2_)|(have H2_:=(Option.bind_some _ _).symm.trans H;with_reducible exact H2_)|with_reducible exact H|(rw [hy457];exact H)|exact H
            have Ny457:=Aside0.mk hy457
            clear hy457
            have H' := Aside0.mk H
            clear H
            go_wp2_with (first|((with_reducible refine gate_callee (f:=92) rfl ?_);refine goesL_ (some 28) rfl rfl Tryd.func92 (by kernel_rfl) rfl #[.string (a0.extract (x4_1:Int).toNat (x5_1:Int).toNat)] rfl (by (try simp only [List.map_toArray,List.map_cons,List.map_nil]);first|done|rfl|(simp only [List.length_drop,List.length_take];rfl)) ?_;(with_reducible refine (tollbarref02_Trim.calls kj4 (a0.extract (x4_1:Int).toNat (x5_1:Int).toNat) t456 _ A14.out).mono ?_);rintro e w' ⟨rfl,⟨nd,rfl⟩⟩;(try clear A14);refine ⟨_,rfl,?_⟩)|((with_reducible refine gate_builtin (b:=.append) (xs:=#[.tmp 31,.tmp 33]) rfl ?_);at_builtin;refine Kd.R_append Kd.string (w0:=w) w.heap.size rfl (.tmp 31) (.tmp 33) 36 9 (.string ⟨#[]⟩) 16 rfl Tryd.underlying36 info9 rfl (by decide) (by omega) u3 x3_1 t456 [.string t456] (fun _=>True) (fun _=>False) rfl rfl ?aP (fun _ hk=>hk.elim) ?aF ?aO ?aB ?aS ?aL ?_;(case aP=>exact rfl);(case aB=>exact (by repeat (first|(with_reducible first|exact HB.out|apply below_alloc|apply pw_below_drewN|apply below_drew1)|exact HB.out)));(case aF=>exact (fun _ _=>trivial));(case aO=>exact (by (with_reducible repeat (first|apply Kd.R_alloc|apply Kd.R_drewN|apply Kd.R_drew));exact HO_3.out));(case aS=>exact (below_size (by repeat (first|(with_reducible first|exact HB.out|apply below_alloc|apply pw_below_drewN|apply below_drew1)|exact HB.out))));(case aL=>have:=LMc16.out;omega);intro v458 w17 ho hb hg hat;rw [← Ny457.out] at ho;have n0_:=Aside0.mk (hb);have n1_:=Aside0.mk (ho);clear HB;clear HO_3;have HB:=n0_;have HO459:=n1_;clear n0_ n1_;clear ho hb hg hat))
            go_roundg kj4
            case measure=>have:=HK1.out;have:=HJ4.out;omega
            case rel=>exact ⟨(y457),(wrap64 (x5_1 + 1)),(wrap64 (x5_1 + 1)),(by first|rfl|(simp;done)|(simp [*];done)),(by first|rfl|(simp;done)|(simp [*];done)),H',⟨by have:=HK1.out;have:=HJ4.out;omega⟩,⟨by (with_reducible repeat (first|apply Kd.R_alloc|apply Kd.R_drewN|apply Kd.R_drew));exact HO459.out⟩,⟨by repeat (first|(with_reducible first|exact HB.out|apply below_alloc|apply pw_below_drewN|apply below_drew1)|exact HB.out)⟩⟩
           ·rw [if_neg c16] at H
            exact absurd H (by simp)
         ·rw [if_neg c13] at H
          exact absurd H (by simp)
        ·rw [if_neg c12] at H
         exact absurd H (by simp)
       ·rw [if_neg c11] at H
        exact absurd H (by simp)
      ·replace c10:=Bool.eq_false_iff.mpr c10
       subst c10
       have H1:(tollbarref02_Split.l0 kj4 a0 x3_1 x4_1 (wrap64 (x5_1 + 1)))=some r:=by rw [if_neg (show ¬ (false=true) by decide)] at H;exact H
       clear H
       have H:=H1
       clear H1
       have H' := Aside0.mk H
       clear H
       go_wp2
       go_roundg kj4
       case measure=>have:=HK1.out;have:=HJ4.out;omega
       case rel=>exact ⟨(x3_1),(x4_1),(wrap64 (x5_1 + 1)),(by first|rfl|(simp;done)|(simp [*];done)),(by first|rfl|(simp;done)|(simp [*];done)),H',⟨by have:=HK1.out;have:=HJ4.out;omega⟩,⟨by (with_reducible repeat (first|apply Kd.R_alloc|apply Kd.R_drewN|apply Kd.R_drew));exact HO_3.out⟩,⟨by repeat (first|(with_reducible first|exact HB.out|apply below_alloc|apply pw_below_drewN|apply below_drew1)|exact HB.out)⟩⟩
   ·rw [if_neg c4] at H
    have c4b0:decide (x5_1 ≤ (a0.size:Int))=false:=decide_eq_false c4
    clear c4
    obtain rfl:=Option.some.inj H
    go_wp2
    go_ret
    exact ⟨_,by first|rfl|(simp [errW_none,errW_some] <;> rfl)|(simp [*,errW_none,errW_some] <;> rfl),by (with_reducible repeat (first|apply Kd.R_alloc|apply Kd.R_drewN|apply Kd.R_drew));exact HO_3.out,by repeat (first|(with_reducible first|exact HB.out|apply below_alloc|apply pw_below_drewN|apply below_drew1)|exact HB.out)⟩
def tollbarref04_Get.l0:Nat → List (S41) → ByteArray → List ByteArray → Int → Option (List ByteArray)
 | 0,_,_,_,_=>none
 | k + 1,x0,x1,x5,x6=>if x6 < (x0.length:Int) then (if 0 ≤ x6 then ((tollbarref04_same.f k ((rd_T41 x0 x6).f0) x1).bind fun t446=>(if t446=true then (if x5.length < 8796093022208 then (tollbarref04_Get.l0 k x0 x1 (x5 ++ [(rd_T41 x0 x6).f1]) (wrap64 (x6 + 1))) else (none)) else (tollbarref04_Get.l0 k x0 x1 x5 (wrap64 (x6 + 1))))) else (none)) else (some x5)
def tollbarref04_Get.f (k:Nat) (l0:List (S41)) (a1:ByteArray):Option (List ByteArray):=tollbarref04_Get.l0 k l0 a1 (([]:List ByteArray)) 0
set_option maxHeartbeats 8000000 in
set_option maxRecDepth 100000 in
theorem tollbarref04_Get.calls (k:Nat) (A0:Option Addr) (c0:Nat) (l0:List (S41)) (a1:ByteArray) (r:List ByteArray) (w:World) (hr0:Kd.C k41 w A0 l0.length l0) (hc0:l0.length ≤ c0) (h:tollbarref04_Get.f k l0 a1=some r) :
  Calls Tryd.prog 64 #[.slice A0 l0.length c0,.string a1] w fun e w' => ∃ v0_:Value,e = .returned (v0_)∧Kd.R Kd.string 9 w' w.heap.size (fun _=>True) v0_ r∧Below w.heap.size w w' := by
 have HR0:=Aside0.mk hr0
 have HC0:=Aside0.mk hc0
 clear hr0 hc0
 have HB:=Aside0.mk (Below.refl w.heap.size w)
 have H:(tollbarref04_Get.l0 k l0 a1 (([]:List ByteArray)) 0)=some r:=h
 clear h
 obtain ⟨y442,hy442⟩ : ∃ y_:List ByteArray,y_=(([]:List ByteArray)):=⟨_,rfl⟩
 replace H:(tollbarref04_Get.l0 k l0 a1 y442 0)=some r:=by first|(rw [hy442];with_reducible exact H)|(have H2_:=(Option.bind_some _ _).symm.trans H;rw [hy442];with_reducible exact H2_)|(have H2_:=(Option.bind_some _ _).symm.trans H;with_reducible exact H2_)|with_reducible exact H|(rw [hy442];exact H)|exact H
 have Ny442:=Aside0.mk hy442
 clear hy442
 have H' := Aside0.mk H
 clear H
 go_enter Tryd.func64,Tryd.ntmps64
 go_wp2_with (first|((with_reducible refine gate_dst (N:=7) rfl ?_);refine Kd.R_lit Kd.string _ 9 ?hg (N:=7) ?hd (xs:=([]:List ByteArray)) (inner:=[]) (ok:=fun _=>True) (okp:=fun _=>True) ?hr ?hp (fun _ hk=>hk) trivial (Below.refl _ _) (Nat.le_refl _) (by simp) ?_;(case hd=>rfl);(case hg=>rfl);(case hr=>first|(go_simp;done)|(go_simp;rfl));(case hp=>exact (Reps.none _ _));intro v443 w3 ho4 hb hg_ hnew_;clear hg_ hnew_;(first|rw [← Ny442.out] at ho4|(simp only [Int.reduceToNat] at ho4;rw [← Ny442.out] at ho4));have n0_:=Aside0.mk (Kd.R_lower ho4 (below_size (by repeat (first|(with_reducible first|exact HB.out|apply below_alloc|apply pw_below_drewN|apply below_drew1)|exact HB.out))));have n1_:=Aside0.mk (below_step (by repeat (first|(with_reducible first|exact HB.out|apply below_alloc|apply pw_below_drewN|apply below_drew1)|exact HB.out)) hb);clear HB;have HO444:=n0_;have HB:=n1_;clear n0_ n1_;clear hb ho4))
 go_loopg [5,6] k (fun kq v5 v6 w' => ∃ (x5_1:List ByteArray) (x6_1:Int),v6 = .int .i64 x6_1∧Aside0 (tollbarref04_Get.l0 kq l0 a1 x5_1 x6_1=some r)∧Aside0 (kq ≤ k)∧Aside0 (Kd.R Kd.string 9 w' w.heap.size (fun _=>True) v5 x5_1)∧Aside0 (Below w.heap.size w w'))
 case atStart=>exact ⟨(y442),(0),(by first|rfl|(simp;done)|(simp [*];done)),H',⟨Nat.le_refl _⟩,⟨by (with_reducible repeat (first|apply Kd.R_alloc|apply Kd.R_drewN|apply Kd.R_drew));exact HO444.out⟩,⟨by repeat (first|(with_reducible first|exact HB.out|apply below_alloc|apply pw_below_drewN|apply below_drew1)|exact HB.out)⟩⟩
 case round =>
  clear H'
  try clear p2
  obtain ⟨x5_1,x6_1,rfl,HA,HK1,HO_5,HB⟩:=hrel
  cases gk with
  | zero=>exact absurd HA.out (by simp [tollbarref04_Get.l0])
  | succ k1 =>
   have H:=HA.out
   clear HA
   simp only [tollbarref04_Get.l0] at H
   by_cases c5:x6_1 < (l0.length:Int)
   ·rw [if_pos c5] at H
    have c5b0:decide (x6_1 < (l0.length:Int))=true:=decide_eq_true c5
    clear c5
    by_cases c6:0 ≤ x6_1
    ·rw [if_pos c6] at H
     have c6b0:decide (0 ≤ x6_1)=true:=decide_eq_true c6
     clear c6
     replace H:=Option.bind_eq_some_iff.mp H
     obtain ⟨t446,A70,H⟩:=H
     replace H:(if t446=true then (if x5_1.length < 8796093022208 then (tollbarref04_Get.l0 k1 l0 a1 (x5_1 ++ [(rd_T41 l0 x6_1).f1]) (wrap64 (x6_1 + 1))) else (none)) else (tollbarref04_Get.l0 k1 l0 a1 x5_1 (wrap64 (x6_1 + 1))))=some r:=H
     have A7:=Aside0.mk A70
     clear A70
     by_cases c8:t446=true
     ·subst c8
      have H1:(if x5_1.length < 8796093022208 then (tollbarref04_Get.l0 k1 l0 a1 (x5_1 ++ [(rd_T41 l0 x6_1).f1]) (wrap64 (x6_1 + 1))) else (none))=some r:=by rw [if_pos rfl] at H;exact H
      clear H
      have H:=H1
      clear H1
      by_cases c9:x5_1.length < 8796093022208
      ·rw [if_pos c9] at H
       have LMc9:=Aside0.mk c9
       clear c9
       obtain ⟨y448,hy448⟩ : ∃ y_:List ByteArray,y_=(x5_1 ++ [(rd_T41 l0 x6_1).f1]):=⟨_,rfl⟩
       replace H:(tollbarref04_Get.l0 k1 l0 a1 y448 (wrap64 (x6_1 + 1)))=some r:=by first|(rw [hy448];with_reducible exact H)|(have H2_:=(Option.bind_some _ _).symm.trans H;rw [hy448];with_reducible exact H2_)|(have H2_:=(Option.bind_some _ _).symm.trans H;with_reducible exact H2_)|with_reducible exact H|(rw [hy448];exact H)|exact H
       have Ny448:=Aside0.mk hy448
       clear hy448
       have H' := Aside0.mk H
       clear H
       have p445:0 ≤ (x6_1:Int):=of_decide_eq_true (by first|(with_reducible assumption)|assumption)
       have q445:x6_1 < (l0.length:Int):=of_decide_eq_true (by first|(with_reducible assumption)|assumption)
       obtain ⟨ad445,e445,hx445_0,hx445_1⟩:=at_T41 HR0.out x6_1 p445 q445
       cases e445
       replace hx445_0:=(HB.out.cell (World.block_lt_of_cell? w _ hx445_0)).trans hx445_0
       replace hx445_1:=(HB.out.cell (World.block_lt_of_cell? w _ hx445_1)).trans hx445_1
       replace p445:=eq_true p445
       replace q445:=eq_true q445
       go_wp2_with (first|((with_reducible refine gate_callee (f:=63) rfl ?_);refine goesL_ (some 20) rfl rfl Tryd.func63 (by kernel_rfl) rfl #[.string ((rd_T41 l0 x6_1).f0),.string a1] rfl (by (try simp only [List.map_toArray,List.map_cons,List.map_nil]);first|done|rfl|(simp only [List.length_drop,List.length_take];rfl)) ?_;(with_reducible refine (tollbarref04_same.calls k1 ((rd_T41 l0 x6_1).f0) a1 true _ A7.out).mono ?_);rintro e w10 ⟨rfl,hb⟩;(try clear A7);refine ⟨_,rfl,?_⟩;have n0_:=Aside0.mk (Kd.R_below (by (with_reducible repeat (first|apply Kd.R_alloc|apply Kd.R_drewN|apply Kd.R_drew));exact HO_5.out) hb);have n1_:=Aside0.mk (below_step (by repeat (first|(with_reducible first|exact HB.out|apply below_alloc|apply pw_below_drewN|apply below_drew1)|exact HB.out)) hb);clear HO_5;clear HB;have HO_5:=n0_;have HB:=n1_;clear n0_ n1_;(try clear hb);(try clear hb2);(try clear hk);(try clear hi);have p447:0 ≤ (x6_1:Int):=of_decide_eq_true (by first|(with_reducible assumption)|assumption);have q447:x6_1 < (l0.length:Int):=of_decide_eq_true (by first|(with_reducible assumption)|assumption);obtain ⟨ad447,e447,hx447_0,hx447_1⟩:=at_T41 HR0.out x6_1 p447 q447;obtain rfl:ad445=ad447:=(by injection e447);replace hx447_0:=(HB.out.cell (World.block_lt_of_cell? w _ hx447_0)).trans hx447_0;replace hx447_1:=(HB.out.cell (World.block_lt_of_cell? w _ hx447_1)).trans hx447_1;replace p447:=eq_true p447;replace q447:=eq_true q447)|((with_reducible refine gate_builtin (b:=.append) (xs:=#[.tmp 21,.tmp 27]) rfl ?_);at_builtin;refine Kd.R_append Kd.string (w0:=w) w.heap.size rfl (.tmp 21) (.tmp 27) 36 9 (.string ⟨#[]⟩) 16 rfl Tryd.underlying36 info9 rfl (by decide) (by omega) u5 x5_1 ((rd_T41 l0 x6_1).f1) [.string ((rd_T41 l0 x6_1).f1)] (fun _=>True) (fun _=>False) rfl rfl ?aP (fun _ hk=>hk.elim) ?aF ?aO ?aB ?aS ?aL ?_;(case aP=>exact rfl);(case aB=>exact (by repeat (first|(with_reducible first|exact HB.out|apply below_alloc|apply pw_below_drewN|apply below_drew1)|exact HB.out)));(case aF=>exact (fun _ _=>trivial));(case aO=>exact (by (with_reducible repeat (first|apply Kd.R_alloc|apply Kd.R_drewN|apply Kd.R_drew));exact HO_5.out));(case aS=>exact (below_size (by repeat (first|(with_reducible first|exact HB.out|apply below_alloc|apply pw_below_drewN|apply below_drew1)|exact HB.out))));(case aL=>have:=LMc9.out;omega);intro v449 w11 ho hb hg hat;rw [← Ny448.out] at ho;have n0_:=Aside0.mk (hb);have n1_:=Aside0.mk (ho);clear HB;clear HO_5;have HB:=n0_;have HO450:=n1_;clear n0_ n1_;clear ho hb hg hat))
       go_roundg k1
       case measure=>have:=HK1.out;omega
       case rel=>exact ⟨(y448),(wrap64 (x6_1 + 1)),(by first|rfl|(simp;done)|(simp [*];done)),H',⟨by have:=HK1.out;omega⟩,⟨by (with_reducible repeat (first|apply Kd.R_alloc|apply Kd.R_drewN|apply Kd.R_drew));exact HO450.out⟩,⟨by repeat (first|(with_reducible first|exact HB.out|apply below_alloc|apply pw_below_drewN|apply below_drew1)|exact HB.out)⟩⟩
      ·rw [if_neg c9] at H
       exact absurd H (by simp)
     ·replace c8:=Bool.eq_false_iff.mpr c8
      subst c8
      have H1:(tollbarref04_Get.l0 k1 l0 a1 x5_1 (wrap64 (x6_1 + 1)))=some r:=by rw [if_neg (show ¬ (false=true) by decide)] at H;exact H
      clear H
      have H:=H1
      clear H1
      have H' := Aside0.mk H
      clear H
      have p445:0 ≤ (x6_1:Int):=of_decide_eq_true (by first|(with_reducible assumption)|assumption)
      have q445:x6_1 < (l0.length:Int):=of_decide_eq_true (by first|(with_reducible assumption)|assumption)
      obtain ⟨ad445,e445,hx445_0,hx445_1⟩:=at_T41 HR0.out x6_1 p445 q445
      cases e445
      replace hx445_0:=(HB.out.cell (World.block_lt_of_cell? w _ hx445_0)).trans hx445_0
      replace hx445_1:=(HB.out.cell (World.block_lt_of_cell? w _ hx445_1)).trans hx445_1
      replace p445:=eq_true p445
      replace q445:=eq_true q445
      go_wp2_with (first|((with_reducible refine gate_callee (f:=63) rfl ?_);refine goesL_ (some 20) rfl rfl Tryd.func63 (by kernel_rfl) rfl #[.string ((rd_T41 l0 x6_1).f0),.string a1] rfl (by (try simp only [List.map_toArray,List.map_cons,List.map_nil]);first|done|rfl|(simp only [List.length_drop,List.length_take];rfl)) ?_;(with_reducible refine (tollbarref04_same.calls k1 ((rd_T41 l0 x6_1).f0) a1 false _ A7.out).mono ?_);rintro e w12 ⟨rfl,hb⟩;(try clear A7);refine ⟨_,rfl,?_⟩;have n0_:=Aside0.mk (Kd.R_below (by (with_reducible repeat (first|apply Kd.R_alloc|apply Kd.R_drewN|apply Kd.R_drew));exact HO_5.out) hb);have n1_:=Aside0.mk (below_step (by repeat (first|(with_reducible first|exact HB.out|apply below_alloc|apply pw_below_drewN|apply below_drew1)|exact HB.out)) hb);clear HO_5;clear HB;have HO_5:=n0_;have HB:=n1_;clear n0_ n1_;(try clear hb);(try clear hb2);(try clear hk);(try clear hi)))
      go_roundg k1
      case measure=>have:=HK1.out;omega
      case rel=>exact ⟨(x5_1),(wrap64 (x6_1 + 1)),(by first|rfl|(simp;done)|(simp [*];done)),H',⟨by have:=HK1.out;omega⟩,⟨by (with_reducible repeat (first|apply Kd.R_alloc|apply Kd.R_drewN|apply Kd.R_drew));exact HO_5.out⟩,⟨by repeat (first|(with_reducible first|exact HB.out|apply below_alloc|apply pw_below_drewN|apply below_drew1)|exact HB.out)⟩⟩
    ·rw [if_neg c6] at H
     exact absurd H (by simp)
   ·rw [if_neg c5] at H
    have c5b0:decide (x6_1 < (l0.length:Int))=false:=decide_eq_false c5
    clear c5
    obtain rfl:=Option.some.inj H
    go_wp2
    go_ret
    exact ⟨_,by first|rfl|(simp [errW_none,errW_some] <;> rfl)|(simp [*,errW_none,errW_some] <;> rfl),by (with_reducible repeat (first|apply Kd.R_alloc|apply Kd.R_drewN|apply Kd.R_drew));exact HO_5.out,by repeat (first|(with_reducible first|exact HB.out|apply below_alloc|apply pw_below_drewN|apply below_drew1)|exact HB.out)⟩
mutual
def tollbarref04_List.l0:Nat → List ByteArray → List ByteArray → Int → Option (List ByteArray)
 | 0,_,_,_=>none
 | k + 1,x5,x6,x7=>if x7 < (x6.length:Int) then (if 0 ≤ x7 then ((tollbarref02_Split.f k (rdOf ByteArray.empty x6 x7)).bind fun t467=>(tollbarref04_List.l1 k x5 x6 x7 t467 0)) else (none)) else (some x5)
def tollbarref04_List.l1:Nat → List ByteArray → List ByteArray → Int → List ByteArray → Int → Option (List ByteArray)
 | 0,_,_,_,_,_=>none
 | k + 1,x5,x6,x7,x8,x9=>if x9 < (x8.length:Int) then (if 0 ≤ x9 then (if x5.length < 8796093022208 then (tollbarref04_List.l1 k (x5 ++ [rdOf ByteArray.empty x8 x9]) x6 x7 x8 (wrap64 (x9 + 1))) else (none)) else (none)) else (tollbarref04_List.l0 k x5 x6 (wrap64 (x7 + 1)))
end
def tollbarref04_List.f (k:Nat) (l0:List (S41)) (a1:ByteArray):Option (List ByteArray):=(tollbarref04_Get.f k l0 a1).bind fun t463=>(tollbarref04_List.l0 k (([]:List ByteArray)) t463 0)
set_option maxHeartbeats 8000000 in
set_option maxRecDepth 100000 in
theorem tollbarref04_List.calls (k:Nat) (A0:Option Addr) (c0:Nat) (l0:List (S41)) (a1:ByteArray) (r:List ByteArray) (w:World) (hr0:Kd.C k41 w A0 l0.length l0) (hc0:l0.length ≤ c0) (h:tollbarref04_List.f k l0 a1=some r) :
  Calls Tryd.prog 34 #[.slice A0 l0.length c0,.string a1] w fun e w' => ∃ v0_:Value,e = .returned (v0_)∧Kd.R Kd.string 9 w' w.heap.size (fun _=>True) v0_ r∧Below w.heap.size w w' := by
 have HR0:=Aside0.mk hr0
 have HC0:=Aside0.mk hc0
 clear hr0 hc0
 have HB:=Aside0.mk (Below.refl w.heap.size w)
 have H:((tollbarref04_Get.f k l0 a1).bind fun t463=>(tollbarref04_List.l0 k (([]:List ByteArray)) t463 0))=some r:=h
 clear h
 obtain ⟨y460,hy460⟩ : ∃ y_:List ByteArray,y_=(([]:List ByteArray)):=⟨_,rfl⟩
 replace H:((tollbarref04_Get.f k l0 a1).bind fun t463=>(tollbarref04_List.l0 k y460 t463 0))=some r:=by first|(rw [hy460];with_reducible exact H)|(have H2_:=(Option.bind_some _ _).symm.trans H;rw [hy460];with_reducible exact H2_)|(have H2_:=(Option.bind_some _ _).symm.trans H;with_reducible exact H2_)|with_reducible exact H|(rw [hy460];exact H)|exact H
 have Ny460:=Aside0.mk hy460
 clear hy460
 replace H:=Option.bind_eq_some_iff.mp H
 obtain ⟨t463,A30,H⟩:=H
 replace H:(tollbarref04_List.l0 k y460 t463 0)=some r:=H
 have A3:=Aside0.mk A30
 clear A30
 have H' := Aside0.mk H
 clear H
 go_enter Tryd.func34,Tryd.ntmps34
 go_wp2_with (first|((with_reducible refine gate_dst (N:=10) rfl ?_);refine Kd.R_lit Kd.string _ 9 ?hg (N:=10) ?hd (xs:=([]:List ByteArray)) (inner:=[]) (ok:=fun _=>True) (okp:=fun _=>True) ?hr ?hp (fun _ hk=>hk) trivial (Below.refl _ _) (Nat.le_refl _) (by simp) ?_;(case hd=>rfl);(case hg=>rfl);(case hr=>first|(go_simp;done)|(go_simp;rfl));(case hp=>exact (Reps.none _ _));intro v461 w4 ho5 hb hg_ hnew_;clear hg_ hnew_;(first|rw [← Ny460.out] at ho5|(simp only [Int.reduceToNat] at ho5;rw [← Ny460.out] at ho5));have n0_:=Aside0.mk (Kd.R_lower ho5 (below_size (by repeat (first|(with_reducible first|exact HB.out|apply below_alloc|apply pw_below_drewN|apply below_drew1)|exact HB.out))));have n1_:=Aside0.mk (below_step (by repeat (first|(with_reducible first|exact HB.out|apply below_alloc|apply pw_below_drewN|apply below_drew1)|exact HB.out)) hb);clear HB;have HO462:=n0_;have HB:=n1_;clear n0_ n1_;clear hb ho5)|((with_reducible refine gate_callee (f:=64) rfl ?_);refine goesL_ (some 13) rfl rfl Tryd.func64 (by kernel_rfl) rfl #[.slice A0 l0.length c0,.string a1] rfl (by (try simp only [List.map_toArray,List.map_cons,List.map_nil]);first|done|rfl|(simp only [List.length_drop,List.length_take];rfl)) ?_;(with_reducible refine (tollbarref04_Get.calls k _ _ l0 a1 t463 _ ?side1 ?side2 A3.out).mono ?_);(case side1=>repeat (first|exact (Kd.C_below HR0.out HB.out)|(with_reducible refine Kd.C_alloc ?_ _)|(with_reducible refine Kd.C_drewN ?_ _)|(with_reducible refine Kd.C_drew ?_)));(case side2=>exact HC0.out);rintro e w6 ⟨v464,rfl,ho0,hb⟩;(try clear A3);refine ⟨_,rfl,?_⟩;have n0_:=Aside0.mk (Kd.R_elder' (by (with_reducible repeat (first|apply Kd.R_alloc|apply Kd.R_drewN|apply Kd.R_drew));exact HO462.out) (Kd.R_base ho0) hb);have n1_:=Aside0.mk (Kd.R_lower (Kd.R_new' ho0 (Kd.R_lt (by (with_reducible repeat (first|apply Kd.R_alloc|apply Kd.R_drewN|apply Kd.R_drew));exact HO462.out))) (below_size (by repeat (first|(with_reducible first|exact HB.out|apply below_alloc|apply pw_below_drewN|apply below_drew1)|exact HB.out))));have n2_:=Aside0.mk (below_step (by repeat (first|(with_reducible first|exact HB.out|apply below_alloc|apply pw_below_drewN|apply below_drew1)|exact HB.out)) hb);clear HO462;clear HB;have HO462:=n0_;have HO465:=n1_;have HB:=n2_;clear n0_ n1_ n2_;(try clear hb);(try clear hb2);(try clear hk);(try clear hi);(try clear ho0)))
 go_loopg [5,7] k (fun kq v5 v7 w' => ∃ (x5_1:List ByteArray) (x7_1:Int),v7 = .int .i64 x7_1∧Aside0 (tollbarref04_List.l0 kq x5_1 t463 x7_1=some r)∧Aside0 (kq ≤ k)∧Aside0 (Kd.R Kd.string 9 w' w.heap.size (fun k_=>some k_ ≠ (v464:Value).ownBlock) v5 x5_1)∧Aside0 (Kd.R Kd.string 9 w' w.heap.size (fun k_=>some k_ ≠ (v5:Value).ownBlock) v464 t463)∧Aside0 (Below w.heap.size w w'))
 case atStart=>exact ⟨(y460),(0),(by first|rfl|(simp;done)|(simp [*];done)),H',⟨Nat.le_refl _⟩,⟨by (with_reducible repeat (first|apply Kd.R_alloc|apply Kd.R_drewN|apply Kd.R_drew));exact Kd.R_mono HO462.out (fun _ hk=>hk.2)⟩,⟨by (with_reducible repeat (first|apply Kd.R_alloc|apply Kd.R_drewN|apply Kd.R_drew));exact Kd.R_mono HO465.out (fun _ hk=>hk.2)⟩,⟨by repeat (first|(with_reducible first|exact HB.out|apply below_alloc|apply pw_below_drewN|apply below_drew1)|exact HB.out)⟩⟩
 case round =>
  clear H'
  try clear p2
  try clear c3
  try clear c6
  obtain ⟨x5_1,x7_1,rfl,HA,HK1,HO_5,HO_6,HB⟩:=hrel
  cases gk with
  | zero=>exact absurd HA.out (by simp [tollbarref04_List.l0])
  | succ k1 =>
   have H:=HA.out
   clear HA
   simp only [tollbarref04_List.l0] at H
   by_cases c7:x7_1 < (t463.length:Int)
   ·rw [if_pos c7] at H
    have c7b0:decide (x7_1 < (t463.length:Int))=true:=decide_eq_true c7
    clear c7
    by_cases c8:0 ≤ x7_1
    ·rw [if_pos c8] at H
     have c8b0:decide (0 ≤ x7_1)=true:=decide_eq_true c8
     clear c8
     replace H:=Option.bind_eq_some_iff.mp H
     obtain ⟨t467,A90,H⟩:=H
     replace H:(tollbarref04_List.l1 k1 x5_1 t463 x7_1 t467 0)=some r:=H
     have A9:=Aside0.mk A90
     clear A90
     have H' := Aside0.mk H
     clear H
     obtain ⟨Ao10,co10,eo10⟩:=Kd.R_slice HO_6.out
     subst eo10
     have p466:0 ≤ (x7_1:Int):=of_decide_eq_true (by first|(with_reducible assumption)|assumption)
     have q466:x7_1 < (t463.length:Int):=of_decide_eq_true (by first|(with_reducible assumption)|assumption)
     obtain ⟨ad466,e466,hx466_0⟩:=Kd.at_string (Kd.R_reads' HO_6.out).2.2 x7_1 p466 q466
     cases e466
     replace p466:=eq_true p466
     replace q466:=eq_true q466
     go_wp2_with (first|((with_reducible refine gate_callee (f:=65) rfl ?_);refine goesL_ (some 24) rfl rfl Tryd.func65 (by kernel_rfl) rfl #[.string (rdOf ByteArray.empty t463 x7_1)] rfl (by (try simp only [List.map_toArray,List.map_cons,List.map_nil]);first|done|rfl|(simp only [List.length_drop,List.length_take];rfl)) ?_;(with_reducible refine (tollbarref02_Split.calls k1 (rdOf ByteArray.empty t463 x7_1) t467 _ A9.out).mono ?_);rintro e w11 ⟨v468,rfl,ho0,hb⟩;(try clear A9);refine ⟨_,rfl,?_⟩;have n0_:=Aside0.mk (Kd.R_elder' (by (with_reducible repeat (first|apply Kd.R_alloc|apply Kd.R_drewN|apply Kd.R_drew));exact HO_5.out) (Kd.R_base ho0) hb);have n1_:=Aside0.mk (Kd.R_elder' (by (with_reducible repeat (first|apply Kd.R_alloc|apply Kd.R_drewN|apply Kd.R_drew));exact HO_6.out) (Kd.R_base ho0) hb);have n2_:=Aside0.mk (Kd.R_lower (Kd.R_new' (Kd.R_new' ho0 (Kd.R_lt (by (with_reducible repeat (first|apply Kd.R_alloc|apply Kd.R_drewN|apply Kd.R_drew));exact HO_5.out))) (Kd.R_lt (by (with_reducible repeat (first|apply Kd.R_alloc|apply Kd.R_drewN|apply Kd.R_drew));exact HO_6.out))) (below_size (by repeat (first|(with_reducible first|exact HB.out|apply below_alloc|apply pw_below_drewN|apply below_drew1)|exact HB.out))));have n3_:=Aside0.mk (below_step (by repeat (first|(with_reducible first|exact HB.out|apply below_alloc|apply pw_below_drewN|apply below_drew1)|exact HB.out)) hb);clear HO_5;clear HO_6;clear HB;have HO_5:=n0_;have HO_6:=n1_;have HO469:=n2_;have HB:=n3_;clear n0_ n1_ n2_ n3_;(try clear hb);(try clear hb2);(try clear hk);(try clear hi);(try clear ho0)))
     go_loopg [5,9] k1 (fun kq v5 v9 w' => ∃ (x5_2:List ByteArray) (x9_2:Int),v9 = .int .i64 x9_2∧Aside0 (tollbarref04_List.l1 kq x5_2 t463 x7_1 t467 x9_2=some r)∧Aside0 (kq ≤ k1)∧Aside0 (Kd.R Kd.string 9 w' w.heap.size (fun k_=>some k_ ≠ ((.slice (some ad466) t463.length co10):Value).ownBlock∧some k_ ≠ (v468:Value).ownBlock) v5 x5_2)∧Aside0 (Kd.R Kd.string 9 w' w.heap.size (fun k_=>some k_ ≠ (v5:Value).ownBlock∧some k_ ≠ (v468:Value).ownBlock) (.slice (some ad466) t463.length co10) t463)∧Aside0 (Kd.R Kd.string 9 w' w.heap.size (fun k_=>some k_ ≠ (v5:Value).ownBlock∧some k_ ≠ ((.slice (some ad466) t463.length co10):Value).ownBlock) v468 t467)∧Aside0 (Below w.heap.size w w'))
     case atStart=>exact ⟨(x5_1),(0),(by first|rfl|(simp;done)|(simp [*];done)),H',⟨Nat.le_refl _⟩,⟨by (with_reducible repeat (first|apply Kd.R_alloc|apply Kd.R_drewN|apply Kd.R_drew));exact HO_5.out⟩,⟨by (with_reducible repeat (first|apply Kd.R_alloc|apply Kd.R_drewN|apply Kd.R_drew));exact HO_6.out⟩,⟨by (with_reducible repeat (first|apply Kd.R_alloc|apply Kd.R_drewN|apply Kd.R_drew));exact Kd.R_mono HO469.out (fun _ hk=>⟨hk.1.2,hk.2⟩)⟩,⟨by repeat (first|(with_reducible first|exact HB.out|apply below_alloc|apply pw_below_drewN|apply below_drew1)|exact HB.out)⟩⟩
     case round =>
      clear H'
      try clear p2
      try clear c3
      try clear p4
      try clear q4
      try clear hx4
      try clear c6
      try clear c7
      try clear c7b0
      try clear c8
      try clear c8b0
      try clear hx466_0
      try clear p2
      try clear p466
      try clear q466
      obtain ⟨x5_2,x9_2,rfl,HA,HK2,HO_5,HO_6,HO_8,HB⟩:=hrel
      cases gk with
      | zero=>exact absurd HA.out (by simp [tollbarref04_List.l1])
      | succ k2 =>
       have H:=HA.out
       clear HA
       simp only [tollbarref04_List.l1] at H
       by_cases c12:x9_2 < (t467.length:Int)
       ·rw [if_pos c12] at H
        have c12b0:decide (x9_2 < (t467.length:Int))=true:=decide_eq_true c12
        clear c12
        by_cases c13:0 ≤ x9_2
        ·rw [if_pos c13] at H
         have c13b0:decide (0 ≤ x9_2)=true:=decide_eq_true c13
         clear c13
         by_cases c14:x5_2.length < 8796093022208
         ·rw [if_pos c14] at H
          have LMc14:=Aside0.mk c14
          clear c14
          obtain ⟨y471,hy471⟩ : ∃ y_:List ByteArray,y_=(x5_2 ++ [rdOf ByteArray.empty t467 x9_2]):=⟨_,rfl⟩
          replace H:(tollbarref04_List.l1 k2 y471 t463 x7_1 t467 (wrap64 (x9_2 + 1)))=some r:=by first|(rw [hy471];with_reducible exact H)|(have H2_:=(Option.bind_some _ _).symm.trans H;rw [hy471];with_reducible exact H2_)|(have H2_:=(Option.bind_some _ _).symm.trans H;with_reducible exact H2_)|with_reducible exact H|(rw [hy471];exact H)|exact H
          have Ny471:=Aside0.mk hy471
          clear hy471
          have H' := Aside0.mk H
          clear H
          obtain ⟨Ao15,co15,eo15⟩:=Kd.R_slice HO_8.out
          subst eo15
          have p470:0 ≤ (x9_2:Int):=of_decide_eq_true (by first|(with_reducible assumption)|assumption)
          have q470:x9_2 < (t467.length:Int):=of_decide_eq_true (by first|(with_reducible assumption)|assumption)
          obtain ⟨ad470,e470,hx470_0⟩:=Kd.at_string (Kd.R_reads' HO_8.out).2.2 x9_2 p470 q470
          cases e470
          replace p470:=eq_true p470
          replace q470:=eq_true q470
          go_wp2_with (first|((with_reducible refine gate_builtin (b:=.append) (xs:=#[.tmp 31,.tmp 36]) rfl ?_);at_builtin;refine Kd.R_append Kd.string (w0:=w) w.heap.size rfl (.tmp 31) (.tmp 36) 36 9 (.string ⟨#[]⟩) 16 rfl Tryd.underlying36 info9 rfl (by decide) (by omega) u5 x5_2 (rdOf ByteArray.empty t467 x9_2) [.string (rdOf ByteArray.empty t467 x9_2)] (fun k_=>some k_ ≠ (.slice (some ad466) t463.length co10:Value).ownBlock∧some k_ ≠ (.slice (some ad470) t467.length co15:Value).ownBlock) (fun _=>False) rfl rfl ?aP (fun _ hk=>hk.elim) ?aF ?aO ?aB ?aS ?aL ?_;(case aP=>exact rfl);(case aB=>exact (by repeat (first|(with_reducible first|exact HB.out|apply below_alloc|apply pw_below_drewN|apply below_drew1)|exact HB.out)));(case aF=>exact (fun k_ hk=>⟨Kd.fresh' (Kd.R_lt (by (with_reducible repeat (first|apply Kd.R_alloc|apply Kd.R_drewN|apply Kd.R_drew));exact HO_6.out)) k_ hk,Kd.fresh' (Kd.R_lt (by (with_reducible repeat (first|apply Kd.R_alloc|apply Kd.R_drewN|apply Kd.R_drew));exact HO_8.out)) k_ hk⟩));(case aO=>exact (by (with_reducible repeat (first|apply Kd.R_alloc|apply Kd.R_drewN|apply Kd.R_drew));exact HO_5.out));(case aS=>exact (below_size (by repeat (first|(with_reducible first|exact HB.out|apply below_alloc|apply pw_below_drewN|apply below_drew1)|exact HB.out))));(case aL=>have:=LMc14.out;omega);intro v472 w16 ho hb hg hat;rw [← Ny471.out] at ho;have n0_:=Aside0.mk (Kd.R_after (ok:=(fun k_=>some k_ ≠ (.slice (some ad470) t467.length co15:Value).ownBlock)) (by (with_reducible repeat (first|apply Kd.R_alloc|apply Kd.R_drewN|apply Kd.R_drew));exact Kd.R_mono HO_6.out (fun _ hk=>⟨hk.2,hk.1⟩)) hg hat);have n1_:=Aside0.mk (Kd.R_after (ok:=(fun k_=>some k_ ≠ (.slice (some ad466) t463.length co10:Value).ownBlock)) (by (with_reducible repeat (first|apply Kd.R_alloc|apply Kd.R_drewN|apply Kd.R_drew));exact Kd.R_mono HO_8.out (fun _ hk=>⟨hk.2,hk.1⟩)) hg hat);have n2_:=Aside0.mk (hb);have n3_:=Aside0.mk (ho);clear HO_6;clear HO_8;clear HB;clear HO_5;have HO_6:=n0_;have HO_8:=n1_;have HB:=n2_;have HO473:=n3_;clear n0_ n1_ n2_ n3_;clear ho hb hg hat))
          go_roundg k2
          case measure=>have:=HK1.out;have:=HK2.out;omega
          case rel=>exact ⟨(y471),(wrap64 (x9_2 + 1)),(by first|rfl|(simp;done)|(simp [*];done)),H',⟨by have:=HK1.out;have:=HK2.out;omega⟩,⟨by (with_reducible repeat (first|apply Kd.R_alloc|apply Kd.R_drewN|apply Kd.R_drew));exact HO473.out⟩,⟨by (with_reducible repeat (first|apply Kd.R_alloc|apply Kd.R_drewN|apply Kd.R_drew));exact Kd.R_mono HO_6.out (fun _ hk=>⟨hk.2,hk.1⟩)⟩,⟨by (with_reducible repeat (first|apply Kd.R_alloc|apply Kd.R_drewN|apply Kd.R_drew));exact Kd.R_mono HO_8.out (fun _ hk=>⟨hk.2,hk.1⟩)⟩,⟨by repeat (first|(with_reducible first|exact HB.out|apply below_alloc|apply pw_below_drewN|apply below_drew1)|exact HB.out)⟩⟩
         ·rw [if_neg c14] at H
          exact absurd H (by simp)
        ·rw [if_neg c13] at H
         exact absurd H (by simp)
       ·rw [if_neg c12] at H
        have c12b0:decide (x9_2 < (t467.length:Int))=false:=decide_eq_false c12
        clear c12
        have H' := Aside0.mk H
        clear H
        obtain ⟨Ao17,co17,eo17⟩:=Kd.R_slice HO_8.out
        subst eo17
        go_wp2
        go_roundg k2
        case measure=>have:=HK1.out;have:=HK2.out;omega
        case rel=>exact ⟨(x5_2),(wrap64 (x7_1 + 1)),(by first|rfl|(simp;done)|(simp [*];done)),H',⟨by have:=HK1.out;have:=HK2.out;omega⟩,⟨by (with_reducible repeat (first|apply Kd.R_alloc|apply Kd.R_drewN|apply Kd.R_drew));exact Kd.R_mono HO_5.out (fun _ hk=>hk.1)⟩,⟨by (with_reducible repeat (first|apply Kd.R_alloc|apply Kd.R_drewN|apply Kd.R_drew));exact Kd.R_mono HO_6.out (fun _ hk=>hk.1)⟩,⟨by repeat (first|(with_reducible first|exact HB.out|apply below_alloc|apply pw_below_drewN|apply below_drew1)|exact HB.out)⟩⟩
    ·rw [if_neg c8] at H
     exact absurd H (by simp)
   ·rw [if_neg c7] at H
    have c7b0:decide (x7_1 < (t463.length:Int))=false:=decide_eq_false c7
    clear c7
    obtain rfl:=Option.some.inj H
    obtain ⟨Ao18,co18,eo18⟩:=Kd.R_slice HO_6.out
    subst eo18
    go_wp2
    go_ret
    exact ⟨_,by first|rfl|(simp [errW_none,errW_some] <;> rfl)|(simp [*,errW_none,errW_some] <;> rfl),by (with_reducible repeat (first|apply Kd.R_alloc|apply Kd.R_drewN|apply Kd.R_drew));exact Kd.R_mono HO_5.out (fun _ hk=>trivial),by repeat (first|(with_reducible first|exact HB.out|apply below_alloc|apply pw_below_drewN|apply below_drew1)|exact HB.out)⟩
def tollbarref10_Kept.f (k:Nat) (a0:ByteArray):Option (Bool):=(tollbarref04_In.f k (([(⟨#[104,111,115,116]⟩:ByteArray),(⟨#[99,111,110,116,101,110,116,45,108,101,110,103,116,104]⟩:ByteArray),(⟨#[116,114,97,110,115,102,101,114,45,101,110,99,111,100,105,110,103]⟩:ByteArray),(⟨#[99,111,110,110,101,99,116,105,111,110]⟩:ByteArray),(⟨#[107,101,101,112,45,97,108,105,118,101]⟩:ByteArray),(⟨#[112,114,111,120,121,45,99,111,110,110,101,99,116,105,111,110]⟩:ByteArray),(⟨#[116,101]⟩:ByteArray),(⟨#[116,114,97,105,108,101,114]⟩:ByteArray),(⟨#[117,112,103,114,97,100,101]⟩:ByteArray),(⟨#[101,120,112,101,99,116]⟩:ByteArray),(⟨#[118,105,97]⟩:ByteArray)]:List ByteArray)) a0).bind fun t441=>(some t441)
set_option maxHeartbeats 8000000 in
set_option maxRecDepth 100000 in
theorem tollbarref10_Kept.calls (k:Nat) (a0:ByteArray) (r:Bool) (w:World) (h:tollbarref10_Kept.f k a0=some r) :
  Calls Tryd.prog 32 #[.string a0] w fun e w' => e = .returned (.bool r)∧Below w.heap.size w w' := by
 have HB:=Aside0.mk (Below.refl w.heap.size w)
 have H:((tollbarref04_In.f k (([(⟨#[104,111,115,116]⟩:ByteArray),(⟨#[99,111,110,116,101,110,116,45,108,101,110,103,116,104]⟩:ByteArray),(⟨#[116,114,97,110,115,102,101,114,45,101,110,99,111,100,105,110,103]⟩:ByteArray),(⟨#[99,111,110,110,101,99,116,105,111,110]⟩:ByteArray),(⟨#[107,101,101,112,45,97,108,105,118,101]⟩:ByteArray),(⟨#[112,114,111,120,121,45,99,111,110,110,101,99,116,105,111,110]⟩:ByteArray),(⟨#[116,101]⟩:ByteArray),(⟨#[116,114,97,105,108,101,114]⟩:ByteArray),(⟨#[117,112,103,114,97,100,101]⟩:ByteArray),(⟨#[101,120,112,101,99,116]⟩:ByteArray),(⟨#[118,105,97]⟩:ByteArray)]:List ByteArray)) a0).bind fun t441=>(some t441))=some r:=h
 clear h
 obtain ⟨y438,hy438⟩ : ∃ y_:List ByteArray,y_=(([(⟨#[104,111,115,116]⟩:ByteArray),(⟨#[99,111,110,116,101,110,116,45,108,101,110,103,116,104]⟩:ByteArray),(⟨#[116,114,97,110,115,102,101,114,45,101,110,99,111,100,105,110,103]⟩:ByteArray),(⟨#[99,111,110,110,101,99,116,105,111,110]⟩:ByteArray),(⟨#[107,101,101,112,45,97,108,105,118,101]⟩:ByteArray),(⟨#[112,114,111,120,121,45,99,111,110,110,101,99,116,105,111,110]⟩:ByteArray),(⟨#[116,101]⟩:ByteArray),(⟨#[116,114,97,105,108,101,114]⟩:ByteArray),(⟨#[117,112,103,114,97,100,101]⟩:ByteArray),(⟨#[101,120,112,101,99,116]⟩:ByteArray),(⟨#[118,105,97]⟩:ByteArray)]:List ByteArray)):=⟨_,rfl⟩
 replace H:((tollbarref04_In.f k y438 a0).bind fun t441=>(some t441))=some r:=by first|(rw [hy438];with_reducible exact H)|(have H2_:=(Option.bind_some _ _).symm.trans H;rw [hy438];with_reducible exact H2_)|(have H2_:=(Option.bind_some _ _).symm.trans H;with_reducible exact H2_)|with_reducible exact H|(rw [hy438];exact H)|exact H
 have Ny438:=Aside0.mk hy438
 clear hy438
 replace H:=Option.bind_eq_some_iff.mp H
 obtain ⟨t441,A20,H⟩:=H
 replace H:(some t441)=some r:=H
 have A2:=Aside0.mk A20
 clear A20
 obtain rfl:=Option.some.inj H
 go_enter Tryd.func32,Tryd.ntmps32
 go_wp2_with (first|((with_reducible refine gate_dst (N:=4) rfl ?_);refine Kd.R_lit Kd.string _ 9 ?hg (N:=4) ?hd (xs:=([(⟨#[104,111,115,116]⟩:ByteArray),(⟨#[99,111,110,116,101,110,116,45,108,101,110,103,116,104]⟩:ByteArray),(⟨#[116,114,97,110,115,102,101,114,45,101,110,99,111,100,105,110,103]⟩:ByteArray),(⟨#[99,111,110,110,101,99,116,105,111,110]⟩:ByteArray),(⟨#[107,101,101,112,45,97,108,105,118,101]⟩:ByteArray),(⟨#[112,114,111,120,121,45,99,111,110,110,101,99,116,105,111,110]⟩:ByteArray),(⟨#[116,101]⟩:ByteArray),(⟨#[116,114,97,105,108,101,114]⟩:ByteArray),(⟨#[117,112,103,114,97,100,101]⟩:ByteArray),(⟨#[101,120,112,101,99,116]⟩:ByteArray),(⟨#[118,105,97]⟩:ByteArray)]:List ByteArray)) (inner:=[.string (⟨#[104,111,115,116]⟩:ByteArray),.string (⟨#[99,111,110,116,101,110,116,45,108,101,110,103,116,104]⟩:ByteArray),.string (⟨#[116,114,97,110,115,102,101,114,45,101,110,99,111,100,105,110,103]⟩:ByteArray),.string (⟨#[99,111,110,110,101,99,116,105,111,110]⟩:ByteArray),.string (⟨#[107,101,101,112,45,97,108,105,118,101]⟩:ByteArray),.string (⟨#[112,114,111,120,121,45,99,111,110,110,101,99,116,105,111,110]⟩:ByteArray),.string (⟨#[116,101]⟩:ByteArray),.string (⟨#[116,114,97,105,108,101,114]⟩:ByteArray),.string (⟨#[117,112,103,114,97,100,101]⟩:ByteArray),.string (⟨#[101,120,112,101,99,116]⟩:ByteArray),.string (⟨#[118,105,97]⟩:ByteArray)]) (ok:=fun _=>True) (okp:=fun _=>True) ?hr ?hp (fun _ hk=>hk) trivial (Below.refl _ _) (Nat.le_refl _) (by simp) ?_;(case hd=>rfl);(case hg=>rfl);(case hr=>first|(go_simp;done)|(go_simp;rfl));(case hp=>exact (Reps.one (show Kd.M Kd.string _ _ _ (⟨#[104,111,115,116]⟩:ByteArray) [.string (⟨#[104,111,115,116]⟩:ByteArray)] from rfl) (Reps.one (show Kd.M Kd.string _ _ _ (⟨#[99,111,110,116,101,110,116,45,108,101,110,103,116,104]⟩:ByteArray) [.string (⟨#[99,111,110,116,101,110,116,45,108,101,110,103,116,104]⟩:ByteArray)] from rfl) (Reps.one (show Kd.M Kd.string _ _ _ (⟨#[116,114,97,110,115,102,101,114,45,101,110,99,111,100,105,110,103]⟩:ByteArray) [.string (⟨#[116,114,97,110,115,102,101,114,45,101,110,99,111,100,105,110,103]⟩:ByteArray)] from rfl) (Reps.one (show Kd.M Kd.string _ _ _ (⟨#[99,111,110,110,101,99,116,105,111,110]⟩:ByteArray) [.string (⟨#[99,111,110,110,101,99,116,105,111,110]⟩:ByteArray)] from rfl) (Reps.one (show Kd.M Kd.string _ _ _ (⟨#[107,101,101,112,45,97,108,105,118,101]⟩:ByteArray) [.string (⟨#[107,101,101,112,45,97,108,105,118,101]⟩:ByteArray)] from rfl) (Reps.one (show Kd.M Kd.string _ _ _ (⟨#[112,114,111,120,121,45,99,111,110,110,101,99,116,105,111,110]⟩:ByteArray) [.string (⟨#[112,114,111,120,121,45,99,111,110,110,101,99,116,105,111,110]⟩:ByteArray)] from rfl) (Reps.one (show Kd.M Kd.string _ _ _ (⟨#[116,101]⟩:ByteArray) [.string (⟨#[116,101]⟩:ByteArray)] from rfl) (Reps.one (show Kd.M Kd.string _ _ _ (⟨#[116,114,97,105,108,101,114]⟩:ByteArray) [.string (⟨#[116,114,97,105,108,101,114]⟩:ByteArray)] from rfl) (Reps.one (show Kd.M Kd.string _ _ _ (⟨#[117,112,103,114,97,100,101]⟩:ByteArray) [.string (⟨#[117,112,103,114,97,100,101]⟩:ByteArray)] from rfl) (Reps.one (show Kd.M Kd.string _ _ _ (⟨#[101,120,112,101,99,116]⟩:ByteArray) [.string (⟨#[101,120,112,101,99,116]⟩:ByteArray)] from rfl) (Reps.one (show Kd.M Kd.string _ _ _ (⟨#[118,105,97]⟩:ByteArray) [.string (⟨#[118,105,97]⟩:ByteArray)] from rfl) (Reps.none _ _)))))))))))));intro v439 w3 ho4 hb hg_ hnew_;clear hg_ hnew_;(first|rw [← Ny438.out] at ho4|(simp only [Int.reduceToNat] at ho4;rw [← Ny438.out] at ho4));have n0_:=Aside0.mk (Kd.R_lower ho4 (below_size (by repeat (first|(with_reducible first|exact HB.out|apply below_alloc|apply pw_below_drewN|apply below_drew1)|exact HB.out))));have n1_:=Aside0.mk (below_step (by repeat (first|(with_reducible first|exact HB.out|apply below_alloc|apply pw_below_drewN|apply below_drew1)|exact HB.out)) hb);clear HB;have HO440:=n0_;have HB:=n1_;clear n0_ n1_;clear hb ho4;obtain ⟨Ao5,co5,eo5⟩:=Kd.R_slice HO440.out;subst eo5)|((with_reducible refine gate_callee (f:=33) rfl ?_);refine goesL_ (some 7) rfl rfl Tryd.func33 (by kernel_rfl) rfl #[.slice Ao5 y438.length co5,.string a0] rfl (by (try simp only [List.map_toArray,List.map_cons,List.map_nil]);first|done|rfl|(simp only [List.length_drop,List.length_take];rfl)) ?_;(with_reducible refine (tollbarref04_In.calls k _ _ y438 a0 t441 _ ?side1 ?side2 A2.out).mono ?_);(case side1=>repeat (first|exact (Kd.R_reads' HO440.out).2.2|(with_reducible refine Kd.C_alloc ?_ _)|(with_reducible refine Kd.C_drewN ?_ _)|(with_reducible refine Kd.C_drew ?_)));(case side2=>exact (Kd.R_reads' HO440.out).2.1);rintro e w6 ⟨rfl,hb⟩;(try clear A2);refine ⟨_,rfl,?_⟩;have n0_:=Aside0.mk (Kd.R_below (by (with_reducible repeat (first|apply Kd.R_alloc|apply Kd.R_drewN|apply Kd.R_drew));exact HO440.out) hb);have n1_:=Aside0.mk (below_step (by repeat (first|(with_reducible first|exact HB.out|apply below_alloc|apply pw_below_drewN|apply below_drew1)|exact HB.out)) hb);clear HO440;clear HB;have HO440:=n0_;have HB:=n1_;clear n0_ n1_;(try clear hb);(try clear hb2);(try clear hk);(try clear hi)))
 go_ret
 exact ⟨by first|rfl|(simp [errW_none,errW_some] <;> rfl)|(simp [*,errW_none,errW_some] <;> rfl),by repeat (first|(with_reducible first|exact HB.out|apply below_alloc|apply pw_below_drewN|apply below_drew1)|exact HB.out)⟩
end Go.Proofs.YtfjeinnemimjoaaDoor.P
