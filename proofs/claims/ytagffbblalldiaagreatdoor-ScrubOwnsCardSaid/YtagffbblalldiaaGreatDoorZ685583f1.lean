/- Each function below answers as its Lean twin says; plain lemmas; a row where its theorem stands. No further condition. (Laid by this repo's pack.py out of its texts and of the print's words.) -/
import Derived.Test.YtagffbblalldiaaGreatDoorZ47abc5af
import Derived.Test.YtagffbblalldiaaGreatDoorZ5c743d01
import Derived.Test.YtagffbblalldiaaGreatDoorZ600b52ce
import Derived.Lib.LastIndexByte
import Derived.Laws.RangeString
import Derived.Laws.RangeAny
import Derived.Lib.SlTrimSet
namespace Go.Proofs.YtagffbblalldiaaGreatDoor.P
open Go.RowKit Go.Proofs.YtagffbblalldiaaGreatDoorW.PrintWords Go.Proofs.YtagffbblalldiaaGreatDoorW.PrintLast Go.Proofs.YtagffbblalldiaaGreatDoorW.PrintMore
attribute [local go_sem] max2_int min2_int max_two min_two max_three min_three max_four min_four
set_option linter.unusedVariables false
set_option linter.unusedSimpArgs false
def scrub_Response.j0:Nat → Bool → Bool → Int → ByteArray → Int → List (S36) → List Int → Int → ByteArray → Int → List (S36) → Option (Int × ByteArray × Int × (List (S36)) × List Int)
 | 0,_,_,_,_,_,_,_,_,_,_,_=>none
 | k + 1,x2,x31,x762000,x762001,x762002,x762003,x762004,x767000,x767001,x767002,x767003=>if x31=true then ((bytes_Clone.f x762004).bind fun t770=>((scrub_length.f (x762004.length:Int)).bind fun bt773=>(if x767003.length < 4398046511104 then ((some (x767003 ++ [(⟨bt773.1,bt773.2⟩:S36)]:List (S36))).bind fun y775=>(if x2=true then ((scrub_closing.f).bind fun bt778=>(if y775.length < 4398046511104 then (some (x767000,x767001,x767002,(y775 ++ [(⟨bt778.1,bt778.2⟩:S36)]),t770)) else (none))) else (some (x767000,x767001,x767002,y775,t770)))) else (none)))) else (if x2=true then ((scrub_closing.f).bind fun bt783=>(if x767003.length < 4398046511104 then (some (x767000,x767001,x767002,(x767003 ++ [(⟨bt783.1,bt783.2⟩:S36)]),([]:List Int))) else (none))) else (some (x767000,x767001,x767002,x767003,([]:List Int))))
def scrub_Response.f (k:Nat) (a0_0:Int) (a0_1:ByteArray) (a0_2:Int) (l0_3:List (S36)) (l0_4:List Int) (a1:ByteArray) (a2:Bool):Option (Int × ByteArray × Int × (List (S36)) × List Int):=(scrub_onward.f k l0_3).bind fun t763=>((frame_Response.f k a1 a0_0 a0_1 a0_2 l0_3 l0_4).bind fun bt767=>(if bt767.2.2=true then (scrub_Response.j0 k a2 (bt767.1 != 0) a0_0 a0_1 a0_2 l0_3 l0_4 a0_0 a0_1 1 t763) else (scrub_Response.j0 k a2 true a0_0 a0_1 a0_2 l0_3 l0_4 a0_0 a0_1 1 t763)))
def scrub_Response.T1:Bool × List (List Nat × List Nat):=(true,[([],[]),([0],[0]),([],[]),([2],[2]),([],[]),([4],[4]),([5],[5]),([1,3,6],[1,3,6]),([],[]),([8,7,6,0,1,2,3,4,5,6,7,8],[7,8])])
def scrub_Response.B1:List Nat:=[0,1,0,4,0,16,48,127,0,511]
theorem scrub_Response.tab1:rtab .any (opsOf Tryz.f40 1)=scrub_Response.T1:=by kernel_rfl
theorem scrub_Response.bits1:waitsOk scrub_Response.T1.2 scrub_Response.B1=true:=by kernel_rfl
def scrub_Response.T5:Bool × List (List Nat × List Nat):=(true,[([],[]),([0],[0]),([],[]),([2],[2]),([3],[3]),([4],[4]),([5],[5]),([1,6,5],[1,6]),([0,1,2,3,4,5,6,7],[]),([8,7,7,0,1,2,3,4,5,6,7],[7,8])])
def scrub_Response.B5:List Nat:=[0,1,0,4,12,28,60,127,255,511]
theorem scrub_Response.tab5:rtab .any (opsOf Tryz.f40 5)=scrub_Response.T5:=by kernel_rfl
theorem scrub_Response.bits5:waitsOk scrub_Response.T5.2 scrub_Response.B5=true:=by kernel_rfl
set_option maxHeartbeats 8000000 in
set_option maxRecDepth 100000 in
theorem scrub_Response.calls (k:Nat) (a0_0:Int) (a0_1:ByteArray) (a0_2:Int) (A0_3:Option Addr) (c0_3:Nat) (l0_3:List (S36)) (A0_4:Option Addr) (c0_4:Nat) (l0_4:List Int) (a1:ByteArray) (a2:Bool) (r1:Int) (r2:ByteArray) (r3:Int) (r4:List (S36)) (r5:List Int) (w:World) (hr0_3:Kd.C k36 w A0_3 l0_3.length l0_3) (hc0_3:l0_3.length ≤ c0_3) (hr0_4:Kd.C (Kd.int .u8) w A0_4 l0_4.length l0_4) (hc0_4:l0_4.length ≤ c0_4) (h:scrub_Response.f k a0_0 a0_1 a0_2 l0_3 l0_4 a1 a2=some (r1,r2,r3,r4,r5)) (ht:Tabs w) :
 Calls Tryz.prog 40 #[.agg #[.int .i64 a0_0,.string a0_1,.int .i64 a0_2,.slice A0_3 l0_3.length c0_3,.slice A0_4 l0_4.length c0_4],.string a1,.bool a2] w fun e w' => ∃ v3_ v4_:Value,e = .returned (.agg #[.int .i64 r1,.string r2,.int .i64 r3,v3_,v4_])∧Kd.R k36 36 w' w.heap.size (fun _=>True) v3_ r4∧Kd.R (Kd.int .u8) 5 w' w.heap.size (fun _=>True) v4_ r5∧Below w.heap.size w w' := by
 have HTB:=Aside0.mk ht
 clear ht
 have hu62:=Tryz.underlying62
 have HR0_3:=Aside0.mk hr0_3
 have HC0_3:=Aside0.mk hc0_3
 clear hr0_3 hc0_3
 have HR0_4:=Aside0.mk hr0_4
 have HC0_4:=Aside0.mk hc0_4
 clear hr0_4 hc0_4
 have HB:=Aside0.mk (Below.refl w.heap.size w)
 unfold scrub_Response.f at h
 have H:=h
 clear h
 replace H:=Option.bind_eq_some_iff.mp H
 obtain ⟨t90,A40,H⟩:=H
 try dsimp only at H
 have A4:=Aside0.mk A40
 clear A40
 replace H:=Option.bind_eq_some_iff.mp H
 obtain ⟨⟨t767,t768,t769⟩,A50,H⟩:=H
 try dsimp only at H
 have A5:=Aside0.mk A50
 clear A50
 have HC6:=Aside0.mk H
 clear H
 go_enter Tryz.func40,Tryz.ntmps40
 try go_wp2_with (first|((with_reducible refine gate_dst (N:=3) rfl ?_);refine box_event rfl (N:=3) rfl (cs:=#[.int .i64 a0_0,.string a0_1,.int .i64 a0_2,.slice A0_3 l0_3.length c0_3,.slice A0_4 l0_4.length c0_4]) (t:=62) zS ?_;intro gb87 hg w7 hbox hb;have GW87:=zG hg zb0;have GE87:=GW87;have BK87:=Aside0.mk hbox;replace HB:=Aside0.mk (below_step zb0 hb);clear hb hbox hg)|((with_reducible refine gate_dst (N:=6) rfl ?_);refine box_event rfl (N:=6) rfl (cs:=#[.int .i64 0,.string (⟨#[]⟩:ByteArray),.int .i64 0,.slice none 0 0,.slice none 0 0]) (t:=62) zS ?_;intro gb88 hg w8 hbox hb;have BK88:=Aside0.mk (hbox);have GW88:=zG hg zb96;have GE88:=GW88;replace HB:=Aside0.mk (below_step zb96 hb);have NB87_762:=Aside0.mk ((by rw [hg];exact Nat.ne_of_lt (blk_lt (g:=gb87) (o:=.cells #[.int .i64 a0_0,.string a0_1,.int .i64 a0_2,.slice A0_3 l0_3.length c0_3,.slice A0_4 l0_4.length c0_4] 62 (0,0)) zb6):gb87 ≠ gb88));have NB88_761:=Aside0.mk ((by rw [hg];exact Nat.ne_of_gt (blk_lt (g:=gb87) (o:=.cells #[.int .i64 a0_0,.string a0_1,.int .i64 a0_2,.slice A0_3 l0_3.length c0_3,.slice A0_4 l0_4.length c0_4] 62 (0,0)) zb6):gb88 ≠ gb87));replace BK87:=Aside0.mk (blk_below (g:=gb87) (o:=.cells #[.int .i64 a0_0,.string a0_1,.int .i64 a0_2,.slice A0_3 l0_3.length c0_3,.slice A0_4 l0_4.length c0_4] 62 (0,0)) zb6 hb);clear hb hbox hg))
 replace BK87:=Aside0.mk (blk_drew BK87.out)
 replace BK88:=Aside0.mk (blk_drew BK88.out)
 replace HB:=Aside0.mk (below_drew1 HB.out)
 refine start_ (n:=10) (S:=fun w' => w'.cell? ⟨gb87,0,none⟩=some (.int .i64 a0_0)∧w'.cell? ⟨gb87,1,none⟩=some (.string a0_1)∧w'.cell? ⟨gb87,2,none⟩=some (.int .i64 a0_2)∧w'.cell? ⟨gb87,3,none⟩=some (.slice A0_3 l0_3.length c0_3)∧w'.cell? ⟨gb87,4,none⟩=some (.slice A0_4 l0_4.length c0_4)) (ds:=[]) (zl 10 0) zb8 rfl rfl ⟨(blk_cell BK87.out 0).trans rfl,(blk_cell BK87.out 1).trans rfl,(blk_cell BK87.out 2).trans rfl,(blk_cell BK87.out 3).trans rfl,(blk_cell BK87.out 4).trans rfl⟩ (fun hHeld=>?_);refine with_tabW scrub_Response.tab1 scrub_Response.bits1 (fun HT_ HW_=>?_)
 generalize w8.drew=w9 at BK87 BK88 HB hHeld ⊢
 refine zpu 0 (N:=some 11) (zl 10 1) HT_.out rfl rfl ?_
 refine zpu 2 (N:=some 13) (zl 10 5) HT_.out rfl rfl ?_
 refine zpu 4 (N:=some 15) (zl 10 21) HT_.out rfl rfl ?_
 refine take_ (i:=1) (N:=some 12) (v:=?_) (a' := ?_) (zl 10 23) rfl rfl (take_ofW HT_.out HW_.out zb8) (fun _ _ _ h=>h) (Or.inl ⟨zb49,?_⟩) hHeld ?_ ?_
 rotate_left
 ·rintro w' ⟨s0,s1,s2,s3,s4⟩;go_simp;with_reducible rfl
 rotate_left
 ·simp only [Act.put,zqA,zqB,zqC,i64_w,i32_w];rfl
 refine take_ (i:=3) (N:=some 14) (v:=?_) (a' := ?_) (zl 10 31) rfl rfl (take_ofW HT_.out HW_.out zb8) (fun _ _ _ h=>h) (Or.inl ⟨zb49,?_⟩) hHeld ?_ ?_
 rotate_left
 ·rintro w' ⟨s0,s1,s2,s3,s4⟩;go_simp;with_reducible rfl
 rotate_left
 ·simp only [Act.put,zqA,zqB,zqC,i64_w,i32_w];rfl
 refine take_ (i:=5) (N:=some 16) (v:=?_) (a' := ?_) (zl 10 63) rfl rfl (take_ofW HT_.out HW_.out zb8) (fun _ _ _ h=>h) (Or.inl ⟨zb49,?_⟩) hHeld ?_ ?_
 rotate_left
 ·rintro w' ⟨s0,s1,s2,s3,s4⟩;go_simp;with_reducible rfl
 rotate_left
 ·simp only [Act.put,zqA,zqB,zqC,i64_w,i32_w];rfl
 refine join_ (σ:=Value × Nat) 1 (zl 10 511) (fun s_=>[(17,s_.1),(7,.pointer (some ⟨s_.2,0,none⟩)),(18,.agg #[.int .i64 a0_0,.string a0_1,.int .i64 1,s_.1,.slice none 0 0])]) (fun s_ w' => (w'.cell? ⟨gb87,0,none⟩=some (.int .i64 a0_0)∧w'.cell? ⟨gb87,1,none⟩=some (.string a0_1)∧w'.cell? ⟨gb87,2,none⟩=some (.int .i64 a0_2)∧w'.cell? ⟨gb87,3,none⟩=some (.slice A0_3 l0_3.length c0_3)∧w'.cell? ⟨gb87,4,none⟩=some (.slice A0_4 l0_4.length c0_4))∧(Kd.R k36 36 w' w.heap.size (fun _=>True) s_.1 t90)∧(w'.heap[gb87]? = some (.cells #[.int .i64 a0_0,.string a0_1,.int .i64 a0_2,.slice A0_3 l0_3.length c0_3,.slice A0_4 l0_4.length c0_4] 62 (0,0)))∧(w'.heap[gb88]? = some (.cells #[.int .i64 0,.string (⟨#[]⟩:ByteArray),.int .i64 0,.slice none 0 0,.slice none 0 0] 62 (0,0)))∧(w'.heap[s_.2]? = some (.cells #[.int .i64 0,.string (⟨#[]⟩:ByteArray),.int .i64 0,.slice none 0 0,.slice none 0 0] 62 (0,0)))∧(w.heap.size ≤ s_.2)∧(w.heap.size ≤ s_.2)∧(gb87 ≠ s_.2)∧(s_.2 ≠ gb87)∧(gb88 ≠ s_.2)∧(s_.2 ≠ gb88)∧(Below w.heap.size w w')) ?_ ?_
 rotate_left
 ·intro hCont
  refine two_ (i:=6) (j:=8) (Ni:=some 17) (Nj:=some 7) (zl 10 127) (zl 10 319) rfl rfl rfl rfl (two_of HT_.out zb8) zb29 zb29 (fun K hK=>?_) (fun K hK=>?_)
  ·skip
   refine goes_ Tryz.func60 zb8 rfl #[.slice A0_3 l0_3.length c0_3] zb49 rfl rfl zb1 ?_
   with_reducible refine (scrub_onward.calls k _ _ l0_3 t90 _ ?side1 ?side2 A4.out).mono ?_
   (case side1=>exact zb76)
   (case side2=>exact HC0_3.out)
   rintro e w10 ⟨v764,rfl,ho0,hb⟩
   refine ⟨_,rfl,?_⟩
   have n0_:=Aside0.mk (Kd.R_lower ho0 (below_size zb25))
   have n1_:=Aside0.mk (blk_below (g:=gb87) (o:=.cells #[.int .i64 a0_0,.string a0_1,.int .i64 a0_2,.slice A0_3 l0_3.length c0_3,.slice A0_4 l0_4.length c0_4] 62 (0,0)) zb6 hb)
   have n2_:=Aside0.mk (blk_below (g:=gb88) (o:=.cells #[.int .i64 0,.string (⟨#[]⟩:ByteArray),.int .i64 0,.slice none 0 0,.slice none 0 0] 62 (0,0)) zb16 hb)
   have n3_:=Aside0.mk (below_step zb25 hb)
   clear BK87 BK88 HB
   have HO97:=n0_
   have BK87:=n1_
   have BK88:=n2_
   have HB:=n3_
   clear n0_ n1_ n2_ n3_
   (try clear hb)
   (try clear hb2)
   (try clear hk)
   (try clear hi)
   (try clear ho0)
   obtain ⟨Ao11,co11,eo11⟩:=Kd.R_slice HO97.out
   (first|subst eo11|(injection eo11 with f1_ f2_ f3_;have f4_:=f1_.symm;have f5_:=f3_.symm;clear f1_ f2_ f3_;subst f4_;subst f5_))
   refine hK.out _ _ ⟨(blk_cell BK87.out 0).trans rfl,(blk_cell BK87.out 1).trans rfl,(blk_cell BK87.out 2).trans rfl,(blk_cell BK87.out 3).trans rfl,(blk_cell BK87.out 4).trans rfl⟩ (fun hHeld=>?_)
   clear hK K
   refine norm_ (a' := ?_) ?_ ?_
   rotate_left
   ·show Act.put _ (some 17) _=_
    simp only [Act.put,zqA,zqB,zqC,i64_w,i32_w]
    rfl
   refine zpu 7 (N:=some 18) (zl 10 255) HT_.out rfl rfl ?_
   refine one_ (i:=8) (N:=some 7) (zl 10 511) rfl rfl (one_of HT_.out zb8) zb29 (fun K hK=>?_)
   refine box_step ?hg (N:=7) ?hd (cs:=#[.int .i64 0,.string (⟨#[]⟩:ByteArray),.int .i64 0,.slice none 0 0,.slice none 0 0]) (t:=62) ?hr ?_;(case hd=>rfl);(case hg=>rfl);(case hr=>first|(go_simp;done)|(go_simp;rfl))
   intro gb86 hg w12 hbox hb
   have n0_:=Aside0.mk (Kd.R_below zb75 hb)
   have n1_:=Aside0.mk (blk_below (g:=gb87) (o:=.cells #[.int .i64 a0_0,.string a0_1,.int .i64 a0_2,.slice A0_3 l0_3.length c0_3,.slice A0_4 l0_4.length c0_4] 62 (0,0)) zb6 hb)
   have n2_:=Aside0.mk (blk_below (g:=gb88) (o:=.cells #[.int .i64 0,.string (⟨#[]⟩:ByteArray),.int .i64 0,.slice none 0 0,.slice none 0 0] 62 (0,0)) zb16 hb)
   have n3_:=Aside0.mk (below_step zb25 hb)
   have n4_:=Aside0.mk (hbox)
   have n5_:=zG hg zb25
   have n6_:=zG hg zb25
   have n7_:=Aside0.mk ((by rw [hg];exact Nat.ne_of_lt (blk_lt (g:=gb87) (o:=.cells #[.int .i64 a0_0,.string a0_1,.int .i64 a0_2,.slice A0_3 l0_3.length c0_3,.slice A0_4 l0_4.length c0_4] 62 (0,0)) zb6):gb87 ≠ gb86))
   have n8_:=Aside0.mk ((by rw [hg];exact Nat.ne_of_gt (blk_lt (g:=gb87) (o:=.cells #[.int .i64 a0_0,.string a0_1,.int .i64 a0_2,.slice A0_3 l0_3.length c0_3,.slice A0_4 l0_4.length c0_4] 62 (0,0)) zb6):gb86 ≠ gb87))
   have n9_:=Aside0.mk ((by rw [hg];exact Nat.ne_of_lt (blk_lt (g:=gb88) (o:=.cells #[.int .i64 0,.string (⟨#[]⟩:ByteArray),.int .i64 0,.slice none 0 0,.slice none 0 0] 62 (0,0)) zb16):gb88 ≠ gb86))
   have n10_:=Aside0.mk ((by rw [hg];exact Nat.ne_of_gt (blk_lt (g:=gb88) (o:=.cells #[.int .i64 0,.string (⟨#[]⟩:ByteArray),.int .i64 0,.slice none 0 0,.slice none 0 0] 62 (0,0)) zb16):gb86 ≠ gb88))
   clear HO97 BK87 BK88 HB
   have HO97:=n0_
   have BK87:=n1_
   have BK88:=n2_
   have HB:=n3_
   have BK86:=n4_
   have GW86:=n5_
   have GE86:=n6_
   have NB87_766:=n7_
   have NB86_761:=n8_
   have NB88_766:=n9_
   have NB86_762:=n10_
   clear n0_ n1_ n2_ n3_ n4_ n5_ n6_ n7_ n8_ n9_ n10_ hb hbox hg
   refine hK.out _ _ ⟨(blk_cell BK87.out 0).trans rfl,(blk_cell BK87.out 1).trans rfl,(blk_cell BK87.out 2).trans rfl,(blk_cell BK87.out 3).trans rfl,(blk_cell BK87.out 4).trans rfl⟩ (fun hHeld=>?_)
   clear hK K
   refine norm_ (a' := ?_) ?_ ?_
   rotate_left
   ·show Act.put _ (some 7) _=_
    simp only [Act.put,zqA,zqB,zqC,i64_w,i32_w]
    rfl
   exact norm_ (by simp only [putAll,Act.put,zqA,zqB,zqC]) (hCont (.slice Ao11 t90.length co11,gb86) _ ⟨hHeld,zb75,zb6,zb16,zb10,GW86.out,GE86.out,NB87_766.out,NB86_761.out,NB88_766.out,NB86_762.out,zb4⟩)
  skip
  refine box_step ?hg (N:=7) ?hd (cs:=#[.int .i64 0,.string (⟨#[]⟩:ByteArray),.int .i64 0,.slice none 0 0,.slice none 0 0]) (t:=62) ?hr ?_;(case hd=>rfl);(case hg=>rfl);(case hr=>first|(go_simp;done)|(go_simp;rfl))
  intro gb86 hg w10 hbox hb
  have n0_:=Aside0.mk (blk_below (g:=gb87) (o:=.cells #[.int .i64 a0_0,.string a0_1,.int .i64 a0_2,.slice A0_3 l0_3.length c0_3,.slice A0_4 l0_4.length c0_4] 62 (0,0)) zb6 hb)
  have n1_:=Aside0.mk (blk_below (g:=gb88) (o:=.cells #[.int .i64 0,.string (⟨#[]⟩:ByteArray),.int .i64 0,.slice none 0 0,.slice none 0 0] 62 (0,0)) zb16 hb)
  have n2_:=Aside0.mk (below_step zb25 hb)
  have n3_:=Aside0.mk (hbox)
  have n4_:=zG hg zb25
  have n5_:=zG hg zb25
  have n6_:=Aside0.mk ((by rw [hg];exact Nat.ne_of_lt (blk_lt (g:=gb87) (o:=.cells #[.int .i64 a0_0,.string a0_1,.int .i64 a0_2,.slice A0_3 l0_3.length c0_3,.slice A0_4 l0_4.length c0_4] 62 (0,0)) zb6):gb87 ≠ gb86))
  have n7_:=Aside0.mk ((by rw [hg];exact Nat.ne_of_gt (blk_lt (g:=gb87) (o:=.cells #[.int .i64 a0_0,.string a0_1,.int .i64 a0_2,.slice A0_3 l0_3.length c0_3,.slice A0_4 l0_4.length c0_4] 62 (0,0)) zb6):gb86 ≠ gb87))
  have n8_:=Aside0.mk ((by rw [hg];exact Nat.ne_of_lt (blk_lt (g:=gb88) (o:=.cells #[.int .i64 0,.string (⟨#[]⟩:ByteArray),.int .i64 0,.slice none 0 0,.slice none 0 0] 62 (0,0)) zb16):gb88 ≠ gb86))
  have n9_:=Aside0.mk ((by rw [hg];exact Nat.ne_of_gt (blk_lt (g:=gb88) (o:=.cells #[.int .i64 0,.string (⟨#[]⟩:ByteArray),.int .i64 0,.slice none 0 0,.slice none 0 0] 62 (0,0)) zb16):gb86 ≠ gb88))
  clear BK87 BK88 HB
  have BK87:=n0_
  have BK88:=n1_
  have HB:=n2_
  have BK86:=n3_
  have GW86:=n4_
  have GE86:=n5_
  have NB87_766:=n6_
  have NB86_761:=n7_
  have NB88_766:=n8_
  have NB86_762:=n9_
  clear n0_ n1_ n2_ n3_ n4_ n5_ n6_ n7_ n8_ n9_ hb hbox hg
  refine hK.out _ _ ⟨(blk_cell BK87.out 0).trans rfl,(blk_cell BK87.out 1).trans rfl,(blk_cell BK87.out 2).trans rfl,(blk_cell BK87.out 3).trans rfl,(blk_cell BK87.out 4).trans rfl⟩ (fun hHeld=>?_)
  clear hK K
  refine norm_ (a' := ?_) ?_ ?_
  rotate_left
  ·show Act.put _ (some 7) _=_
   simp only [Act.put,zqA,zqB,zqC,i64_w,i32_w]
   rfl
  refine one_ (i:=6) (N:=some 17) (zl 10 383) rfl rfl (one_of HT_.out zb8) zb29 (fun K hK=>?_)
  refine goes_ Tryz.func60 zb8 rfl #[.slice A0_3 l0_3.length c0_3] zb49 rfl rfl zb1 ?_
  with_reducible refine (scrub_onward.calls k _ _ l0_3 t90 _ ?side1 ?side2 A4.out).mono ?_
  (case side1=>exact zb76)
  (case side2=>exact HC0_3.out)
  rintro e w11 ⟨v764,rfl,ho0,hb⟩
  refine ⟨_,rfl,?_⟩
  have n0_:=Aside0.mk (Kd.R_lower ho0 (below_size zb4))
  have n1_:=Aside0.mk (blk_below (g:=gb87) (o:=.cells #[.int .i64 a0_0,.string a0_1,.int .i64 a0_2,.slice A0_3 l0_3.length c0_3,.slice A0_4 l0_4.length c0_4] 62 (0,0)) zb6 hb)
  have n2_:=Aside0.mk (blk_below (g:=gb88) (o:=.cells #[.int .i64 0,.string (⟨#[]⟩:ByteArray),.int .i64 0,.slice none 0 0,.slice none 0 0] 62 (0,0)) zb16 hb)
  have n3_:=Aside0.mk (blk_below (g:=gb86) (o:=.cells #[.int .i64 0,.string (⟨#[]⟩:ByteArray),.int .i64 0,.slice none 0 0,.slice none 0 0] 62 (0,0)) zb10 hb)
  have n4_:=Aside0.mk (below_step zb4 hb)
  clear BK87 BK88 BK86 HB
  have HO97:=n0_
  have BK87:=n1_
  have BK88:=n2_
  have BK86:=n3_
  have HB:=n4_
  clear n0_ n1_ n2_ n3_ n4_
  (try clear hb)
  (try clear hb2)
  (try clear hk)
  (try clear hi)
  (try clear ho0)
  obtain ⟨Ao12,co12,eo12⟩:=Kd.R_slice HO97.out
  (first|subst eo12|(injection eo12 with f1_ f2_ f3_;have f4_:=f1_.symm;have f5_:=f3_.symm;clear f1_ f2_ f3_;subst f4_;subst f5_))
  refine hK.out _ _ ⟨(blk_cell BK87.out 0).trans rfl,(blk_cell BK87.out 1).trans rfl,(blk_cell BK87.out 2).trans rfl,(blk_cell BK87.out 3).trans rfl,(blk_cell BK87.out 4).trans rfl⟩ (fun hHeld=>?_)
  clear hK K
  refine norm_ (a' := ?_) ?_ ?_
  rotate_left
  ·show Act.put _ (some 17) _=_
   simp only [Act.put,zqA,zqB,zqC,i64_w,i32_w]
   rfl
  refine zpu 7 (N:=some 18) (zl 10 511) HT_.out rfl rfl ?_
  exact norm_ (by simp only [putAll,Act.put,zqA,zqB,zqC]) (hCont (.slice Ao12 t90.length co12,gb86) _ ⟨hHeld,zb75,zb6,zb16,zb10,GW86.out,GE86.out,NB87_766.out,NB86_761.out,NB88_766.out,NB86_762.out,zb4⟩)
 rintro ⟨v764,gb86⟩ w13 ⟨hS_,h0_,h1_,h2_,h3_,h4_,h5_,h6_,h7_,h8_,h9_,h10_⟩
 have n0_:Aside0 (Kd.R k36 36 w13 w.heap.size (fun _=>True) v764 t90):=⟨h0_⟩
 have n1_:Aside0 (w13.heap[gb87]? = some (.cells #[.int .i64 a0_0,.string a0_1,.int .i64 a0_2,.slice A0_3 l0_3.length c0_3,.slice A0_4 l0_4.length c0_4] 62 (0,0))):=⟨h1_⟩
 have n2_:Aside0 (w13.heap[gb88]? = some (.cells #[.int .i64 0,.string (⟨#[]⟩:ByteArray),.int .i64 0,.slice none 0 0,.slice none 0 0] 62 (0,0))):=⟨h2_⟩
 have n3_:Aside0 (w13.heap[gb86]? = some (.cells #[.int .i64 0,.string (⟨#[]⟩:ByteArray),.int .i64 0,.slice none 0 0,.slice none 0 0] 62 (0,0))):=⟨h3_⟩
 have n4_:Aside0 (w.heap.size ≤ gb86):=⟨h4_⟩
 have n5_:Aside0 (w.heap.size ≤ gb86):=⟨h5_⟩
 have n6_:Aside0 (gb87 ≠ gb86):=⟨h6_⟩
 have n7_:Aside0 (gb86 ≠ gb87):=⟨h7_⟩
 have n8_:Aside0 (gb88 ≠ gb86):=⟨h8_⟩
 have n9_:Aside0 (gb86 ≠ gb88):=⟨h9_⟩
 have n10_:Aside0 (Below w.heap.size w w13):=⟨h10_⟩
 clear BK87 BK88 HB h0_ h1_ h2_ h3_ h4_ h5_ h6_ h7_ h8_ h9_ h10_
 have HO97:=n0_
 have BK87:=n1_
 have BK88:=n2_
 have BK86:=n3_
 have GW86:=n4_
 have GE86:=n5_
 have NB87_766:=n6_
 have NB86_761:=n7_
 have NB88_766:=n8_
 have NB86_762:=n9_
 have HB:=n10_
 clear n0_ n1_ n2_ n3_ n4_ n5_ n6_ n7_ n8_ n9_ n10_
 have hHeld:w13.cell? ⟨gb87,0,none⟩=some (.int .i64 a0_0)∧w13.cell? ⟨gb87,1,none⟩=some (.string a0_1)∧w13.cell? ⟨gb87,2,none⟩=some (.int .i64 a0_2)∧w13.cell? ⟨gb87,3,none⟩=some (.slice A0_3 l0_3.length c0_3)∧w13.cell? ⟨gb87,4,none⟩=some (.slice A0_4 l0_4.length c0_4):=hS_
 obtain ⟨Ao14,co14,eo14⟩:=Kd.R_slice HO97.out
 (first|subst eo14|(injection eo14 with f1_ f2_ f3_;have f4_:=f1_.symm;have f5_:=f3_.symm;clear f1_ f2_ f3_;subst f4_;subst f5_))
 refine norm_ (a' := ?_) ?_ ?_
 rotate_left
 ·simp only [putAll,Act.put,zqA,zqB,zqC];rfl
 refine one_ (i:=9) (N:=none) (zl 10 1023) rfl rfl (one_of HT_.out zb8) zb29 (fun K hK=>?_)
 have hs15:w13.cell? ⟨gb86,0,none⟩=some (.int .i64 0):=(blk_cell BK86.out 0).trans rfl
 have hfs15:=blk_frozen BK86.out 0
 have hns15_0:=NB87_766.out
 have hns15_1:=NB88_766.out
 have hms15_0:=NB86_761.out
 have hms15_1:=NB86_762.out
 have hs16:w13.cell? ⟨gb86,1,none⟩=some (.string (⟨#[]⟩:ByteArray)):=(blk_cell BK86.out 1).trans rfl
 have hfs16:=blk_frozen BK86.out 1
 have hns16_0:=NB87_766.out
 have hns16_1:=NB88_766.out
 have hms16_0:=NB86_761.out
 have hms16_1:=NB86_762.out
 have hs17:w13.cell? ⟨gb86,2,none⟩=some (.int .i64 0):=(blk_cell BK86.out 2).trans rfl
 have hfs17:=blk_frozen BK86.out 2
 have hns17_0:=NB87_766.out
 have hns17_1:=NB88_766.out
 have hms17_0:=NB86_761.out
 have hms17_1:=NB86_762.out
 have hs18:w13.cell? ⟨gb86,3,none⟩=some (.slice none 0 0):=(blk_cell BK86.out 3).trans rfl
 have hfs18:=blk_frozen BK86.out 3
 have hns18_0:=NB87_766.out
 have hns18_1:=NB88_766.out
 have hms18_0:=NB86_761.out
 have hms18_1:=NB86_762.out
 have hs19:w13.cell? ⟨gb86,4,none⟩=some (.slice none 0 0):=(blk_cell BK86.out 4).trans rfl
 have hfs19:=blk_frozen BK86.out 4
 have hns19_0:=NB87_766.out
 have hns19_1:=NB88_766.out
 have hms19_0:=NB86_761.out
 have hms19_1:=NB86_762.out
 refine skip_ (w1:=?_) zb49 rfl ?_ ?_
 rotate_left
 ·go_simp
  rfl
 refine hK.out _ _ ⟨((cell_far (p:=⟨gb86,_,none⟩) NB87_766.out _).trans (((cell_far (p:=⟨gb86,_,none⟩) NB87_766.out _).trans (((cell_far (p:=⟨gb86,_,none⟩) NB87_766.out _).trans (((cell_far (p:=⟨gb86,_,none⟩) NB87_766.out _).trans (((cell_far (p:=⟨gb86,_,none⟩) NB87_766.out _).trans (hHeld.1)))))))))),((cell_far (p:=⟨gb86,_,none⟩) NB87_766.out _).trans (((cell_far (p:=⟨gb86,_,none⟩) NB87_766.out _).trans (((cell_far (p:=⟨gb86,_,none⟩) NB87_766.out _).trans (((cell_far (p:=⟨gb86,_,none⟩) NB87_766.out _).trans (((cell_far (p:=⟨gb86,_,none⟩) NB87_766.out _).trans (hHeld.2.1)))))))))),((cell_far (p:=⟨gb86,_,none⟩) NB87_766.out _).trans (((cell_far (p:=⟨gb86,_,none⟩) NB87_766.out _).trans (((cell_far (p:=⟨gb86,_,none⟩) NB87_766.out _).trans (((cell_far (p:=⟨gb86,_,none⟩) NB87_766.out _).trans (((cell_far (p:=⟨gb86,_,none⟩) NB87_766.out _).trans (hHeld.2.2.1)))))))))),((cell_far (p:=⟨gb86,_,none⟩) NB87_766.out _).trans (((cell_far (p:=⟨gb86,_,none⟩) NB87_766.out _).trans (((cell_far (p:=⟨gb86,_,none⟩) NB87_766.out _).trans (((cell_far (p:=⟨gb86,_,none⟩) NB87_766.out _).trans (((cell_far (p:=⟨gb86,_,none⟩) NB87_766.out _).trans (hHeld.2.2.2.1)))))))))),((cell_far (p:=⟨gb86,_,none⟩) NB87_766.out _).trans (((cell_far (p:=⟨gb86,_,none⟩) NB87_766.out _).trans (((cell_far (p:=⟨gb86,_,none⟩) NB87_766.out _).trans (((cell_far (p:=⟨gb86,_,none⟩) NB87_766.out _).trans (((cell_far (p:=⟨gb86,_,none⟩) NB87_766.out _).trans (hHeld.2.2.2.2))))))))))⟩ (fun hHeld=>?_)
 clear hK K
 refine done_ (done_of HT_.out zb8) ?_
 have hnb20:=NB87_762.out
 have hnc20:=NB88_761.out
 have hnb21:=NB87_766.out
 have hnc21:=NB86_761.out
 obtain ⟨hcz22_0,hcz22_1,hcz22_2,hcz22_3,hcz22_4,hfz22_0,hfz22_1,hfz22_2,hfz22_3,hfz22_4⟩:=zq5 BK87.out
 go_upto_region 3 with (first|((with_reducible refine gate_callee (f:=70) rfl ?_);refine goesL_ (some 22) rfl rfl Tryz.func70 zb8 rfl #[.string a1,.agg #[.int .i64 a0_0,.string a0_1,.int .i64 a0_2,.slice A0_3 l0_3.length c0_3,.slice A0_4 l0_4.length c0_4]] rfl zb1 ?_;(with_reducible refine (frame_Response.calls k a1 a0_0 a0_1 a0_2 _ _ l0_3 _ _ l0_4 t767 t768 t769 _ ?side1 ?side2 ?side3 ?side4 A5.out).mono ?_);(case side1=>exact Kd.C_below HR0_3.out zb4);(case side2=>exact HC0_3.out);(case side3=>exact Kd.C_below HR0_4.out zb4);(case side4=>exact HC0_4.out);rintro e w23 ⟨rfl,hb⟩;refine ⟨_,rfl,?_⟩;replace HO97:=Aside0.mk (Kd.R_below (by (with_reducible repeat (first|apply Kd.R_alloc|apply Kd.R_drewN|apply Kd.R_drew));exact (Kd.R_mono (Kd.R_far (p:=⟨gb86,4,none⟩) (Kd.R_far (p:=⟨gb86,3,none⟩) (Kd.R_far (p:=⟨gb86,2,none⟩) (Kd.R_far (p:=⟨gb86,1,none⟩) (Kd.R_far (p:=⟨gb86,0,none⟩) (Kd.R_types HO97.out BK86.out (by decide)) (fun _ hk=>hk.2) (.int .i64 a0_0)) (fun _ hk=>hk.2) (.string a0_1)) (fun _ hk=>hk.2) (.int .i64 1)) (fun _ hk=>hk.2) (.slice Ao14 t90.length co14)) (fun _ hk=>hk.2) (.slice none 0 0)) (fun _ h_=>h_.1))) hb);replace BK87:=Aside0.mk (blk_below (g:=gb87) (o:=.cells #[.int .i64 a0_0,.string a0_1,.int .i64 a0_2,.slice A0_3 l0_3.length c0_3,.slice A0_4 l0_4.length c0_4] 62 (0,0)) (by (with_reducible repeat (first|refine blk_drewN ?_ _|refine blk_drew ?_|refine blk_alloc ?_ _));refine blk_far ?_ NB87_766.out _;(with_reducible repeat (first|refine blk_drewN ?_ _|refine blk_drew ?_|refine blk_alloc ?_ _));refine blk_far ?_ NB87_766.out _;(with_reducible repeat (first|refine blk_drewN ?_ _|refine blk_drew ?_|refine blk_alloc ?_ _));refine blk_far ?_ NB87_766.out _;(with_reducible repeat (first|refine blk_drewN ?_ _|refine blk_drew ?_|refine blk_alloc ?_ _));refine blk_far ?_ NB87_766.out _;(with_reducible repeat (first|refine blk_drewN ?_ _|refine blk_drew ?_|refine blk_alloc ?_ _));refine blk_far ?_ NB87_766.out _;(with_reducible repeat (first|refine blk_drewN ?_ _|refine blk_drew ?_|refine blk_alloc ?_ _));exact BK87.out) hb);replace BK88:=Aside0.mk (blk_below (g:=gb88) (o:=.cells #[.int .i64 0,.string (⟨#[]⟩:ByteArray),.int .i64 0,.slice none 0 0,.slice none 0 0] 62 (0,0)) (by (with_reducible repeat (first|refine blk_drewN ?_ _|refine blk_drew ?_|refine blk_alloc ?_ _));refine blk_far ?_ NB88_766.out _;(with_reducible repeat (first|refine blk_drewN ?_ _|refine blk_drew ?_|refine blk_alloc ?_ _));refine blk_far ?_ NB88_766.out _;(with_reducible repeat (first|refine blk_drewN ?_ _|refine blk_drew ?_|refine blk_alloc ?_ _));refine blk_far ?_ NB88_766.out _;(with_reducible repeat (first|refine blk_drewN ?_ _|refine blk_drew ?_|refine blk_alloc ?_ _));refine blk_far ?_ NB88_766.out _;(with_reducible repeat (first|refine blk_drewN ?_ _|refine blk_drew ?_|refine blk_alloc ?_ _));refine blk_far ?_ NB88_766.out _;(with_reducible repeat (first|refine blk_drewN ?_ _|refine blk_drew ?_|refine blk_alloc ?_ _));exact BK88.out) hb);replace BK86:=Aside0.mk (blk_below (g:=gb86) (o:=.cells #[.int .i64 a0_0,.string a0_1,.int .i64 1,.slice Ao14 t90.length co14,.slice none 0 0] 62 (0,0)) (by (with_reducible repeat (first|refine blk_drewN ?_ _|refine blk_drew ?_|refine blk_alloc ?_ _));refine blk_put (cs:=#[.int .i64 a0_0,.string a0_1,.int .i64 1,.slice Ao14 t90.length co14,.slice none 0 0]) ?_ 4 _ rfl;(with_reducible repeat (first|refine blk_drewN ?_ _|refine blk_drew ?_|refine blk_alloc ?_ _));refine blk_put (cs:=#[.int .i64 a0_0,.string a0_1,.int .i64 1,.slice none 0 0,.slice none 0 0]) ?_ 3 _ rfl;(with_reducible repeat (first|refine blk_drewN ?_ _|refine blk_drew ?_|refine blk_alloc ?_ _));refine blk_put (cs:=#[.int .i64 a0_0,.string a0_1,.int .i64 0,.slice none 0 0,.slice none 0 0]) ?_ 2 _ rfl;(with_reducible repeat (first|refine blk_drewN ?_ _|refine blk_drew ?_|refine blk_alloc ?_ _));refine blk_put (cs:=#[.int .i64 a0_0,.string (⟨#[]⟩:ByteArray),.int .i64 0,.slice none 0 0,.slice none 0 0]) ?_ 1 _ rfl;(with_reducible repeat (first|refine blk_drewN ?_ _|refine blk_drew ?_|refine blk_alloc ?_ _));refine blk_put (cs:=#[.int .i64 0,.string (⟨#[]⟩:ByteArray),.int .i64 0,.slice none 0 0,.slice none 0 0]) ?_ 0 _ rfl;(with_reducible repeat (first|refine blk_drewN ?_ _|refine blk_drew ?_|refine blk_alloc ?_ _));exact BK86.out) hb);replace HB:=Aside0.mk (below_step zb4 hb);(try clear hb)))
 (try simp only [Act.put,zqA,zqB,zqC])
 go_cut [31] (fun v31 wc => ∃ (kq:Nat) (x31_5:Bool),v31 = .bool x31_5∧Aside0 (scrub_Response.j0 kq a2 x31_5 a0_0 a0_1 a0_2 l0_3 l0_4 a0_0 a0_1 1 t90=some (r1,r2,r3,r4,r5))∧Aside0 (kq ≤ k)∧Aside0 (Kd.R k36 36 wc w.heap.size (fun _=>True) (.slice Ao14 t90.length co14) t90)∧Aside0 (wc.heap[gb87]? = some (.cells #[.int .i64 a0_0,.string a0_1,.int .i64 a0_2,(.slice A0_3 l0_3.length c0_3),(.slice A0_4 l0_4.length c0_4)] 62 (0,0)))∧Aside0 (wc.heap[gb88]? = some (.cells #[.int .i64 0,.string (⟨#[]⟩:ByteArray),.int .i64 0,(.slice none 0 0),(.slice none 0 0)] 62 (0,0)))∧Aside0 (wc.heap[gb86]? = some (.cells #[.int .i64 a0_0,.string a0_1,.int .i64 1,(.slice Ao14 t90.length co14),(.slice none 0 0)] 62 (0,0)))∧Aside0 (Below w.heap.size w wc))
 case first =>
  have H:=HC6.out
  clear HC6
  by_cases c24:t769=true
  ·subst c24
   rw [if_pos rfl] at H
   have H' := Aside0.mk H
   clear H
   go_wp2
   go_meet
   case rel=>exact ⟨_,((t767 != 0)),zb9,H',⟨zb78⟩,⟨zb75⟩,⟨zb6⟩,⟨zb16⟩,⟨zb10⟩,⟨zb4⟩⟩
  replace c24:=Bool.eq_false_iff.mpr c24
  subst c24
  rw [if_neg (show ¬ (false=true) by decide)] at H
  have H' := Aside0.mk H
  clear H
  go_wp2
  go_meet
  case rel=>exact ⟨_,(true),zb9,H',⟨zb78⟩,⟨zb75⟩,⟨zb6⟩,⟨zb16⟩,⟨zb10⟩,⟨zb4⟩⟩
 case rest =>
  clear HC6
  try clear c2
  try clear p2
  try clear c4
  try clear c6
  try clear c7
  try clear c20
  try clear c21
  try clear c24
  try clear hcz22_0
  try clear hcz22_1
  try clear hcz22_2
  try clear hcz22_3
  try clear hcz22_4
  try clear hfz22_0
  try clear hfz22_1
  try clear hfz22_2
  try clear hfz22_3
  try clear hfz22_4
  obtain ⟨kq,x31_5,rfl,HA,HJ5,HO_89,BK87,BK88,BK86,HB⟩:=hcut
  cases kq with
  | zero=>exact absurd HA.out (by simp [scrub_Response.j0])
  | succ kj5 =>
   have H:=HA.out
   clear HA
   simp only [scrub_Response.j0] at H
   by_cases c25:x31_5=true;rotate_left
   ·replace c25:=Bool.eq_false_iff.mpr c25
    subst c25
    rw [if_neg (show ¬ (false=true) by decide)] at H
    by_cases c68:a2=true;rotate_left
    ·replace c68:=Bool.eq_false_iff.mpr c68
     subst c68
     rw [if_neg (show ¬ (false=true) by decide)] at H
     simp only [Option.some.injEq,Prod.mk.injEq] at H
     obtain ⟨rfl,rfl,rfl,rfl,rfl⟩:=H
     have hnb81:=NB86_761.out
     have hnc81:=NB87_766.out
     have hnb82:=NB86_762.out
     have hnc82:=NB88_766.out
     obtain ⟨hcz83_0,hcz83_1,hcz83_2,hcz83_3,hcz83_4,hfz83_0,hfz83_1,hfz83_2,hfz83_3,hfz83_4⟩:=zq5 BK86.out
     have hnb84:=NB88_761.out
     have hnc84:=NB87_762.out
     obtain ⟨hcz85_0,hcz85_1,hcz85_2,hcz85_3,hcz85_4,hfz85_0,hfz85_1,hfz85_2,hfz85_3,hfz85_4⟩:=zq5 BK88.out
     go_wp2
     refine bodyPost_ret (results_cell_row rfl _ _ gb88 62 #[.int .i64 a0_0,.string a0_1,.int .i64 1,.slice Ao14 t90.length co14,.slice none 0 0] (0,0) _ rfl (by (with_reducible repeat (first|refine blk_drewN ?_ _|refine blk_drew ?_|refine blk_alloc ?_ _));refine blk_put (cs:=#[.int .i64 a0_0,.string a0_1,.int .i64 1,.slice Ao14 t90.length co14,.slice none 0 0]) ?_ 4 _ rfl;(with_reducible repeat (first|refine blk_drewN ?_ _|refine blk_drew ?_|refine blk_alloc ?_ _));refine blk_put (cs:=#[.int .i64 a0_0,.string a0_1,.int .i64 1,.slice none 0 0,.slice none 0 0]) ?_ 3 _ rfl;(with_reducible repeat (first|refine blk_drewN ?_ _|refine blk_drew ?_|refine blk_alloc ?_ _));refine blk_put (cs:=#[.int .i64 a0_0,.string a0_1,.int .i64 0,.slice none 0 0,.slice none 0 0]) ?_ 2 _ rfl;(with_reducible repeat (first|refine blk_drewN ?_ _|refine blk_drew ?_|refine blk_alloc ?_ _));refine blk_put (cs:=#[.int .i64 a0_0,.string (⟨#[]⟩:ByteArray),.int .i64 0,.slice none 0 0,.slice none 0 0]) ?_ 1 _ rfl;(with_reducible repeat (first|refine blk_drewN ?_ _|refine blk_drew ?_|refine blk_alloc ?_ _));refine blk_put (cs:=#[.int .i64 0,.string (⟨#[]⟩:ByteArray),.int .i64 0,.slice none 0 0,.slice none 0 0]) ?_ 0 _ rfl;(with_reducible repeat (first|refine blk_drewN ?_ _|refine blk_drew ?_|refine blk_alloc ?_ _));exact BK88.out) Tryz.underlying62 rfl zb8) rfl ?_
     exact ⟨_,_,zb3,by (with_reducible repeat (first|apply Kd.R_alloc|apply Kd.R_drewN|apply Kd.R_drew));exact Kd.R_mono (Kd.R_far (p:=⟨gb88,4,none⟩) (Kd.R_far (p:=⟨gb88,3,none⟩) (Kd.R_far (p:=⟨gb88,2,none⟩) (Kd.R_far (p:=⟨gb88,1,none⟩) (Kd.R_far (p:=⟨gb88,0,none⟩) (Kd.R_types HO_89.out BK88.out (by decide)) (fun _ hk=>hk.2) (.int .i64 a0_0)) (fun _ hk=>hk.2) (.string a0_1)) (fun _ hk=>hk.2) (.int .i64 1)) (fun _ hk=>hk.2) (.slice Ao14 t90.length co14)) (fun _ hk=>hk.2) (.slice none 0 0)) (fun _ hk=>trivial),zb7,zb4⟩
    subst c68
    rw [if_pos rfl] at H
    replace H:=Option.bind_eq_some_iff.mp H
    obtain ⟨⟨t783,t784⟩,A690,H⟩:=H
    try dsimp only at H
    have A69:=Aside0.mk A690
    clear A690
    by_cases c70:t90.length < 4398046511104;rotate_left
    ·rw [if_neg c70] at H
     exact absurd H zb47
    rw [if_pos c70] at H
    have LMc70:=Aside0.mk c70
    clear c70
    obtain ⟨y99,hy99⟩ : ∃ y_:List (S36),y_=(t90 ++ [(⟨t783,t784⟩:S36)]):=⟨_,rfl⟩
    replace H:(some (a0_0,a0_1,1,y99,([]:List Int)))=some (r1,r2,r3,r4,r5):=by first|(rw [hy99];with_reducible exact H)|(have H2_:=(Option.bind_some _ _).symm.trans H;rw [hy99];with_reducible exact H2_)|(have H2_:=(Option.bind_some _ _).symm.trans H;with_reducible exact H2_)|with_reducible exact H|(rw [hy99];exact H)|exact H
    have Ny99:=Aside0.mk hy99
    clear hy99
    simp only [Option.some.injEq,Prod.mk.injEq] at H
    obtain ⟨rfl,rfl,rfl,rfl,rfl⟩:=H
    try go_wp2
    replace HO_89:=Aside0.mk (Kd.R_drew HO_89.out)
    replace BK87:=Aside0.mk (blk_drew BK87.out)
    replace BK88:=Aside0.mk (blk_drew BK88.out)
    replace BK86:=Aside0.mk (blk_drew BK86.out)
    replace HB:=Aside0.mk (below_drew1 HB.out)
    refine start_ (n:=7) (S:=fun w' => w'.cell? ⟨gb86,0,none⟩=some (.int .i64 a0_0)∧w'.cell? ⟨gb86,1,none⟩=some (.string a0_1)∧w'.cell? ⟨gb86,2,none⟩=some (.int .i64 1)∧w'.cell? ⟨gb86,3,none⟩=some (.slice Ao14 t90.length co14)∧w'.cell? ⟨gb86,4,none⟩=some (.slice none 0 0)) (ds:=[6]) (zl 7 0) zb8 rfl rfl ⟨(blk_cell BK86.out 0).trans rfl,(blk_cell BK86.out 1).trans rfl,(blk_cell BK86.out 2).trans rfl,(blk_cell BK86.out 3).trans rfl,(blk_cell BK86.out 4).trans rfl⟩ (fun hHeld=>?_)
    generalize wc.drew=w71 at HO_89 BK87 BK88 BK86 HB hHeld ⊢
    refine pure_ (i:=0) (N:=some 46) (v:=?_) (a' := ?_) (zl 7 1) rfl rfl zb8 (fun _ _ _ h=>h) (Or.inl ⟨zb49,?_⟩) ?_ ?_
    rotate_left
    ·intro w';go_simp;with_reducible rfl
    rotate_left
    ·simp only [Act.put,zqA,zqB,zqC,i64_w,i32_w];rfl
    refine take_ (i:=1) (N:=some 47) (v:=?_) (a' := ?_) (zl 7 3) rfl rfl zb8 (fun _ _ _ h=>h) (Or.inl ⟨zb49,?_⟩) hHeld ?_ ?_
    rotate_left
    ·rintro w' ⟨s0,s1,s2,s3,s4⟩;go_simp;with_reducible rfl
    rotate_left
    ·simp only [Act.put,zqA,zqB,zqC,i64_w,i32_w];rfl
    refine one_ (i:=2) (N:=some 48) (zl 7 7) rfl rfl zb8 zb29 (fun K hK=>?_)
    refine goes_ Tryz.func72 zb8 rfl #[] zb49 rfl rfl zb1 ?_
    with_reducible refine (scrub_closing.calls  t783 t784 _ A69.out).mono ?_
    rintro e w72 ⟨rfl,hb⟩
    refine ⟨_,rfl,?_⟩
    replace HO_89:=Aside0.mk (Kd.R_below zb34 hb)
    replace BK87:=Aside0.mk (blk_below (g:=gb87) (o:=.cells #[.int .i64 a0_0,.string a0_1,.int .i64 a0_2,.slice A0_3 l0_3.length c0_3,.slice A0_4 l0_4.length c0_4] 62 (0,0)) zb6 hb)
    replace BK88:=Aside0.mk (blk_below (g:=gb88) (o:=.cells #[.int .i64 0,.string (⟨#[]⟩:ByteArray),.int .i64 0,.slice none 0 0,.slice none 0 0] 62 (0,0)) zb16 hb)
    replace BK86:=Aside0.mk (blk_below (g:=gb86) (o:=.cells #[.int .i64 a0_0,.string a0_1,.int .i64 1,.slice Ao14 t90.length co14,.slice none 0 0] 62 (0,0)) zb10 hb)
    replace HB:=Aside0.mk (below_step zb4 hb)
    (try clear hb)
    (try clear hb2)
    (try clear hk)
    (try clear hi)
    refine hK.out _ _ ⟨(blk_cell BK86.out 0).trans rfl,(blk_cell BK86.out 1).trans rfl,(blk_cell BK86.out 2).trans rfl,(blk_cell BK86.out 3).trans rfl,(blk_cell BK86.out 4).trans rfl⟩ (fun hHeld=>?_)
    clear hK K
    refine norm_ (a' := ?_) ?_ ?_
    rotate_left
    ·show Act.put _ (some 48) _=_
     simp only [Act.put,zqA,zqB,zqC,i64_w,i32_w]
     rfl
    refine one_ (i:=3) (N:=some 49) (zl 7 15) rfl rfl zb8 zb29 (fun K hK=>?_)
    refine value_ (w1:=?_) (v:=?_) zb49 rfl ?_ ?_
    rotate_left 2
    ·go_simp
     constructor
     ·rfl
     rfl
    refine hK.out _ _ ⟨(blk_cell (blk_alloc BK86.out _) 0).trans rfl,(blk_cell (blk_alloc BK86.out _) 1).trans rfl,(blk_cell (blk_alloc BK86.out _) 2).trans rfl,(blk_cell (blk_alloc BK86.out _) 3).trans rfl,(blk_cell (blk_alloc BK86.out _) 4).trans rfl⟩ (fun hHeld=>?_)
    clear hK K
    refine norm_ (a' := ?_) ?_ ?_
    rotate_left
    ·show Act.put _ (some 49) _=_
     simp only [Act.put,zqA,zqB,zqC,i64_w,i32_w]
     rfl
    refine one_ (i:=4) (N:=some 50) (zl 7 31) rfl rfl zb8 zb29 (fun K hK=>?_)
    refine Kd.R_append_step k36 (w0:=w) w.heap.size zb49 (.tmp 47) (.tmp 49) 24 36 (.agg #[(.string ⟨#[]⟩),(.string ⟨#[]⟩)]) 32 rfl Tryz.underlying24 info36 rfl zb29 zb54 (.slice Ao14 t90.length co14) t90 (⟨t783,t784⟩:S36) [.string t783,.string t784] (fun _=>True) (fun _=>False) rfl rfl ?aP (fun _ hk=>hk.elim) ?aF ?aO ?aB ?aS ?aL ?_
    (case aP=>exact k36_mkM _ _ _ (⟨t783,t784⟩:S36))
    (case aB=>exact zb48)
    (case aF=>exact (fun _ _=>trivial))
    (case aO=>exact zb100)
    (case aS=>exact zb46)
    (case aL=>have:=LMc70.out;omega)
    intro v786 w73 ho hb hg hat
    rw [← Ny99.out] at ho
    have n0_:=Aside0.mk (blk_grown (g:=gb87) (o:=.cells #[.int .i64 a0_0,.string a0_1,.int .i64 a0_2,.slice A0_3 l0_3.length c0_3,.slice A0_4 l0_4.length c0_4] 62 (0,0)) zb6 hg (Kd.R_ne HO_89.out BK87.out zb29))
    have n1_:=Aside0.mk (blk_grown (g:=gb88) (o:=.cells #[.int .i64 0,.string (⟨#[]⟩:ByteArray),.int .i64 0,.slice none 0 0,.slice none 0 0] 62 (0,0)) zb16 hg (Kd.R_ne HO_89.out BK88.out zb29))
    have n2_:=Aside0.mk (blk_grown (g:=gb86) (o:=.cells #[.int .i64 a0_0,.string a0_1,.int .i64 1,.slice Ao14 t90.length co14,.slice none 0 0] 62 (0,0)) zb10 hg (Kd.R_ne HO_89.out BK86.out zb29))
    have n3_:=Aside0.mk (hb)
    have n4_:=Aside0.mk (ho)
    clear BK87 BK88 BK86 HB HO_89
    have BK87:=n0_
    have BK88:=n1_
    have BK86:=n2_
    have HB:=n3_
    have HO787:=n4_
    clear n0_ n1_ n2_ n3_ n4_ ho hb hg hat
    obtain ⟨Ao74,co74,eo74⟩:=Kd.R_slice HO787.out
    (first|subst eo74|(injection eo74 with f1_ f2_ f3_;have f4_:=f1_.symm;have f5_:=f3_.symm;clear f1_ f2_ f3_;subst f4_;subst f5_))
    refine hK.out _ _ ⟨(blk_cell BK86.out 0).trans rfl,(blk_cell BK86.out 1).trans rfl,(blk_cell BK86.out 2).trans rfl,(blk_cell BK86.out 3).trans rfl,(blk_cell BK86.out 4).trans rfl⟩ (fun hHeld=>?_)
    clear hK K
    refine norm_ (a' := ?_) ?_ ?_
    rotate_left
    ·show Act.put _ (some 50) _=_
     simp only [Act.put,zqA,zqB,zqC,i64_w,i32_w]
     rfl
    refine pure_ (i:=5) (N:=some 51) (v:=?_) (a' := ?_) (zl 7 63) rfl rfl zb8 (fun _ _ _ h=>h) (Or.inl ⟨zb49,?_⟩) ?_ ?_
    rotate_left
    ·intro w';go_simp;with_reducible rfl
    rotate_left
    ·simp only [Act.put,zqA,zqB,zqC,i64_w,i32_w];rfl
    refine last_ (i:=6) (N:=none) (zl 7 127) rfl rfl zb8 zb29 (fun K hK=>?_)
    have hs75:w73.cell? ⟨gb86,3,none⟩=some (.slice Ao14 t90.length co14):=(blk_cell BK86.out 3).trans rfl
    have hfs75:=blk_frozen BK86.out 3
    have hns75_0:=NB87_766.out
    have hns75_1:=NB88_766.out
    have hms75_0:=NB86_761.out
    have hms75_1:=NB86_762.out
    refine skip_ (w1:=?_) zb49 rfl ?_ ?_
    rotate_left
    ·go_simp
     rfl
    refine hK.out _ _ ?_
    clear hK K
    refine done_ zb8 ?_
    have hnb76:=NB86_761.out
    have hnc76:=NB87_766.out
    have hnb77:=NB86_762.out
    have hnc77:=NB88_766.out
    obtain ⟨hcz78_0,hcz78_1,hcz78_2,hcz78_3,hcz78_4,hfz78_0,hfz78_1,hfz78_2,hfz78_3,hfz78_4⟩:=zq5 BK86.out
    have hnb79:=NB88_761.out
    have hnc79:=NB87_762.out
    obtain ⟨hcz80_0,hcz80_1,hcz80_2,hcz80_3,hcz80_4,hfz80_0,hfz80_1,hfz80_2,hfz80_3,hfz80_4⟩:=zq5 BK88.out
    try go_wp2
    refine bodyPost_ret (results_cell_row rfl _ _ gb88 62 #[.int .i64 a0_0,.string a0_1,.int .i64 1,.slice Ao74 y99.length co74,.slice none 0 0] (0,0) _ rfl (by (with_reducible repeat (first|refine blk_drewN ?_ _|refine blk_drew ?_|refine blk_alloc ?_ _));refine blk_put (cs:=#[.int .i64 a0_0,.string a0_1,.int .i64 1,.slice Ao74 y99.length co74,.slice none 0 0]) ?_ 4 _ rfl;(with_reducible repeat (first|refine blk_drewN ?_ _|refine blk_drew ?_|refine blk_alloc ?_ _));refine blk_put (cs:=#[.int .i64 a0_0,.string a0_1,.int .i64 1,.slice none 0 0,.slice none 0 0]) ?_ 3 _ rfl;(with_reducible repeat (first|refine blk_drewN ?_ _|refine blk_drew ?_|refine blk_alloc ?_ _));refine blk_put (cs:=#[.int .i64 a0_0,.string a0_1,.int .i64 0,.slice none 0 0,.slice none 0 0]) ?_ 2 _ rfl;(with_reducible repeat (first|refine blk_drewN ?_ _|refine blk_drew ?_|refine blk_alloc ?_ _));refine blk_put (cs:=#[.int .i64 a0_0,.string (⟨#[]⟩:ByteArray),.int .i64 0,.slice none 0 0,.slice none 0 0]) ?_ 1 _ rfl;(with_reducible repeat (first|refine blk_drewN ?_ _|refine blk_drew ?_|refine blk_alloc ?_ _));refine blk_put (cs:=#[.int .i64 0,.string (⟨#[]⟩:ByteArray),.int .i64 0,.slice none 0 0,.slice none 0 0]) ?_ 0 _ rfl;(with_reducible repeat (first|refine blk_drewN ?_ _|refine blk_drew ?_|refine blk_alloc ?_ _));refine blk_far ?_ NB88_766.out _;(with_reducible repeat (first|refine blk_drewN ?_ _|refine blk_drew ?_|refine blk_alloc ?_ _));exact BK88.out) Tryz.underlying62 rfl zb8) rfl ?_
    exact ⟨_,_,zb3,by (with_reducible repeat (first|apply Kd.R_alloc|apply Kd.R_drewN|apply Kd.R_drew));exact Kd.R_mono (Kd.R_far (p:=⟨gb88,4,none⟩) (Kd.R_far (p:=⟨gb88,3,none⟩) (Kd.R_far (p:=⟨gb88,2,none⟩) (Kd.R_far (p:=⟨gb88,1,none⟩) (Kd.R_far (p:=⟨gb88,0,none⟩) (Kd.R_far (p:=⟨gb86,3,none⟩) (Kd.R_types (Kd.R_types HO787.out BK86.out (by decide)) BK88.out (by decide)) (fun _ hk=>hk.1.2) (.slice Ao74 y99.length co74)) (fun _ hk=>hk.2) (.int .i64 a0_0)) (fun _ hk=>hk.2) (.string a0_1)) (fun _ hk=>hk.2) (.int .i64 1)) (fun _ hk=>hk.2) (.slice Ao74 y99.length co74)) (fun _ hk=>hk.2) (.slice none 0 0)) (fun _ hk=>trivial),zb7,zb4⟩
   subst c25
   rw [if_pos rfl] at H
   replace H:=Option.bind_eq_some_iff.mp H
   obtain ⟨t91,A260,H⟩:=H
   try dsimp only at H
   have A26:=Aside0.mk A260
   clear A260
   replace H:=Option.bind_eq_some_iff.mp H
   obtain ⟨⟨t96,t774⟩,A270,H⟩:=H
   try dsimp only at H
   have A27:=Aside0.mk A270
   clear A270
   by_cases c28:t90.length < 4398046511104
   ·rw [if_pos c28] at H
    have LMc28:=Aside0.mk c28
    clear c28
    obtain ⟨y92,hy92⟩ : ∃ y_:List (S36),y_=(t90 ++ [(⟨t96,t774⟩:S36)]):=⟨_,rfl⟩
    replace H:(if a2=true then ((scrub_closing.f).bind fun bt94=>(if y92.length < 4398046511104 then (some (a0_0,a0_1,1,(y92 ++ [(⟨bt94.1,bt94.2⟩:S36)]),t91)) else (none))) else (some (a0_0,a0_1,1,y92,t91)))=some (r1,r2,r3,r4,r5):=by first|(rw [hy92];with_reducible exact H)|(have H2_:=(Option.bind_some _ _).symm.trans H;rw [hy92];with_reducible exact H2_)|(have H2_:=(Option.bind_some _ _).symm.trans H;with_reducible exact H2_)|with_reducible exact H|(rw [hy92];exact H)|exact H
    have Ny92:=Aside0.mk hy92
    clear hy92
    by_cases c29:a2=true
    ·subst c29
     rw [if_pos rfl] at H
     replace H:=Option.bind_eq_some_iff.mp H
     obtain ⟨⟨t94,t779⟩,A300,H⟩:=H
     try dsimp only at H
     have A30:=Aside0.mk A300
     clear A300
     by_cases c31:y92.length < 4398046511104
     ·rw [if_pos c31] at H
      have LMc31:=Aside0.mk c31
      clear c31
      obtain ⟨y98,hy98⟩ : ∃ y_:List (S36),y_=(y92 ++ [(⟨t94,t779⟩:S36)]):=⟨_,rfl⟩
      replace H:(some (a0_0,a0_1,1,y98,t91))=some (r1,r2,r3,r4,r5):=by first|(rw [hy98];with_reducible exact H)|(have H2_:=(Option.bind_some _ _).symm.trans H;rw [hy98];with_reducible exact H2_)|(have H2_:=(Option.bind_some _ _).symm.trans H;with_reducible exact H2_)|with_reducible exact H|(rw [hy98];exact H)|exact H
      have Ny98:=Aside0.mk hy98
      clear hy98
      simp only [Option.some.injEq,Prod.mk.injEq] at H
      obtain ⟨rfl,rfl,rfl,rfl,rfl⟩:=H
      have hnb32:=NB87_762.out
      have hnc32:=NB88_761.out
      have hnb33:=NB87_766.out
      have hnc33:=NB86_761.out
      obtain ⟨hcz34_0,hcz34_1,hcz34_2,hcz34_3,hcz34_4,hfz34_0,hfz34_1,hfz34_2,hfz34_3,hfz34_4⟩:=zq5 BK87.out
      try go_wp2_with (first|((with_reducible refine gate_callee (f:=62) rfl ?_);refine goesL_ (some 34) rfl rfl Tryz.func62 zb8 rfl #[.slice A0_4 l0_4.length c0_4] rfl zb1 ?_;(with_reducible refine (bytes_Clone.calls _ _ l0_4 t91 _ ?side1 ?side2 A26.out).mono ?_);(case side1=>exact zb66);(case side2=>exact HC0_4.out);rintro e w35 ⟨v771,rfl,ho0,hb⟩;(try clear A26);refine ⟨_,rfl,?_⟩;replace HO_89:=Aside0.mk (Kd.R_below zb34 hb);have HO93:=Aside0.mk (Kd.R_lower ho0 (below_size zb4));replace BK87:=Aside0.mk (blk_below (g:=gb87) (o:=.cells #[.int .i64 a0_0,.string a0_1,.int .i64 a0_2,.slice A0_3 l0_3.length c0_3,.slice A0_4 l0_4.length c0_4] 62 (0,0)) zb6 hb);replace BK88:=Aside0.mk (blk_below (g:=gb88) (o:=.cells #[.int .i64 0,.string (⟨#[]⟩:ByteArray),.int .i64 0,.slice none 0 0,.slice none 0 0] 62 (0,0)) zb16 hb);replace BK86:=Aside0.mk (blk_below (g:=gb86) (o:=.cells #[.int .i64 a0_0,.string a0_1,.int .i64 1,.slice Ao14 t90.length co14,.slice none 0 0] 62 (0,0)) zb10 hb);replace HB:=Aside0.mk (below_step zb4 hb);try clear hb ho0;obtain ⟨Ao36,co36,eo36⟩:=Kd.R_slice HO93.out;subst eo36;have hnb37:=NB86_762.out;have hnc37:=NB88_766.out;obtain ⟨hcz38_0,hcz38_1,hcz38_2,hcz38_3,hcz38_4,hfz38_0,hfz38_1,hfz38_2,hfz38_3,hfz38_4⟩:=zq5 BK86.out))
      have n0_:Aside0 (Kd.R k36 36 (w35.setCell ⟨gb86,4,none⟩ (.slice Ao36 t91.length co36)) w.heap.size (fun _=>True) (.slice Ao14 t90.length co14) t90):=⟨by (with_reducible repeat (first|apply Kd.R_alloc|apply Kd.R_drewN|apply Kd.R_drew));exact Kd.R_mono (Kd.R_far (p:=⟨gb86,4,none⟩) (Kd.R_types HO_89.out BK86.out (by decide)) (fun _ hk=>hk.2) (.slice Ao36 t91.length co36)) (fun _ hk=>trivial)⟩
      have n1_:Aside0 (Kd.R (Kd.int .u8) 5 (w35.setCell ⟨gb86,4,none⟩ (.slice Ao36 t91.length co36)) w.heap.size (fun _=>True) (.slice Ao36 t91.length co36) t91):=⟨by (with_reducible repeat (first|apply Kd.R_alloc|apply Kd.R_drewN|apply Kd.R_drew));exact Kd.R_mono (Kd.R_far (p:=⟨gb86,4,none⟩) (Kd.R_types HO93.out BK86.out (by decide)) (fun _ hk=>hk.2) (.slice Ao36 t91.length co36)) (fun _ hk=>trivial)⟩
      have n2_:Aside0 ((w35.setCell ⟨gb86,4,none⟩ (.slice Ao36 t91.length co36)).heap[gb87]? = some (.cells #[.int .i64 a0_0,.string a0_1,.int .i64 a0_2,.slice A0_3 l0_3.length c0_3,.slice A0_4 l0_4.length c0_4] 62 (0,0))):=⟨zb56⟩
      have n3_:Aside0 ((w35.setCell ⟨gb86,4,none⟩ (.slice Ao36 t91.length co36)).heap[gb88]? = some (.cells #[.int .i64 0,.string (⟨#[]⟩:ByteArray),.int .i64 0,.slice none 0 0,.slice none 0 0] 62 (0,0))):=⟨zb57⟩
      have n4_:Aside0 ((w35.setCell ⟨gb86,4,none⟩ (.slice Ao36 t91.length co36)).heap[gb86]? = some (.cells #[.int .i64 a0_0,.string a0_1,.int .i64 1,.slice Ao14 t90.length co14,.slice Ao36 t91.length co36] 62 (0,0))):=⟨zb65⟩
      have n5_:Aside0 (Below w.heap.size w (w35.setCell ⟨gb86,4,none⟩ (.slice Ao36 t91.length co36))):=⟨zb4⟩
      (try clear HO_89)
      (try clear HO93)
      (try clear BK87)
      (try clear BK88)
      (try clear BK86)
      (try clear HB)
      generalize (w35.setCell ⟨gb86,4,none⟩ (.slice Ao36 t91.length co36))=w39 at n0_ n1_ n2_ n3_ n4_ n5_ ⊢
      have HO_89:=n0_
      have HO93:=n1_
      have BK87:=n2_
      have BK88:=n3_
      have BK86:=n4_
      have HB:=n5_
      clear n0_ n1_ n2_ n3_ n4_ n5_
      replace HO_89:=Aside0.mk (Kd.R_drew HO_89.out)
      replace HO93:=Aside0.mk (Kd.R_drew HO93.out)
      replace BK87:=Aside0.mk (blk_drew BK87.out)
      replace BK88:=Aside0.mk (blk_drew BK88.out)
      replace BK86:=Aside0.mk (blk_drew BK86.out)
      replace HB:=Aside0.mk (below_drew1 HB.out)
      refine start_ (n:=10) (S:=fun w' => w'.cell? ⟨gb86,0,none⟩=some (.int .i64 a0_0)∧w'.cell? ⟨gb86,1,none⟩=some (.string a0_1)∧w'.cell? ⟨gb86,2,none⟩=some (.int .i64 1)∧w'.cell? ⟨gb86,3,none⟩=some (.slice Ao14 t90.length co14)∧w'.cell? ⟨gb86,4,none⟩=some (.slice Ao36 t91.length co36)∧w'.cell? ⟨gb87,0,none⟩=some (.int .i64 a0_0)∧w'.cell? ⟨gb87,1,none⟩=some (.string a0_1)∧w'.cell? ⟨gb87,2,none⟩=some (.int .i64 a0_2)∧w'.cell? ⟨gb87,3,none⟩=some (.slice A0_3 l0_3.length c0_3)∧w'.cell? ⟨gb87,4,none⟩=some (.slice A0_4 l0_4.length c0_4)) (ds:=[9]) (zl 10 0) zb8 rfl rfl ⟨(blk_cell BK86.out 0).trans rfl,(blk_cell BK86.out 1).trans rfl,(blk_cell BK86.out 2).trans rfl,(blk_cell BK86.out 3).trans rfl,(blk_cell BK86.out 4).trans rfl,(blk_cell BK87.out 0).trans rfl,(blk_cell BK87.out 1).trans rfl,(blk_cell BK87.out 2).trans rfl,(blk_cell BK87.out 3).trans rfl,(blk_cell BK87.out 4).trans rfl⟩ (fun hHeld=>?_);refine with_tabW scrub_Response.tab5 scrub_Response.bits5 (fun HT_ HW_=>?_)
      generalize w39.drew=w40 at HO_89 HO93 BK87 BK88 BK86 HB hHeld ⊢
      refine zpu 0 (N:=some 36) (zl 10 1) HT_.out rfl rfl ?_
      refine zpu 2 (N:=some 38) (zl 10 5) HT_.out rfl rfl ?_
      refine take_ (i:=1) (N:=some 37) (v:=?_) (a' := ?_) (zl 10 7) rfl rfl (take_ofW HT_.out HW_.out zb8) (fun _ _ _ h=>h) (Or.inl ⟨zb49,?_⟩) hHeld ?_ ?_
      rotate_left
      ·rintro w' ⟨s0,s1,s2,s3,s4,s5,s6,s7,s8,s9⟩;go_simp;with_reducible rfl
      rotate_left
      ·simp only [Act.put,zqA,zqB,zqC,i64_w,i32_w];rfl
      refine take_ (i:=3) (N:=some 39) (v:=?_) (a' := ?_) (zl 10 15) rfl rfl (take_ofW HT_.out HW_.out zb8) (fun _ _ _ h=>h) (Or.inl ⟨zb49,?_⟩) hHeld ?_ ?_
      rotate_left
      ·rintro w' ⟨s0,s1,s2,s3,s4,s5,s6,s7,s8,s9⟩;go_simp;with_reducible rfl
      rotate_left
      ·simp only [Act.put,zqA,zqB,zqC,i64_w,i32_w];rfl
      refine zpu 4 (N:=some 40) (zl 10 31) HT_.out rfl rfl ?_
      refine one_ (i:=5) (N:=some 41) (zl 10 63) rfl rfl (one_of HT_.out zb8) zb29 (fun K hK=>?_)
      refine goes_ Tryz.func61 zb8 rfl #[.int .i64 (l0_4.length:Int)] zb49 rfl rfl zb1 ?_
      with_reducible refine (scrub_length.calls (l0_4.length:Int) t96 t774 _ A27.out ?hT).mono ?_;(case hT=>exact HTB.out.below zb4)
      rintro e w41 ⟨rfl,hb⟩
      refine ⟨_,rfl,?_⟩
      replace HO_89:=Aside0.mk (Kd.R_below zb34 hb)
      replace HO93:=Aside0.mk (Kd.R_below zb69 hb)
      replace BK87:=Aside0.mk (blk_below (g:=gb87) (o:=.cells #[.int .i64 a0_0,.string a0_1,.int .i64 a0_2,.slice A0_3 l0_3.length c0_3,.slice A0_4 l0_4.length c0_4] 62 (0,0)) zb6 hb)
      replace BK88:=Aside0.mk (blk_below (g:=gb88) (o:=.cells #[.int .i64 0,.string (⟨#[]⟩:ByteArray),.int .i64 0,.slice none 0 0,.slice none 0 0] 62 (0,0)) zb16 hb)
      replace BK86:=Aside0.mk (blk_below (g:=gb86) (o:=.cells #[.int .i64 a0_0,.string a0_1,.int .i64 1,.slice Ao14 t90.length co14,.slice Ao36 t91.length co36] 62 (0,0)) zb10 hb)
      replace HB:=Aside0.mk (below_step zb4 hb)
      (try clear hb)
      (try clear hb2)
      (try clear hk)
      (try clear hi)
      refine hK.out _ _ ⟨(blk_cell BK86.out 0).trans rfl,(blk_cell BK86.out 1).trans rfl,(blk_cell BK86.out 2).trans rfl,(blk_cell BK86.out 3).trans rfl,(blk_cell BK86.out 4).trans rfl,(blk_cell BK87.out 0).trans rfl,(blk_cell BK87.out 1).trans rfl,(blk_cell BK87.out 2).trans rfl,(blk_cell BK87.out 3).trans rfl,(blk_cell BK87.out 4).trans rfl⟩ (fun hHeld=>?_)
      clear hK K
      refine norm_ (a' := ?_) ?_ ?_
      rotate_left
      ·show Act.put _ (some 41) _=_
       simp only [Act.put,zqA,zqB,zqC,i64_w,i32_w]
       rfl
      refine one_ (i:=6) (N:=some 42) (zl 10 127) rfl rfl (one_of HT_.out zb8) zb29 (fun K hK=>?_)
      refine value_ (w1:=?_) (v:=?_) zb49 rfl ?_ ?_
      rotate_left 2
      ·go_simp
       constructor
       ·rfl
       rfl
      refine hK.out _ _ ⟨(blk_cell (blk_alloc BK86.out _) 0).trans rfl,(blk_cell (blk_alloc BK86.out _) 1).trans rfl,(blk_cell (blk_alloc BK86.out _) 2).trans rfl,(blk_cell (blk_alloc BK86.out _) 3).trans rfl,(blk_cell (blk_alloc BK86.out _) 4).trans rfl,(blk_cell (blk_alloc BK87.out _) 0).trans rfl,(blk_cell (blk_alloc BK87.out _) 1).trans rfl,(blk_cell (blk_alloc BK87.out _) 2).trans rfl,(blk_cell (blk_alloc BK87.out _) 3).trans rfl,(blk_cell (blk_alloc BK87.out _) 4).trans rfl⟩ (fun hHeld=>?_)
      clear hK K
      refine norm_ (a' := ?_) ?_ ?_
      rotate_left
      ·show Act.put _ (some 42) _=_
       simp only [Act.put,zqA,zqB,zqC,i64_w,i32_w]
       rfl
      refine one_ (i:=7) (N:=some 43) (zl 10 255) rfl rfl (one_of HT_.out zb8) zb29 (fun K hK=>?_)
      refine Kd.R_append_step k36 (w0:=w) w.heap.size zb49 (.tmp 37) (.tmp 42) 24 36 (.agg #[(.string ⟨#[]⟩),(.string ⟨#[]⟩)]) 32 rfl Tryz.underlying24 info36 rfl zb29 zb54 (.slice Ao14 t90.length co14) t90 (⟨t96,t774⟩:S36) [.string t96,.string t774] (fun _=>True) (fun _=>False) rfl rfl ?aP (fun _ hk=>hk.elim) ?aF ?aO ?aB ?aS ?aL ?_
      (case aP=>exact k36_mkM _ _ _ (⟨t96,t774⟩:S36))
      (case aB=>exact zb48)
      (case aF=>exact (fun _ _=>trivial))
      (case aO=>exact zb100)
      (case aS=>exact zb46)
      (case aL=>have:=LMc28.out;omega)
      intro v776 w42 ho hb hg hat
      rw [← Ny92.out] at ho
      have n0_:=Aside0.mk (blk_grown (g:=gb87) (o:=.cells #[.int .i64 a0_0,.string a0_1,.int .i64 a0_2,.slice A0_3 l0_3.length c0_3,.slice A0_4 l0_4.length c0_4] 62 (0,0)) zb6 hg (Kd.R_ne HO_89.out BK87.out zb29))
      have n1_:=Aside0.mk (blk_grown (g:=gb88) (o:=.cells #[.int .i64 0,.string (⟨#[]⟩:ByteArray),.int .i64 0,.slice none 0 0,.slice none 0 0] 62 (0,0)) zb16 hg (Kd.R_ne HO_89.out BK88.out zb29))
      have n2_:=Aside0.mk (blk_grown (g:=gb86) (o:=.cells #[.int .i64 a0_0,.string a0_1,.int .i64 1,.slice Ao14 t90.length co14,.slice Ao36 t91.length co36] 62 (0,0)) zb10 hg (Kd.R_ne HO_89.out BK86.out zb29))
      have n3_:=Aside0.mk (Kd.R_over' zb69 (Kd.R_typed zb34) zb29 hg)
      have n4_:=Aside0.mk (hb)
      have n5_:=Aside0.mk (ho)
      clear BK87 BK88 BK86 HO93 HB HO_89
      have BK87:=n0_
      have BK88:=n1_
      have BK86:=n2_
      have HO93:=n3_
      have HB:=n4_
      have HO95:=n5_
      clear n0_ n1_ n2_ n3_ n4_ n5_ ho hb hg hat
      obtain ⟨Ao43,co43,eo43⟩:=Kd.R_slice HO95.out
      (first|subst eo43|(injection eo43 with f1_ f2_ f3_;have f4_:=f1_.symm;have f5_:=f3_.symm;clear f1_ f2_ f3_;subst f4_;subst f5_))
      refine hK.out _ _ ⟨(blk_cell BK86.out 0).trans rfl,(blk_cell BK86.out 1).trans rfl,(blk_cell BK86.out 2).trans rfl,(blk_cell BK86.out 3).trans rfl,(blk_cell BK86.out 4).trans rfl,(blk_cell BK87.out 0).trans rfl,(blk_cell BK87.out 1).trans rfl,(blk_cell BK87.out 2).trans rfl,(blk_cell BK87.out 3).trans rfl,(blk_cell BK87.out 4).trans rfl⟩ (fun hHeld=>?_)
      clear hK K
      refine norm_ (a' := ?_) ?_ ?_
      rotate_left
      ·show Act.put _ (some 43) _=_
       simp only [Act.put,zqA,zqB,zqC,i64_w,i32_w]
       rfl
      refine zpu 8 (N:=some 44) (zl 10 511) HT_.out rfl rfl ?_
      refine last_ (i:=9) (N:=none) (zl 10 1023) rfl rfl (one_of HT_.out zb8) zb29 (fun K hK=>?_)
      have hs44:w42.cell? ⟨gb86,3,none⟩=some (.slice Ao14 t90.length co14):=(blk_cell BK86.out 3).trans rfl
      have hfs44:=blk_frozen BK86.out 3
      have hns44_0:=NB87_766.out
      have hns44_1:=NB88_766.out
      have hms44_0:=NB86_761.out
      have hms44_1:=NB86_762.out
      refine skip_ (w1:=?_) zb49 rfl ?_ ?_
      rotate_left
      ·go_simp
       rfl
      refine hK.out _ _ ?_
      clear hK K
      refine done_ (done_of HT_.out zb8) ?_
      try go_wp2
      have n0_:Aside0 (Kd.R (Kd.int .u8) 5 (w42.setCell ⟨gb86,3,none⟩ (.slice Ao43 y92.length co43)) w.heap.size (fun _=>True) (.slice Ao36 t91.length co36) t91):=⟨by (with_reducible repeat (first|apply Kd.R_alloc|apply Kd.R_drewN|apply Kd.R_drew));exact Kd.R_mono (Kd.R_far (p:=⟨gb86,3,none⟩) (Kd.R_types HO93.out BK86.out (by decide)) (fun _ hk=>hk.2) (.slice Ao43 y92.length co43)) (fun _ hk=>trivial)⟩
      have n1_:Aside0 (Kd.R k36 36 (w42.setCell ⟨gb86,3,none⟩ (.slice Ao43 y92.length co43)) w.heap.size (fun _=>True) (.slice Ao43 y92.length co43) y92):=⟨by (with_reducible repeat (first|apply Kd.R_alloc|apply Kd.R_drewN|apply Kd.R_drew));exact Kd.R_mono (Kd.R_far (p:=⟨gb86,3,none⟩) (Kd.R_types HO95.out BK86.out (by decide)) (fun _ hk=>hk.2) (.slice Ao43 y92.length co43)) (fun _ hk=>trivial)⟩
      have n2_:Aside0 ((w42.setCell ⟨gb86,3,none⟩ (.slice Ao43 y92.length co43)).heap[gb87]? = some (.cells #[.int .i64 a0_0,.string a0_1,.int .i64 a0_2,.slice A0_3 l0_3.length c0_3,.slice A0_4 l0_4.length c0_4] 62 (0,0))):=⟨zb56⟩
      have n3_:Aside0 ((w42.setCell ⟨gb86,3,none⟩ (.slice Ao43 y92.length co43)).heap[gb88]? = some (.cells #[.int .i64 0,.string (⟨#[]⟩:ByteArray),.int .i64 0,.slice none 0 0,.slice none 0 0] 62 (0,0))):=⟨zb57⟩
      have n4_:Aside0 ((w42.setCell ⟨gb86,3,none⟩ (.slice Ao43 y92.length co43)).heap[gb86]? = some (.cells #[.int .i64 a0_0,.string a0_1,.int .i64 1,.slice Ao43 y92.length co43,.slice Ao36 t91.length co36] 62 (0,0))):=⟨by (with_reducible repeat (first|refine blk_drewN ?_ _|refine blk_drew ?_|refine blk_alloc ?_ _));refine blk_put (cs:=#[.int .i64 a0_0,.string a0_1,.int .i64 1,.slice Ao14 t90.length co14,.slice Ao36 t91.length co36]) ?_ 3 _ rfl;(with_reducible repeat (first|refine blk_drewN ?_ _|refine blk_drew ?_|refine blk_alloc ?_ _));exact BK86.out⟩
      have n5_:Aside0 (Below w.heap.size w (w42.setCell ⟨gb86,3,none⟩ (.slice Ao43 y92.length co43))):=⟨zb4⟩
      (try clear HO93)
      (try clear HO95)
      (try clear BK87)
      (try clear BK88)
      (try clear BK86)
      (try clear HB)
      generalize (w42.setCell ⟨gb86,3,none⟩ (.slice Ao43 y92.length co43))=w45 at n0_ n1_ n2_ n3_ n4_ n5_ ⊢
      have HO93:=n0_
      have HO95:=n1_
      have BK87:=n2_
      have BK88:=n3_
      have BK86:=n4_
      have HB:=n5_
      clear n0_ n1_ n2_ n3_ n4_ n5_
      replace HO93:=Aside0.mk (Kd.R_drew HO93.out)
      replace HO95:=Aside0.mk (Kd.R_drew HO95.out)
      replace BK87:=Aside0.mk (blk_drew BK87.out)
      replace BK88:=Aside0.mk (blk_drew BK88.out)
      replace BK86:=Aside0.mk (blk_drew BK86.out)
      replace HB:=Aside0.mk (below_drew1 HB.out)
      refine start_ (n:=7) (S:=fun w' => w'.cell? ⟨gb86,0,none⟩=some (.int .i64 a0_0)∧w'.cell? ⟨gb86,1,none⟩=some (.string a0_1)∧w'.cell? ⟨gb86,2,none⟩=some (.int .i64 1)∧w'.cell? ⟨gb86,3,none⟩=some (.slice Ao43 y92.length co43)∧w'.cell? ⟨gb86,4,none⟩=some (.slice Ao36 t91.length co36)) (ds:=[6]) (zl 7 0) zb8 rfl rfl ⟨(blk_cell BK86.out 0).trans rfl,(blk_cell BK86.out 1).trans rfl,(blk_cell BK86.out 2).trans rfl,(blk_cell BK86.out 3).trans rfl,(blk_cell BK86.out 4).trans rfl⟩ (fun hHeld=>?_)
      generalize w45.drew=w46 at HO93 HO95 BK87 BK88 BK86 HB hHeld ⊢
      refine pure_ (i:=0) (N:=some 46) (v:=?_) (a' := ?_) (zl 7 1) rfl rfl zb8 (fun _ _ _ h=>h) (Or.inl ⟨zb49,?_⟩) ?_ ?_
      rotate_left
      ·intro w';go_simp;with_reducible rfl
      rotate_left
      ·simp only [Act.put,zqA,zqB,zqC,i64_w,i32_w];rfl
      refine take_ (i:=1) (N:=some 47) (v:=?_) (a' := ?_) (zl 7 3) rfl rfl zb8 (fun _ _ _ h=>h) (Or.inl ⟨zb49,?_⟩) hHeld ?_ ?_
      rotate_left
      ·rintro w' ⟨s0,s1,s2,s3,s4⟩;go_simp;with_reducible rfl
      rotate_left
      ·simp only [Act.put,zqA,zqB,zqC,i64_w,i32_w];rfl
      refine one_ (i:=2) (N:=some 48) (zl 7 7) rfl rfl zb8 zb29 (fun K hK=>?_)
      refine goes_ Tryz.func72 zb8 rfl #[] zb49 rfl rfl zb1 ?_
      with_reducible refine (scrub_closing.calls  t94 t779 _ A30.out).mono ?_
      rintro e w47 ⟨rfl,hb⟩
      refine ⟨_,rfl,?_⟩
      replace HO93:=Aside0.mk (Kd.R_below zb69 hb)
      replace HO95:=Aside0.mk (Kd.R_below zb50 hb)
      replace BK87:=Aside0.mk (blk_below (g:=gb87) (o:=.cells #[.int .i64 a0_0,.string a0_1,.int .i64 a0_2,.slice A0_3 l0_3.length c0_3,.slice A0_4 l0_4.length c0_4] 62 (0,0)) zb6 hb)
      replace BK88:=Aside0.mk (blk_below (g:=gb88) (o:=.cells #[.int .i64 0,.string (⟨#[]⟩:ByteArray),.int .i64 0,.slice none 0 0,.slice none 0 0] 62 (0,0)) zb16 hb)
      replace BK86:=Aside0.mk (blk_below (g:=gb86) (o:=.cells #[.int .i64 a0_0,.string a0_1,.int .i64 1,.slice Ao43 y92.length co43,.slice Ao36 t91.length co36] 62 (0,0)) zb10 hb)
      replace HB:=Aside0.mk (below_step zb4 hb)
      (try clear hb)
      (try clear hb2)
      (try clear hk)
      (try clear hi)
      refine hK.out _ _ ⟨(blk_cell BK86.out 0).trans rfl,(blk_cell BK86.out 1).trans rfl,(blk_cell BK86.out 2).trans rfl,(blk_cell BK86.out 3).trans rfl,(blk_cell BK86.out 4).trans rfl⟩ (fun hHeld=>?_)
      clear hK K
      refine norm_ (a' := ?_) ?_ ?_
      rotate_left
      ·show Act.put _ (some 48) _=_
       simp only [Act.put,zqA,zqB,zqC,i64_w,i32_w]
       rfl
      refine one_ (i:=3) (N:=some 49) (zl 7 15) rfl rfl zb8 zb29 (fun K hK=>?_)
      refine value_ (w1:=?_) (v:=?_) zb49 rfl ?_ ?_
      rotate_left 2
      ·go_simp
       constructor
       ·rfl
       rfl
      refine hK.out _ _ ⟨(blk_cell (blk_alloc BK86.out _) 0).trans rfl,(blk_cell (blk_alloc BK86.out _) 1).trans rfl,(blk_cell (blk_alloc BK86.out _) 2).trans rfl,(blk_cell (blk_alloc BK86.out _) 3).trans rfl,(blk_cell (blk_alloc BK86.out _) 4).trans rfl⟩ (fun hHeld=>?_)
      clear hK K
      refine norm_ (a' := ?_) ?_ ?_
      rotate_left
      ·show Act.put _ (some 49) _=_
       simp only [Act.put,zqA,zqB,zqC,i64_w,i32_w]
       rfl
      refine one_ (i:=4) (N:=some 50) (zl 7 31) rfl rfl zb8 zb29 (fun K hK=>?_)
      refine Kd.R_append_step k36 (w0:=w) w.heap.size zb49 (.tmp 47) (.tmp 49) 24 36 (.agg #[(.string ⟨#[]⟩),(.string ⟨#[]⟩)]) 32 rfl Tryz.underlying24 info36 rfl zb29 zb54 (.slice Ao43 y92.length co43) y92 (⟨t94,t779⟩:S36) [.string t94,.string t779] (fun _=>True) (fun _=>False) rfl rfl ?aP (fun _ hk=>hk.elim) ?aF ?aO ?aB ?aS ?aL ?_
      (case aP=>exact k36_mkM _ _ _ (⟨t94,t779⟩:S36))
      (case aB=>exact zb48)
      (case aF=>exact (fun _ _=>trivial))
      (case aO=>exact zb50)
      (case aS=>exact zb46)
      (case aL=>have:=LMc31.out;omega)
      intro v781 w48 ho hb hg hat
      rw [← Ny98.out] at ho
      have n0_:=Aside0.mk (blk_grown (g:=gb87) (o:=.cells #[.int .i64 a0_0,.string a0_1,.int .i64 a0_2,.slice A0_3 l0_3.length c0_3,.slice A0_4 l0_4.length c0_4] 62 (0,0)) zb6 hg (Kd.R_ne HO95.out BK87.out zb29))
      have n1_:=Aside0.mk (blk_grown (g:=gb88) (o:=.cells #[.int .i64 0,.string (⟨#[]⟩:ByteArray),.int .i64 0,.slice none 0 0,.slice none 0 0] 62 (0,0)) zb16 hg (Kd.R_ne HO95.out BK88.out zb29))
      have n2_:=Aside0.mk (blk_grown (g:=gb86) (o:=.cells #[.int .i64 a0_0,.string a0_1,.int .i64 1,.slice Ao43 y92.length co43,.slice Ao36 t91.length co36] 62 (0,0)) zb10 hg (Kd.R_ne HO95.out BK86.out zb29))
      have n3_:=Aside0.mk (Kd.R_over' zb69 (Kd.R_typed zb50) zb29 hg)
      have n4_:=Aside0.mk (hb)
      have n5_:=Aside0.mk (ho)
      clear BK87 BK88 BK86 HO93 HB HO95
      have BK87:=n0_
      have BK88:=n1_
      have BK86:=n2_
      have HO93:=n3_
      have HB:=n4_
      have HO782:=n5_
      clear n0_ n1_ n2_ n3_ n4_ n5_ ho hb hg hat
      obtain ⟨Ao49,co49,eo49⟩:=Kd.R_slice HO782.out
      (first|subst eo49|(injection eo49 with f1_ f2_ f3_;have f4_:=f1_.symm;have f5_:=f3_.symm;clear f1_ f2_ f3_;subst f4_;subst f5_))
      refine hK.out _ _ ⟨(blk_cell BK86.out 0).trans rfl,(blk_cell BK86.out 1).trans rfl,(blk_cell BK86.out 2).trans rfl,(blk_cell BK86.out 3).trans rfl,(blk_cell BK86.out 4).trans rfl⟩ (fun hHeld=>?_)
      clear hK K
      refine norm_ (a' := ?_) ?_ ?_
      rotate_left
      ·show Act.put _ (some 50) _=_
       simp only [Act.put,zqA,zqB,zqC,i64_w,i32_w]
       rfl
      refine pure_ (i:=5) (N:=some 51) (v:=?_) (a' := ?_) (zl 7 63) rfl rfl zb8 (fun _ _ _ h=>h) (Or.inl ⟨zb49,?_⟩) ?_ ?_
      rotate_left
      ·intro w';go_simp;with_reducible rfl
      rotate_left
      ·simp only [Act.put,zqA,zqB,zqC,i64_w,i32_w];rfl
      refine last_ (i:=6) (N:=none) (zl 7 127) rfl rfl zb8 zb29 (fun K hK=>?_)
      have hs50:w48.cell? ⟨gb86,3,none⟩=some (.slice Ao43 y92.length co43):=(blk_cell BK86.out 3).trans rfl
      have hfs50:=blk_frozen BK86.out 3
      have hns50_0:=NB87_766.out
      have hns50_1:=NB88_766.out
      have hms50_0:=NB86_761.out
      have hms50_1:=NB86_762.out
      refine skip_ (w1:=?_) zb49 rfl ?_ ?_
      rotate_left
      ·go_simp
       rfl
      refine hK.out _ _ ?_
      clear hK K
      refine done_ zb8 ?_
      obtain ⟨hcz51_0,hcz51_1,hcz51_2,hcz51_3,hcz51_4,hfz51_0,hfz51_1,hfz51_2,hfz51_3,hfz51_4⟩:=zq5 BK86.out
      obtain ⟨hcz52_0,hcz52_1,hcz52_2,hcz52_3,hcz52_4,hfz52_0,hfz52_1,hfz52_2,hfz52_3,hfz52_4⟩:=zq5 BK88.out
      try go_wp2
      refine bodyPost_ret (results_cell_row rfl _ _ gb88 62 #[.int .i64 a0_0,.string a0_1,.int .i64 1,.slice Ao49 y98.length co49,.slice Ao36 t91.length co36] (0,0) _ rfl (by (with_reducible repeat (first|refine blk_drewN ?_ _|refine blk_drew ?_|refine blk_alloc ?_ _));refine blk_put (cs:=#[.int .i64 a0_0,.string a0_1,.int .i64 1,.slice Ao49 y98.length co49,.slice none 0 0]) ?_ 4 _ rfl;(with_reducible repeat (first|refine blk_drewN ?_ _|refine blk_drew ?_|refine blk_alloc ?_ _));refine blk_put (cs:=#[.int .i64 a0_0,.string a0_1,.int .i64 1,.slice none 0 0,.slice none 0 0]) ?_ 3 _ rfl;(with_reducible repeat (first|refine blk_drewN ?_ _|refine blk_drew ?_|refine blk_alloc ?_ _));refine blk_put (cs:=#[.int .i64 a0_0,.string a0_1,.int .i64 0,.slice none 0 0,.slice none 0 0]) ?_ 2 _ rfl;(with_reducible repeat (first|refine blk_drewN ?_ _|refine blk_drew ?_|refine blk_alloc ?_ _));refine blk_put (cs:=#[.int .i64 a0_0,.string (⟨#[]⟩:ByteArray),.int .i64 0,.slice none 0 0,.slice none 0 0]) ?_ 1 _ rfl;(with_reducible repeat (first|refine blk_drewN ?_ _|refine blk_drew ?_|refine blk_alloc ?_ _));refine blk_put (cs:=#[.int .i64 0,.string (⟨#[]⟩:ByteArray),.int .i64 0,.slice none 0 0,.slice none 0 0]) ?_ 0 _ rfl;(with_reducible repeat (first|refine blk_drewN ?_ _|refine blk_drew ?_|refine blk_alloc ?_ _));refine blk_far ?_ NB88_766.out _;(with_reducible repeat (first|refine blk_drewN ?_ _|refine blk_drew ?_|refine blk_alloc ?_ _));exact BK88.out) Tryz.underlying62 rfl zb8) rfl ?_
      exact ⟨_,_,zb3,by (with_reducible repeat (first|apply Kd.R_alloc|apply Kd.R_drewN|apply Kd.R_drew));exact Kd.R_mono (Kd.R_far (p:=⟨gb88,4,none⟩) (Kd.R_far (p:=⟨gb88,3,none⟩) (Kd.R_far (p:=⟨gb88,2,none⟩) (Kd.R_far (p:=⟨gb88,1,none⟩) (Kd.R_far (p:=⟨gb88,0,none⟩) (Kd.R_far (p:=⟨gb86,3,none⟩) (Kd.R_types (Kd.R_types HO782.out BK86.out (by decide)) BK88.out (by decide)) (fun _ hk=>hk.1.2) (.slice Ao49 y98.length co49)) (fun _ hk=>hk.2) (.int .i64 a0_0)) (fun _ hk=>hk.2) (.string a0_1)) (fun _ hk=>hk.2) (.int .i64 1)) (fun _ hk=>hk.2) (.slice Ao49 y98.length co49)) (fun _ hk=>hk.2) (.slice Ao36 t91.length co36)) (fun _ hk=>trivial),by (with_reducible repeat (first|apply Kd.R_alloc|apply Kd.R_drewN|apply Kd.R_drew));exact Kd.R_mono (Kd.R_far (p:=⟨gb88,4,none⟩) (Kd.R_far (p:=⟨gb88,3,none⟩) (Kd.R_far (p:=⟨gb88,2,none⟩) (Kd.R_far (p:=⟨gb88,1,none⟩) (Kd.R_far (p:=⟨gb88,0,none⟩) (Kd.R_far (p:=⟨gb86,3,none⟩) (Kd.R_types (Kd.R_types HO93.out BK86.out (by decide)) BK88.out (by decide)) (fun _ hk=>hk.1.2) (.slice Ao49 y98.length co49)) (fun _ hk=>hk.2) (.int .i64 a0_0)) (fun _ hk=>hk.2) (.string a0_1)) (fun _ hk=>hk.2) (.int .i64 1)) (fun _ hk=>hk.2) (.slice Ao49 y98.length co49)) (fun _ hk=>hk.2) (.slice Ao36 t91.length co36)) (fun _ hk=>trivial),zb4⟩
     ·rw [if_neg c31] at H
      exact absurd H zb47
    ·replace c29:=Bool.eq_false_iff.mpr c29
     subst c29
     rw [if_neg (show ¬ (false=true) by decide)] at H
     simp only [Option.some.injEq,Prod.mk.injEq] at H
     obtain ⟨rfl,rfl,rfl,rfl,rfl⟩:=H
     have hnb53:=NB87_762.out
     have hnc53:=NB88_761.out
     have hnb54:=NB87_766.out
     have hnc54:=NB86_761.out
     obtain ⟨hcz55_0,hcz55_1,hcz55_2,hcz55_3,hcz55_4,hfz55_0,hfz55_1,hfz55_2,hfz55_3,hfz55_4⟩:=zq5 BK87.out
     try go_wp2_with (first|((with_reducible refine gate_callee (f:=62) rfl ?_);refine goesL_ (some 34) rfl rfl Tryz.func62 zb8 rfl #[.slice A0_4 l0_4.length c0_4] rfl zb1 ?_;(with_reducible refine (bytes_Clone.calls _ _ l0_4 t91 _ ?side1 ?side2 A26.out).mono ?_);(case side1=>exact zb66);(case side2=>exact HC0_4.out);rintro e w56 ⟨v771,rfl,ho0,hb⟩;(try clear A26);refine ⟨_,rfl,?_⟩;replace HO_89:=Aside0.mk (Kd.R_below zb34 hb);have HO93:=Aside0.mk (Kd.R_lower ho0 (below_size zb4));replace BK87:=Aside0.mk (blk_below (g:=gb87) (o:=.cells #[.int .i64 a0_0,.string a0_1,.int .i64 a0_2,.slice A0_3 l0_3.length c0_3,.slice A0_4 l0_4.length c0_4] 62 (0,0)) zb6 hb);replace BK88:=Aside0.mk (blk_below (g:=gb88) (o:=.cells #[.int .i64 0,.string (⟨#[]⟩:ByteArray),.int .i64 0,.slice none 0 0,.slice none 0 0] 62 (0,0)) zb16 hb);replace BK86:=Aside0.mk (blk_below (g:=gb86) (o:=.cells #[.int .i64 a0_0,.string a0_1,.int .i64 1,.slice Ao14 t90.length co14,.slice none 0 0] 62 (0,0)) zb10 hb);replace HB:=Aside0.mk (below_step zb4 hb);try clear hb ho0;obtain ⟨Ao57,co57,eo57⟩:=Kd.R_slice HO93.out;subst eo57;have hnb58:=NB86_762.out;have hnc58:=NB88_766.out;obtain ⟨hcz59_0,hcz59_1,hcz59_2,hcz59_3,hcz59_4,hfz59_0,hfz59_1,hfz59_2,hfz59_3,hfz59_4⟩:=zq5 BK86.out))
     have n0_:Aside0 (Kd.R k36 36 (w56.setCell ⟨gb86,4,none⟩ (.slice Ao57 t91.length co57)) w.heap.size (fun _=>True) (.slice Ao14 t90.length co14) t90):=⟨by (with_reducible repeat (first|apply Kd.R_alloc|apply Kd.R_drewN|apply Kd.R_drew));exact Kd.R_mono (Kd.R_far (p:=⟨gb86,4,none⟩) (Kd.R_types HO_89.out BK86.out (by decide)) (fun _ hk=>hk.2) (.slice Ao57 t91.length co57)) (fun _ hk=>trivial)⟩
     have n1_:Aside0 (Kd.R (Kd.int .u8) 5 (w56.setCell ⟨gb86,4,none⟩ (.slice Ao57 t91.length co57)) w.heap.size (fun _=>True) (.slice Ao57 t91.length co57) t91):=⟨by (with_reducible repeat (first|apply Kd.R_alloc|apply Kd.R_drewN|apply Kd.R_drew));exact Kd.R_mono (Kd.R_far (p:=⟨gb86,4,none⟩) (Kd.R_types HO93.out BK86.out (by decide)) (fun _ hk=>hk.2) (.slice Ao57 t91.length co57)) (fun _ hk=>trivial)⟩
     have n2_:Aside0 ((w56.setCell ⟨gb86,4,none⟩ (.slice Ao57 t91.length co57)).heap[gb87]? = some (.cells #[.int .i64 a0_0,.string a0_1,.int .i64 a0_2,.slice A0_3 l0_3.length c0_3,.slice A0_4 l0_4.length c0_4] 62 (0,0))):=⟨zb56⟩
     have n3_:Aside0 ((w56.setCell ⟨gb86,4,none⟩ (.slice Ao57 t91.length co57)).heap[gb88]? = some (.cells #[.int .i64 0,.string (⟨#[]⟩:ByteArray),.int .i64 0,.slice none 0 0,.slice none 0 0] 62 (0,0))):=⟨zb57⟩
     have n4_:Aside0 ((w56.setCell ⟨gb86,4,none⟩ (.slice Ao57 t91.length co57)).heap[gb86]? = some (.cells #[.int .i64 a0_0,.string a0_1,.int .i64 1,.slice Ao14 t90.length co14,.slice Ao57 t91.length co57] 62 (0,0))):=⟨zb65⟩
     have n5_:Aside0 (Below w.heap.size w (w56.setCell ⟨gb86,4,none⟩ (.slice Ao57 t91.length co57))):=⟨zb4⟩
     (try clear HO_89)
     (try clear HO93)
     (try clear BK87)
     (try clear BK88)
     (try clear BK86)
     (try clear HB)
     generalize (w56.setCell ⟨gb86,4,none⟩ (.slice Ao57 t91.length co57))=w60 at n0_ n1_ n2_ n3_ n4_ n5_ ⊢
     have HO_89:=n0_
     have HO93:=n1_
     have BK87:=n2_
     have BK88:=n3_
     have BK86:=n4_
     have HB:=n5_
     clear n0_ n1_ n2_ n3_ n4_ n5_
     replace HO_89:=Aside0.mk (Kd.R_drew HO_89.out)
     replace HO93:=Aside0.mk (Kd.R_drew HO93.out)
     replace BK87:=Aside0.mk (blk_drew BK87.out)
     replace BK88:=Aside0.mk (blk_drew BK88.out)
     replace BK86:=Aside0.mk (blk_drew BK86.out)
     replace HB:=Aside0.mk (below_drew1 HB.out)
     refine start_ (n:=10) (S:=fun w' => w'.cell? ⟨gb86,0,none⟩=some (.int .i64 a0_0)∧w'.cell? ⟨gb86,1,none⟩=some (.string a0_1)∧w'.cell? ⟨gb86,2,none⟩=some (.int .i64 1)∧w'.cell? ⟨gb86,3,none⟩=some (.slice Ao14 t90.length co14)∧w'.cell? ⟨gb86,4,none⟩=some (.slice Ao57 t91.length co57)∧w'.cell? ⟨gb87,0,none⟩=some (.int .i64 a0_0)∧w'.cell? ⟨gb87,1,none⟩=some (.string a0_1)∧w'.cell? ⟨gb87,2,none⟩=some (.int .i64 a0_2)∧w'.cell? ⟨gb87,3,none⟩=some (.slice A0_3 l0_3.length c0_3)∧w'.cell? ⟨gb87,4,none⟩=some (.slice A0_4 l0_4.length c0_4)) (ds:=[9]) (zl 10 0) zb8 rfl rfl ⟨(blk_cell BK86.out 0).trans rfl,(blk_cell BK86.out 1).trans rfl,(blk_cell BK86.out 2).trans rfl,(blk_cell BK86.out 3).trans rfl,(blk_cell BK86.out 4).trans rfl,(blk_cell BK87.out 0).trans rfl,(blk_cell BK87.out 1).trans rfl,(blk_cell BK87.out 2).trans rfl,(blk_cell BK87.out 3).trans rfl,(blk_cell BK87.out 4).trans rfl⟩ (fun hHeld=>?_);refine with_tabW scrub_Response.tab5 scrub_Response.bits5 (fun HT_ HW_=>?_)
     generalize w60.drew=w61 at HO_89 HO93 BK87 BK88 BK86 HB hHeld ⊢
     refine zpu 0 (N:=some 36) (zl 10 1) HT_.out rfl rfl ?_
     refine zpu 2 (N:=some 38) (zl 10 5) HT_.out rfl rfl ?_
     refine take_ (i:=1) (N:=some 37) (v:=?_) (a' := ?_) (zl 10 7) rfl rfl (take_ofW HT_.out HW_.out zb8) (fun _ _ _ h=>h) (Or.inl ⟨zb49,?_⟩) hHeld ?_ ?_
     rotate_left
     ·rintro w' ⟨s0,s1,s2,s3,s4,s5,s6,s7,s8,s9⟩;go_simp;with_reducible rfl
     rotate_left
     ·simp only [Act.put,zqA,zqB,zqC,i64_w,i32_w];rfl
     refine take_ (i:=3) (N:=some 39) (v:=?_) (a' := ?_) (zl 10 15) rfl rfl (take_ofW HT_.out HW_.out zb8) (fun _ _ _ h=>h) (Or.inl ⟨zb49,?_⟩) hHeld ?_ ?_
     rotate_left
     ·rintro w' ⟨s0,s1,s2,s3,s4,s5,s6,s7,s8,s9⟩;go_simp;with_reducible rfl
     rotate_left
     ·simp only [Act.put,zqA,zqB,zqC,i64_w,i32_w];rfl
     refine zpu 4 (N:=some 40) (zl 10 31) HT_.out rfl rfl ?_
     refine one_ (i:=5) (N:=some 41) (zl 10 63) rfl rfl (one_of HT_.out zb8) zb29 (fun K hK=>?_)
     refine goes_ Tryz.func61 zb8 rfl #[.int .i64 (l0_4.length:Int)] zb49 rfl rfl zb1 ?_
     with_reducible refine (scrub_length.calls (l0_4.length:Int) t96 t774 _ A27.out ?hT).mono ?_;(case hT=>exact HTB.out.below zb4)
     rintro e w62 ⟨rfl,hb⟩
     refine ⟨_,rfl,?_⟩
     replace HO_89:=Aside0.mk (Kd.R_below zb34 hb)
     replace HO93:=Aside0.mk (Kd.R_below zb69 hb)
     replace BK87:=Aside0.mk (blk_below (g:=gb87) (o:=.cells #[.int .i64 a0_0,.string a0_1,.int .i64 a0_2,.slice A0_3 l0_3.length c0_3,.slice A0_4 l0_4.length c0_4] 62 (0,0)) zb6 hb)
     replace BK88:=Aside0.mk (blk_below (g:=gb88) (o:=.cells #[.int .i64 0,.string (⟨#[]⟩:ByteArray),.int .i64 0,.slice none 0 0,.slice none 0 0] 62 (0,0)) zb16 hb)
     replace BK86:=Aside0.mk (blk_below (g:=gb86) (o:=.cells #[.int .i64 a0_0,.string a0_1,.int .i64 1,.slice Ao14 t90.length co14,.slice Ao57 t91.length co57] 62 (0,0)) zb10 hb)
     replace HB:=Aside0.mk (below_step zb4 hb)
     (try clear hb)
     (try clear hb2)
     (try clear hk)
     (try clear hi)
     refine hK.out _ _ ⟨(blk_cell BK86.out 0).trans rfl,(blk_cell BK86.out 1).trans rfl,(blk_cell BK86.out 2).trans rfl,(blk_cell BK86.out 3).trans rfl,(blk_cell BK86.out 4).trans rfl,(blk_cell BK87.out 0).trans rfl,(blk_cell BK87.out 1).trans rfl,(blk_cell BK87.out 2).trans rfl,(blk_cell BK87.out 3).trans rfl,(blk_cell BK87.out 4).trans rfl⟩ (fun hHeld=>?_)
     clear hK K
     refine norm_ (a' := ?_) ?_ ?_
     rotate_left
     ·show Act.put _ (some 41) _=_
      simp only [Act.put,zqA,zqB,zqC,i64_w,i32_w]
      rfl
     refine one_ (i:=6) (N:=some 42) (zl 10 127) rfl rfl (one_of HT_.out zb8) zb29 (fun K hK=>?_)
     refine value_ (w1:=?_) (v:=?_) zb49 rfl ?_ ?_
     rotate_left 2
     ·go_simp
      constructor
      ·rfl
      ·rfl
     refine hK.out _ _ ⟨(blk_cell (blk_alloc BK86.out _) 0).trans rfl,(blk_cell (blk_alloc BK86.out _) 1).trans rfl,(blk_cell (blk_alloc BK86.out _) 2).trans rfl,(blk_cell (blk_alloc BK86.out _) 3).trans rfl,(blk_cell (blk_alloc BK86.out _) 4).trans rfl,(blk_cell (blk_alloc BK87.out _) 0).trans rfl,(blk_cell (blk_alloc BK87.out _) 1).trans rfl,(blk_cell (blk_alloc BK87.out _) 2).trans rfl,(blk_cell (blk_alloc BK87.out _) 3).trans rfl,(blk_cell (blk_alloc BK87.out _) 4).trans rfl⟩ (fun hHeld=>?_)
     clear hK K
     refine norm_ (a' := ?_) ?_ ?_
     rotate_left
     ·show Act.put _ (some 42) _=_
      simp only [Act.put,zqA,zqB,zqC,i64_w,i32_w]
      rfl
     refine one_ (i:=7) (N:=some 43) (zl 10 255) rfl rfl (one_of HT_.out zb8) zb29 (fun K hK=>?_)
     refine Kd.R_append_step k36 (w0:=w) w.heap.size zb49 (.tmp 37) (.tmp 42) 24 36 (.agg #[(.string ⟨#[]⟩),(.string ⟨#[]⟩)]) 32 rfl Tryz.underlying24 info36 rfl zb29 zb54 (.slice Ao14 t90.length co14) t90 (⟨t96,t774⟩:S36) [.string t96,.string t774] (fun _=>True) (fun _=>False) rfl rfl ?aP (fun _ hk=>hk.elim) ?aF ?aO ?aB ?aS ?aL ?_
     (case aP=>exact k36_mkM _ _ _ (⟨t96,t774⟩:S36))
     (case aB=>exact zb48)
     (case aF=>exact (fun _ _=>trivial))
     (case aO=>exact zb100)
     (case aS=>exact zb46)
     (case aL=>have:=LMc28.out;omega)
     intro v776 w63 ho hb hg hat
     rw [← Ny92.out] at ho
     have n0_:=Aside0.mk (blk_grown (g:=gb87) (o:=.cells #[.int .i64 a0_0,.string a0_1,.int .i64 a0_2,.slice A0_3 l0_3.length c0_3,.slice A0_4 l0_4.length c0_4] 62 (0,0)) zb6 hg (Kd.R_ne HO_89.out BK87.out zb29))
     have n1_:=Aside0.mk (blk_grown (g:=gb88) (o:=.cells #[.int .i64 0,.string (⟨#[]⟩:ByteArray),.int .i64 0,.slice none 0 0,.slice none 0 0] 62 (0,0)) zb16 hg (Kd.R_ne HO_89.out BK88.out zb29))
     have n2_:=Aside0.mk (blk_grown (g:=gb86) (o:=.cells #[.int .i64 a0_0,.string a0_1,.int .i64 1,.slice Ao14 t90.length co14,.slice Ao57 t91.length co57] 62 (0,0)) zb10 hg (Kd.R_ne HO_89.out BK86.out zb29))
     have n3_:=Aside0.mk (Kd.R_over' zb69 (Kd.R_typed zb34) zb29 hg)
     have n4_:=Aside0.mk (hb)
     have n5_:=Aside0.mk (ho)
     clear BK87 BK88 BK86 HO93 HB HO_89
     have BK87:=n0_
     have BK88:=n1_
     have BK86:=n2_
     have HO93:=n3_
     have HB:=n4_
     have HO95:=n5_
     clear n0_ n1_ n2_ n3_ n4_ n5_ ho hb hg hat
     obtain ⟨Ao64,co64,eo64⟩:=Kd.R_slice HO95.out
     (first|subst eo64|(injection eo64 with f1_ f2_ f3_;have f4_:=f1_.symm;have f5_:=f3_.symm;clear f1_ f2_ f3_;subst f4_;subst f5_))
     refine hK.out _ _ ⟨(blk_cell BK86.out 0).trans rfl,(blk_cell BK86.out 1).trans rfl,(blk_cell BK86.out 2).trans rfl,(blk_cell BK86.out 3).trans rfl,(blk_cell BK86.out 4).trans rfl,(blk_cell BK87.out 0).trans rfl,(blk_cell BK87.out 1).trans rfl,(blk_cell BK87.out 2).trans rfl,(blk_cell BK87.out 3).trans rfl,(blk_cell BK87.out 4).trans rfl⟩ (fun hHeld=>?_)
     clear hK K
     refine norm_ (a' := ?_) ?_ ?_
     rotate_left
     ·show Act.put _ (some 43) _=_
      simp only [Act.put,zqA,zqB,zqC,i64_w,i32_w]
      rfl
     refine zpu 8 (N:=some 44) (zl 10 511) HT_.out rfl rfl ?_
     refine last_ (i:=9) (N:=none) (zl 10 1023) rfl rfl (one_of HT_.out zb8) zb29 (fun K hK=>?_)
     have hs65:w63.cell? ⟨gb86,3,none⟩=some (.slice Ao14 t90.length co14):=(blk_cell BK86.out 3).trans rfl
     have hfs65:=blk_frozen BK86.out 3
     have hns65_0:=NB87_766.out
     have hns65_1:=NB88_766.out
     have hms65_0:=NB86_761.out
     have hms65_1:=NB86_762.out
     refine skip_ (w1:=?_) zb49 rfl ?_ ?_
     rotate_left
     ·go_simp
      rfl
     refine hK.out _ _ ?_
     clear hK K
     refine done_ (done_of HT_.out zb8) ?_
     obtain ⟨hcz66_0,hcz66_1,hcz66_2,hcz66_3,hcz66_4,hfz66_0,hfz66_1,hfz66_2,hfz66_3,hfz66_4⟩:=zq5 BK86.out
     obtain ⟨hcz67_0,hcz67_1,hcz67_2,hcz67_3,hcz67_4,hfz67_0,hfz67_1,hfz67_2,hfz67_3,hfz67_4⟩:=zq5 BK88.out
     try go_wp2
     refine bodyPost_ret (results_cell_row rfl _ _ gb88 62 #[.int .i64 a0_0,.string a0_1,.int .i64 1,.slice Ao64 y92.length co64,.slice Ao57 t91.length co57] (0,0) _ rfl (by (with_reducible repeat (first|refine blk_drewN ?_ _|refine blk_drew ?_|refine blk_alloc ?_ _));refine blk_put (cs:=#[.int .i64 a0_0,.string a0_1,.int .i64 1,.slice Ao64 y92.length co64,.slice none 0 0]) ?_ 4 _ rfl;(with_reducible repeat (first|refine blk_drewN ?_ _|refine blk_drew ?_|refine blk_alloc ?_ _));refine blk_put (cs:=#[.int .i64 a0_0,.string a0_1,.int .i64 1,.slice none 0 0,.slice none 0 0]) ?_ 3 _ rfl;(with_reducible repeat (first|refine blk_drewN ?_ _|refine blk_drew ?_|refine blk_alloc ?_ _));refine blk_put (cs:=#[.int .i64 a0_0,.string a0_1,.int .i64 0,.slice none 0 0,.slice none 0 0]) ?_ 2 _ rfl;(with_reducible repeat (first|refine blk_drewN ?_ _|refine blk_drew ?_|refine blk_alloc ?_ _));refine blk_put (cs:=#[.int .i64 a0_0,.string (⟨#[]⟩:ByteArray),.int .i64 0,.slice none 0 0,.slice none 0 0]) ?_ 1 _ rfl;(with_reducible repeat (first|refine blk_drewN ?_ _|refine blk_drew ?_|refine blk_alloc ?_ _));refine blk_put (cs:=#[.int .i64 0,.string (⟨#[]⟩:ByteArray),.int .i64 0,.slice none 0 0,.slice none 0 0]) ?_ 0 _ rfl;(with_reducible repeat (first|refine blk_drewN ?_ _|refine blk_drew ?_|refine blk_alloc ?_ _));refine blk_far ?_ NB88_766.out _;(with_reducible repeat (first|refine blk_drewN ?_ _|refine blk_drew ?_|refine blk_alloc ?_ _));exact BK88.out) Tryz.underlying62 rfl zb8) rfl ?_
     exact ⟨_,_,zb3,by (with_reducible repeat (first|apply Kd.R_alloc|apply Kd.R_drewN|apply Kd.R_drew));exact Kd.R_mono (Kd.R_far (p:=⟨gb88,4,none⟩) (Kd.R_far (p:=⟨gb88,3,none⟩) (Kd.R_far (p:=⟨gb88,2,none⟩) (Kd.R_far (p:=⟨gb88,1,none⟩) (Kd.R_far (p:=⟨gb88,0,none⟩) (Kd.R_far (p:=⟨gb86,3,none⟩) (Kd.R_types (Kd.R_types HO95.out BK86.out (by decide)) BK88.out (by decide)) (fun _ hk=>hk.1.2) (.slice Ao64 y92.length co64)) (fun _ hk=>hk.2) (.int .i64 a0_0)) (fun _ hk=>hk.2) (.string a0_1)) (fun _ hk=>hk.2) (.int .i64 1)) (fun _ hk=>hk.2) (.slice Ao64 y92.length co64)) (fun _ hk=>hk.2) (.slice Ao57 t91.length co57)) (fun _ hk=>trivial),by (with_reducible repeat (first|apply Kd.R_alloc|apply Kd.R_drewN|apply Kd.R_drew));exact Kd.R_mono (Kd.R_far (p:=⟨gb88,4,none⟩) (Kd.R_far (p:=⟨gb88,3,none⟩) (Kd.R_far (p:=⟨gb88,2,none⟩) (Kd.R_far (p:=⟨gb88,1,none⟩) (Kd.R_far (p:=⟨gb88,0,none⟩) (Kd.R_far (p:=⟨gb86,3,none⟩) (Kd.R_types (Kd.R_types HO93.out BK86.out (by decide)) BK88.out (by decide)) (fun _ hk=>hk.1.2) (.slice Ao64 y92.length co64)) (fun _ hk=>hk.2) (.int .i64 a0_0)) (fun _ hk=>hk.2) (.string a0_1)) (fun _ hk=>hk.2) (.int .i64 1)) (fun _ hk=>hk.2) (.slice Ao64 y92.length co64)) (fun _ hk=>hk.2) (.slice Ao57 t91.length co57)) (fun _ hk=>trivial),zb4⟩
   ·rw [if_neg c28] at H
    exact absurd H zb47
end Go.Proofs.YtagffbblalldiaaGreatDoor.P
