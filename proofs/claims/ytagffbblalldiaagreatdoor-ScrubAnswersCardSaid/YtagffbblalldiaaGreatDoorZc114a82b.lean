/- Each function below answers as its Lean twin says; plain lemmas; a row where its theorem stands. No further condition. (Laid by this repo's pack.py out of its texts and of the print's words.) -/
import Derived.Test.YtagffbblalldiaaGreatDoorZe19cbdcb
import Derived.Test.YtagffbblalldiaaGreatDoorZ7d4f9367
import Derived.Test.YtagffbblalldiaaGreatDoorZ4c79f450
import Derived.Lib.LastIndexByte
import Derived.Laws.RangeString
import Derived.Laws.RangeAny
import Derived.Lib.SlTrimSet
import Derived.Lib.AppendStr
import Derived.Laws.Append
namespace Go.Proofs.YtagffbblalldiaaGreatDoor.P
open Go.RowKit Go.Proofs.YtagffbblalldiaaGreatDoorW.PrintWords Go.Proofs.YtagffbblalldiaaGreatDoorW.PrintLast Go.Proofs.YtagffbblalldiaaGreatDoorW.PrintMore
attribute [local go_sem] max2_int min2_int max_two min_two max_three min_three max_four min_four
set_option linter.unusedVariables false
set_option linter.unusedSimpArgs false
mutual
def scrub_Request.l0:Nat → ByteArray → ByteArray → List ByteArray → List (S36) → Int → Int → ByteArray → ByteArray → Int → List (S36) → List Int → List (S83) → List (S85) → List (S36) → List ByteArray → Int → Int → Int → Int → Option (ByteArray × ByteArray × Int × (List (S36)) × List Int)
 | 0,_,_,_,_,_,_,_,_,_,_,_,_,_,_,_,_,_,_,_=>none
 | k + 1,x2,x3,x9,x17,x18,x19,x719000,x719001,x719002,x719003,x719004,x720000,x720001,x720002,x720003,x720004,x720005,x720006,x720007=>if x19 < x18 then (if 0 ≤ x19 then (if x19 < (x17.length:Int) then (if x9.length < 8796093022208 then (scrub_Request.l0 k x2 x3 (x9 ++ [(rd_T36 x17 x19).f0]) x17 x18 (wrap64 (x19 + 1)) x719000 x719001 x719002 x719003 x719004 x720000 x720001 x720002 x720003 x720004 x720005 x720006 x720007) else (none)) else (none)) else (none)) else ((some (([(⟨(⟨#[72,111,115,116]⟩:ByteArray),x2⟩:S36)]:List (S36)):List (S36))).bind fun y729=>((scrub_onward.f k x719003).bind fun t732=>((field_Without.f k t732 x9).bind fun t735=>(if y729.length + t735.length < 4398046511104 then ((some (y729 ++ t735:List (S36))).bind fun y738=>(if y738.length + x720002.length < 4398046511104 then ((some (y738 ++ x720002:List (S36))).bind fun y741=>(if (x719004.length:Int) > 0 then (scrub_Request.j1 k x3 y741 (decide ((x719004.length:Int) > 0)) x719000 x719001 x719002 x719003 x719004) else (if x719000.toList=([80,79,83,84]:List UInt8) then (scrub_Request.j1 k x3 y741 (x719000.toList == ([80,79,83,84]:List UInt8)) x719000 x719001 x719002 x719003 x719004) else (if x719000.toList=([80,85,84]:List UInt8) then (scrub_Request.j1 k x3 y741 (x719000.toList == ([80,85,84]:List UInt8)) x719000 x719001 x719002 x719003 x719004) else (scrub_Request.j1 k x3 y741 (x719000.toList == ([80,65,84,67,72]:List UInt8)) x719000 x719001 x719002 x719003 x719004))))) else (none))) else (none)))))
def scrub_Request.j1:Nat → ByteArray → List (S36) → Bool → ByteArray → ByteArray → Int → List (S36) → List Int → Option (ByteArray × ByteArray × Int × (List (S36)) × List Int)
 | 0,_,_,_,_,_,_,_,_=>none
 | k + 1,x3,x12,x42,x719000,x719001,x719002,x719003,x719004=>if x42=true then ((scrub_length.f (x719004.length:Int)).bind fun bt744=>(if x12.length < 4398046511104 then ((bytes_Clone.f x719004).bind fun t749=>(some (x719000,x3,1,(x12 ++ [(⟨bt744.1,bt744.2⟩:S36)]),t749))) else (none))) else ((bytes_Clone.f x719004).bind fun t752=>(some (x719000,x3,1,x12,t752)))
end
def scrub_Request.f (k:Nat) (a0_0:ByteArray) (a0_1:ByteArray) (a0_2:Int) (l0_3:List (S36)) (l0_4:List Int) (l1_0:List (S83)) (l1_1:List (S85)) (l1_2:List (S36)) (l1_3:List ByteArray) (a1_4:Int) (a1_5:Int) (a1_6:Int) (a1_7:Int) (a2:ByteArray) (a3:ByteArray):Option (ByteArray × ByteArray × Int × (List (S36)) × List Int):=(slices_Clone_string_string.f l1_3).bind fun t721=>(scrub_Request.l0 k a2 a3 t721 l1_2 (l1_2.length:Int) 0 a0_0 a0_1 a0_2 l0_3 l0_4 l1_0 l1_1 l1_2 l1_3 a1_4 a1_5 a1_6 a1_7)
def scrub_Request.T14:Bool × List (List Nat × List Nat):=(true,[([],[]),([0],[0]),([],[]),([],[]),([],[]),([4],[4]),([5],[5]),([1,2,3,6],[1,2,3,6]),([7,6,0,1,2,3,4,5,6,7],[7])])
def scrub_Request.B14:List Nat:=[0,1,0,0,0,16,48,127,255]
theorem scrub_Request.tab14:rtab .any (opsOf Tryz.f30 14)=scrub_Request.T14:=by kernel_rfl
theorem scrub_Request.bits14:waitsOk scrub_Request.T14.2 scrub_Request.B14=true:=by kernel_rfl
set_option maxHeartbeats 8000000 in
set_option maxRecDepth 100000 in
theorem scrub_Request.calls (k:Nat) (a0_0:ByteArray) (a0_1:ByteArray) (a0_2:Int) (A0_3:Option Addr) (c0_3:Nat) (l0_3:List (S36)) (A0_4:Option Addr) (c0_4:Nat) (l0_4:List Int) (A1_0:Option Addr) (c1_0:Nat) (l1_0:List (S83)) (A1_1:Option Addr) (c1_1:Nat) (l1_1:List (S85)) (A1_2:Option Addr) (c1_2:Nat) (l1_2:List (S36)) (A1_3:Option Addr) (c1_3:Nat) (l1_3:List ByteArray) (a1_4:Int) (a1_5:Int) (a1_6:Int) (a1_7:Int) (a2:ByteArray) (a3:ByteArray) (r1:ByteArray) (r2:ByteArray) (r3:Int) (r4:List (S36)) (r5:List Int) (w:World) (hr0_3:Kd.C k36 w A0_3 l0_3.length l0_3) (hc0_3:l0_3.length ≤ c0_3) (hr0_4:Kd.C (Kd.int .u8) w A0_4 l0_4.length l0_4) (hc0_4:l0_4.length ≤ c0_4) (hr1_0:Kd.C k83 w A1_0 l1_0.length l1_0) (hc1_0:l1_0.length ≤ c1_0) (hr1_1:Kd.C k85 w A1_1 l1_1.length l1_1) (hc1_1:l1_1.length ≤ c1_1) (hr1_2:Kd.C k36 w A1_2 l1_2.length l1_2) (hc1_2:l1_2.length ≤ c1_2) (hr1_3:Kd.C Kd.string w A1_3 l1_3.length l1_3) (hc1_3:l1_3.length ≤ c1_3) (h:scrub_Request.f k a0_0 a0_1 a0_2 l0_3 l0_4 l1_0 l1_1 l1_2 l1_3 a1_4 a1_5 a1_6 a1_7 a2 a3=some (r1,r2,r3,r4,r5)) (ht:Tabs w) :
 Calls Tryz.prog 30 #[.agg #[.string a0_0,.string a0_1,.int .i64 a0_2,.slice A0_3 l0_3.length c0_3,.slice A0_4 l0_4.length c0_4],.agg #[.slice A1_0 l1_0.length c1_0,.slice A1_1 l1_1.length c1_1,.slice A1_2 l1_2.length c1_2,.slice A1_3 l1_3.length c1_3,.int .i64 a1_4,.int .i64 a1_5,.int .i64 a1_6,.int .i64 a1_7],.string a2,.string a3] w fun e w' => ∃ v3_ v4_:Value,e = .returned (.agg #[.string r1,.string r2,.int .i64 r3,v3_,v4_])∧Kd.R k36 36 w' w.heap.size (fun _=>True) v3_ r4∧Kd.R (Kd.int .u8) 5 w' w.heap.size (fun _=>True) v4_ r5∧Below w.heap.size w w' := by
 have HTB:=Aside0.mk ht
 clear ht
 have hu26:=Tryz.underlying26
 have hu46:=Tryz.underlying46
 have hu36:=Tryz.underlying36
 have HR0_3:=Aside0.mk hr0_3
 have HC0_3:=Aside0.mk hc0_3
 clear hr0_3 hc0_3
 have HR0_4:=Aside0.mk hr0_4
 have HC0_4:=Aside0.mk hc0_4
 clear hr0_4 hc0_4
 have HR1_0:=Aside0.mk hr1_0
 have HC1_0:=Aside0.mk hc1_0
 clear hr1_0 hc1_0
 have HR1_1:=Aside0.mk hr1_1
 have HC1_1:=Aside0.mk hc1_1
 clear hr1_1 hc1_1
 have HR1_2:=Aside0.mk hr1_2
 have HC1_2:=Aside0.mk hc1_2
 clear hr1_2 hc1_2
 have HR1_3:=Aside0.mk hr1_3
 have HC1_3:=Aside0.mk hc1_3
 clear hr1_3 hc1_3
 have HB:=Aside0.mk (Below.refl w.heap.size w)
 unfold scrub_Request.f at h
 have H:=h
 clear h
 replace H:=Option.bind_eq_some_iff.mp H
 obtain ⟨t721,A50,H⟩:=H
 try dsimp only at H
 have A5:=Aside0.mk A50
 clear A50
 have H' := Aside0.mk H
 clear H
 go_enter Tryz.func30,Tryz.ntmps30
 go_wp2_with (first|((with_reducible refine gate_dst (N:=4) rfl ?_);refine box_event rfl (N:=4) rfl (cs:=#[.string a0_0,.string a0_1,.int .i64 a0_2,.slice A0_3 l0_3.length c0_3,.slice A0_4 l0_4.length c0_4]) (t:=26) zS ?_;intro gb84 hg w6 hbox hb;have GW84:=zG hg zb0;have GE84:=GW84;have BK84:=Aside0.mk hbox;replace HB:=Aside0.mk (below_step zb0 hb);clear hb hbox hg)|((with_reducible refine gate_dst (N:=5) rfl ?_);refine box_event rfl (N:=5) rfl (cs:=#[.slice A1_0 l1_0.length c1_0,.slice A1_1 l1_1.length c1_1,.slice A1_2 l1_2.length c1_2,.slice A1_3 l1_3.length c1_3,.int .i64 a1_4,.int .i64 a1_5,.int .i64 a1_6,.int .i64 a1_7]) (t:=46) zS ?_;intro gb87 hg w7 hbox hb;have BK87:=Aside0.mk (hbox);have GW87:=zG hg zb106;have GE87:=GW87;replace HB:=Aside0.mk (below_step zb106 hb);have NB84_719:=Aside0.mk ((by rw [hg];exact Nat.ne_of_lt (blk_lt (g:=gb84) (o:=.cells #[.string a0_0,.string a0_1,.int .i64 a0_2,.slice A0_3 l0_3.length c0_3,.slice A0_4 l0_4.length c0_4] 26 (0,0)) zb15):gb84 ≠ gb87));have NB87_718:=Aside0.mk ((by rw [hg];exact Nat.ne_of_gt (blk_lt (g:=gb84) (o:=.cells #[.string a0_0,.string a0_1,.int .i64 a0_2,.slice A0_3 l0_3.length c0_3,.slice A0_4 l0_4.length c0_4] 26 (0,0)) zb15):gb87 ≠ gb84));replace BK84:=Aside0.mk (blk_below (g:=gb84) (o:=.cells #[.string a0_0,.string a0_1,.int .i64 a0_2,.slice A0_3 l0_3.length c0_3,.slice A0_4 l0_4.length c0_4] 26 (0,0)) zb15 hb);clear hb hbox hg)|((with_reducible refine gate_dst (N:=8) rfl ?_);refine box_event rfl (N:=8) rfl (cs:=#[.string (⟨#[]⟩:ByteArray),.string (⟨#[]⟩:ByteArray),.int .i64 0,.slice none 0 0,.slice none 0 0]) (t:=26) zS ?_;intro gb86 hg w8 hbox hb;have BK86:=Aside0.mk (hbox);have GW86:=zG hg zb93;have GE86:=GW86;replace HB:=Aside0.mk (below_step zb93 hb);have NB84_720:=Aside0.mk ((by rw [hg];exact Nat.ne_of_lt (blk_lt (g:=gb84) (o:=.cells #[.string a0_0,.string a0_1,.int .i64 a0_2,.slice A0_3 l0_3.length c0_3,.slice A0_4 l0_4.length c0_4] 26 (0,0)) zb15):gb84 ≠ gb86));have NB86_718:=Aside0.mk ((by rw [hg];exact Nat.ne_of_gt (blk_lt (g:=gb84) (o:=.cells #[.string a0_0,.string a0_1,.int .i64 a0_2,.slice A0_3 l0_3.length c0_3,.slice A0_4 l0_4.length c0_4] 26 (0,0)) zb15):gb86 ≠ gb84));replace BK84:=Aside0.mk (blk_below (g:=gb84) (o:=.cells #[.string a0_0,.string a0_1,.int .i64 a0_2,.slice A0_3 l0_3.length c0_3,.slice A0_4 l0_4.length c0_4] 26 (0,0)) zb15 hb);have NB87_720:=Aside0.mk ((by rw [hg];exact Nat.ne_of_lt (blk_lt (g:=gb87) (o:=.cells #[.slice A1_0 l1_0.length c1_0,.slice A1_1 l1_1.length c1_1,.slice A1_2 l1_2.length c1_2,.slice A1_3 l1_3.length c1_3,.int .i64 a1_4,.int .i64 a1_5,.int .i64 a1_6,.int .i64 a1_7] 46 (0,0)) zb6):gb87 ≠ gb86));have NB86_719:=Aside0.mk ((by rw [hg];exact Nat.ne_of_gt (blk_lt (g:=gb87) (o:=.cells #[.slice A1_0 l1_0.length c1_0,.slice A1_1 l1_1.length c1_1,.slice A1_2 l1_2.length c1_2,.slice A1_3 l1_3.length c1_3,.int .i64 a1_4,.int .i64 a1_5,.int .i64 a1_6,.int .i64 a1_7] 46 (0,0)) zb6):gb86 ≠ gb87));replace BK87:=Aside0.mk (blk_below (g:=gb87) (o:=.cells #[.slice A1_0 l1_0.length c1_0,.slice A1_1 l1_1.length c1_1,.slice A1_2 l1_2.length c1_2,.slice A1_3 l1_3.length c1_3,.int .i64 a1_4,.int .i64 a1_5,.int .i64 a1_6,.int .i64 a1_7] 46 (0,0)) zb6 hb);clear hb hbox hg;have hnb9:=NB87_718.out;have hnc9:=NB84_719.out;have hnb10:=NB87_720.out;have hnc10:=NB86_719.out;have hcz11_0:w8.cell? ⟨gb87,0,none⟩=some (.slice A1_0 l1_0.length c1_0):=(blk_cell BK87.out 0).trans rfl;have hcz11_1:w8.cell? ⟨gb87,1,none⟩=some (.slice A1_1 l1_1.length c1_1):=(blk_cell BK87.out 1).trans rfl;have hcz11_2:w8.cell? ⟨gb87,2,none⟩=some (.slice A1_2 l1_2.length c1_2):=(blk_cell BK87.out 2).trans rfl;have hcz11_3:w8.cell? ⟨gb87,3,none⟩=some (.slice A1_3 l1_3.length c1_3):=(blk_cell BK87.out 3).trans rfl;have hcz11_4:w8.cell? ⟨gb87,4,none⟩=some (.int .i64 a1_4):=(blk_cell BK87.out 4).trans rfl;have hcz11_5:w8.cell? ⟨gb87,5,none⟩=some (.int .i64 a1_5):=(blk_cell BK87.out 5).trans rfl;have hcz11_6:w8.cell? ⟨gb87,6,none⟩=some (.int .i64 a1_6):=(blk_cell BK87.out 6).trans rfl;have hcz11_7:w8.cell? ⟨gb87,7,none⟩=some (.int .i64 a1_7):=(blk_cell BK87.out 7).trans rfl;have hfz11_0:=blk_frozen BK87.out 0;have hfz11_1:=blk_frozen BK87.out 1;have hfz11_2:=blk_frozen BK87.out 2;have hfz11_3:=blk_frozen BK87.out 3;have hfz11_4:=blk_frozen BK87.out 4;have hfz11_5:=blk_frozen BK87.out 5;have hfz11_6:=blk_frozen BK87.out 6;have hfz11_7:=blk_frozen BK87.out 7)|((with_reducible refine gate_callee (f:=58) rfl ?_);refine goesL_ (some 15) rfl rfl Tryz.func58 zb9 rfl #[.slice A1_3 l1_3.length c1_3] rfl zb1 ?_;(with_reducible refine (slices_Clone_string_string.calls _ _ l1_3 t721 _ ?side1 ?side2 A5.out).mono ?_);(case side1=>exact zb35);(case side2=>exact HC1_3.out);rintro e w12 ⟨v722,rfl,ho0,hb⟩;(try clear A5);refine ⟨_,rfl,?_⟩;have HO723:=Aside0.mk (Kd.R_lower ho0 (below_size zb5));replace BK84:=Aside0.mk (blk_below (g:=gb84) (o:=.cells #[.string a0_0,.string a0_1,.int .i64 a0_2,.slice A0_3 l0_3.length c0_3,.slice A0_4 l0_4.length c0_4] 26 (0,0)) zb15 hb);replace BK87:=Aside0.mk (blk_below (g:=gb87) (o:=.cells #[.slice A1_0 l1_0.length c1_0,.slice A1_1 l1_1.length c1_1,.slice A1_2 l1_2.length c1_2,.slice A1_3 l1_3.length c1_3,.int .i64 a1_4,.int .i64 a1_5,.int .i64 a1_6,.int .i64 a1_7] 46 (0,0)) zb6 hb);replace BK86:=Aside0.mk (blk_below (g:=gb86) (o:=.cells #[.string (⟨#[]⟩:ByteArray),.string (⟨#[]⟩:ByteArray),.int .i64 0,.slice none 0 0,.slice none 0 0] 26 (0,0)) zb11 hb);replace HB:=Aside0.mk (below_step zb5 hb);try clear hb ho0;have hcz13_0:w12.cell? ⟨gb87,0,none⟩=some (.slice A1_0 l1_0.length c1_0):=(blk_cell BK87.out 0).trans rfl;have hcz13_1:w12.cell? ⟨gb87,1,none⟩=some (.slice A1_1 l1_1.length c1_1):=(blk_cell BK87.out 1).trans rfl;have hcz13_2:w12.cell? ⟨gb87,2,none⟩=some (.slice A1_2 l1_2.length c1_2):=(blk_cell BK87.out 2).trans rfl;have hcz13_3:w12.cell? ⟨gb87,3,none⟩=some (.slice A1_3 l1_3.length c1_3):=(blk_cell BK87.out 3).trans rfl;have hcz13_4:w12.cell? ⟨gb87,4,none⟩=some (.int .i64 a1_4):=(blk_cell BK87.out 4).trans rfl;have hcz13_5:w12.cell? ⟨gb87,5,none⟩=some (.int .i64 a1_5):=(blk_cell BK87.out 5).trans rfl;have hcz13_6:w12.cell? ⟨gb87,6,none⟩=some (.int .i64 a1_6):=(blk_cell BK87.out 6).trans rfl;have hcz13_7:w12.cell? ⟨gb87,7,none⟩=some (.int .i64 a1_7):=(blk_cell BK87.out 7).trans rfl;have hfz13_0:=blk_frozen BK87.out 0;have hfz13_1:=blk_frozen BK87.out 1;have hfz13_2:=blk_frozen BK87.out 2;have hfz13_3:=blk_frozen BK87.out 3;have hfz13_4:=blk_frozen BK87.out 4;have hfz13_5:=blk_frozen BK87.out 5;have hfz13_6:=blk_frozen BK87.out 6;have hfz13_7:=blk_frozen BK87.out 7))
 go_loopg [9,19] k (fun kq v9 v19 w' => ∃ (x9_1:List ByteArray) (x19_1:Int),v19 = .int .i64 x19_1∧Aside0 (scrub_Request.l0 kq a2 a3 x9_1 l1_2 (l1_2.length:Int) x19_1 a0_0 a0_1 a0_2 l0_3 l0_4 l1_0 l1_1 l1_2 l1_3 a1_4 a1_5 a1_6 a1_7=some (r1,r2,r3,r4,r5))∧Aside0 (kq ≤ k)∧Aside0 (Kd.R Kd.string 9 w' w.heap.size (fun _=>True) v9 x9_1)∧Aside0 (w'.heap[gb84]? = some (.cells #[.string a0_0,.string a0_1,.int .i64 a0_2,(.slice A0_3 l0_3.length c0_3),(.slice A0_4 l0_4.length c0_4)] 26 (0,0)))∧Aside0 (w'.heap[gb87]? = some (.cells #[(.slice A1_0 l1_0.length c1_0),(.slice A1_1 l1_1.length c1_1),(.slice A1_2 l1_2.length c1_2),(.slice A1_3 l1_3.length c1_3),.int .i64 a1_4,.int .i64 a1_5,.int .i64 a1_6,.int .i64 a1_7] 46 (0,0)))∧Aside0 (w'.heap[gb86]? = some (.cells #[.string (⟨#[]⟩:ByteArray),.string (⟨#[]⟩:ByteArray),.int .i64 0,(.slice none 0 0),(.slice none 0 0)] 26 (0,0)))∧Aside0 (Below w.heap.size w w'))
 case atStart=>exact ⟨(t721),(0),zb8,H',⟨Nat.le_refl _⟩,⟨by (with_reducible repeat (first|apply Kd.R_alloc|apply Kd.R_drewN|apply Kd.R_drew));exact HO723.out⟩,⟨zb15⟩,⟨zb6⟩,⟨zb11⟩,⟨zb5⟩⟩
 case round =>
  clear H'
  try clear c1
  try clear p2
  try clear c3
  try clear c5
  try clear c9
  try clear c10
  try clear hcz11_0
  try clear hcz11_1
  try clear hcz11_2
  try clear hcz11_3
  try clear hcz11_4
  try clear hcz11_5
  try clear hcz11_6
  try clear hcz11_7
  try clear hcz13_0
  try clear hcz13_1
  try clear hcz13_2
  try clear hcz13_3
  try clear hcz13_4
  try clear hcz13_5
  try clear hcz13_6
  try clear hcz13_7
  try clear hfz11_0
  try clear hfz11_1
  try clear hfz11_2
  try clear hfz11_3
  try clear hfz11_4
  try clear hfz11_5
  try clear hfz11_6
  try clear hfz11_7
  try clear hfz13_0
  try clear hfz13_1
  try clear hfz13_2
  try clear hfz13_3
  try clear hfz13_4
  try clear hfz13_5
  try clear hfz13_6
  try clear hfz13_7
  obtain ⟨x9_1,x19_1,rfl,HA,HK1,HO_9,BK84,BK87,BK86,HB⟩:=hrel
  cases gk with
  | zero=>exact absurd HA.out (by simp [scrub_Request.l0])
  | succ k1 =>
   have H:=HA.out
   clear HA
   simp only [scrub_Request.l0] at H
   by_cases c14:x19_1 < (l1_2.length:Int)
   ·rw [if_pos c14] at H
    have c14b0:=decide_eq_true c14
    clear c14
    by_cases c15:0 ≤ x19_1;rotate_left
    ·rw [if_neg c15] at H
     exact absurd H zb55
    rw [if_pos c15] at H
    have c15b0:=decide_eq_true c15
    clear c15
    by_cases c16:x19_1 < (l1_2.length:Int)
    ·rw [if_pos c16] at H
     have c16b0:=decide_eq_true c16
     clear c16
     by_cases c17:x9_1.length < 8796093022208;rotate_left
     ·rw [if_neg c17] at H
      exact absurd H zb55
     rw [if_pos c17] at H
     have LMc17:=Aside0.mk c17
     clear c17
     obtain ⟨y98,hy98⟩ : ∃ y_:List ByteArray,y_=(x9_1 ++ [(rd_T36 l1_2 x19_1).f0]):=⟨_,rfl⟩
     replace H:(scrub_Request.l0 k1 a2 a3 y98 l1_2 (l1_2.length:Int) (wrap64 (x19_1 + 1)) a0_0 a0_1 a0_2 l0_3 l0_4 l1_0 l1_1 l1_2 l1_3 a1_4 a1_5 a1_6 a1_7)=some (r1,r2,r3,r4,r5):=by first|(rw [hy98];with_reducible exact H)|(have H2_:=(Option.bind_some _ _).symm.trans H;rw [hy98];with_reducible exact H2_)|(have H2_:=(Option.bind_some _ _).symm.trans H;with_reducible exact H2_)|with_reducible exact H|(rw [hy98];exact H)|exact H
     have Ny98:=Aside0.mk hy98
     clear hy98
     have H' := Aside0.mk H
     clear H
     have p90:0 ≤ (x19_1:Int):=of_decide_eq_true zb10
     have q90:x19_1 < (l1_2.length:Int):=of_decide_eq_true zb10
     obtain ⟨ad90,e90,hx90_0,hx90_1⟩:=at_T36 HR1_2.out x19_1 p90 q90
     cases e90
     replace hx90_0:=(HB.out.cell (World.block_lt_of_cell? w _ hx90_0)).trans hx90_0
     replace hx90_1:=(HB.out.cell (World.block_lt_of_cell? w _ hx90_1)).trans hx90_1
     replace p90:=eq_true p90
     replace q90:=eq_true q90
     go_wp2_with (first|((with_reducible refine gate_dst (N:=11) rfl ?_);refine box_event rfl (N:=11) rfl (cs:=#[.string (⟨#[]⟩:ByteArray),.string (⟨#[]⟩:ByteArray)]) (t:=36) zS ?_;intro gb88 hg w18 hbox hb;replace HO_9:=Aside0.mk (Kd.R_below zb66 hb);have BK88:=Aside0.mk (hbox);have GW88:=zG hg zb5;have GE88:=GW88;replace HB:=Aside0.mk (below_step zb5 hb);have NB84_725:=Aside0.mk ((by rw [hg];exact Nat.ne_of_lt (blk_lt (g:=gb84) (o:=.cells #[.string a0_0,.string a0_1,.int .i64 a0_2,.slice A0_3 l0_3.length c0_3,.slice A0_4 l0_4.length c0_4] 26 (0,0)) zb15):gb84 ≠ gb88));have NB88_718:=Aside0.mk ((by rw [hg];exact Nat.ne_of_gt (blk_lt (g:=gb84) (o:=.cells #[.string a0_0,.string a0_1,.int .i64 a0_2,.slice A0_3 l0_3.length c0_3,.slice A0_4 l0_4.length c0_4] 26 (0,0)) zb15):gb88 ≠ gb84));replace BK84:=Aside0.mk (blk_below (g:=gb84) (o:=.cells #[.string a0_0,.string a0_1,.int .i64 a0_2,.slice A0_3 l0_3.length c0_3,.slice A0_4 l0_4.length c0_4] 26 (0,0)) zb15 hb);have NB87_725:=Aside0.mk ((by rw [hg];exact Nat.ne_of_lt (blk_lt (g:=gb87) (o:=.cells #[.slice A1_0 l1_0.length c1_0,.slice A1_1 l1_1.length c1_1,.slice (some ad90) l1_2.length c1_2,.slice A1_3 l1_3.length c1_3,.int .i64 a1_4,.int .i64 a1_5,.int .i64 a1_6,.int .i64 a1_7] 46 (0,0)) zb6):gb87 ≠ gb88));have NB88_719:=Aside0.mk ((by rw [hg];exact Nat.ne_of_gt (blk_lt (g:=gb87) (o:=.cells #[.slice A1_0 l1_0.length c1_0,.slice A1_1 l1_1.length c1_1,.slice (some ad90) l1_2.length c1_2,.slice A1_3 l1_3.length c1_3,.int .i64 a1_4,.int .i64 a1_5,.int .i64 a1_6,.int .i64 a1_7] 46 (0,0)) zb6):gb88 ≠ gb87));replace BK87:=Aside0.mk (blk_below (g:=gb87) (o:=.cells #[.slice A1_0 l1_0.length c1_0,.slice A1_1 l1_1.length c1_1,.slice (some ad90) l1_2.length c1_2,.slice A1_3 l1_3.length c1_3,.int .i64 a1_4,.int .i64 a1_5,.int .i64 a1_6,.int .i64 a1_7] 46 (0,0)) zb6 hb);have NB86_725:=Aside0.mk ((by rw [hg];exact Nat.ne_of_lt (blk_lt (g:=gb86) (o:=.cells #[.string (⟨#[]⟩:ByteArray),.string (⟨#[]⟩:ByteArray),.int .i64 0,.slice none 0 0,.slice none 0 0] 26 (0,0)) zb11):gb86 ≠ gb88));have NB88_720:=Aside0.mk ((by rw [hg];exact Nat.ne_of_gt (blk_lt (g:=gb86) (o:=.cells #[.string (⟨#[]⟩:ByteArray),.string (⟨#[]⟩:ByteArray),.int .i64 0,.slice none 0 0,.slice none 0 0] 26 (0,0)) zb11):gb88 ≠ gb86));replace BK86:=Aside0.mk (blk_below (g:=gb86) (o:=.cells #[.string (⟨#[]⟩:ByteArray),.string (⟨#[]⟩:ByteArray),.int .i64 0,.slice none 0 0,.slice none 0 0] 26 (0,0)) zb11 hb);clear hb hbox hg;have hnb19:=NB88_718.out;have hnc19:=NB84_725.out;have hnb20:=NB88_719.out;have hnc20:=NB87_725.out;have hnb21:=NB88_720.out;have hnc21:=NB86_725.out;obtain ⟨hcz22_0,hcz22_1,hfz22_0,hfz22_1⟩:=zq2 BK88.out)|((with_reducible refine gate_builtin (b:=.append) (xs:=#[.tmp 23,.tmp 26]) rfl ?_);at_builtin;refine Kd.R_append Kd.string (w0:=w) w.heap.size rfl (.tmp 23) (.tmp 26) 34 9 (.string ⟨#[]⟩) 16 rfl Tryz.underlying34 info9 rfl zb33 zb62 u9 x9_1 ((rd_T36 l1_2 x19_1).f0) [.string ((rd_T36 l1_2 x19_1).f0)] (fun _=>True) (fun _=>False) rfl (by first|(go_simp;done)|(go_simp;rfl)) ?aP (fun _ hk=>hk.elim) ?aF ?aO ?aB ?aS ?aL ?_;(case aP=>exact rfl);(case aB=>exact zb45);(case aF=>exact (fun _ _=>trivial));(case aO=>exact (by (with_reducible repeat (first|apply Kd.R_alloc|apply Kd.R_drewN|apply Kd.R_drew));exact Kd.R_mono (Kd.R_far (p:=⟨gb88,1,none⟩) (Kd.R_far (p:=⟨gb88,0,none⟩) (Kd.R_types HO_9.out BK88.out (by decide)) (fun _ hk=>hk.2) (.string ((rd_T36 l1_2 x19_1).f0))) (fun _ hk=>hk.2) (.string ((rd_T36 l1_2 x19_1).f1))) (fun _ hk=>trivial)));(case aS=>exact (below_size zb45));(case aL=>have:=LMc17.out;omega);intro v727 w23 ho hb hg hat;rw [← Ny98.out] at ho;replace BK84:=Aside0.mk (blk_grown (g:=gb84) (o:=.cells #[.string a0_0,.string a0_1,.int .i64 a0_2,.slice A0_3 l0_3.length c0_3,.slice A0_4 l0_4.length c0_4] 26 (0,0)) (by (with_reducible repeat (first|refine blk_drewN ?_ _|refine blk_drew ?_|refine blk_alloc ?_ _));refine blk_far ?_ NB84_725.out _;(with_reducible repeat (first|refine blk_drewN ?_ _|refine blk_drew ?_|refine blk_alloc ?_ _));refine blk_far ?_ NB84_725.out _;(with_reducible repeat (first|refine blk_drewN ?_ _|refine blk_drew ?_|refine blk_alloc ?_ _));exact BK84.out) hg (Kd.R_ne HO_9.out BK84.out zb33));replace BK87:=Aside0.mk (blk_grown (g:=gb87) (o:=.cells #[.slice A1_0 l1_0.length c1_0,.slice A1_1 l1_1.length c1_1,.slice (some ad90) l1_2.length c1_2,.slice A1_3 l1_3.length c1_3,.int .i64 a1_4,.int .i64 a1_5,.int .i64 a1_6,.int .i64 a1_7] 46 (0,0)) (by (with_reducible repeat (first|refine blk_drewN ?_ _|refine blk_drew ?_|refine blk_alloc ?_ _));refine blk_far ?_ NB87_725.out _;(with_reducible repeat (first|refine blk_drewN ?_ _|refine blk_drew ?_|refine blk_alloc ?_ _));refine blk_far ?_ NB87_725.out _;(with_reducible repeat (first|refine blk_drewN ?_ _|refine blk_drew ?_|refine blk_alloc ?_ _));exact BK87.out) hg (Kd.R_ne HO_9.out BK87.out zb33));replace BK86:=Aside0.mk (blk_grown (g:=gb86) (o:=.cells #[.string (⟨#[]⟩:ByteArray),.string (⟨#[]⟩:ByteArray),.int .i64 0,.slice none 0 0,.slice none 0 0] 26 (0,0)) (by (with_reducible repeat (first|refine blk_drewN ?_ _|refine blk_drew ?_|refine blk_alloc ?_ _));refine blk_far ?_ NB86_725.out _;(with_reducible repeat (first|refine blk_drewN ?_ _|refine blk_drew ?_|refine blk_alloc ?_ _));refine blk_far ?_ NB86_725.out _;(with_reducible repeat (first|refine blk_drewN ?_ _|refine blk_drew ?_|refine blk_alloc ?_ _));exact BK86.out) hg (Kd.R_ne HO_9.out BK86.out zb33));replace BK88:=Aside0.mk (blk_grown (g:=gb88) (o:=.cells #[.string ((rd_T36 l1_2 x19_1).f0),.string ((rd_T36 l1_2 x19_1).f1)] 36 (0,0)) (by (with_reducible repeat (first|refine blk_drewN ?_ _|refine blk_drew ?_|refine blk_alloc ?_ _));refine blk_put (cs:=#[.string ((rd_T36 l1_2 x19_1).f0),.string (⟨#[]⟩:ByteArray)]) ?_ 1 _ rfl;(with_reducible repeat (first|refine blk_drewN ?_ _|refine blk_drew ?_|refine blk_alloc ?_ _));refine blk_put (cs:=#[.string (⟨#[]⟩:ByteArray),.string (⟨#[]⟩:ByteArray)]) ?_ 0 _ rfl;(with_reducible repeat (first|refine blk_drewN ?_ _|refine blk_drew ?_|refine blk_alloc ?_ _));exact BK88.out) hg (Kd.R_ne HO_9.out BK88.out zb33));replace HB:=Aside0.mk (hb);have HO728:=Aside0.mk (ho);clear ho hb hg hat))
     go_roundg k1
     case measure=>have:=HK1.out;omega
     case rel=>exact ⟨(y98),(wrap64 (x19_1 + 1)),zb8,H',⟨zb97⟩,⟨by (with_reducible repeat (first|apply Kd.R_alloc|apply Kd.R_drewN|apply Kd.R_drew));exact HO728.out⟩,⟨zb15⟩,⟨zb6⟩,⟨zb11⟩,⟨zb45⟩⟩
    ·rw [if_neg c16] at H
     exact absurd H zb55
   rw [if_neg c14] at H
   have c14b0:=decide_eq_false c14
   clear c14
   obtain ⟨y92,hy92⟩ : ∃ y_:List (S36),y_=(([(⟨(⟨#[72,111,115,116]⟩:ByteArray),a2⟩:S36)]:List (S36))):=⟨_,rfl⟩
   replace H:((scrub_onward.f k1 l0_3).bind fun t99=>((field_Without.f k1 t99 x9_1).bind fun t93=>(if y92.length + t93.length < 4398046511104 then ((some (y92 ++ t93:List (S36))).bind fun y91=>(if y91.length + l1_2.length < 4398046511104 then ((some (y91 ++ l1_2:List (S36))).bind fun y89=>(if (l0_4.length:Int) > 0 then (scrub_Request.j1 k1 a3 y89 (decide ((l0_4.length:Int) > 0)) a0_0 a0_1 a0_2 l0_3 l0_4) else (if a0_0.toList=([80,79,83,84]:List UInt8) then (scrub_Request.j1 k1 a3 y89 (a0_0.toList == ([80,79,83,84]:List UInt8)) a0_0 a0_1 a0_2 l0_3 l0_4) else (if a0_0.toList=([80,85,84]:List UInt8) then (scrub_Request.j1 k1 a3 y89 (a0_0.toList == ([80,85,84]:List UInt8)) a0_0 a0_1 a0_2 l0_3 l0_4) else (scrub_Request.j1 k1 a3 y89 (a0_0.toList == ([80,65,84,67,72]:List UInt8)) a0_0 a0_1 a0_2 l0_3 l0_4))))) else (none))) else (none))))=some (r1,r2,r3,r4,r5):=by first|(rw [hy92];with_reducible exact H)|(have H2_:=(Option.bind_some _ _).symm.trans H;rw [hy92];with_reducible exact H2_)|(have H2_:=(Option.bind_some _ _).symm.trans H;with_reducible exact H2_)|with_reducible exact H|(rw [hy92];exact H)|exact H
   have Ny92:=Aside0.mk hy92
   clear hy92
   replace H:=Option.bind_eq_some_iff.mp H
   obtain ⟨t99,A240,H⟩:=H
   try dsimp only at H
   have A24:=Aside0.mk A240
   clear A240
   replace H:=Option.bind_eq_some_iff.mp H
   obtain ⟨t93,A250,H⟩:=H
   try dsimp only at H
   have A25:=Aside0.mk A250
   clear A250
   by_cases c26:y92.length + t93.length < 4398046511104;rotate_left
   ·rw [if_neg c26] at H
    exact absurd H zb55
   rw [if_pos c26] at H
   have LMc26:=Aside0.mk c26
   clear c26
   obtain ⟨y91,hy91⟩ : ∃ y_:List (S36),y_=(y92 ++ t93):=⟨_,rfl⟩
   replace H:(if y91.length + l1_2.length < 4398046511104 then ((some (y91 ++ l1_2:List (S36))).bind fun y89=>(if (l0_4.length:Int) > 0 then (scrub_Request.j1 k1 a3 y89 (decide ((l0_4.length:Int) > 0)) a0_0 a0_1 a0_2 l0_3 l0_4) else (if a0_0.toList=([80,79,83,84]:List UInt8) then (scrub_Request.j1 k1 a3 y89 (a0_0.toList == ([80,79,83,84]:List UInt8)) a0_0 a0_1 a0_2 l0_3 l0_4) else (if a0_0.toList=([80,85,84]:List UInt8) then (scrub_Request.j1 k1 a3 y89 (a0_0.toList == ([80,85,84]:List UInt8)) a0_0 a0_1 a0_2 l0_3 l0_4) else (scrub_Request.j1 k1 a3 y89 (a0_0.toList == ([80,65,84,67,72]:List UInt8)) a0_0 a0_1 a0_2 l0_3 l0_4))))) else (none))=some (r1,r2,r3,r4,r5):=by first|(rw [hy91];with_reducible exact H)|(have H2_:=(Option.bind_some _ _).symm.trans H;rw [hy91];with_reducible exact H2_)|(have H2_:=(Option.bind_some _ _).symm.trans H;with_reducible exact H2_)|with_reducible exact H|(rw [hy91];exact H)|exact H
   have Ny91:=Aside0.mk hy91
   clear hy91
   by_cases c27:y91.length + l1_2.length < 4398046511104
   ·rw [if_pos c27] at H
    have LMc27:=Aside0.mk c27
    clear c27
    obtain ⟨y89,hy89⟩ : ∃ y_:List (S36),y_=(y91 ++ l1_2):=⟨_,rfl⟩
    replace H:(if (l0_4.length:Int) > 0 then (scrub_Request.j1 k1 a3 y89 (decide ((l0_4.length:Int) > 0)) a0_0 a0_1 a0_2 l0_3 l0_4) else (if a0_0.toList=([80,79,83,84]:List UInt8) then (scrub_Request.j1 k1 a3 y89 (a0_0.toList == ([80,79,83,84]:List UInt8)) a0_0 a0_1 a0_2 l0_3 l0_4) else (if a0_0.toList=([80,85,84]:List UInt8) then (scrub_Request.j1 k1 a3 y89 (a0_0.toList == ([80,85,84]:List UInt8)) a0_0 a0_1 a0_2 l0_3 l0_4) else (scrub_Request.j1 k1 a3 y89 (a0_0.toList == ([80,65,84,67,72]:List UInt8)) a0_0 a0_1 a0_2 l0_3 l0_4))))=some (r1,r2,r3,r4,r5):=by first|(rw [hy89];with_reducible exact H)|(have H2_:=(Option.bind_some _ _).symm.trans H;rw [hy89];with_reducible exact H2_)|(have H2_:=(Option.bind_some _ _).symm.trans H;with_reducible exact H2_)|with_reducible exact H|(rw [hy89];exact H)|exact H
    have Ny89:=Aside0.mk hy89
    clear hy89
    have HC28:=Aside0.mk H
    clear H
    go_upto_if 42 with (first|((with_reducible refine gate_dst (N:=31) rfl ?_);refine Kd.R_lit k36 _ 36 ?hg (N:=31) ?hd (xs:=([(⟨(⟨#[72,111,115,116]⟩:ByteArray),a2⟩:S36)]:List (S36))) (inner:=[.string (⟨#[72,111,115,116]⟩:ByteArray),.string a2]) (ok:=fun _=>True) (okp:=fun _=>True) ?hr ?hp (fun _ hk=>hk) trivial (Below.refl _ _) (Nat.le_refl _) zb55 ?_;(case hd=>rfl);(case hg=>rfl);(case hr=>first|(go_simp;done)|(go_simp;rfl));(case hp=>exact (Reps.c2 (show Kd.M k36 _ _ _ (⟨(⟨#[72,111,115,116]⟩:ByteArray),a2⟩:S36) [.string (⟨#[72,111,115,116]⟩:ByteArray),.string a2] from (k36_mkM _ _ _ (⟨(⟨#[72,111,115,116]⟩:ByteArray),a2⟩:S36) )) (Reps.none _ _)));intro v730 w29 ho30 hb hg_ hnew_;clear hg_ hnew_;(first|rw [← Ny92.out] at ho30|(simp only [Int.reduceToNat] at ho30;rw [← Ny92.out] at ho30));have n0_:=Aside0.mk (Kd.R_below zb66 hb);have n1_:=Aside0.mk (Kd.R_lower ho30 (below_size zb5));have n2_:=Aside0.mk (blk_below (g:=gb84) (o:=.cells #[.string a0_0,.string a0_1,.int .i64 a0_2,.slice A0_3 l0_3.length c0_3,.slice A0_4 l0_4.length c0_4] 26 (0,0)) zb15 hb);have n3_:=Aside0.mk (blk_below (g:=gb87) (o:=.cells #[.slice A1_0 l1_0.length c1_0,.slice A1_1 l1_1.length c1_1,.slice A1_2 l1_2.length c1_2,.slice A1_3 l1_3.length c1_3,.int .i64 a1_4,.int .i64 a1_5,.int .i64 a1_6,.int .i64 a1_7] 46 (0,0)) zb6 hb);have n4_:=Aside0.mk (blk_below (g:=gb86) (o:=.cells #[.string (⟨#[]⟩:ByteArray),.string (⟨#[]⟩:ByteArray),.int .i64 0,.slice none 0 0,.slice none 0 0] 26 (0,0)) zb11 hb);have n5_:=Aside0.mk (below_step zb5 hb);clear HO_9;clear BK84;clear BK87;clear BK86;clear HB;have HO_9:=n0_;have HO95:=n1_;have BK84:=n2_;have BK87:=n3_;have BK86:=n4_;have HB:=n5_;clear n0_ n1_ n2_ n3_ n4_ n5_;clear hb ho30;have hnb31:=NB84_719.out;have hnc31:=NB87_718.out;have hnb32:=NB84_720.out;have hnc32:=NB86_718.out;have hcz33_0:w29.cell? ⟨gb84,0,none⟩=some (.string a0_0):=(blk_cell BK84.out 0).trans rfl;have hcz33_1:w29.cell? ⟨gb84,1,none⟩=some (.string a0_1):=(blk_cell BK84.out 1).trans rfl;have hcz33_2:w29.cell? ⟨gb84,2,none⟩=some (.int .i64 a0_2):=(blk_cell BK84.out 2).trans rfl;have hcz33_3:w29.cell? ⟨gb84,3,none⟩=some (.slice A0_3 l0_3.length c0_3):=(blk_cell BK84.out 3).trans rfl;have hcz33_4:w29.cell? ⟨gb84,4,none⟩=some (.slice A0_4 l0_4.length c0_4):=(blk_cell BK84.out 4).trans rfl;have hfz33_0:=blk_frozen BK84.out 0;have hfz33_1:=blk_frozen BK84.out 1;have hfz33_2:=blk_frozen BK84.out 2;have hfz33_3:=blk_frozen BK84.out 3;have hfz33_4:=blk_frozen BK84.out 4)|((with_reducible refine gate_callee (f:=60) rfl ?_);refine goesL_ (some 34) rfl rfl Tryz.func60 zb9 rfl #[.slice A0_3 l0_3.length c0_3] rfl zb1 ?_;(with_reducible refine (scrub_onward.calls k1 _ _ l0_3 t99 _ ?side1 ?side2 A24.out).mono ?_);(case side1=>exact zb84);(case side2=>exact HC0_3.out);rintro e w34 ⟨v733,rfl,ho0,hb⟩;refine ⟨_,rfl,?_⟩;have n0_:=Aside0.mk (Kd.R_below zb66 hb);have n1_:=Aside0.mk (Kd.R_elder' zb59 (Kd.R_base ho0) hb);have n2_:=Aside0.mk (Kd.R_lower (Kd.R_new' ho0 (Kd.R_lt zb59)) (below_size zb5));have n3_:=Aside0.mk (blk_below (g:=gb84) (o:=.cells #[.string a0_0,.string a0_1,.int .i64 a0_2,.slice A0_3 l0_3.length c0_3,.slice A0_4 l0_4.length c0_4] 26 (0,0)) zb15 hb);have n4_:=Aside0.mk (blk_below (g:=gb87) (o:=.cells #[.slice A1_0 l1_0.length c1_0,.slice A1_1 l1_1.length c1_1,.slice A1_2 l1_2.length c1_2,.slice A1_3 l1_3.length c1_3,.int .i64 a1_4,.int .i64 a1_5,.int .i64 a1_6,.int .i64 a1_7] 46 (0,0)) zb6 hb);have n5_:=Aside0.mk (blk_below (g:=gb86) (o:=.cells #[.string (⟨#[]⟩:ByteArray),.string (⟨#[]⟩:ByteArray),.int .i64 0,.slice none 0 0,.slice none 0 0] 26 (0,0)) zb11 hb);have n6_:=Aside0.mk (below_step zb5 hb);clear HO_9;clear HO95;clear BK84;clear BK87;clear BK86;clear HB;have HO_9:=n0_;have HO95:=n1_;have HO94:=n2_;have BK84:=n3_;have BK87:=n4_;have BK86:=n5_;have HB:=n6_;clear n0_ n1_ n2_ n3_ n4_ n5_ n6_;(try clear hb);(try clear hb2);(try clear hk);(try clear hi);(try clear ho0);obtain ⟨Ao35,co35,eo35⟩:=Kd.R_slice HO94.out;subst eo35;obtain ⟨Ao36,co36,eo36⟩:=Kd.R_slice HO_9.out;subst eo36)|((with_reducible refine gate_callee (f:=59) rfl ?_);refine goesL_ (some 36) rfl rfl Tryz.func59 zb9 rfl #[.slice Ao35 t99.length co35,.slice Ao36 x9_1.length co36] rfl zb1 ?_;(with_reducible refine (field_Without.calls k1 _ _ t99 _ _ x9_1 t93 _ ?side1 ?side2 ?side3 ?side4 A25.out).mono ?_);(case side1=>repeat (first|exact (Kd.R_reads' HO94.out).2.2|(with_reducible refine Kd.C_alloc ?_ _)|(with_reducible refine Kd.C_drewN ?_ _)|(with_reducible refine Kd.C_drew ?_)));(case side2=>exact (Kd.R_reads' HO94.out).2.1);(case side3=>repeat (first|exact (Kd.R_reads' HO_9.out).2.2|(with_reducible refine Kd.C_alloc ?_ _)|(with_reducible refine Kd.C_drewN ?_ _)|(with_reducible refine Kd.C_drew ?_)));(case side4=>exact (Kd.R_reads' HO_9.out).2.1);rintro e w37 ⟨v736,rfl,ho0,hb⟩;refine ⟨_,rfl,?_⟩;have n0_:=Aside0.mk (Kd.R_below zb66 hb);have n1_:=Aside0.mk (Kd.R_elder' zb59 (Kd.R_base ho0) hb);have n2_:=Aside0.mk (Kd.R_elder' zb83 (Kd.R_base ho0) hb);have n3_:=Aside0.mk (Kd.R_lower (Kd.R_new' (Kd.R_new' ho0 (Kd.R_lt zb59)) (Kd.R_lt zb83)) (below_size zb5));have n4_:=Aside0.mk (blk_below (g:=gb84) (o:=.cells #[.string a0_0,.string a0_1,.int .i64 a0_2,.slice A0_3 l0_3.length c0_3,.slice A0_4 l0_4.length c0_4] 26 (0,0)) zb15 hb);have n5_:=Aside0.mk (blk_below (g:=gb87) (o:=.cells #[.slice A1_0 l1_0.length c1_0,.slice A1_1 l1_1.length c1_1,.slice A1_2 l1_2.length c1_2,.slice A1_3 l1_3.length c1_3,.int .i64 a1_4,.int .i64 a1_5,.int .i64 a1_6,.int .i64 a1_7] 46 (0,0)) zb6 hb);have n6_:=Aside0.mk (blk_below (g:=gb86) (o:=.cells #[.string (⟨#[]⟩:ByteArray),.string (⟨#[]⟩:ByteArray),.int .i64 0,.slice none 0 0,.slice none 0 0] 26 (0,0)) zb11 hb);have n7_:=Aside0.mk (below_step zb5 hb);clear HO_9;clear HO95;clear HO94;clear BK84;clear BK87;clear BK86;clear HB;have HO_9:=n0_;have HO95:=n1_;have HO94:=n2_;have HO737:=n3_;have BK84:=n4_;have BK87:=n5_;have BK86:=n6_;have HB:=n7_;clear n0_ n1_ n2_ n3_ n4_ n5_ n6_ n7_;(try clear hb);(try clear hb2);(try clear hk);(try clear hi);(try clear ho0);obtain ⟨Ao39,co39,eo39⟩:=Kd.R_slice HO737.out;subst eo39)|((with_reducible refine gate_builtin (b:=.append) (xs:=#[.tmp 31,.tmp 36]) rfl ?_);at_builtin;refine Kd.R_append_rows k36 (w0:=w) w.heap.size rfl (.tmp 31) (.tmp 36) 24 36 (.agg #[(.string ⟨#[]⟩),(.string ⟨#[]⟩)]) 32 rfl Tryz.underlying24 info36 rfl zb33 zb62 v730 y92 t93 _ _ _ (fun k_=>some k_ ≠ (.slice Ao35 t99.length co35:Value).ownBlock∧some k_ ≠ (.slice Ao39 t93.length co39:Value).ownBlock) (fun _=>False) rfl rfl ?aO ?aR (fun _ _ h=>h) (fun _ h=>h.elim) ?aF ?aB ?aS ?aL ?_;(case aR=>repeat (first|exact (Kd.R_reads' HO737.out).2.2|(with_reducible refine Kd.C_alloc ?_ _)|(with_reducible refine Kd.C_drewN ?_ _)|(with_reducible refine Kd.C_drew ?_)));(case aB=>exact zb75);(case aF=>exact zb80);(case aO=>exact (by (with_reducible repeat (first|apply Kd.R_alloc|apply Kd.R_drewN|apply Kd.R_drew));exact Kd.R_mono HO95.out (fun _ hk=>⟨hk.1.2,hk.2⟩)));(case aS=>exact zb70);(case aL=>have:=LMc26.out;omega);intro v739 w38 ho hb hg hat;rw [← Ny91.out] at ho;have n0_:=Aside0.mk (Kd.R_over' zb66 (Kd.R_typed zb59) zb33 hg);have n1_:=Aside0.mk (blk_grown (g:=gb84) (o:=.cells #[.string a0_0,.string a0_1,.int .i64 a0_2,.slice A0_3 l0_3.length c0_3,.slice A0_4 l0_4.length c0_4] 26 (0,0)) zb15 hg (Kd.R_ne HO95.out BK84.out zb33));have n2_:=Aside0.mk (blk_grown (g:=gb87) (o:=.cells #[.slice A1_0 l1_0.length c1_0,.slice A1_1 l1_1.length c1_1,.slice A1_2 l1_2.length c1_2,.slice A1_3 l1_3.length c1_3,.int .i64 a1_4,.int .i64 a1_5,.int .i64 a1_6,.int .i64 a1_7] 46 (0,0)) zb6 hg (Kd.R_ne HO95.out BK87.out zb33));have n3_:=Aside0.mk (blk_grown (g:=gb86) (o:=.cells #[.string (⟨#[]⟩:ByteArray),.string (⟨#[]⟩:ByteArray),.int .i64 0,.slice none 0 0,.slice none 0 0] 26 (0,0)) zb11 hg (Kd.R_ne HO95.out BK86.out zb33));have n4_:=Aside0.mk (Kd.R_after (ok:=(fun k_=>some k_ ≠ (.slice Ao39 t93.length co39:Value).ownBlock)) (by (with_reducible repeat (first|apply Kd.R_alloc|apply Kd.R_drewN|apply Kd.R_drew));exact Kd.R_mono HO94.out (fun _ hk=>⟨hk.2,hk.1.2⟩)) hg hat);have n5_:=Aside0.mk (Kd.R_after (ok:=(fun k_=>some k_ ≠ (.slice Ao35 t99.length co35:Value).ownBlock)) (by (with_reducible repeat (first|apply Kd.R_alloc|apply Kd.R_drewN|apply Kd.R_drew));exact Kd.R_mono HO737.out (fun _ hk=>⟨hk.2,hk.1.2⟩)) hg hat);have n6_:=Aside0.mk (hb);have n7_:=Aside0.mk (ho);clear HO_9;clear BK84;clear BK87;clear BK86;clear HO94;clear HO737;clear HB;clear HO95;have HO_9:=n0_;have BK84:=n1_;have BK87:=n2_;have BK86:=n3_;have HO94:=n4_;have HO737:=n5_;have HB:=n6_;have HO740:=n7_;clear n0_ n1_ n2_ n3_ n4_ n5_ n6_ n7_;clear ho hb hg hat;have hnb40:=NB87_720.out;have hnc40:=NB86_719.out;have hcz41_0:w38.cell? ⟨gb87,0,none⟩=some (.slice A1_0 l1_0.length c1_0):=(blk_cell BK87.out 0).trans rfl;have hcz41_1:w38.cell? ⟨gb87,1,none⟩=some (.slice A1_1 l1_1.length c1_1):=(blk_cell BK87.out 1).trans rfl;have hcz41_2:w38.cell? ⟨gb87,2,none⟩=some (.slice A1_2 l1_2.length c1_2):=(blk_cell BK87.out 2).trans rfl;have hcz41_3:w38.cell? ⟨gb87,3,none⟩=some (.slice A1_3 l1_3.length c1_3):=(blk_cell BK87.out 3).trans rfl;have hcz41_4:w38.cell? ⟨gb87,4,none⟩=some (.int .i64 a1_4):=(blk_cell BK87.out 4).trans rfl;have hcz41_5:w38.cell? ⟨gb87,5,none⟩=some (.int .i64 a1_5):=(blk_cell BK87.out 5).trans rfl;have hcz41_6:w38.cell? ⟨gb87,6,none⟩=some (.int .i64 a1_6):=(blk_cell BK87.out 6).trans rfl;have hcz41_7:w38.cell? ⟨gb87,7,none⟩=some (.int .i64 a1_7):=(blk_cell BK87.out 7).trans rfl;have hfz41_0:=blk_frozen BK87.out 0;have hfz41_1:=blk_frozen BK87.out 1;have hfz41_2:=blk_frozen BK87.out 2;have hfz41_3:=blk_frozen BK87.out 3;have hfz41_4:=blk_frozen BK87.out 4;have hfz41_5:=blk_frozen BK87.out 5;have hfz41_6:=blk_frozen BK87.out 6;have hfz41_7:=blk_frozen BK87.out 7)|((with_reducible refine gate_builtin (b:=.append) (xs:=#[.tmp 38,.tmp 40]) rfl ?_);at_builtin;refine Kd.R_append_rows k36 (w0:=w) w.heap.size rfl (.tmp 38) (.tmp 40) 24 36 (.agg #[(.string ⟨#[]⟩),(.string ⟨#[]⟩)]) 32 rfl Tryz.underlying24 info36 rfl zb33 zb62 v739 y91 l1_2 _ _ _ (fun k_=>some k_ ≠ (.slice Ao35 t99.length co35:Value).ownBlock∧some k_ ≠ (.slice Ao39 t93.length co39:Value).ownBlock) (fun _=>False) rfl rfl ?aO ?aR (fun _ _ h=>h) (fun _ h=>h.elim) ?aF ?aB ?aS ?aL ?_;(case aR=>repeat (first|exact (Kd.C_below HR1_2.out HB.out)|(with_reducible refine Kd.C_alloc ?_ _)|(with_reducible refine Kd.C_drewN ?_ _)|(with_reducible refine Kd.C_drew ?_)));(case aB=>exact zb75);(case aF=>exact zb80);(case aO=>exact (by (with_reducible repeat (first|apply Kd.R_alloc|apply Kd.R_drewN|apply Kd.R_drew));exact HO740.out));(case aS=>exact zb70);(case aL=>have:=LMc27.out;omega);intro v742 w42 ho hb hg hat;rw [← Ny89.out] at ho;have n0_:=Aside0.mk (Kd.R_over' zb66 (Kd.R_typed (by (with_reducible repeat (first|apply Kd.R_alloc|apply Kd.R_drewN|apply Kd.R_drew));exact HO740.out)) zb33 hg);have n1_:=Aside0.mk (blk_grown (g:=gb84) (o:=.cells #[.string a0_0,.string a0_1,.int .i64 a0_2,.slice A0_3 l0_3.length c0_3,.slice A0_4 l0_4.length c0_4] 26 (0,0)) zb15 hg (Kd.R_ne HO740.out BK84.out zb33));have n2_:=Aside0.mk (blk_grown (g:=gb87) (o:=.cells #[.slice A1_0 l1_0.length c1_0,.slice A1_1 l1_1.length c1_1,.slice A1_2 l1_2.length c1_2,.slice A1_3 l1_3.length c1_3,.int .i64 a1_4,.int .i64 a1_5,.int .i64 a1_6,.int .i64 a1_7] 46 (0,0)) zb6 hg (Kd.R_ne HO740.out BK87.out zb33));have n3_:=Aside0.mk (blk_grown (g:=gb86) (o:=.cells #[.string (⟨#[]⟩:ByteArray),.string (⟨#[]⟩:ByteArray),.int .i64 0,.slice none 0 0,.slice none 0 0] 26 (0,0)) zb11 hg (Kd.R_ne HO740.out BK86.out zb33));have n4_:=Aside0.mk (Kd.R_after (ok:=(fun k_=>some k_ ≠ (.slice Ao39 t93.length co39:Value).ownBlock)) zb83 hg hat);have n5_:=Aside0.mk (Kd.R_after (ok:=(fun k_=>some k_ ≠ (.slice Ao35 t99.length co35:Value).ownBlock)) zb109 hg hat);have n6_:=Aside0.mk (hb);have n7_:=Aside0.mk (ho);clear HO_9;clear BK84;clear BK87;clear BK86;clear HO94;clear HO737;clear HB;clear HO740;have HO_9:=n0_;have BK84:=n1_;have BK87:=n2_;have BK86:=n3_;have HO94:=n4_;have HO737:=n5_;have HB:=n6_;have HO743:=n7_;clear n0_ n1_ n2_ n3_ n4_ n5_ n6_ n7_;clear ho hb hg hat;have hcz43_0:w42.cell? ⟨gb84,0,none⟩=some (.string a0_0):=(blk_cell BK84.out 0).trans rfl;have hcz43_1:w42.cell? ⟨gb84,1,none⟩=some (.string a0_1):=(blk_cell BK84.out 1).trans rfl;have hcz43_2:w42.cell? ⟨gb84,2,none⟩=some (.int .i64 a0_2):=(blk_cell BK84.out 2).trans rfl;have hcz43_3:w42.cell? ⟨gb84,3,none⟩=some (.slice A0_3 l0_3.length c0_3):=(blk_cell BK84.out 3).trans rfl;have hcz43_4:w42.cell? ⟨gb84,4,none⟩=some (.slice A0_4 l0_4.length c0_4):=(blk_cell BK84.out 4).trans rfl;have hfz43_0:=blk_frozen BK84.out 0;have hfz43_1:=blk_frozen BK84.out 1;have hfz43_2:=blk_frozen BK84.out 2;have hfz43_3:=blk_frozen BK84.out 3;have hfz43_4:=blk_frozen BK84.out 4))
    (try simp only [Act.put,zqA,zqB,zqC])
    go_cut [42] (fun v42 wc => ∃ (kq:Nat) (x42_27:Bool),v42 = .bool x42_27∧Aside0 (scrub_Request.j1 kq a3 y89 x42_27 a0_0 a0_1 a0_2 l0_3 l0_4=some (r1,r2,r3,r4,r5))∧Aside0 (kq ≤ k1)∧Aside0 (Kd.R k36 36 wc w.heap.size (fun _=>True) v742 y89)∧Aside0 (wc.heap[gb84]? = some (.cells #[.string a0_0,.string a0_1,.int .i64 a0_2,(.slice A0_3 l0_3.length c0_3),(.slice A0_4 l0_4.length c0_4)] 26 (0,0)))∧Aside0 (wc.heap[gb87]? = some (.cells #[(.slice A1_0 l1_0.length c1_0),(.slice A1_1 l1_1.length c1_1),(.slice A1_2 l1_2.length c1_2),(.slice A1_3 l1_3.length c1_3),.int .i64 a1_4,.int .i64 a1_5,.int .i64 a1_6,.int .i64 a1_7] 46 (0,0)))∧Aside0 (wc.heap[gb86]? = some (.cells #[.string (⟨#[]⟩:ByteArray),.string (⟨#[]⟩:ByteArray),.int .i64 0,(.slice none 0 0),(.slice none 0 0)] 26 (0,0)))∧Aside0 (Below w.heap.size w wc))
    case first =>
     have H:=HC28.out
     clear HC28
     by_cases c44:(l0_4.length:Int) > 0
     ·rw [if_pos c44] at H
      have c44b0:decide (0 < (l0_4.length:Int))=true:=decide_eq_true c44
      have c44b1:decide (0 < l0_4.length)=true:=decide_eq_true zb62
      clear c44
      (first|rw [c44b0]|(simp only [i64_w,i32_w];rw [c44b0])|rw [c44b1]|skip)
      have H' := Aside0.mk H
      clear H
      go_wp2
      go_meet
      case rel=>exact ⟨_,(decide ((l0_4.length:Int) > 0)),zb8,H',⟨zb85⟩,⟨zb82⟩,⟨zb15⟩,⟨zb6⟩,⟨zb11⟩,⟨zb5⟩⟩
     rw [if_neg c44] at H
     have c44b0:decide (0 < (l0_4.length:Int))=false:=decide_eq_false c44
     have c44b1:decide (0 < l0_4.length)=false:=decide_eq_false zb62
     clear c44
     (first|rw [c44b0]|(simp only [i64_w,i32_w];rw [c44b0])|rw [c44b1]|skip)
     by_cases c45:a0_0.toList=([80,79,83,84]:List UInt8)
     ·rw [if_pos c45] at H
      have c45b0:=beq_iff_eq.mpr c45
      have c45b1:=bne_eq_false_iff_eq.mpr c45
      clear c45
      have H' := Aside0.mk H
      clear H
      have hnb46:=NB84_719.out
      have hnc46:=NB87_718.out
      have hnb47:=NB84_720.out
      have hnc47:=NB86_718.out
      obtain ⟨hcz48_0,hcz48_1,hcz48_2,hcz48_3,hcz48_4,hfz48_0,hfz48_1,hfz48_2,hfz48_3,hfz48_4⟩:=zq5 BK84.out
      go_wp2
      go_meet
      case rel=>exact ⟨_,((a0_0.toList == ([80,79,83,84]:List UInt8))),zb8,H',⟨zb85⟩,⟨zb82⟩,⟨zb15⟩,⟨zb6⟩,⟨zb11⟩,⟨zb5⟩⟩
     rw [if_neg c45] at H
     have c45b0:=beq_eq_false_iff_ne.mpr c45
     have c45b1:=bne_iff_ne.mpr c45
     by_cases c49:a0_0.toList=([80,85,84]:List UInt8);rotate_left
     ·rw [if_neg c49] at H
      have c49b0:=beq_eq_false_iff_ne.mpr c49
      have c49b1:=bne_iff_ne.mpr c49
      have H' := Aside0.mk H
      clear H
      have hnb53:=NB84_719.out
      have hnc53:=NB87_718.out
      have hnb54:=NB84_720.out
      have hnc54:=NB86_718.out
      obtain ⟨hcz55_0,hcz55_1,hcz55_2,hcz55_3,hcz55_4,hfz55_0,hfz55_1,hfz55_2,hfz55_3,hfz55_4⟩:=zq5 BK84.out
      go_wp2
      go_meet
      case rel=>exact ⟨_,((a0_0.toList == ([80,65,84,67,72]:List UInt8))),zb8,H',⟨zb85⟩,⟨zb82⟩,⟨zb15⟩,⟨zb6⟩,⟨zb11⟩,⟨zb5⟩⟩
     rw [if_pos c49] at H
     have c49b0:=beq_iff_eq.mpr c49
     have c49b1:=bne_eq_false_iff_eq.mpr c49
     clear c49
     have H' := Aside0.mk H
     clear H
     have hnb50:=NB84_719.out
     have hnc50:=NB87_718.out
     have hnb51:=NB84_720.out
     have hnc51:=NB86_718.out
     obtain ⟨hcz52_0,hcz52_1,hcz52_2,hcz52_3,hcz52_4,hfz52_0,hfz52_1,hfz52_2,hfz52_3,hfz52_4⟩:=zq5 BK84.out
     go_wp2
     go_meet
     case rel=>exact ⟨_,((a0_0.toList == ([80,85,84]:List UInt8))),zb8,H',⟨zb85⟩,⟨zb82⟩,⟨zb15⟩,⟨zb6⟩,⟨zb11⟩,⟨zb5⟩⟩
    case rest =>
     clear HC28
     try clear c1
     try clear c2
     try clear p2
     try clear c3
     try clear c4
     try clear c5
     try clear c6
     try clear p6
     try clear p7
     try clear q7
     try clear hx7
     try clear c9
     try clear c10
     try clear c14
     try clear c14b0
     try clear c15
     try clear c15b0
     try clear c16
     try clear c16b0
     try clear c17
     try clear c19
     try clear c20
     try clear c21
     try clear c26
     try clear c27
     try clear c30
     try clear c31
     try clear c32
     try clear c40
     try clear c44
     try clear c44b0
     try clear c44b1
     try clear c45
     try clear c45b0
     try clear c45b1
     try clear c46
     try clear c47
     try clear c49
     try clear c49b0
     try clear c49b1
     try clear c50
     try clear c51
     try clear c53
     try clear c54
     try clear hcz11_0
     try clear hcz11_1
     try clear hcz11_2
     try clear hcz11_3
     try clear hcz11_4
     try clear hcz11_5
     try clear hcz11_6
     try clear hcz11_7
     try clear hcz13_0
     try clear hcz13_1
     try clear hcz13_2
     try clear hcz13_3
     try clear hcz13_4
     try clear hcz13_5
     try clear hcz13_6
     try clear hcz13_7
     try clear hcz22_0
     try clear hcz22_1
     try clear hcz33_0
     try clear hcz33_1
     try clear hcz33_2
     try clear hcz33_3
     try clear hcz33_4
     try clear hcz41_0
     try clear hcz41_1
     try clear hcz41_2
     try clear hcz41_3
     try clear hcz41_4
     try clear hcz41_5
     try clear hcz41_6
     try clear hcz41_7
     try clear hcz43_0
     try clear hcz43_1
     try clear hcz43_2
     try clear hcz43_3
     try clear hcz43_4
     try clear hcz48_0
     try clear hcz48_1
     try clear hcz48_2
     try clear hcz48_3
     try clear hcz48_4
     try clear hcz52_0
     try clear hcz52_1
     try clear hcz52_2
     try clear hcz52_3
     try clear hcz52_4
     try clear hcz55_0
     try clear hcz55_1
     try clear hcz55_2
     try clear hcz55_3
     try clear hcz55_4
     try clear hfz11_0
     try clear hfz11_1
     try clear hfz11_2
     try clear hfz11_3
     try clear hfz11_4
     try clear hfz11_5
     try clear hfz11_6
     try clear hfz11_7
     try clear hfz13_0
     try clear hfz13_1
     try clear hfz13_2
     try clear hfz13_3
     try clear hfz13_4
     try clear hfz13_5
     try clear hfz13_6
     try clear hfz13_7
     try clear hfz22_0
     try clear hfz22_1
     try clear hfz33_0
     try clear hfz33_1
     try clear hfz33_2
     try clear hfz33_3
     try clear hfz33_4
     try clear hfz41_0
     try clear hfz41_1
     try clear hfz41_2
     try clear hfz41_3
     try clear hfz41_4
     try clear hfz41_5
     try clear hfz41_6
     try clear hfz41_7
     try clear hfz43_0
     try clear hfz43_1
     try clear hfz43_2
     try clear hfz43_3
     try clear hfz43_4
     try clear hfz48_0
     try clear hfz48_1
     try clear hfz48_2
     try clear hfz48_3
     try clear hfz48_4
     try clear hfz52_0
     try clear hfz52_1
     try clear hfz52_2
     try clear hfz52_3
     try clear hfz52_4
     try clear hfz55_0
     try clear hfz55_1
     try clear hfz55_2
     try clear hfz55_3
     try clear hfz55_4
     try clear hx90_0
     try clear hx90_1
     try clear p2
     try clear p90
     try clear q90
     obtain ⟨kq,x42_27,rfl,HA,HJ27,HO_12,BK84,BK87,BK86,HB⟩:=hcut
     cases kq with
     | zero=>exact absurd HA.out (by simp [scrub_Request.j1])
     | succ kj27 =>
      have H:=HA.out
      clear HA
      simp only [scrub_Request.j1] at H
      by_cases c56:x42_27=true;rotate_left
      ·replace c56:=Bool.eq_false_iff.mpr c56
       subst c56
       rw [if_neg (show ¬ (false=true) by decide)] at H
       replace H:=Option.bind_eq_some_iff.mp H
       obtain ⟨t752,A740,H⟩:=H
       try dsimp only at H
       have A74:=Aside0.mk A740
       clear A740
       simp only [Option.some.injEq,Prod.mk.injEq] at H
       obtain ⟨rfl,rfl,rfl,rfl,rfl⟩:=H
       try go_wp2
       replace HO_12:=Aside0.mk (Kd.R_drew HO_12.out)
       replace BK84:=Aside0.mk (blk_drew BK84.out)
       replace BK87:=Aside0.mk (blk_drew BK87.out)
       replace BK86:=Aside0.mk (blk_drew BK86.out)
       replace HB:=Aside0.mk (below_drew1 HB.out)
       refine start_ (n:=9) (S:=fun w' => w'.cell? ⟨gb84,0,none⟩=some (.string a0_0)∧w'.cell? ⟨gb84,1,none⟩=some (.string a0_1)∧w'.cell? ⟨gb84,2,none⟩=some (.int .i64 a0_2)∧w'.cell? ⟨gb84,3,none⟩=some (.slice A0_3 l0_3.length c0_3)∧w'.cell? ⟨gb84,4,none⟩=some (.slice A0_4 l0_4.length c0_4)) (ds:=[]) (zl 9 0) zb9 rfl rfl ⟨(blk_cell BK84.out 0).trans rfl,(blk_cell BK84.out 1).trans rfl,(blk_cell BK84.out 2).trans rfl,(blk_cell BK84.out 3).trans rfl,(blk_cell BK84.out 4).trans rfl⟩ (fun hHeld=>?_);refine with_tabW scrub_Request.tab14 scrub_Request.bits14 (fun HT_ HW_=>?_)
       generalize wc.drew=w75 at HO_12 BK84 BK87 BK86 HB hHeld ⊢
       refine zpu 0 (N:=some 63) (zl 9 1) HT_.out rfl rfl ?_
       refine zpu 2 (N:=some 65) (zl 9 5) HT_.out rfl rfl ?_
       refine zpu 3 (N:=some 66) (zl 9 13) HT_.out rfl rfl ?_
       refine zpu 4 (N:=some 67) (zl 9 29) HT_.out rfl rfl ?_
       refine take_ (i:=1) (N:=some 64) (v:=?_) (a' := ?_) (zl 9 31) rfl rfl (take_ofW HT_.out HW_.out zb9) (fun _ _ _ h=>h) (Or.inl ⟨zb58,?_⟩) hHeld ?_ ?_
       rotate_left
       ·rintro w' ⟨s0,s1,s2,s3,s4⟩;go_simp;with_reducible rfl
       rotate_left
       ·simp only [Act.put,zqA,zqB,zqC,i64_w,i32_w];rfl
       refine take_ (i:=5) (N:=some 68) (v:=?_) (a' := ?_) (zl 9 63) rfl rfl (take_ofW HT_.out HW_.out zb9) (fun _ _ _ h=>h) (Or.inl ⟨zb58,?_⟩) hHeld ?_ ?_
       rotate_left
       ·rintro w' ⟨s0,s1,s2,s3,s4⟩;go_simp;with_reducible rfl
       rotate_left
       ·simp only [Act.put,zqA,zqB,zqC,i64_w,i32_w];rfl
       refine one_ (i:=6) (N:=some 69) (zl 9 127) rfl rfl (one_of HT_.out zb9) zb33 (fun K hK=>?_)
       refine goes_ Tryz.func62 zb9 rfl #[.slice A0_4 l0_4.length c0_4] zb58 rfl rfl zb1 ?_
       with_reducible refine (bytes_Clone.calls _ _ l0_4 t752 _ ?side1 ?side2 A74.out).mono ?_
       (case side1=>exact zb73)
       (case side2=>exact HC0_4.out)
       rintro e w76 ⟨v753,rfl,ho0,hb⟩
       refine ⟨_,rfl,?_⟩
       have n0_:=Aside0.mk (Kd.R_below zb51 hb)
       have n1_:=Aside0.mk (Kd.R_lower ho0 (below_size zb5))
       have n2_:=Aside0.mk (blk_below (g:=gb84) (o:=.cells #[.string a0_0,.string a0_1,.int .i64 a0_2,.slice A0_3 l0_3.length c0_3,.slice A0_4 l0_4.length c0_4] 26 (0,0)) zb15 hb)
       have n3_:=Aside0.mk (blk_below (g:=gb87) (o:=.cells #[.slice A1_0 l1_0.length c1_0,.slice A1_1 l1_1.length c1_1,.slice A1_2 l1_2.length c1_2,.slice A1_3 l1_3.length c1_3,.int .i64 a1_4,.int .i64 a1_5,.int .i64 a1_6,.int .i64 a1_7] 46 (0,0)) zb6 hb)
       have n4_:=Aside0.mk (blk_below (g:=gb86) (o:=.cells #[.string (⟨#[]⟩:ByteArray),.string (⟨#[]⟩:ByteArray),.int .i64 0,.slice none 0 0,.slice none 0 0] 26 (0,0)) zb11 hb)
       have n5_:=Aside0.mk (below_step zb5 hb)
       clear HO_12 BK84 BK87 BK86 HB
       have HO_12:=n0_
       have HO754:=n1_
       have BK84:=n2_
       have BK87:=n3_
       have BK86:=n4_
       have HB:=n5_
       clear n0_ n1_ n2_ n3_ n4_ n5_
       (try clear hb)
       (try clear hb2)
       (try clear hk)
       (try clear hi)
       (try clear ho0)
       obtain ⟨Ao77,co77,eo77⟩:=Kd.R_slice HO754.out
       (first|subst eo77|(injection eo77 with f1_ f2_ f3_;have f4_:=f1_.symm;have f5_:=f3_.symm;clear f1_ f2_ f3_;subst f4_;subst f5_))
       obtain ⟨Ao78,co78,eo78⟩:=Kd.R_slice HO_12.out
       (first|subst eo78|(injection eo78 with f1_ f2_ f3_;have f4_:=f1_.symm;have f5_:=f3_.symm;clear f1_ f2_ f3_;subst f4_;subst f5_))
       refine hK.out _ _ ⟨(blk_cell BK84.out 0).trans rfl,(blk_cell BK84.out 1).trans rfl,(blk_cell BK84.out 2).trans rfl,(blk_cell BK84.out 3).trans rfl,(blk_cell BK84.out 4).trans rfl⟩ (fun hHeld=>?_)
       clear hK K
       refine norm_ (a' := ?_) ?_ ?_
       rotate_left
       ·show Act.put _ (some 69) _=_
        simp only [Act.put,zqA,zqB,zqC,i64_w,i32_w]
        rfl
       refine zpu 7 (N:=some 70) (zl 9 255) HT_.out rfl rfl ?_
       refine one_ (i:=8) (N:=none) (zl 9 511) rfl rfl (one_of HT_.out zb9) zb33 (fun K hK=>?_)
       have hs79:w76.cell? ⟨gb86,0,none⟩=some (.string (⟨#[]⟩:ByteArray)):=(blk_cell BK86.out 0).trans rfl
       have hfs79:=blk_frozen BK86.out 0
       have hns79_0:=NB84_720.out
       have hns79_1:=NB87_720.out
       have hms79_0:=NB86_718.out
       have hms79_1:=NB86_719.out
       have hs80:w76.cell? ⟨gb86,1,none⟩=some (.string (⟨#[]⟩:ByteArray)):=(blk_cell BK86.out 1).trans rfl
       have hfs80:=blk_frozen BK86.out 1
       have hns80_0:=NB84_720.out
       have hns80_1:=NB87_720.out
       have hms80_0:=NB86_718.out
       have hms80_1:=NB86_719.out
       have hs81:w76.cell? ⟨gb86,2,none⟩=some (.int .i64 0):=(blk_cell BK86.out 2).trans rfl
       have hfs81:=blk_frozen BK86.out 2
       have hns81_0:=NB84_720.out
       have hns81_1:=NB87_720.out
       have hms81_0:=NB86_718.out
       have hms81_1:=NB86_719.out
       have hs82:w76.cell? ⟨gb86,3,none⟩=some (.slice none 0 0):=(blk_cell BK86.out 3).trans rfl
       have hfs82:=blk_frozen BK86.out 3
       have hns82_0:=NB84_720.out
       have hns82_1:=NB87_720.out
       have hms82_0:=NB86_718.out
       have hms82_1:=NB86_719.out
       have hs83:w76.cell? ⟨gb86,4,none⟩=some (.slice none 0 0):=(blk_cell BK86.out 4).trans rfl
       have hfs83:=blk_frozen BK86.out 4
       have hns83_0:=NB84_720.out
       have hns83_1:=NB87_720.out
       have hms83_0:=NB86_718.out
       have hms83_1:=NB86_719.out
       refine skip_ (w1:=?_) zb58 rfl ?_ ?_
       rotate_left
       ·go_simp
        rfl
       refine hK.out _ _ ⟨((cell_far (p:=⟨gb86,_,none⟩) NB84_720.out _).trans (((cell_far (p:=⟨gb86,_,none⟩) NB84_720.out _).trans (((cell_far (p:=⟨gb86,_,none⟩) NB84_720.out _).trans (((cell_far (p:=⟨gb86,_,none⟩) NB84_720.out _).trans (((cell_far (p:=⟨gb86,_,none⟩) NB84_720.out _).trans (hHeld.1)))))))))),((cell_far (p:=⟨gb86,_,none⟩) NB84_720.out _).trans (((cell_far (p:=⟨gb86,_,none⟩) NB84_720.out _).trans (((cell_far (p:=⟨gb86,_,none⟩) NB84_720.out _).trans (((cell_far (p:=⟨gb86,_,none⟩) NB84_720.out _).trans (((cell_far (p:=⟨gb86,_,none⟩) NB84_720.out _).trans (hHeld.2.1)))))))))),((cell_far (p:=⟨gb86,_,none⟩) NB84_720.out _).trans (((cell_far (p:=⟨gb86,_,none⟩) NB84_720.out _).trans (((cell_far (p:=⟨gb86,_,none⟩) NB84_720.out _).trans (((cell_far (p:=⟨gb86,_,none⟩) NB84_720.out _).trans (((cell_far (p:=⟨gb86,_,none⟩) NB84_720.out _).trans (hHeld.2.2.1)))))))))),((cell_far (p:=⟨gb86,_,none⟩) NB84_720.out _).trans (((cell_far (p:=⟨gb86,_,none⟩) NB84_720.out _).trans (((cell_far (p:=⟨gb86,_,none⟩) NB84_720.out _).trans (((cell_far (p:=⟨gb86,_,none⟩) NB84_720.out _).trans (((cell_far (p:=⟨gb86,_,none⟩) NB84_720.out _).trans (hHeld.2.2.2.1)))))))))),((cell_far (p:=⟨gb86,_,none⟩) NB84_720.out _).trans (((cell_far (p:=⟨gb86,_,none⟩) NB84_720.out _).trans (((cell_far (p:=⟨gb86,_,none⟩) NB84_720.out _).trans (((cell_far (p:=⟨gb86,_,none⟩) NB84_720.out _).trans (((cell_far (p:=⟨gb86,_,none⟩) NB84_720.out _).trans (hHeld.2.2.2.2))))))))))⟩ (fun hHeld=>?_)
       clear hK K
       refine done_ (done_of HT_.out zb9) ?_
       try go_wp2
       refine bodyPost_ret (results_cell_row rfl _ _ gb86 26 #[.string a0_0,.string a3,.int .i64 1,.slice Ao78 y89.length co78,.slice Ao77 t752.length co77] (0,0) _ rfl (by (with_reducible repeat (first|refine blk_drewN ?_ _|refine blk_drew ?_|refine blk_alloc ?_ _));refine blk_put (cs:=#[.string a0_0,.string a3,.int .i64 1,.slice Ao78 y89.length co78,.slice none 0 0]) ?_ 4 _ rfl;(with_reducible repeat (first|refine blk_drewN ?_ _|refine blk_drew ?_|refine blk_alloc ?_ _));refine blk_put (cs:=#[.string a0_0,.string a3,.int .i64 1,.slice none 0 0,.slice none 0 0]) ?_ 3 _ rfl;(with_reducible repeat (first|refine blk_drewN ?_ _|refine blk_drew ?_|refine blk_alloc ?_ _));refine blk_put (cs:=#[.string a0_0,.string a3,.int .i64 0,.slice none 0 0,.slice none 0 0]) ?_ 2 _ rfl;(with_reducible repeat (first|refine blk_drewN ?_ _|refine blk_drew ?_|refine blk_alloc ?_ _));refine blk_put (cs:=#[.string a0_0,.string (⟨#[]⟩:ByteArray),.int .i64 0,.slice none 0 0,.slice none 0 0]) ?_ 1 _ rfl;(with_reducible repeat (first|refine blk_drewN ?_ _|refine blk_drew ?_|refine blk_alloc ?_ _));refine blk_put (cs:=#[.string (⟨#[]⟩:ByteArray),.string (⟨#[]⟩:ByteArray),.int .i64 0,.slice none 0 0,.slice none 0 0]) ?_ 0 _ rfl;(with_reducible repeat (first|refine blk_drewN ?_ _|refine blk_drew ?_|refine blk_alloc ?_ _));exact BK86.out) Tryz.underlying26 rfl zb9) rfl ?_
       exact ⟨_,_,zb3,by (with_reducible repeat (first|apply Kd.R_alloc|apply Kd.R_drewN|apply Kd.R_drew));exact Kd.R_mono (Kd.R_far (p:=⟨gb86,4,none⟩) (Kd.R_far (p:=⟨gb86,3,none⟩) (Kd.R_far (p:=⟨gb86,2,none⟩) (Kd.R_far (p:=⟨gb86,1,none⟩) (Kd.R_far (p:=⟨gb86,0,none⟩) (Kd.R_types HO_12.out BK86.out (by decide)) (fun _ hk=>hk.2) (.string a0_0)) (fun _ hk=>hk.2) (.string a3)) (fun _ hk=>hk.2) (.int .i64 1)) (fun _ hk=>hk.2) (.slice Ao78 y89.length co78)) (fun _ hk=>hk.2) (.slice Ao77 t752.length co77)) (fun _ hk=>trivial),by (with_reducible repeat (first|apply Kd.R_alloc|apply Kd.R_drewN|apply Kd.R_drew));exact Kd.R_mono (Kd.R_far (p:=⟨gb86,4,none⟩) (Kd.R_far (p:=⟨gb86,3,none⟩) (Kd.R_far (p:=⟨gb86,2,none⟩) (Kd.R_far (p:=⟨gb86,1,none⟩) (Kd.R_far (p:=⟨gb86,0,none⟩) (Kd.R_types HO754.out BK86.out (by decide)) (fun _ hk=>hk.2) (.string a0_0)) (fun _ hk=>hk.2) (.string a3)) (fun _ hk=>hk.2) (.int .i64 1)) (fun _ hk=>hk.2) (.slice Ao78 y89.length co78)) (fun _ hk=>hk.2) (.slice Ao77 t752.length co77)) (fun _ hk=>trivial),zb5⟩
      subst c56
      rw [if_pos rfl] at H
      replace H:=Option.bind_eq_some_iff.mp H
      obtain ⟨⟨t744,t745⟩,A570,H⟩:=H
      try dsimp only at H
      have A57:=Aside0.mk A570
      clear A570
      by_cases c58:y89.length < 4398046511104
      ·rw [if_pos c58] at H
       have LMc58:=Aside0.mk c58
       clear c58
       obtain ⟨y96,hy96⟩ : ∃ y_:List (S36),y_=(y89 ++ [(⟨t744,t745⟩:S36)]):=⟨_,rfl⟩
       replace H:((bytes_Clone.f l0_4).bind fun t97=>(some (a0_0,a3,1,y96,t97)))=some (r1,r2,r3,r4,r5):=by first|(rw [hy96];with_reducible exact H)|(have H2_:=(Option.bind_some _ _).symm.trans H;rw [hy96];with_reducible exact H2_)|(have H2_:=(Option.bind_some _ _).symm.trans H;with_reducible exact H2_)|with_reducible exact H|(rw [hy96];exact H)|exact H
       have Ny96:=Aside0.mk hy96
       clear hy96
       replace H:=Option.bind_eq_some_iff.mp H
       obtain ⟨t97,A590,H⟩:=H
       try dsimp only at H
       have A59:=Aside0.mk A590
       clear A590
       simp only [Option.some.injEq,Prod.mk.injEq] at H
       obtain ⟨rfl,rfl,rfl,rfl,rfl⟩:=H
       have hnb60:=NB84_719.out
       have hnc60:=NB87_718.out
       have hnb61:=NB84_720.out
       have hnc61:=NB86_718.out
       obtain ⟨hcz62_0,hcz62_1,hcz62_2,hcz62_3,hcz62_4,hfz62_0,hfz62_1,hfz62_2,hfz62_3,hfz62_4⟩:=zq5 BK84.out
       try go_wp2_with (first|((with_reducible refine gate_callee (f:=61) rfl ?_);refine goesL_ (some 60) rfl rfl Tryz.func61 zb9 rfl #[.int .i64 (l0_4.length:Int)] rfl zb1 ?_;(with_reducible refine (scrub_length.calls (l0_4.length:Int) t744 t745 _ A57.out ?hT).mono ?_);(case hT=>exact HTB.out.below zb45);rintro e w63 ⟨rfl,hb⟩;(try clear A57);refine ⟨_,rfl,?_⟩;replace HO_12:=Aside0.mk (Kd.R_below zb51 hb);replace BK84:=Aside0.mk (blk_below (g:=gb84) (o:=.cells #[.string a0_0,.string a0_1,.int .i64 a0_2,.slice A0_3 l0_3.length c0_3,.slice A0_4 l0_4.length c0_4] 26 (0,0)) zb15 hb);replace BK87:=Aside0.mk (blk_below (g:=gb87) (o:=.cells #[.slice A1_0 l1_0.length c1_0,.slice A1_1 l1_1.length c1_1,.slice A1_2 l1_2.length c1_2,.slice A1_3 l1_3.length c1_3,.int .i64 a1_4,.int .i64 a1_5,.int .i64 a1_6,.int .i64 a1_7] 46 (0,0)) zb6 hb);replace BK86:=Aside0.mk (blk_below (g:=gb86) (o:=.cells #[.string (⟨#[]⟩:ByteArray),.string (⟨#[]⟩:ByteArray),.int .i64 0,.slice none 0 0,.slice none 0 0] 26 (0,0)) zb11 hb);replace HB:=Aside0.mk (below_step zb5 hb);(try clear hb))|((with_reducible refine gate_builtin (b:=.append) (xs:=#[.tmp 56,.tmp 61]) rfl ?_);at_builtin;refine Kd.R_append k36 (w0:=w) w.heap.size rfl (.tmp 56) (.tmp 61) 24 36 (.agg #[(.string ⟨#[]⟩),(.string ⟨#[]⟩)]) 32 rfl Tryz.underlying24 info36 rfl zb33 zb62 v742 y89 (⟨t744,t745⟩:S36) [.string t744,.string t745] (fun _=>True) (fun _=>False) rfl rfl ?aP (fun _ hk=>hk.elim) ?aF ?aO ?aB ?aS ?aL ?_;(case aP=>exact k36_mkM _ _ _ (⟨t744,t745⟩:S36));(case aB=>exact zb75);(case aF=>exact (fun _ _=>trivial));(case aO=>exact zb51);(case aS=>exact zb70);(case aL=>have:=LMc58.out;omega);intro v747 w64 ho hb hg hat;rw [← Ny96.out] at ho;replace BK84:=Aside0.mk (blk_grown (g:=gb84) (o:=.cells #[.string a0_0,.string a0_1,.int .i64 a0_2,.slice A0_3 l0_3.length c0_3,.slice A0_4 l0_4.length c0_4] 26 (0,0)) zb15 hg (Kd.R_ne HO_12.out BK84.out zb33));replace BK87:=Aside0.mk (blk_grown (g:=gb87) (o:=.cells #[.slice A1_0 l1_0.length c1_0,.slice A1_1 l1_1.length c1_1,.slice A1_2 l1_2.length c1_2,.slice A1_3 l1_3.length c1_3,.int .i64 a1_4,.int .i64 a1_5,.int .i64 a1_6,.int .i64 a1_7] 46 (0,0)) zb6 hg (Kd.R_ne HO_12.out BK87.out zb33));replace BK86:=Aside0.mk (blk_grown (g:=gb86) (o:=.cells #[.string (⟨#[]⟩:ByteArray),.string (⟨#[]⟩:ByteArray),.int .i64 0,.slice none 0 0,.slice none 0 0] 26 (0,0)) zb11 hg (Kd.R_ne HO_12.out BK86.out zb33));replace HB:=Aside0.mk (hb);have HO748:=Aside0.mk (ho);clear ho hb hg hat))
       replace HO748:=Aside0.mk (Kd.R_drew HO748.out)
       replace BK84:=Aside0.mk (blk_drew BK84.out)
       replace BK87:=Aside0.mk (blk_drew BK87.out)
       replace BK86:=Aside0.mk (blk_drew BK86.out)
       replace HB:=Aside0.mk (below_drew1 HB.out)
       refine start_ (n:=9) (S:=fun w' => w'.cell? ⟨gb84,0,none⟩=some (.string a0_0)∧w'.cell? ⟨gb84,1,none⟩=some (.string a0_1)∧w'.cell? ⟨gb84,2,none⟩=some (.int .i64 a0_2)∧w'.cell? ⟨gb84,3,none⟩=some (.slice A0_3 l0_3.length c0_3)∧w'.cell? ⟨gb84,4,none⟩=some (.slice A0_4 l0_4.length c0_4)) (ds:=[]) (zl 9 0) zb9 rfl rfl ⟨(blk_cell BK84.out 0).trans rfl,(blk_cell BK84.out 1).trans rfl,(blk_cell BK84.out 2).trans rfl,(blk_cell BK84.out 3).trans rfl,(blk_cell BK84.out 4).trans rfl⟩ (fun hHeld=>?_);refine with_tabW scrub_Request.tab14 scrub_Request.bits14 (fun HT_ HW_=>?_)
       generalize w64.drew=w65 at HO748 BK84 BK87 BK86 HB hHeld ⊢
       refine zpu 0 (N:=some 63) (zl 9 1) HT_.out rfl rfl ?_
       refine zpu 2 (N:=some 65) (zl 9 5) HT_.out rfl rfl ?_
       refine zpu 3 (N:=some 66) (zl 9 13) HT_.out rfl rfl ?_
       refine zpu 4 (N:=some 67) (zl 9 29) HT_.out rfl rfl ?_
       refine take_ (i:=1) (N:=some 64) (v:=?_) (a' := ?_) (zl 9 31) rfl rfl (take_ofW HT_.out HW_.out zb9) (fun _ _ _ h=>h) (Or.inl ⟨zb58,?_⟩) hHeld ?_ ?_
       rotate_left
       ·rintro w' ⟨s0,s1,s2,s3,s4⟩;go_simp;with_reducible rfl
       rotate_left
       ·simp only [Act.put,zqA,zqB,zqC,i64_w,i32_w];rfl
       refine take_ (i:=5) (N:=some 68) (v:=?_) (a' := ?_) (zl 9 63) rfl rfl (take_ofW HT_.out HW_.out zb9) (fun _ _ _ h=>h) (Or.inl ⟨zb58,?_⟩) hHeld ?_ ?_
       rotate_left
       ·rintro w' ⟨s0,s1,s2,s3,s4⟩;go_simp;with_reducible rfl
       rotate_left
       ·simp only [Act.put,zqA,zqB,zqC,i64_w,i32_w];rfl
       refine one_ (i:=6) (N:=some 69) (zl 9 127) rfl rfl (one_of HT_.out zb9) zb33 (fun K hK=>?_)
       refine goes_ Tryz.func62 zb9 rfl #[.slice A0_4 l0_4.length c0_4] zb58 rfl rfl zb1 ?_
       with_reducible refine (bytes_Clone.calls _ _ l0_4 t97 _ ?side1 ?side2 A59.out).mono ?_
       (case side1=>exact zb73)
       (case side2=>exact HC0_4.out)
       rintro e w66 ⟨v750,rfl,ho0,hb⟩
       refine ⟨_,rfl,?_⟩
       have n0_:=Aside0.mk (Kd.R_below (by (with_reducible repeat (first|apply Kd.R_alloc|apply Kd.R_drewN|apply Kd.R_drew));exact HO748.out) hb)
       have n1_:=Aside0.mk (Kd.R_lower ho0 (below_size zb5))
       have n2_:=Aside0.mk (blk_below (g:=gb84) (o:=.cells #[.string a0_0,.string a0_1,.int .i64 a0_2,.slice A0_3 l0_3.length c0_3,.slice A0_4 l0_4.length c0_4] 26 (0,0)) zb15 hb)
       have n3_:=Aside0.mk (blk_below (g:=gb87) (o:=.cells #[.slice A1_0 l1_0.length c1_0,.slice A1_1 l1_1.length c1_1,.slice A1_2 l1_2.length c1_2,.slice A1_3 l1_3.length c1_3,.int .i64 a1_4,.int .i64 a1_5,.int .i64 a1_6,.int .i64 a1_7] 46 (0,0)) zb6 hb)
       have n4_:=Aside0.mk (blk_below (g:=gb86) (o:=.cells #[.string (⟨#[]⟩:ByteArray),.string (⟨#[]⟩:ByteArray),.int .i64 0,.slice none 0 0,.slice none 0 0] 26 (0,0)) zb11 hb)
       have n5_:=Aside0.mk (below_step zb5 hb)
       clear HO748 BK84 BK87 BK86 HB
       have HO748:=n0_
       have HO751:=n1_
       have BK84:=n2_
       have BK87:=n3_
       have BK86:=n4_
       have HB:=n5_
       clear n0_ n1_ n2_ n3_ n4_ n5_
       (try clear hb)
       (try clear hb2)
       (try clear hk)
       (try clear hi)
       (try clear ho0)
       obtain ⟨Ao67,co67,eo67⟩:=Kd.R_slice HO751.out
       (first|subst eo67|(injection eo67 with f1_ f2_ f3_;have f4_:=f1_.symm;have f5_:=f3_.symm;clear f1_ f2_ f3_;subst f4_;subst f5_))
       obtain ⟨Ao68,co68,eo68⟩:=Kd.R_slice HO748.out
       (first|subst eo68|(injection eo68 with f1_ f2_ f3_;have f4_:=f1_.symm;have f5_:=f3_.symm;clear f1_ f2_ f3_;subst f4_;subst f5_))
       refine hK.out _ _ ⟨(blk_cell BK84.out 0).trans rfl,(blk_cell BK84.out 1).trans rfl,(blk_cell BK84.out 2).trans rfl,(blk_cell BK84.out 3).trans rfl,(blk_cell BK84.out 4).trans rfl⟩ (fun hHeld=>?_)
       clear hK K
       refine norm_ (a' := ?_) ?_ ?_
       rotate_left
       ·show Act.put _ (some 69) _=_
        simp only [Act.put,zqA,zqB,zqC,i64_w,i32_w]
        rfl
       refine zpu 7 (N:=some 70) (zl 9 255) HT_.out rfl rfl ?_
       refine one_ (i:=8) (N:=none) (zl 9 511) rfl rfl (one_of HT_.out zb9) zb33 (fun K hK=>?_)
       have hs69:w66.cell? ⟨gb86,0,none⟩=some (.string (⟨#[]⟩:ByteArray)):=(blk_cell BK86.out 0).trans rfl
       have hfs69:=blk_frozen BK86.out 0
       have hns69_0:=NB84_720.out
       have hns69_1:=NB87_720.out
       have hms69_0:=NB86_718.out
       have hms69_1:=NB86_719.out
       have hs70:w66.cell? ⟨gb86,1,none⟩=some (.string (⟨#[]⟩:ByteArray)):=(blk_cell BK86.out 1).trans rfl
       have hfs70:=blk_frozen BK86.out 1
       have hns70_0:=NB84_720.out
       have hns70_1:=NB87_720.out
       have hms70_0:=NB86_718.out
       have hms70_1:=NB86_719.out
       have hs71:w66.cell? ⟨gb86,2,none⟩=some (.int .i64 0):=(blk_cell BK86.out 2).trans rfl
       have hfs71:=blk_frozen BK86.out 2
       have hns71_0:=NB84_720.out
       have hns71_1:=NB87_720.out
       have hms71_0:=NB86_718.out
       have hms71_1:=NB86_719.out
       have hs72:w66.cell? ⟨gb86,3,none⟩=some (.slice none 0 0):=(blk_cell BK86.out 3).trans rfl
       have hfs72:=blk_frozen BK86.out 3
       have hns72_0:=NB84_720.out
       have hns72_1:=NB87_720.out
       have hms72_0:=NB86_718.out
       have hms72_1:=NB86_719.out
       have hs73:w66.cell? ⟨gb86,4,none⟩=some (.slice none 0 0):=(blk_cell BK86.out 4).trans rfl
       have hfs73:=blk_frozen BK86.out 4
       have hns73_0:=NB84_720.out
       have hns73_1:=NB87_720.out
       have hms73_0:=NB86_718.out
       have hms73_1:=NB86_719.out
       refine skip_ (w1:=?_) zb58 rfl ?_ ?_
       rotate_left
       ·go_simp
        rfl
       refine hK.out _ _ ⟨((cell_far (p:=⟨gb86,_,none⟩) NB84_720.out _).trans (((cell_far (p:=⟨gb86,_,none⟩) NB84_720.out _).trans (((cell_far (p:=⟨gb86,_,none⟩) NB84_720.out _).trans (((cell_far (p:=⟨gb86,_,none⟩) NB84_720.out _).trans (((cell_far (p:=⟨gb86,_,none⟩) NB84_720.out _).trans (hHeld.1)))))))))),((cell_far (p:=⟨gb86,_,none⟩) NB84_720.out _).trans (((cell_far (p:=⟨gb86,_,none⟩) NB84_720.out _).trans (((cell_far (p:=⟨gb86,_,none⟩) NB84_720.out _).trans (((cell_far (p:=⟨gb86,_,none⟩) NB84_720.out _).trans (((cell_far (p:=⟨gb86,_,none⟩) NB84_720.out _).trans (hHeld.2.1)))))))))),((cell_far (p:=⟨gb86,_,none⟩) NB84_720.out _).trans (((cell_far (p:=⟨gb86,_,none⟩) NB84_720.out _).trans (((cell_far (p:=⟨gb86,_,none⟩) NB84_720.out _).trans (((cell_far (p:=⟨gb86,_,none⟩) NB84_720.out _).trans (((cell_far (p:=⟨gb86,_,none⟩) NB84_720.out _).trans (hHeld.2.2.1)))))))))),((cell_far (p:=⟨gb86,_,none⟩) NB84_720.out _).trans (((cell_far (p:=⟨gb86,_,none⟩) NB84_720.out _).trans (((cell_far (p:=⟨gb86,_,none⟩) NB84_720.out _).trans (((cell_far (p:=⟨gb86,_,none⟩) NB84_720.out _).trans (((cell_far (p:=⟨gb86,_,none⟩) NB84_720.out _).trans (hHeld.2.2.2.1)))))))))),((cell_far (p:=⟨gb86,_,none⟩) NB84_720.out _).trans (((cell_far (p:=⟨gb86,_,none⟩) NB84_720.out _).trans (((cell_far (p:=⟨gb86,_,none⟩) NB84_720.out _).trans (((cell_far (p:=⟨gb86,_,none⟩) NB84_720.out _).trans (((cell_far (p:=⟨gb86,_,none⟩) NB84_720.out _).trans (hHeld.2.2.2.2))))))))))⟩ (fun hHeld=>?_)
       clear hK K
       refine done_ (done_of HT_.out zb9) ?_
       try go_wp2
       refine bodyPost_ret (results_cell_row rfl _ _ gb86 26 #[.string a0_0,.string a3,.int .i64 1,.slice Ao68 y96.length co68,.slice Ao67 t97.length co67] (0,0) _ rfl (by (with_reducible repeat (first|refine blk_drewN ?_ _|refine blk_drew ?_|refine blk_alloc ?_ _));refine blk_put (cs:=#[.string a0_0,.string a3,.int .i64 1,.slice Ao68 y96.length co68,.slice none 0 0]) ?_ 4 _ rfl;(with_reducible repeat (first|refine blk_drewN ?_ _|refine blk_drew ?_|refine blk_alloc ?_ _));refine blk_put (cs:=#[.string a0_0,.string a3,.int .i64 1,.slice none 0 0,.slice none 0 0]) ?_ 3 _ rfl;(with_reducible repeat (first|refine blk_drewN ?_ _|refine blk_drew ?_|refine blk_alloc ?_ _));refine blk_put (cs:=#[.string a0_0,.string a3,.int .i64 0,.slice none 0 0,.slice none 0 0]) ?_ 2 _ rfl;(with_reducible repeat (first|refine blk_drewN ?_ _|refine blk_drew ?_|refine blk_alloc ?_ _));refine blk_put (cs:=#[.string a0_0,.string (⟨#[]⟩:ByteArray),.int .i64 0,.slice none 0 0,.slice none 0 0]) ?_ 1 _ rfl;(with_reducible repeat (first|refine blk_drewN ?_ _|refine blk_drew ?_|refine blk_alloc ?_ _));refine blk_put (cs:=#[.string (⟨#[]⟩:ByteArray),.string (⟨#[]⟩:ByteArray),.int .i64 0,.slice none 0 0,.slice none 0 0]) ?_ 0 _ rfl;(with_reducible repeat (first|refine blk_drewN ?_ _|refine blk_drew ?_|refine blk_alloc ?_ _));exact BK86.out) Tryz.underlying26 rfl zb9) rfl ?_
       exact ⟨_,_,zb3,by (with_reducible repeat (first|apply Kd.R_alloc|apply Kd.R_drewN|apply Kd.R_drew));exact Kd.R_mono (Kd.R_far (p:=⟨gb86,4,none⟩) (Kd.R_far (p:=⟨gb86,3,none⟩) (Kd.R_far (p:=⟨gb86,2,none⟩) (Kd.R_far (p:=⟨gb86,1,none⟩) (Kd.R_far (p:=⟨gb86,0,none⟩) (Kd.R_types HO748.out BK86.out (by decide)) (fun _ hk=>hk.2) (.string a0_0)) (fun _ hk=>hk.2) (.string a3)) (fun _ hk=>hk.2) (.int .i64 1)) (fun _ hk=>hk.2) (.slice Ao68 y96.length co68)) (fun _ hk=>hk.2) (.slice Ao67 t97.length co67)) (fun _ hk=>trivial),by (with_reducible repeat (first|apply Kd.R_alloc|apply Kd.R_drewN|apply Kd.R_drew));exact Kd.R_mono (Kd.R_far (p:=⟨gb86,4,none⟩) (Kd.R_far (p:=⟨gb86,3,none⟩) (Kd.R_far (p:=⟨gb86,2,none⟩) (Kd.R_far (p:=⟨gb86,1,none⟩) (Kd.R_far (p:=⟨gb86,0,none⟩) (Kd.R_types HO751.out BK86.out (by decide)) (fun _ hk=>hk.2) (.string a0_0)) (fun _ hk=>hk.2) (.string a3)) (fun _ hk=>hk.2) (.int .i64 1)) (fun _ hk=>hk.2) (.slice Ao68 y96.length co68)) (fun _ hk=>hk.2) (.slice Ao67 t97.length co67)) (fun _ hk=>trivial),zb5⟩
      ·rw [if_neg c58] at H
       exact absurd H zb55
   ·rw [if_neg c27] at H
    exact absurd H zb55
end Go.Proofs.YtagffbblalldiaaGreatDoor.P
namespace Go.Proofs.YtagffbblalldiaaGreatDoor.P
open Go.RowKit Go.Proofs.YtagffbblalldiaaGreatDoorW.PrintWords Go.Proofs.YtagffbblalldiaaGreatDoorW.PrintLast Go.Proofs.YtagffbblalldiaaGreatDoorW.PrintMore
attribute [local go_sem] max2_int min2_int max_two min_two max_three min_three max_four min_four   -- for this text's walks alone
set_option linter.unusedVariables false
set_option linter.unusedSimpArgs false
section
variable {P : Program}
variable {ops : Array Oper} {rest : List Oper} {o : Oper} {a : Act} {Q : Exit → Act → World → Prop}
end
end Go.Proofs.YtagffbblalldiaaGreatDoor.P
namespace Go.Proofs.YtagffbblalldiaaGreatDoor.P
open Go.RowKit Go.Proofs.YtagffbblalldiaaGreatDoorW.PrintWords Go.Proofs.YtagffbblalldiaaGreatDoorW.PrintLast Go.Proofs.YtagffbblalldiaaGreatDoorW.PrintMore
attribute [local go_sem] max2_int min2_int max_two min_two max_three min_three max_four min_four
set_option linter.unusedVariables false
set_option linter.unusedSimpArgs false
end Go.Proofs.YtagffbblalldiaaGreatDoor.P
