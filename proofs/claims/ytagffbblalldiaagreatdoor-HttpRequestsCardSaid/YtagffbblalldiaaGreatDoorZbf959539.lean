/- Each function below answers as its Lean twin says; plain lemmas; a row where its theorem stands. No further condition. (Laid by this repo's pack.py out of its texts and of the print's words.) -/
import Derived.Test.YtagffbblalldiaaGreatDoorZ8a043510
import Derived.Deep.RegionHeld3
import Derived.Shelf.Abstract
import Derived.Lib.LaidTab
import Derived.Lib.ItoaNum
import Derived.Lib.TrailingZeros
set_option maxRecDepth 100000
set_option maxHeartbeats 16000000
namespace Go.Proofs.YtagffbblalldiaaGreatDoor.P
open Go.RowKit Go.Proofs.YtagffbblalldiaaGreatDoorW.PrintWords Go.Proofs.YtagffbblalldiaaGreatDoorW.PrintLast Go.Proofs.YtagffbblalldiaaGreatDoorW.PrintMore
attribute [local go_sem] max2_int min2_int max_two min_two max_three min_three max_four min_four
set_option linter.unusedVariables false
set_option linter.unusedSimpArgs false
def line_target.f (a0:ByteArray) (a1:ByteArray):Option (Bool):=(sign_Target.f a1).bind fun t146=>(if t146=true then (if 0 < (a1.size:Int) then (if (bt a1 0)=47 then (some true) else (if a1.toList=([42]:List UInt8) then (some (a0.toList == ([79,80,84,73,79,78,83]:List UInt8))) else (some false))) else (none)) else (some false))
theorem line_target.calls (a0:ByteArray) (a1:ByteArray) (r:Bool) (w:World) (h:line_target.f a0 a1=some r) :
 Calls Tryz.prog 118 #[.string a0,.string a1] w fun e w' => e = .returned (.bool r)∧Drawn0 w w' := by
 unfold line_target.f at h
 have H:=h
 clear h
 replace H:=Option.bind_eq_some_iff.mp H
 obtain ⟨t146,A30,H⟩:=H
 try dsimp only at H
 have A3:=Aside0.mk A30
 clear A30
 by_cases c4:t146=true;rotate_left
 ·replace c4:=Bool.eq_false_iff.mpr c4
  subst c4
  rw [if_neg zf] at H
  obtain rfl:=Option.some.inj H
  go_enter Tryz.func118,Tryz.ntmps118
  go_wp2_with (first|((with_reducible refine gate_callee (f:=149) rfl ?_);refine goesL_ (some 6) rfl rfl Tryz.func149 zb7 rfl #[.string a1] rfl zb2 ?_;(with_reducible refine (sign_Target.calls a1 false _ A3.out).mono ?_);rintro e w' ⟨rfl,⟨nd,rfl⟩⟩;(try clear A3);refine ⟨_,rfl,?_⟩))
  go_ret
  exact ⟨zb4,zb5⟩
 subst c4
 rw [if_pos rfl] at H
 by_cases c5:0 < (a1.size:Int)
 ·rw [if_pos c5] at H
  have c5b0:=decide_eq_true c5
  have c5b1:decide (0 < a1.size)=true:=decide_eq_true zb10
  clear c5
  by_cases c7:(bt a1 0)=47
  ·rw [if_pos c7] at H
   have c7b0:=beq_iff_eq.mpr c7
   have c7b1:=bne_eq_false_iff_eq.mpr c7
   clear c7
   obtain rfl:=Option.some.inj H
   go_enter Tryz.func118,Tryz.ntmps118
   go_wp2_with (first|((with_reducible refine gate_callee (f:=149) rfl ?_);refine goesL_ (some 6) rfl rfl Tryz.func149 zb7 rfl #[.string a1] rfl zb2 ?_;(with_reducible refine (sign_Target.calls a1 true _ A3.out).mono ?_);rintro e w' ⟨rfl,⟨nd,rfl⟩⟩;(try clear A3);refine ⟨_,rfl,?_⟩;have p6:0 ≤ (0:Int):=zb10;have q6:0 < a1.size:=(zN (n:=0) zb1);have hx6 : ∀ h:0 < a1.size,((a1[0]'h).toNat:Int)=bt a1 0:=bt_at a1 0;clear p6;have qi6:(0 < (a1.size:Int))=True:=eq_true (of_decide_eq_true zb1);replace q6:=eq_true q6))
   go_ret
   exact ⟨zb4,zb5⟩
  rw [if_neg c7] at H
  have c7b0:=beq_eq_false_iff_ne.mpr c7
  have c7b1:=bne_iff_ne.mpr c7
  by_cases c8:a1.toList=([42]:List UInt8);rotate_left
  ·rw [if_neg c8] at H
   have c8b0:=beq_eq_false_iff_ne.mpr c8
   have c8b1:=bne_iff_ne.mpr c8
   obtain rfl:=Option.some.inj H
   go_enter Tryz.func118,Tryz.ntmps118
   go_wp2_with (first|((with_reducible refine gate_callee (f:=149) rfl ?_);refine goesL_ (some 6) rfl rfl Tryz.func149 zb7 rfl #[.string a1] rfl zb2 ?_;(with_reducible refine (sign_Target.calls a1 true _ A3.out).mono ?_);rintro e w' ⟨rfl,⟨nd,rfl⟩⟩;(try clear A3);refine ⟨_,rfl,?_⟩;have p6:0 ≤ (0:Int):=zb10;have q6:0 < a1.size:=(zN (n:=0) zb1);have hx6 : ∀ h:0 < a1.size,((a1[0]'h).toNat:Int)=bt a1 0:=bt_at a1 0;clear p6;have qi6:(0 < (a1.size:Int))=True:=eq_true (of_decide_eq_true zb1);replace q6:=eq_true q6))
   go_ret
   exact ⟨zb4,zb5⟩
  rw [if_pos c8] at H
  have c8b0:=beq_iff_eq.mpr c8
  have c8b1:=bne_eq_false_iff_eq.mpr c8
  clear c8
  obtain rfl:=Option.some.inj H
  go_enter Tryz.func118,Tryz.ntmps118
  go_wp2_with (first|((with_reducible refine gate_callee (f:=149) rfl ?_);refine goesL_ (some 6) rfl rfl Tryz.func149 zb7 rfl #[.string a1] rfl zb2 ?_;(with_reducible refine (sign_Target.calls a1 true _ A3.out).mono ?_);rintro e w' ⟨rfl,⟨nd,rfl⟩⟩;(try clear A3);refine ⟨_,rfl,?_⟩;have p6:0 ≤ (0:Int):=zb10;have q6:0 < a1.size:=(zN (n:=0) zb1);have hx6 : ∀ h:0 < a1.size,((a1[0]'h).toNat:Int)=bt a1 0:=bt_at a1 0;clear p6;have qi6:(0 < (a1.size:Int))=True:=eq_true (of_decide_eq_true zb1);replace q6:=eq_true q6))
  go_ret
  exact ⟨zb4,zb5⟩
 ·rw [if_neg c5] at H
  exact absurd H zb24
def line_Request.j0:Nat → List ByteArray → Bool → Option (ByteArray × ByteArray × Int × (List (S36)) × List Int × Int)
 | 0,_,_=>none
 | k + 1,x4,x35=>if x35=true then (some ((⟨#[]⟩:ByteArray),(⟨#[]⟩:ByteArray),0,([]:List (S36)),([]:List Int),400)) else (if 2 < (x4.length:Int) then ((line_minor.f (rdOf ByteArray.empty x4 2)).bind fun bt162=>(if 1 < (x4.length:Int) then (if ((rdOf ByteArray.empty x4 1).size:Int) > 512 then (some ((⟨#[]⟩:ByteArray),(⟨#[]⟩:ByteArray),0,([]:List (S36)),([]:List Int),414)) else ((line_numbered.f (rdOf ByteArray.empty x4 2)).bind fun t166=>(if t166=true then (if bt162.2=true then (if 0 < (x4.length:Int) then (some (rdOf ByteArray.empty x4 0,rdOf ByteArray.empty x4 1,bt162.1,([]:List (S36)),([]:List Int),0)) else (none)) else (some ((⟨#[]⟩:ByteArray),(⟨#[]⟩:ByteArray),0,([]:List (S36)),([]:List Int),505))) else (some ((⟨#[]⟩:ByteArray),(⟨#[]⟩:ByteArray),0,([]:List (S36)),([]:List Int),400))))) else (none))) else (none))
def line_Request.f (k:Nat) (a0:ByteArray):Option (ByteArray × ByteArray × Int × (List (S36)) × List Int × Int):=(strings_Split.f k a0 (⟨#[32]⟩:ByteArray)).bind fun t152=>(if (t152.length:Int)=3 then (if 0 < (t152.length:Int) then (if ((rdOf ByteArray.empty t152 0).size:Int) > 20 then (line_Request.j0 k t152 true) else ((sign_Token.f (rdOf ByteArray.empty t152 0)).bind fun t157=>(if t157=true then (if 1 < (t152.length:Int) then ((line_target.f (rdOf ByteArray.empty t152 0) (rdOf ByteArray.empty t152 1)).bind fun t160=>(line_Request.j0 k t152 (!t160))) else (none)) else (line_Request.j0 k t152 true)))) else (none)) else (line_Request.j0 k t152 true))
theorem line_Request.mono_l : ∀ k,(∀ y0 y1,LeO (line_Request.j0 k y0 y1) (line_Request.j0 (k + 1) y0 y1))
 | 0=>fun _ _ r h=>by simp [line_Request.j0] at h
 | k + 1=>by
  have ih0:=line_Request.mono_l k
  ·intro y0 y1
   unfold line_Request.j0
   repeat' first
   | (with_reducible exact ih0 _ _)
   | (with_reducible exact strings_Split.mono _ _ _)
   | (with_reducible exact LeO.refl _)
   | (with_reducible exact LeO.none _)
   | (with_reducible refine LeO.ite ?_ ?_)
   | (with_reducible refine LeO.bind ?_ (fun _=>?_))
   | exact ih0 _ _
   | exact strings_Split.mono _ _ _
   | exact LeO.none _
   | refine LeO.ite ?_ ?_
   | refine LeO.bind ?_ (fun _=>?_)
theorem line_Request.mono : ∀ a0 k,LeO (line_Request.f k a0) (line_Request.f (k + 1) a0):=by
 intro a0 k
 have ih0:=line_Request.mono_l k
 unfold line_Request.f
 repeat' first
  | (with_reducible exact ih0 _ _)
  | (with_reducible exact strings_Split.mono _ _ _)
  | (with_reducible exact LeO.refl _)
  | (with_reducible exact LeO.none _)
  | (with_reducible refine LeO.ite ?_ ?_)
  | (with_reducible refine LeO.bind ?_ (fun _=>?_))
  | exact ih0 _ _
  | exact strings_Split.mono _ _ _
  | exact LeO.none _
  | refine LeO.ite ?_ ?_
  | refine LeO.bind ?_ (fun _=>?_)
def line_Request.T2:Bool × List (List Nat × List Nat):=(true,[([],[]),([0],[0]),([1],[1]),([2],[2]),([3],[3]),([4,3],[3,4]),([5,3],[3,5]),([6,3],[3,6]),([7,3],[3,7]),([3,8],[3,8]),([9,3],[9]),([10],[10]),([11,10],[10,11]),([12,10],[10,12]),([13,10,10],[10,13]),([14,10],[10,14]),([10,15],[10,15]),([16,14],[16]),([17],[17]),([18,17],[17,18]),([19,17],[17,19]),([17],[17]),([21,17],[17,21]),([22,17],[17,22]),([20,23,17,17],[17,20,23]),([24,17],[17,24]),([17,25],[17,25])])
def line_Request.B2:List Nat:=[0,1,3,7,15,31,63,127,255,511,1023,2047,4095,8191,16383,32767,65535,131071,262143,524287,1048575,262143,2359295,6553599,16777215,33554431,67108863]
theorem line_Request.tab2:rtab .any (opsOf Tryz.f76 2)=line_Request.T2:=by kernel_rfl
theorem line_Request.bits2:waitsOk line_Request.T2.2 line_Request.B2=true:=by kernel_rfl
def line_Request.T11:Bool × List (List Nat × List Nat):=(true,[([],[]),([0],[0]),([1],[1]),([],[]),([3],[3]),([4],[4]),([],[]),([2,5,6],[2,5,6]),([7,0,1,2,3,4,5,6,7],[7]),([8,0,1,2,3,4,5,6,7,8],[])])
def line_Request.B11:List Nat:=[0,1,3,0,8,24,0,127,255,511]
theorem line_Request.tab11:rtab .any (opsOf Tryz.f76 11)=line_Request.T11:=by kernel_rfl
theorem line_Request.bits11:waitsOk line_Request.T11.2 line_Request.B11=true:=by kernel_rfl
theorem line_Request.calls (k:Nat) (a0:ByteArray) (r1:ByteArray) (r2:ByteArray) (r3:Int) (r4:List (S36)) (r5:List Int) (r6:Int) (w:World) (h:line_Request.f k a0=some (r1,r2,r3,r4,r5,r6)) :
 Calls Tryz.prog 76 #[.string a0] w fun e w' => ∃ v3_ v4_:Value,e = .returned (.tuple #[.agg #[.string r1,.string r2,.int .i64 r3,v3_,v4_],.int .i64 r6])∧Kd.R k36 36 w' w.heap.size (fun _=>True) v3_ r4∧Kd.R (Kd.int .u8) 5 w' w.heap.size (fun _=>True) v4_ r5∧Below w.heap.size w w' := by
 have hu26:=Tryz.underlying26
 have HB:=zB w
 unfold line_Request.f at h
 have H:=h
 clear h
 replace H:=Option.bind_eq_some_iff.mp H
 obtain ⟨t45,A20,H⟩:=H
 try dsimp only at H
 have A2:=Aside0.mk A20
 clear A20
 have HC3:=Aside0.mk H
 clear H
 go_enter Tryz.func76,Tryz.ntmps76
 go_upto_region 2 with (first|((with_reducible refine gate_dst (N:=2) rfl ?_);(try (refine gate_guard zb49 ?_;dsimp only));refine box_event rfl (N:=2) rfl (cs:=#[.string (⟨#[]⟩:ByteArray),.string (⟨#[]⟩:ByteArray),.int .i64 0,.slice none 0 0,.slice none 0 0]) (t:=26) zS ?_;intro gb44 hg w4 hbox hb;have GW44:=zG hg zb0;have GE44:=GW44;have BK44:=Aside0.mk hbox;replace HB:=Aside0.mk (below_step zb0 hb);clear hb hbox hg)|((with_reducible refine gate_callee (f:=116) rfl ?_);refine goesL_ (some 8) rfl rfl Tryz.func116 zb7 rfl #[.string a0,.string (⟨#[32]⟩:ByteArray)] rfl zb2 ?_;(with_reducible refine (strings_Split.calls k a0 (⟨#[32]⟩:ByteArray) t45 _ A2.out).mono ?_);rintro e w5 ⟨v66,rfl,ho0,hb⟩;refine ⟨_,rfl,?_⟩;have HO51:=Aside0.mk (Kd.R_lower ho0 (below_size zb33));replace BK44:=Aside0.mk (blk_below (g:=gb44) (o:=.cells #[.string (⟨#[]⟩:ByteArray),.string (⟨#[]⟩:ByteArray),.int .i64 0,.slice none 0 0,.slice none 0 0] 26 (0,0)) zb87 hb);replace HB:=Aside0.mk (below_step zb33 hb);try clear hb ho0))
 (try simp only [Act.put,zqA,zqB,zqC])
 go_cut [35] (fun v35 wc => ∃ (kq:Nat) (x35_2:Bool),v35 = .bool x35_2∧Aside0 (line_Request.j0 kq t45 x35_2=some (r1,r2,r3,r4,r5,r6))∧Aside0 (kq ≤ k)∧Aside0 (Kd.R Kd.string 9 wc w.heap.size (fun _=>True) v66 t45)∧Aside0 (wc.heap[gb44]? = some (.cells #[.string (⟨#[]⟩:ByteArray),.string (⟨#[]⟩:ByteArray),.int .i64 0,(.slice none 0 0),(.slice none 0 0)] 26 (0,0)))∧Aside0 (Below w.heap.size w wc))
 case first =>
  have H:=HC3.out
  clear HC3
  by_cases c6:(t45.length:Int)=3;rotate_left
  ·rw [if_neg c6] at H
   have c6b0:=beq_eq_false_iff_ne.mpr c6
   have c6b1:=bne_iff_ne.mpr c6
   (first|rw [c6b0]|(simp only [i64_w,i32_w];rw [c6b0])|rw [c6b1]|skip)
   have H' := Aside0.mk H
   clear H
   try go_wp2
   replace HO51:=Aside0.mk (Kd.R_drew HO51.out)
   replace BK44:=Aside0.mk (blk_drew BK44.out)
   replace HB:=Aside0.mk (below_drew1 HB.out)
   obtain ⟨Ao20,co20,eo20⟩:=Kd.R_slice HO51.out
   (first|subst eo20|(injection eo20 with f1_ f2_ f3_;have f4_:=f1_.symm;have f5_:=f3_.symm;clear f1_ f2_ f3_;subst f4_;subst f5_))
   refine start_ (n:=27) (S:=fun w' => True) (ds:=[]) (zl 27 0) zb7 rfl rfl trivial (fun hHeld=>?_);refine with_tabW line_Request.tab2 line_Request.bits2 (fun HT_ HW_=>?_)
   generalize w5.drew=w19 at HO51 BK44 HB hHeld ⊢
   refine zpu 0 (N:=some 9) (zl 27 1) HT_.out rfl rfl ?_
   refine zpu 1 (N:=some 10) (zl 27 3) HT_.out rfl rfl ?_
   refine zpu 2 (N:=some 11) (zl 27 7) HT_.out rfl rfl ?_
   refine zpu 3 (N:=some 12) (zl 27 15) HT_.out rfl rfl ?_
   refine pure_ (i:=4) (N:=some 13) (v:=undef) (a' := ?_) (zl 27 31) rfl rfl (any_of HT_.out zb7) (fun _ _ _ h=>h) (Or.inr ⟨zb49,rfl⟩) ?_ ?_
   rotate_left
   ·simp only [Act.put,zqA,zqB,zqC,i64_w,i32_w];rfl
   refine pure_ (i:=5) (N:=some 14) (v:=undef) (a' := ?_) (zl 27 63) rfl rfl (any_of HT_.out zb7) (fun _ _ _ h=>h) (Or.inr ⟨zb49,rfl⟩) ?_ ?_
   rotate_left
   ·simp only [Act.put,zqA,zqB,zqC,i64_w,i32_w];rfl
   refine pure_ (i:=6) (N:=some 15) (v:=undef) (a' := ?_) (zl 27 127) rfl rfl (any_of HT_.out zb7) (fun _ _ _ h=>h) (Or.inr ⟨zb49,rfl⟩) ?_ ?_
   rotate_left
   ·simp only [Act.put,zqA,zqB,zqC,i64_w,i32_w];rfl
   refine pure_ (i:=7) (N:=some 16) (v:=undef) (a' := ?_) (zl 27 255) rfl rfl (any_of HT_.out zb7) (fun _ _ _ h=>h) (Or.inr ⟨zb49,rfl⟩) ?_ ?_
   rotate_left
   ·simp only [Act.put,zqA,zqB,zqC,i64_w,i32_w];rfl
   refine pure_ (i:=8) (N:=some 17) (v:=undef) (a' := ?_) (zl 27 511) rfl rfl (any_of HT_.out zb7) (fun _ _ _ h=>h) (Or.inr ⟨zb49,rfl⟩) ?_ ?_
   rotate_left
   ·simp only [Act.put,zqA,zqB,zqC,i64_w,i32_w];rfl
   refine zpu 9 (N:=some 18) (zl 27 1023) HT_.out rfl rfl ?_
   refine zpu 10 (N:=some 19) (zl 27 2047) HT_.out rfl rfl ?_
   refine pure_ (i:=11) (N:=some 20) (v:=undef) (a' := ?_) (zl 27 4095) rfl rfl (any_of HT_.out zb7) (fun _ _ _ h=>h) (Or.inr ⟨zb49,rfl⟩) ?_ ?_
   rotate_left
   ·simp only [Act.put,zqA,zqB,zqC,i64_w,i32_w];rfl
   refine pure_ (i:=12) (N:=some 21) (v:=undef) (a' := ?_) (zl 27 8191) rfl rfl (any_of HT_.out zb7) (fun _ _ _ h=>h) (Or.inr ⟨zb49,rfl⟩) ?_ ?_
   rotate_left
   ·simp only [Act.put,zqA,zqB,zqC,i64_w,i32_w];rfl
   refine pure_ (i:=13) (N:=some 22) (v:=undef) (a' := ?_) (zl 27 16383) rfl rfl (any_of HT_.out zb7) (fun _ _ _ h=>h) (Or.inr ⟨zb49,rfl⟩) ?_ ?_
   rotate_left
   ·simp only [Act.put,zqA,zqB,zqC,i64_w,i32_w];rfl
   refine pure_ (i:=14) (N:=some 23) (v:=undef) (a' := ?_) (zl 27 32767) rfl rfl (any_of HT_.out zb7) (fun _ _ _ h=>h) (Or.inr ⟨zb49,rfl⟩) ?_ ?_
   rotate_left
   ·simp only [Act.put,zqA,zqB,zqC,i64_w,i32_w];rfl
   refine pure_ (i:=15) (N:=some 24) (v:=undef) (a' := ?_) (zl 27 65535) rfl rfl (any_of HT_.out zb7) (fun _ _ _ h=>h) (Or.inr ⟨zb49,rfl⟩) ?_ ?_
   rotate_left
   ·simp only [Act.put,zqA,zqB,zqC,i64_w,i32_w];rfl
   refine zpu 16 (N:=some 25) (zl 27 131071) HT_.out rfl rfl ?_
   refine zpu 17 (N:=some 26) (zl 27 262143) HT_.out rfl rfl ?_
   refine pure_ (i:=18) (N:=some 27) (v:=undef) (a' := ?_) (zl 27 524287) rfl rfl (any_of HT_.out zb7) (fun _ _ _ h=>h) (Or.inr ⟨zb49,rfl⟩) ?_ ?_
   rotate_left
   ·simp only [Act.put,zqA,zqB,zqC,i64_w,i32_w];rfl
   refine pure_ (i:=19) (N:=some 28) (v:=undef) (a' := ?_) (zl 27 1048575) rfl rfl (any_of HT_.out zb7) (fun _ _ _ h=>h) (Or.inr ⟨zb49,rfl⟩) ?_ ?_
   rotate_left
   ·simp only [Act.put,zqA,zqB,zqC,i64_w,i32_w];rfl
   refine pure_ (i:=20) (N:=some 29) (v:=undef) (a' := ?_) (zl 27 2097151) rfl rfl (any_of HT_.out zb7) (fun _ _ _ h=>h) (Or.inr ⟨zb49,rfl⟩) ?_ ?_
   rotate_left
   ·simp only [Act.put,zqA,zqB,zqC,i64_w,i32_w];rfl
   refine pure_ (i:=21) (N:=some 30) (v:=undef) (a' := ?_) (zl 27 4194303) rfl rfl (any_of HT_.out zb7) (fun _ _ _ h=>h) (Or.inr ⟨zb49,rfl⟩) ?_ ?_
   rotate_left
   ·simp only [Act.put,zqA,zqB,zqC,i64_w,i32_w];rfl
   refine pure_ (i:=22) (N:=some 31) (v:=undef) (a' := ?_) (zl 27 8388607) rfl rfl (any_of HT_.out zb7) (fun _ _ _ h=>h) (Or.inr ⟨zb49,rfl⟩) ?_ ?_
   rotate_left
   ·simp only [Act.put,zqA,zqB,zqC,i64_w,i32_w];rfl
   refine pure_ (i:=23) (N:=some 32) (v:=undef) (a' := ?_) (zl 27 16777215) rfl rfl (any_of HT_.out zb7) (fun _ _ _ h=>h) (Or.inr ⟨zb49,rfl⟩) ?_ ?_
   rotate_left
   ·simp only [Act.put,zqA,zqB,zqC,i64_w,i32_w];rfl
   refine pure_ (i:=24) (N:=some 33) (v:=undef) (a' := ?_) (zl 27 33554431) rfl rfl (any_of HT_.out zb7) (fun _ _ _ h=>h) (Or.inr ⟨zb49,rfl⟩) ?_ ?_
   rotate_left
   ·simp only [Act.put,zqA,zqB,zqC,i64_w,i32_w];rfl
   refine pure_ (i:=25) (N:=some 34) (v:=undef) (a' := ?_) (zl 27 67108863) rfl rfl (any_of HT_.out zb7) (fun _ _ _ h=>h) (Or.inr ⟨zb49,rfl⟩) ?_ ?_
   rotate_left
   ·simp only [Act.put,zqA,zqB,zqC,i64_w,i32_w];rfl
   refine zpu 26 (N:=some 35) (zl 27 134217727) HT_.out rfl rfl ?_
   refine done_ (done_of HT_.out zb7) ?_
   try go_wp2
   go_meet
   case rel=>exact ⟨_,(true),zb4,H',⟨zb37⟩,⟨zb38⟩,⟨zb87⟩,⟨zb33⟩⟩
  rw [if_pos c6] at H
  have c6b0:=beq_iff_eq.mpr c6
  have c6b1:=bne_eq_false_iff_eq.mpr c6
  clear c6
  (first|rw [c6b0]|(simp only [i64_w,i32_w];rw [c6b0])|rw [c6b1]|skip)
  by_cases c7:0 < (t45.length:Int)
  ·rw [if_pos c7] at H
   have c7b0:=decide_eq_true c7
   have c7b1:decide (0 < t45.length)=true:=decide_eq_true zb10
   clear c7
   by_cases c8:((rdOf ByteArray.empty t45 0).size:Int) > 20
   ·rw [if_pos c8] at H
    have c8b0:decide (20 < ((rdOf ByteArray.empty t45 0).size:Int))=true:=decide_eq_true c8
    have c8b1:decide (20 < (rdOf ByteArray.empty t45 0).size)=true:=decide_eq_true zb10
    clear c8
    have H' := Aside0.mk H
    clear H
    try go_wp2
    replace HO51:=Aside0.mk (Kd.R_drew HO51.out)
    replace BK44:=Aside0.mk (blk_drew BK44.out)
    replace HB:=Aside0.mk (below_drew1 HB.out)
    obtain ⟨Ao10,co10,eo10⟩:=Kd.R_slice HO51.out
    (first|subst eo10|(injection eo10 with f1_ f2_ f3_;have f4_:=f1_.symm;have f5_:=f3_.symm;clear f1_ f2_ f3_;subst f4_;subst f5_))
    have p47:0 ≤ (0:Int):=zb10
    have q47:0 < (t45.length:Int):=of_decide_eq_true zb1
    obtain ⟨ad47,e47,hx47_0⟩:=Kd.at_string (Kd.R_reads' HO51.out).2.2 0 p47 q47
    cases e47
    have qi47:(0 < t45.length)=True:=eq_true zb10
    (try rw [show ((0:Int)).toNat=0 from rfl] at hx47_0)
    (try rw [Addr.add_zero'] at hx47_0)
    replace p47:=eq_true p47
    replace q47:=eq_true q47
    refine start_ (n:=27) (S:=fun w' => w'.cell? ad47=some (.string (rdOf ByteArray.empty t45 0))) (ds:=[]) (zl 27 0) zb7 rfl rfl (hx47_0) (fun hHeld=>?_);refine with_tabW line_Request.tab2 line_Request.bits2 (fun HT_ HW_=>?_)
    generalize w5.drew=w9 at HO51 BK44 HB hx47_0 hHeld ⊢
    refine zpu 0 (N:=some 9) (zl 27 1) HT_.out rfl rfl ?_
    refine zpu 1 (N:=some 10) (zl 27 3) HT_.out rfl rfl ?_
    refine zpu 2 (N:=some 11) (zl 27 7) HT_.out rfl rfl ?_
    refine zpu 3 (N:=some 12) (zl 27 15) HT_.out rfl rfl ?_
    refine zpu 4 (N:=some 13) (zl 27 31) HT_.out rfl rfl ?_
    refine zpu 5 (N:=some 14) (zl 27 63) HT_.out rfl rfl ?_
    refine take_ (i:=6) (N:=some 15) (v:=?_) (a' := ?_) (zl 27 127) rfl rfl (take_ofW HT_.out HW_.out zb7) (fun _ _ _ h=>h) (Or.inl ⟨zb49,?_⟩) hHeld ?_ ?_
    rotate_left
    ·intro w' s0
     go_simp
     with_reducible rfl
    rotate_left
    ·simp only [Act.put,zqA,zqB,zqC,i64_w,i32_w];rfl
    refine zpu 7 (N:=some 16) (zl 27 255) HT_.out rfl rfl ?_
    refine zpu 8 (N:=some 17) (zl 27 511) HT_.out rfl rfl ?_
    refine zpu 9 (N:=some 18) (zl 27 1023) HT_.out rfl rfl ?_
    refine zpu 10 (N:=some 19) (zl 27 2047) HT_.out rfl rfl ?_
    refine pure_ (i:=11) (N:=some 20) (v:=undef) (a' := ?_) (zl 27 4095) rfl rfl (any_of HT_.out zb7) (fun _ _ _ h=>h) (Or.inr ⟨zb49,rfl⟩) ?_ ?_
    rotate_left
    ·simp only [Act.put,zqA,zqB,zqC,i64_w,i32_w];rfl
    refine pure_ (i:=12) (N:=some 21) (v:=undef) (a' := ?_) (zl 27 8191) rfl rfl (any_of HT_.out zb7) (fun _ _ _ h=>h) (Or.inr ⟨zb49,rfl⟩) ?_ ?_
    rotate_left
    ·simp only [Act.put,zqA,zqB,zqC,i64_w,i32_w];rfl
    refine pure_ (i:=13) (N:=some 22) (v:=undef) (a' := ?_) (zl 27 16383) rfl rfl (any_of HT_.out zb7) (fun _ _ _ h=>h) (Or.inr ⟨zb49,rfl⟩) ?_ ?_
    rotate_left
    ·simp only [Act.put,zqA,zqB,zqC,i64_w,i32_w];rfl
    refine pure_ (i:=14) (N:=some 23) (v:=undef) (a' := ?_) (zl 27 32767) rfl rfl (any_of HT_.out zb7) (fun _ _ _ h=>h) (Or.inr ⟨zb49,rfl⟩) ?_ ?_
    rotate_left
    ·simp only [Act.put,zqA,zqB,zqC,i64_w,i32_w];rfl
    refine pure_ (i:=15) (N:=some 24) (v:=undef) (a' := ?_) (zl 27 65535) rfl rfl (any_of HT_.out zb7) (fun _ _ _ h=>h) (Or.inr ⟨zb49,rfl⟩) ?_ ?_
    rotate_left
    ·simp only [Act.put,zqA,zqB,zqC,i64_w,i32_w];rfl
    refine zpu 16 (N:=some 25) (zl 27 131071) HT_.out rfl rfl ?_
    refine zpu 17 (N:=some 26) (zl 27 262143) HT_.out rfl rfl ?_
    refine pure_ (i:=18) (N:=some 27) (v:=undef) (a' := ?_) (zl 27 524287) rfl rfl (any_of HT_.out zb7) (fun _ _ _ h=>h) (Or.inr ⟨zb49,rfl⟩) ?_ ?_
    rotate_left
    ·simp only [Act.put,zqA,zqB,zqC,i64_w,i32_w];rfl
    refine pure_ (i:=19) (N:=some 28) (v:=undef) (a' := ?_) (zl 27 1048575) rfl rfl (any_of HT_.out zb7) (fun _ _ _ h=>h) (Or.inr ⟨zb49,rfl⟩) ?_ ?_
    rotate_left
    ·simp only [Act.put,zqA,zqB,zqC,i64_w,i32_w];rfl
    refine pure_ (i:=20) (N:=some 29) (v:=undef) (a' := ?_) (zl 27 2097151) rfl rfl (any_of HT_.out zb7) (fun _ _ _ h=>h) (Or.inr ⟨zb49,rfl⟩) ?_ ?_
    rotate_left
    ·simp only [Act.put,zqA,zqB,zqC,i64_w,i32_w];rfl
    refine pure_ (i:=21) (N:=some 30) (v:=undef) (a' := ?_) (zl 27 4194303) rfl rfl (any_of HT_.out zb7) (fun _ _ _ h=>h) (Or.inr ⟨zb49,rfl⟩) ?_ ?_
    rotate_left
    ·simp only [Act.put,zqA,zqB,zqC,i64_w,i32_w];rfl
    refine pure_ (i:=22) (N:=some 31) (v:=undef) (a' := ?_) (zl 27 8388607) rfl rfl (any_of HT_.out zb7) (fun _ _ _ h=>h) (Or.inr ⟨zb49,rfl⟩) ?_ ?_
    rotate_left
    ·simp only [Act.put,zqA,zqB,zqC,i64_w,i32_w];rfl
    refine pure_ (i:=23) (N:=some 32) (v:=undef) (a' := ?_) (zl 27 16777215) rfl rfl (any_of HT_.out zb7) (fun _ _ _ h=>h) (Or.inr ⟨zb49,rfl⟩) ?_ ?_
    rotate_left
    ·simp only [Act.put,zqA,zqB,zqC,i64_w,i32_w];rfl
    refine pure_ (i:=24) (N:=some 33) (v:=undef) (a' := ?_) (zl 27 33554431) rfl rfl (any_of HT_.out zb7) (fun _ _ _ h=>h) (Or.inr ⟨zb49,rfl⟩) ?_ ?_
    rotate_left
    ·simp only [Act.put,zqA,zqB,zqC,i64_w,i32_w];rfl
    refine pure_ (i:=25) (N:=some 34) (v:=undef) (a' := ?_) (zl 27 67108863) rfl rfl (any_of HT_.out zb7) (fun _ _ _ h=>h) (Or.inr ⟨zb49,rfl⟩) ?_ ?_
    rotate_left
    ·simp only [Act.put,zqA,zqB,zqC,i64_w,i32_w];rfl
    refine zpu 26 (N:=some 35) (zl 27 134217727) HT_.out rfl rfl ?_
    refine done_ (done_of HT_.out zb7) ?_
    try go_wp2
    go_meet
    case rel=>exact ⟨_,(true),zb4,H',⟨zb37⟩,⟨zb38⟩,⟨zb87⟩,⟨zb33⟩⟩
   rw [if_neg c8] at H
   have c8b0:decide (20 < ((rdOf ByteArray.empty t45 0).size:Int))=false:=decide_eq_false c8
   have c8b1:decide (20 < (rdOf ByteArray.empty t45 0).size)=false:=decide_eq_false zb10
   clear c8
   replace H:=Option.bind_eq_some_iff.mp H
   obtain ⟨t58,A61,H⟩:=H
   try dsimp only at H
   have A11:=Aside0.mk A61
   clear A61
   by_cases c12:t58=true;rotate_left
   ·replace c12:=Bool.eq_false_iff.mpr c12
    subst c12
    rw [if_neg zf] at H
    have H' := Aside0.mk H
    clear H
    try go_wp2
    replace HO51:=Aside0.mk (Kd.R_drew HO51.out)
    replace BK44:=Aside0.mk (blk_drew BK44.out)
    replace HB:=Aside0.mk (below_drew1 HB.out)
    obtain ⟨Ao18,co18,eo18⟩:=Kd.R_slice HO51.out
    (first|subst eo18|(injection eo18 with f1_ f2_ f3_;have f4_:=f1_.symm;have f5_:=f3_.symm;clear f1_ f2_ f3_;subst f4_;subst f5_))
    have p47:0 ≤ (0:Int):=zb10
    have q47:0 < (t45.length:Int):=of_decide_eq_true zb1
    obtain ⟨ad47,e47,hx47_0⟩:=Kd.at_string (Kd.R_reads' HO51.out).2.2 0 p47 q47
    cases e47
    have qi47:(0 < t45.length)=True:=eq_true zb10
    (try rw [show ((0:Int)).toNat=0 from rfl] at hx47_0)
    (try rw [Addr.add_zero'] at hx47_0)
    replace p47:=eq_true p47
    replace q47:=eq_true q47
    have p50:0 ≤ (0:Int):=zb10
    have q50:0 < (t45.length:Int):=of_decide_eq_true zb1
    obtain ⟨ad50,e50,hx50_0⟩:=Kd.at_string (Kd.R_reads' HO51.out).2.2 0 p50 q50
    obtain rfl:ad47=ad50:=(by injection e50)
    have qi50:(0 < t45.length)=True:=eq_true zb10
    (try rw [show ((0:Int)).toNat=0 from rfl] at hx50_0)
    (try rw [Addr.add_zero'] at hx50_0)
    replace p50:=eq_true p50
    replace q50:=eq_true q50
    refine start_ (n:=27) (S:=fun w' => w'.cell? ad47=some (.string (rdOf ByteArray.empty t45 0))∧w'.cell? ad47=some (.string (rdOf ByteArray.empty t45 0))) (ds:=[]) (zl 27 0) zb7 rfl rfl ⟨hx47_0,hx50_0⟩ (fun hHeld=>?_);refine with_tabW line_Request.tab2 line_Request.bits2 (fun HT_ HW_=>?_)
    generalize w5.drew=w17 at HO51 BK44 HB hx47_0 hx50_0 hHeld ⊢
    refine zpu 0 (N:=some 9) (zl 27 1) HT_.out rfl rfl ?_
    refine zpu 1 (N:=some 10) (zl 27 3) HT_.out rfl rfl ?_
    refine zpu 2 (N:=some 11) (zl 27 7) HT_.out rfl rfl ?_
    refine zpu 3 (N:=some 12) (zl 27 15) HT_.out rfl rfl ?_
    refine zpu 4 (N:=some 13) (zl 27 31) HT_.out rfl rfl ?_
    refine zpu 5 (N:=some 14) (zl 27 63) HT_.out rfl rfl ?_
    refine take_ (i:=6) (N:=some 15) (v:=?_) (a' := ?_) (zl 27 127) rfl rfl (take_ofW HT_.out HW_.out zb7) (fun _ _ _ h=>h) (Or.inl ⟨zb49,?_⟩) hHeld ?_ ?_
    rotate_left
    ·rintro w' ⟨s0,s1⟩;go_simp;with_reducible rfl
    rotate_left
    ·simp only [Act.put,zqA,zqB,zqC,i64_w,i32_w];rfl
    refine zpu 7 (N:=some 16) (zl 27 255) HT_.out rfl rfl ?_
    refine zpu 8 (N:=some 17) (zl 27 511) HT_.out rfl rfl ?_
    refine zpu 9 (N:=some 18) (zl 27 1023) HT_.out rfl rfl ?_
    refine zpu 10 (N:=some 19) (zl 27 2047) HT_.out rfl rfl ?_
    refine zpu 11 (N:=some 20) (zl 27 4095) HT_.out rfl rfl ?_
    refine zpu 12 (N:=some 21) (zl 27 8191) HT_.out rfl rfl ?_
    refine take_ (i:=13) (N:=some 22) (v:=?_) (a' := ?_) (zl 27 16383) rfl rfl (take_ofW HT_.out HW_.out zb7) (fun _ _ _ h=>h) (Or.inl ⟨zb49,?_⟩) hHeld ?_ ?_
    rotate_left
    ·rintro w' ⟨s0,s1⟩;go_simp;with_reducible rfl
    rotate_left
    ·simp only [Act.put,zqA,zqB,zqC,i64_w,i32_w];rfl
    refine one_ (i:=14) (N:=some 23) (zl 27 32767) rfl rfl (one_of HT_.out zb7) zb78 (fun K hK=>?_)
    refine goes_ Tryz.func117 zb7 rfl #[.string (rdOf ByteArray.empty t45 0)] zb49 rfl rfl zb2 ?_
    with_reducible refine (sign_Token.calls (rdOf ByteArray.empty t45 0) false _ A11.out).mono ?_
    rintro e w' ⟨rfl,⟨nd,rfl⟩⟩
    refine ⟨_,rfl,?_⟩
    refine hK.out _ _ ⟨hHeld.1,hHeld.2⟩ (fun hHeld=>?_)
    clear hK K
    refine norm_ (a' := ?_) ?_ ?_
    rotate_left
    ·show Act.put _ (some 23) _=_
     simp only [Act.put,zqA,zqB,zqC,i64_w,i32_w]
     rfl
    refine zpu 15 (N:=some 24) (zl 27 65535) HT_.out rfl rfl ?_
    refine zpu 16 (N:=some 25) (zl 27 131071) HT_.out rfl rfl ?_
    refine zpu 17 (N:=some 26) (zl 27 262143) HT_.out rfl rfl ?_
    refine pure_ (i:=18) (N:=some 27) (v:=undef) (a' := ?_) (zl 27 524287) rfl rfl (any_of HT_.out zb7) (fun _ _ _ h=>h) (Or.inr ⟨zb49,rfl⟩) ?_ ?_
    rotate_left
    ·simp only [Act.put,zqA,zqB,zqC,i64_w,i32_w];rfl
    refine pure_ (i:=19) (N:=some 28) (v:=undef) (a' := ?_) (zl 27 1048575) rfl rfl (any_of HT_.out zb7) (fun _ _ _ h=>h) (Or.inr ⟨zb49,rfl⟩) ?_ ?_
    rotate_left
    ·simp only [Act.put,zqA,zqB,zqC,i64_w,i32_w];rfl
    refine pure_ (i:=20) (N:=some 29) (v:=undef) (a' := ?_) (zl 27 2097151) rfl rfl (any_of HT_.out zb7) (fun _ _ _ h=>h) (Or.inr ⟨zb49,rfl⟩) ?_ ?_
    rotate_left
    ·simp only [Act.put,zqA,zqB,zqC,i64_w,i32_w];rfl
    refine pure_ (i:=21) (N:=some 30) (v:=undef) (a' := ?_) (zl 27 4194303) rfl rfl (any_of HT_.out zb7) (fun _ _ _ h=>h) (Or.inr ⟨zb49,rfl⟩) ?_ ?_
    rotate_left
    ·simp only [Act.put,zqA,zqB,zqC,i64_w,i32_w];rfl
    refine pure_ (i:=22) (N:=some 31) (v:=undef) (a' := ?_) (zl 27 8388607) rfl rfl (any_of HT_.out zb7) (fun _ _ _ h=>h) (Or.inr ⟨zb49,rfl⟩) ?_ ?_
    rotate_left
    ·simp only [Act.put,zqA,zqB,zqC,i64_w,i32_w];rfl
    refine pure_ (i:=23) (N:=some 32) (v:=undef) (a' := ?_) (zl 27 16777215) rfl rfl (any_of HT_.out zb7) (fun _ _ _ h=>h) (Or.inr ⟨zb49,rfl⟩) ?_ ?_
    rotate_left
    ·simp only [Act.put,zqA,zqB,zqC,i64_w,i32_w];rfl
    refine pure_ (i:=24) (N:=some 33) (v:=undef) (a' := ?_) (zl 27 33554431) rfl rfl (any_of HT_.out zb7) (fun _ _ _ h=>h) (Or.inr ⟨zb49,rfl⟩) ?_ ?_
    rotate_left
    ·simp only [Act.put,zqA,zqB,zqC,i64_w,i32_w];rfl
    refine pure_ (i:=25) (N:=some 34) (v:=undef) (a' := ?_) (zl 27 67108863) rfl rfl (any_of HT_.out zb7) (fun _ _ _ h=>h) (Or.inr ⟨zb49,rfl⟩) ?_ ?_
    rotate_left
    ·simp only [Act.put,zqA,zqB,zqC,i64_w,i32_w];rfl
    refine zpu 26 (N:=some 35) (zl 27 134217727) HT_.out rfl rfl ?_
    refine done_ (done_of HT_.out zb7) ?_
    try go_wp2
    go_meet
    case rel=>exact ⟨_,(true),zb4,H',⟨zb37⟩,⟨zb38⟩,⟨zb87⟩,⟨zb33⟩⟩
   subst c12
   rw [if_pos rfl] at H
   by_cases c13:1 < (t45.length:Int)
   ·rw [if_pos c13] at H
    have c13b0:=decide_eq_true c13
    have c13b1:decide (1 < t45.length)=true:=decide_eq_true zb10
    clear c13
    replace H:=Option.bind_eq_some_iff.mp H
    obtain ⟨t57,A62,H⟩:=H
    try dsimp only at H
    have A14:=Aside0.mk A62
    clear A62
    have H' := Aside0.mk H
    clear H
    try go_wp2
    replace HO51:=Aside0.mk (Kd.R_drew HO51.out)
    replace BK44:=Aside0.mk (blk_drew BK44.out)
    replace HB:=Aside0.mk (below_drew1 HB.out)
    obtain ⟨Ao16,co16,eo16⟩:=Kd.R_slice HO51.out
    (first|subst eo16|(injection eo16 with f1_ f2_ f3_;have f4_:=f1_.symm;have f5_:=f3_.symm;clear f1_ f2_ f3_;subst f4_;subst f5_))
    have p47:0 ≤ (0:Int):=zb10
    have q47:0 < (t45.length:Int):=of_decide_eq_true zb1
    obtain ⟨ad47,e47,hx47_0⟩:=Kd.at_string (Kd.R_reads' HO51.out).2.2 0 p47 q47
    cases e47
    have qi47:(0 < t45.length)=True:=eq_true zb10
    (try rw [show ((0:Int)).toNat=0 from rfl] at hx47_0)
    (try rw [Addr.add_zero'] at hx47_0)
    replace p47:=eq_true p47
    replace q47:=eq_true q47
    have p50:0 ≤ (0:Int):=zb10
    have q50:0 < (t45.length:Int):=of_decide_eq_true zb1
    obtain ⟨ad50,e50,hx50_0⟩:=Kd.at_string (Kd.R_reads' HO51.out).2.2 0 p50 q50
    obtain rfl:ad47=ad50:=(by injection e50)
    have qi50:(0 < t45.length)=True:=eq_true zb10
    (try rw [show ((0:Int)).toNat=0 from rfl] at hx50_0)
    (try rw [Addr.add_zero'] at hx50_0)
    replace p50:=eq_true p50
    replace q50:=eq_true q50
    have p52:0 ≤ (0:Int):=zb10
    have q52:0 < (t45.length:Int):=of_decide_eq_true zb1
    obtain ⟨ad52,e52,hx52_0⟩:=Kd.at_string (Kd.R_reads' HO51.out).2.2 0 p52 q52
    obtain rfl:ad47=ad52:=(by injection e52)
    have qi52:(0 < t45.length)=True:=eq_true zb10
    (try rw [show ((0:Int)).toNat=0 from rfl] at hx52_0)
    (try rw [Addr.add_zero'] at hx52_0)
    replace p52:=eq_true p52
    replace q52:=eq_true q52
    have p53:0 ≤ (1:Int):=zb10
    have q53:1 < (t45.length:Int):=of_decide_eq_true zb1
    obtain ⟨ad53,e53,hx53_0⟩:=Kd.at_string (Kd.R_reads' HO51.out).2.2 1 p53 q53
    obtain rfl:ad47=ad53:=(by injection e53)
    (try simp only [show (1:Int).toNat=1 from rfl,Nat.reduceMul,Nat.reduceEqDiff,Go.Addr.add,↓reduceIte] at hx53_0)
    have qi53:(1 < t45.length)=True:=eq_true zb10
    (try rw [show ((1:Int)).toNat=1 from rfl] at hx53_0)
    replace p53:=eq_true p53
    replace q53:=eq_true q53
    refine start_ (n:=27) (S:=fun w' => w'.cell? ad47=some (.string (rdOf ByteArray.empty t45 0))∧w'.cell? ad47=some (.string (rdOf ByteArray.empty t45 0))∧w'.cell? ad47=some (.string (rdOf ByteArray.empty t45 0))∧w'.cell? ⟨ad47.block,ad47.off + 1,none⟩=some (.string (rdOf ByteArray.empty t45 1))) (ds:=[]) (zl 27 0) zb7 rfl rfl ⟨hx47_0,hx50_0,hx52_0,hx53_0⟩ (fun hHeld=>?_);refine with_tabW line_Request.tab2 line_Request.bits2 (fun HT_ HW_=>?_)
    generalize w5.drew=w15 at HO51 BK44 HB hx47_0 hx50_0 hx52_0 hx53_0 hHeld ⊢
    refine zpu 0 (N:=some 9) (zl 27 1) HT_.out rfl rfl ?_
    refine zpu 1 (N:=some 10) (zl 27 3) HT_.out rfl rfl ?_
    refine zpu 2 (N:=some 11) (zl 27 7) HT_.out rfl rfl ?_
    refine zpu 3 (N:=some 12) (zl 27 15) HT_.out rfl rfl ?_
    refine zpu 4 (N:=some 13) (zl 27 31) HT_.out rfl rfl ?_
    refine zpu 5 (N:=some 14) (zl 27 63) HT_.out rfl rfl ?_
    refine take_ (i:=6) (N:=some 15) (v:=?_) (a' := ?_) (zl 27 127) rfl rfl (take_ofW HT_.out HW_.out zb7) (fun _ _ _ h=>h) (Or.inl ⟨zb49,?_⟩) hHeld ?_ ?_
    rotate_left
    ·rintro w' ⟨s0,s1,s2,s3⟩;go_simp;with_reducible rfl
    rotate_left
    ·simp only [Act.put,zqA,zqB,zqC,i64_w,i32_w];rfl
    refine zpu 7 (N:=some 16) (zl 27 255) HT_.out rfl rfl ?_
    refine zpu 8 (N:=some 17) (zl 27 511) HT_.out rfl rfl ?_
    refine zpu 9 (N:=some 18) (zl 27 1023) HT_.out rfl rfl ?_
    refine zpu 10 (N:=some 19) (zl 27 2047) HT_.out rfl rfl ?_
    refine zpu 11 (N:=some 20) (zl 27 4095) HT_.out rfl rfl ?_
    refine zpu 12 (N:=some 21) (zl 27 8191) HT_.out rfl rfl ?_
    refine take_ (i:=13) (N:=some 22) (v:=?_) (a' := ?_) (zl 27 16383) rfl rfl (take_ofW HT_.out HW_.out zb7) (fun _ _ _ h=>h) (Or.inl ⟨zb49,?_⟩) hHeld ?_ ?_
    rotate_left
    ·rintro w' ⟨s0,s1,s2,s3⟩;go_simp;with_reducible rfl
    rotate_left
    ·simp only [Act.put,zqA,zqB,zqC,i64_w,i32_w];rfl
    refine one_ (i:=14) (N:=some 23) (zl 27 32767) rfl rfl (one_of HT_.out zb7) zb78 (fun K hK=>?_)
    refine goes_ Tryz.func117 zb7 rfl #[.string (rdOf ByteArray.empty t45 0)] zb49 rfl rfl zb2 ?_
    with_reducible refine (sign_Token.calls (rdOf ByteArray.empty t45 0) true _ A11.out).mono ?_
    rintro e w' ⟨rfl,⟨nd,rfl⟩⟩
    refine ⟨_,rfl,?_⟩
    refine hK.out _ _ ⟨hHeld.1,hHeld.2.1,hHeld.2.2.1,hHeld.2.2.2⟩ (fun hHeld=>?_)
    clear hK K
    refine norm_ (a' := ?_) ?_ ?_
    rotate_left
    ·show Act.put _ (some 23) _=_
     simp only [Act.put,zqA,zqB,zqC,i64_w,i32_w]
     rfl
    refine zpu 15 (N:=some 24) (zl 27 65535) HT_.out rfl rfl ?_
    refine zpu 16 (N:=some 25) (zl 27 131071) HT_.out rfl rfl ?_
    refine zpu 17 (N:=some 26) (zl 27 262143) HT_.out rfl rfl ?_
    refine zpu 18 (N:=some 27) (zl 27 524287) HT_.out rfl rfl ?_
    refine zpu 19 (N:=some 28) (zl 27 1048575) HT_.out rfl rfl ?_
    refine zpu 21 (N:=some 30) (zl 27 3145727) HT_.out rfl rfl ?_
    refine zpu 22 (N:=some 31) (zl 27 7340031) HT_.out rfl rfl ?_
    refine take_ (i:=20) (N:=some 29) (v:=?_) (a' := ?_) (zl 27 8388607) rfl rfl (take_ofW HT_.out HW_.out zb7) (fun _ _ _ h=>h) (Or.inl ⟨zb49,?_⟩) hHeld ?_ ?_
    rotate_left
    ·rintro w' ⟨s0,s1,s2,s3⟩;go_simp;with_reducible rfl
    rotate_left
    ·simp only [Act.put,zqA,zqB,zqC,i64_w,i32_w];rfl
    refine take_ (i:=23) (N:=some 32) (v:=?_) (a' := ?_) (zl 27 16777215) rfl rfl (take_ofW HT_.out HW_.out zb7) (fun _ _ _ h=>h) (Or.inl ⟨zb49,?_⟩) hHeld ?_ ?_
    rotate_left
    ·rintro w' ⟨s0,s1,s2,s3⟩;go_simp;with_reducible rfl
    rotate_left
    ·simp only [Act.put,zqA,zqB,zqC,i64_w,i32_w];rfl
    refine one_ (i:=24) (N:=some 33) (zl 27 33554431) rfl rfl (one_of HT_.out zb7) zb78 (fun K hK=>?_)
    refine goes_ Tryz.func118 zb7 rfl #[.string (rdOf ByteArray.empty t45 0),.string (rdOf ByteArray.empty t45 1)] zb49 rfl rfl zb2 ?_
    with_reducible refine (line_target.calls (rdOf ByteArray.empty t45 0) (rdOf ByteArray.empty t45 1) t57 _ A14.out).mono ?_
    rintro e w' ⟨rfl,⟨nd,rfl⟩⟩
    refine ⟨_,rfl,?_⟩
    refine hK.out _ _ ⟨hHeld.1,hHeld.2.1,hHeld.2.2.1,hHeld.2.2.2⟩ (fun hHeld=>?_)
    clear hK K
    refine norm_ (a' := ?_) ?_ ?_
    rotate_left
    ·show Act.put _ (some 33) _=_
     simp only [Act.put,zqA,zqB,zqC,i64_w,i32_w]
     rfl
    refine zpu 25 (N:=some 34) (zl 27 67108863) HT_.out rfl rfl ?_
    refine zpu 26 (N:=some 35) (zl 27 134217727) HT_.out rfl rfl ?_
    refine done_ (done_of HT_.out zb7) ?_
    try go_wp2
    go_meet
    case rel=>exact ⟨_,(!t57),zb4,H',⟨zb37⟩,⟨zb38⟩,⟨zb87⟩,⟨zb33⟩⟩
   ·rw [if_neg c13] at H
    exact absurd H zb24
  ·rw [if_neg c7] at H
   exact absurd H zb24
 case rest =>
  clear HC3
  try clear c1
  try clear p1
  try clear q1
  try clear hx1
  try clear qi1
  try clear p2
  try clear c6
  try clear c6b0
  try clear c6b1
  try clear c7
  try clear c11
  try clear c12
  try clear c13
  try clear p15
  try clear q15
  try clear hx15
  try clear qi15
  try clear hx47_0
  try clear hx50_0
  try clear p47
  try clear p50
  try clear q47
  try clear q50
  obtain ⟨kq,x35_2,rfl,HA,HJ2,HO_4,BK44,HB⟩:=hcut
  cases kq with
  | zero=>exact absurd HA.out (by simp [line_Request.j0])
  | succ kj2 =>
   have H:=HA.out
   clear HA
   simp only [line_Request.j0] at H
   by_cases c21:x35_2=true
   ·subst c21
    rw [if_pos rfl] at H
    simp only [zi,zj] at H
    obtain ⟨rfl,rfl,rfl,rfl,rfl,rfl⟩:=H
    obtain ⟨hcz22_0,hcz22_1,hcz22_2,hcz22_3,hcz22_4,hfz22_0,hfz22_1,hfz22_2,hfz22_3,hfz22_4⟩:=zq5 BK44.out
    go_wp2
    refine bodyPost_ret (results_ct rfl _ _ gb44 26 #[.string (⟨#[]⟩:ByteArray),.string (⟨#[]⟩:ByteArray),.int .i64 0,.slice none 0 0,.slice none 0 0] (0,0) _ rfl zb29 Tryz.underlying26 rfl zb7) rfl ?_
    exact ⟨_,_,zb3,zb6,zb6,zb33⟩
   replace c21:=Bool.eq_false_iff.mpr c21
   subst c21
   rw [if_neg zf] at H
   by_cases c23:2 < (t45.length:Int);rotate_left
   ·rw [if_neg c23] at H
    exact absurd H zb24
   rw [if_pos c23] at H
   have c23b0:=decide_eq_true c23
   have c23b1:decide (2 < t45.length)=true:=decide_eq_true zb10
   clear c23
   replace H:=Option.bind_eq_some_iff.mp H
   obtain ⟨⟨t56,t59⟩,A63,H⟩:=H
   try dsimp only at H
   have A24:=Aside0.mk A63
   clear A63
   by_cases c25:1 < (t45.length:Int)
   ·rw [if_pos c25] at H
    have c25b0:=decide_eq_true c25
    have c25b1:decide (1 < t45.length)=true:=decide_eq_true zb10
    clear c25
    by_cases c26:((rdOf ByteArray.empty t45 1).size:Int) > 512
    ·rw [if_pos c26] at H
     have c26b0:decide (512 < ((rdOf ByteArray.empty t45 1).size:Int))=true:=decide_eq_true c26
     have c26b1:decide (512 < (rdOf ByteArray.empty t45 1).size)=true:=decide_eq_true zb10
     clear c26
     simp only [zi,zj] at H
     obtain ⟨rfl,rfl,rfl,rfl,rfl,rfl⟩:=H
     obtain ⟨Ao27,co27,eo27⟩:=Kd.R_slice HO_4.out
     subst eo27
     have p46:0 ≤ (2:Int):=zb10
     have q46:2 < (t45.length:Int):=of_decide_eq_true zb1
     obtain ⟨ad46,e46,hx46_0⟩:=Kd.at_string (Kd.R_reads' HO_4.out).2.2 2 p46 q46
     cases e46
     (try simp only [show (2:Int).toNat=2 from rfl,Nat.reduceMul,Nat.reduceEqDiff,Go.Addr.add,↓reduceIte] at hx46_0)
     have qi46:(2 < t45.length)=True:=eq_true zb10
     (try rw [show ((2:Int)).toNat=2 from rfl] at hx46_0)
     replace p46:=eq_true p46
     replace q46:=eq_true q46
     go_wp2_with (first|((with_reducible refine gate_callee (f:=111) rfl ?_);refine goesL_ (some 41) rfl rfl Tryz.func111 zb7 rfl #[.string (rdOf ByteArray.empty t45 2)] rfl zb2 ?_;(with_reducible refine (line_minor.calls (rdOf ByteArray.empty t45 2) t56 t59 _ A24.out).mono ?_);rintro e w' ⟨rfl,⟨nd,rfl⟩⟩;(try clear A24);refine ⟨_,rfl,?_⟩;(try (rw [drewN_self wc];generalize hq_:World.drewN wc _=wc;have n0_:Aside0 (Kd.R Kd.string 9 wc w.heap.size (fun _=>True) (.slice (some ad46) t45.length co27) t45):=⟨zb41⟩;have n1_:Aside0 (wc.heap[gb44]? = some (.cells #[.string (⟨#[]⟩:ByteArray),.string (⟨#[]⟩:ByteArray),.int .i64 0,.slice none 0 0,.slice none 0 0] 26 (0,0))):=⟨zb55⟩;have n2_:Aside0 (Below w.heap.size w wc):=⟨zb44⟩;clear HO_4 BK44 HB hq_;have HO_4:=n0_;have BK44:=n1_;have HB:=n2_;clear n0_ n1_ n2_));have p48:0 ≤ (1:Int):=zb10;have q48:1 < (t45.length:Int):=of_decide_eq_true zb1;obtain ⟨ad48,e48,hx48_0⟩:=Kd.at_string (Kd.R_reads' HO_4.out).2.2 1 p48 q48;obtain rfl:ad46=ad48:=(by injection e48);(try simp only [show (1:Int).toNat=1 from rfl,Nat.reduceMul,Nat.reduceEqDiff,Go.Addr.add,↓reduceIte] at hx48_0);have qi48:(1 < t45.length)=True:=eq_true zb10;(try rw [show ((1:Int)).toNat=1 from rfl] at hx48_0);replace p48:=eq_true p48;replace q48:=eq_true q48;obtain ⟨hcz28_0,hcz28_1,hcz28_2,hcz28_3,hcz28_4,hfz28_0,hfz28_1,hfz28_2,hfz28_3,hfz28_4⟩:=zq5 BK44.out))
     refine bodyPost_ret (results_ct rfl _ _ gb44 26 #[.string (⟨#[]⟩:ByteArray),.string (⟨#[]⟩:ByteArray),.int .i64 0,.slice none 0 0,.slice none 0 0] (0,0) _ rfl zb29 Tryz.underlying26 rfl zb7) rfl ?_
     exact ⟨_,_,zb3,zb6,zb6,zb33⟩
    rw [if_neg c26] at H
    have c26b0:decide (512 < ((rdOf ByteArray.empty t45 1).size:Int))=false:=decide_eq_false c26
    have c26b1:decide (512 < (rdOf ByteArray.empty t45 1).size)=false:=decide_eq_false zb10
    clear c26
    replace H:=Option.bind_eq_some_iff.mp H
    obtain ⟨t60,A65,H⟩:=H
    try dsimp only at H
    have A29:=Aside0.mk A65
    clear A65
    by_cases c30:t60=true;rotate_left
    ·replace c30:=Bool.eq_false_iff.mpr c30
     subst c30
     rw [if_neg zf] at H
     simp only [zi,zj] at H
     obtain ⟨rfl,rfl,rfl,rfl,rfl,rfl⟩:=H
     obtain ⟨Ao42,co42,eo42⟩:=Kd.R_slice HO_4.out
     subst eo42
     have p46:0 ≤ (2:Int):=zb10
     have q46:2 < (t45.length:Int):=of_decide_eq_true zb1
     obtain ⟨ad46,e46,hx46_0⟩:=Kd.at_string (Kd.R_reads' HO_4.out).2.2 2 p46 q46
     cases e46
     (try simp only [show (2:Int).toNat=2 from rfl,Nat.reduceMul,Nat.reduceEqDiff,Go.Addr.add,↓reduceIte] at hx46_0)
     have qi46:(2 < t45.length)=True:=eq_true zb10
     (try rw [show ((2:Int)).toNat=2 from rfl] at hx46_0)
     replace p46:=eq_true p46
     replace q46:=eq_true q46
     go_wp2_with (first|((with_reducible refine gate_callee (f:=111) rfl ?_);refine goesL_ (some 41) rfl rfl Tryz.func111 zb7 rfl #[.string (rdOf ByteArray.empty t45 2)] rfl zb2 ?_;(with_reducible refine (line_minor.calls (rdOf ByteArray.empty t45 2) t56 t59 _ A24.out).mono ?_);rintro e w' ⟨rfl,⟨nd,rfl⟩⟩;(try clear A24);refine ⟨_,rfl,?_⟩;(try (rw [drewN_self wc];generalize hq_:World.drewN wc _=wc;have n0_:Aside0 (Kd.R Kd.string 9 wc w.heap.size (fun _=>True) (.slice (some ad46) t45.length co42) t45):=⟨zb41⟩;have n1_:Aside0 (wc.heap[gb44]? = some (.cells #[.string (⟨#[]⟩:ByteArray),.string (⟨#[]⟩:ByteArray),.int .i64 0,.slice none 0 0,.slice none 0 0] 26 (0,0))):=⟨zb55⟩;have n2_:Aside0 (Below w.heap.size w wc):=⟨zb44⟩;clear HO_4 BK44 HB hq_;have HO_4:=n0_;have BK44:=n1_;have HB:=n2_;clear n0_ n1_ n2_));have p48:0 ≤ (1:Int):=zb10;have q48:1 < (t45.length:Int):=of_decide_eq_true zb1;obtain ⟨ad48,e48,hx48_0⟩:=Kd.at_string (Kd.R_reads' HO_4.out).2.2 1 p48 q48;obtain rfl:ad46=ad48:=(by injection e48);(try simp only [show (1:Int).toNat=1 from rfl,Nat.reduceMul,Nat.reduceEqDiff,Go.Addr.add,↓reduceIte] at hx48_0);have qi48:(1 < t45.length)=True:=eq_true zb10;(try rw [show ((1:Int)).toNat=1 from rfl] at hx48_0);replace p48:=eq_true p48;replace q48:=eq_true q48;have p49:0 ≤ (2:Int):=zb10;have q49:2 < (t45.length:Int):=of_decide_eq_true zb1;obtain ⟨ad49,e49,hx49_0⟩:=Kd.at_string (Kd.R_reads' HO_4.out).2.2 2 p49 q49;obtain rfl:ad46=ad49:=(by injection e49);(try simp only [show (2:Int).toNat=2 from rfl,Nat.reduceMul,Nat.reduceEqDiff,Go.Addr.add,↓reduceIte] at hx49_0);have qi49:(2 < t45.length)=True:=eq_true zb10;(try rw [show ((2:Int)).toNat=2 from rfl] at hx49_0);replace p49:=eq_true p49;replace q49:=eq_true q49)|((with_reducible refine gate_callee (f:=119) rfl ?_);refine goesL_ (some 55) rfl rfl Tryz.func119 zb7 rfl #[.string (rdOf ByteArray.empty t45 2)] rfl zb2 ?_;(with_reducible refine (line_numbered.calls (rdOf ByteArray.empty t45 2) false _ A29.out).mono ?_);rintro e w' ⟨rfl,⟨nd,rfl⟩⟩;(try clear A29);refine ⟨_,rfl,?_⟩;(try (rw [drewN_self wc];generalize hq_:World.drewN wc _=wc;have n0_:Aside0 (Kd.R Kd.string 9 wc w.heap.size (fun _=>True) (.slice (some ad46) t45.length co42) t45):=⟨zb41⟩;have n1_:Aside0 (wc.heap[gb44]? = some (.cells #[.string (⟨#[]⟩:ByteArray),.string (⟨#[]⟩:ByteArray),.int .i64 0,.slice none 0 0,.slice none 0 0] 26 (0,0))):=⟨zb55⟩;have n2_:Aside0 (Below w.heap.size w wc):=⟨zb44⟩;clear HO_4 BK44 HB hq_;have HO_4:=n0_;have BK44:=n1_;have HB:=n2_;clear n0_ n1_ n2_));obtain ⟨hcz43_0,hcz43_1,hcz43_2,hcz43_3,hcz43_4,hfz43_0,hfz43_1,hfz43_2,hfz43_3,hfz43_4⟩:=zq5 BK44.out))
     refine bodyPost_ret (results_ct rfl _ _ gb44 26 #[.string (⟨#[]⟩:ByteArray),.string (⟨#[]⟩:ByteArray),.int .i64 0,.slice none 0 0,.slice none 0 0] (0,0) _ rfl zb29 Tryz.underlying26 rfl zb7) rfl ?_
     exact ⟨_,_,zb3,zb6,zb6,zb33⟩
    subst c30
    rw [if_pos rfl] at H
    by_cases c31:t59=true
    ·subst c31
     rw [if_pos rfl] at H
     by_cases c32:0 < (t45.length:Int);rotate_left
     ·rw [if_neg c32] at H
      exact absurd H zb24
     rw [if_pos c32] at H
     have c32b0:=decide_eq_true c32
     have c32b1:decide (0 < t45.length)=true:=decide_eq_true zb10
     clear c32
     simp only [zi,zj] at H
     obtain ⟨rfl,rfl,rfl,rfl,rfl,rfl⟩:=H
     obtain ⟨Ao33,co33,eo33⟩:=Kd.R_slice HO_4.out
     subst eo33
     have p46:0 ≤ (2:Int):=zb10
     have q46:2 < (t45.length:Int):=of_decide_eq_true zb1
     obtain ⟨ad46,e46,hx46_0⟩:=Kd.at_string (Kd.R_reads' HO_4.out).2.2 2 p46 q46
     cases e46
     (try simp only [show (2:Int).toNat=2 from rfl,Nat.reduceMul,Nat.reduceEqDiff,Go.Addr.add,↓reduceIte] at hx46_0)
     have qi46:(2 < t45.length)=True:=eq_true zb10
     (try rw [show ((2:Int)).toNat=2 from rfl] at hx46_0)
     replace p46:=eq_true p46
     replace q46:=eq_true q46
     try go_wp2_with (first|((with_reducible refine gate_callee (f:=111) rfl ?_);refine goesL_ (some 41) rfl rfl Tryz.func111 zb7 rfl #[.string (rdOf ByteArray.empty t45 2)] rfl zb2 ?_;(with_reducible refine (line_minor.calls (rdOf ByteArray.empty t45 2) t56 true _ A24.out).mono ?_);rintro e w' ⟨rfl,⟨nd,rfl⟩⟩;(try clear A24);refine ⟨_,rfl,?_⟩;(try (rw [drewN_self wc];generalize hq_:World.drewN wc _=wc;have n0_:Aside0 (Kd.R Kd.string 9 wc w.heap.size (fun _=>True) (.slice (some ad46) t45.length co33) t45):=⟨zb41⟩;have n1_:Aside0 (wc.heap[gb44]? = some (.cells #[.string (⟨#[]⟩:ByteArray),.string (⟨#[]⟩:ByteArray),.int .i64 0,.slice none 0 0,.slice none 0 0] 26 (0,0))):=⟨zb55⟩;have n2_:Aside0 (Below w.heap.size w wc):=⟨zb44⟩;clear HO_4 BK44 HB hq_;have HO_4:=n0_;have BK44:=n1_;have HB:=n2_;clear n0_ n1_ n2_));have p48:0 ≤ (1:Int):=zb10;have q48:1 < (t45.length:Int):=of_decide_eq_true zb1;obtain ⟨ad48,e48,hx48_0⟩:=Kd.at_string (Kd.R_reads' HO_4.out).2.2 1 p48 q48;obtain rfl:ad46=ad48:=(by injection e48);(try simp only [show (1:Int).toNat=1 from rfl,Nat.reduceMul,Nat.reduceEqDiff,Go.Addr.add,↓reduceIte] at hx48_0);have qi48:(1 < t45.length)=True:=eq_true zb10;(try rw [show ((1:Int)).toNat=1 from rfl] at hx48_0);replace p48:=eq_true p48;replace q48:=eq_true q48;have p49:0 ≤ (2:Int):=zb10;have q49:2 < (t45.length:Int):=of_decide_eq_true zb1;obtain ⟨ad49,e49,hx49_0⟩:=Kd.at_string (Kd.R_reads' HO_4.out).2.2 2 p49 q49;obtain rfl:ad46=ad49:=(by injection e49);(try simp only [show (2:Int).toNat=2 from rfl,Nat.reduceMul,Nat.reduceEqDiff,Go.Addr.add,↓reduceIte] at hx49_0);have qi49:(2 < t45.length)=True:=eq_true zb10;(try rw [show ((2:Int)).toNat=2 from rfl] at hx49_0);replace p49:=eq_true p49;replace q49:=eq_true q49)|((with_reducible refine gate_callee (f:=119) rfl ?_);refine goesL_ (some 55) rfl rfl Tryz.func119 zb7 rfl #[.string (rdOf ByteArray.empty t45 2)] rfl zb2 ?_;(with_reducible refine (line_numbered.calls (rdOf ByteArray.empty t45 2) true _ A29.out).mono ?_);rintro e w' ⟨rfl,⟨nd,rfl⟩⟩;(try clear A29);refine ⟨_,rfl,?_⟩;(try (rw [drewN_self wc];generalize hq_:World.drewN wc _=wc;have n0_:Aside0 (Kd.R Kd.string 9 wc w.heap.size (fun _=>True) (.slice (some ad46) t45.length co33) t45):=⟨zb41⟩;have n1_:Aside0 (wc.heap[gb44]? = some (.cells #[.string (⟨#[]⟩:ByteArray),.string (⟨#[]⟩:ByteArray),.int .i64 0,.slice none 0 0,.slice none 0 0] 26 (0,0))):=⟨zb55⟩;have n2_:Aside0 (Below w.heap.size w wc):=⟨zb44⟩;clear HO_4 BK44 HB hq_;have HO_4:=n0_;have BK44:=n1_;have HB:=n2_;clear n0_ n1_ n2_))))
     replace HO_4:=Aside0.mk (Kd.R_drew HO_4.out)
     replace BK44:=Aside0.mk (blk_drew BK44.out)
     replace HB:=Aside0.mk (below_drew1 HB.out)
     have p54:0 ≤ (0:Int):=zb10
     have q54:0 < (t45.length:Int):=of_decide_eq_true zb1
     obtain ⟨ad54,e54,hx54_0⟩:=Kd.at_string (Kd.R_reads' HO_4.out).2.2 0 p54 q54
     obtain rfl:ad46=ad54:=(by injection e54)
     have qi54:(0 < t45.length)=True:=eq_true zb10
     (try rw [show ((0:Int)).toNat=0 from rfl] at hx54_0)
     (try rw [Addr.add_zero'] at hx54_0)
     replace p54:=eq_true p54
     replace q54:=eq_true q54
     have p55:0 ≤ (1:Int):=zb10
     have q55:1 < (t45.length:Int):=of_decide_eq_true zb1
     obtain ⟨ad55,e55,hx55_0⟩:=Kd.at_string (Kd.R_reads' HO_4.out).2.2 1 p55 q55
     obtain rfl:ad46=ad55:=(by injection e55)
     (try simp only [show (1:Int).toNat=1 from rfl,Nat.reduceMul,Nat.reduceEqDiff,Go.Addr.add,↓reduceIte] at hx55_0)
     have qi55:(1 < t45.length)=True:=eq_true zb10
     (try rw [show ((1:Int)).toNat=1 from rfl] at hx55_0)
     replace p55:=eq_true p55
     replace q55:=eq_true q55
     refine start_ (n:=10) (S:=fun w' => w'.cell? ad46=some (.string (rdOf ByteArray.empty t45 0))∧w'.cell? ⟨ad46.block,ad46.off + 1,none⟩=some (.string (rdOf ByteArray.empty t45 1))) (ds:=[]) (zl 10 0) zb7 rfl rfl ⟨hx54_0,hx55_0⟩ (fun hHeld=>?_);refine with_tabW line_Request.tab11 line_Request.bits11 (fun HT_ HW_=>?_)
     generalize wc.drew=w34 at HO_4 BK44 HB hx54_0 hx55_0 hHeld ⊢
     refine zpu 0 (N:=some 62) (zl 10 1) HT_.out rfl rfl ?_
     refine zpu 1 (N:=some 63) (zl 10 3) HT_.out rfl rfl ?_
     refine zpu 3 (N:=some 65) (zl 10 11) HT_.out rfl rfl ?_
     refine zpu 4 (N:=some 66) (zl 10 27) HT_.out rfl rfl ?_
     refine zpu 6 (N:=some 68) (zl 10 91) HT_.out rfl rfl ?_
     refine take_ (i:=2) (N:=some 64) (v:=?_) (a' := ?_) (zl 10 95) rfl rfl (take_ofW HT_.out HW_.out zb7) (fun _ _ _ h=>h) (Or.inl ⟨zb49,?_⟩) hHeld ?_ ?_
     rotate_left
     ·rintro w' ⟨s0,s1⟩;go_simp;with_reducible rfl
     rotate_left
     ·simp only [Act.put,zqA,zqB,zqC,i64_w,i32_w];rfl
     refine take_ (i:=5) (N:=some 67) (v:=?_) (a' := ?_) (zl 10 127) rfl rfl (take_ofW HT_.out HW_.out zb7) (fun _ _ _ h=>h) (Or.inl ⟨zb49,?_⟩) hHeld ?_ ?_
     rotate_left
     ·rintro w' ⟨s0,s1⟩;go_simp;with_reducible rfl
     rotate_left
     ·simp only [Act.put,zqA,zqB,zqC,i64_w,i32_w];rfl
     refine zpu 7 (N:=some 69) (zl 10 255) HT_.out rfl rfl ?_
     refine one_ (i:=8) (N:=none) (zl 10 511) rfl rfl (one_of HT_.out zb7) zb78 (fun K hK=>?_)
     have hs35:w34.cell? ⟨gb44,0,none⟩=some (.string (⟨#[]⟩:ByteArray)):=(blk_cell BK44.out 0).trans rfl
     have hfs35:=blk_frozen BK44.out 0
     have hs36:w34.cell? ⟨gb44,1,none⟩=some (.string (⟨#[]⟩:ByteArray)):=(blk_cell BK44.out 1).trans rfl
     have hfs36:=blk_frozen BK44.out 1
     have hs37:w34.cell? ⟨gb44,2,none⟩=some (.int .i64 0):=(blk_cell BK44.out 2).trans rfl
     have hfs37:=blk_frozen BK44.out 2
     have hs38:w34.cell? ⟨gb44,3,none⟩=some (.slice none 0 0):=(blk_cell BK44.out 3).trans rfl
     have hfs38:=blk_frozen BK44.out 3
     have hs39:w34.cell? ⟨gb44,4,none⟩=some (.slice none 0 0):=(blk_cell BK44.out 4).trans rfl
     have hfs39:=blk_frozen BK44.out 4
     refine skip_ (w1:=?_) zb49 rfl ?_ ?_
     rotate_left
     ·go_simp
      rfl
     refine hK.out _ _ ⟨((cell_far (p:=⟨gb44,_,none⟩) zb11 _).trans (((cell_far (p:=⟨gb44,_,none⟩) zb11 _).trans (((cell_far (p:=⟨gb44,_,none⟩) zb11 _).trans (((cell_far (p:=⟨gb44,_,none⟩) zb11 _).trans (((cell_far (p:=⟨gb44,_,none⟩) zb11 _).trans (hHeld.1)))))))))),((cell_far (p:=⟨gb44,_,none⟩) zb11 _).trans (((cell_far (p:=⟨gb44,_,none⟩) zb11 _).trans (((cell_far (p:=⟨gb44,_,none⟩) zb11 _).trans (((cell_far (p:=⟨gb44,_,none⟩) zb11 _).trans (((cell_far (p:=⟨gb44,_,none⟩) zb11 _).trans (hHeld.2))))))))))⟩ (fun hHeld=>?_)
     clear hK K
     refine zpu 9 (N:=some 3) (zl 10 1023) HT_.out rfl rfl ?_
     refine done_ (done_of HT_.out zb7) ?_
     try go_wp2
     refine bodyPost_ret (results_ct rfl _ _ gb44 26 #[.string (rdOf ByteArray.empty t45 0),.string (rdOf ByteArray.empty t45 1),.int .i64 t56,.slice none 0 0,.slice none 0 0] (0,0) _ rfl zb29 Tryz.underlying26 rfl zb7) rfl ?_
     exact ⟨_,_,zb3,zb6,zb6,zb33⟩
    ·replace c31:=Bool.eq_false_iff.mpr c31
     subst c31
     rw [if_neg zf] at H
     simp only [zi,zj] at H
     obtain ⟨rfl,rfl,rfl,rfl,rfl,rfl⟩:=H
     obtain ⟨Ao40,co40,eo40⟩:=Kd.R_slice HO_4.out
     subst eo40
     have p46:0 ≤ (2:Int):=zb10
     have q46:2 < (t45.length:Int):=of_decide_eq_true zb1
     obtain ⟨ad46,e46,hx46_0⟩:=Kd.at_string (Kd.R_reads' HO_4.out).2.2 2 p46 q46
     cases e46
     (try simp only [show (2:Int).toNat=2 from rfl,Nat.reduceMul,Nat.reduceEqDiff,Go.Addr.add,↓reduceIte] at hx46_0)
     have qi46:(2 < t45.length)=True:=eq_true zb10
     (try rw [show ((2:Int)).toNat=2 from rfl] at hx46_0)
     replace p46:=eq_true p46
     replace q46:=eq_true q46
     go_wp2_with (first|((with_reducible refine gate_callee (f:=111) rfl ?_);refine goesL_ (some 41) rfl rfl Tryz.func111 zb7 rfl #[.string (rdOf ByteArray.empty t45 2)] rfl zb2 ?_;(with_reducible refine (line_minor.calls (rdOf ByteArray.empty t45 2) t56 false _ A24.out).mono ?_);rintro e w' ⟨rfl,⟨nd,rfl⟩⟩;(try clear A24);refine ⟨_,rfl,?_⟩;(try (rw [drewN_self wc];generalize hq_:World.drewN wc _=wc;have n0_:Aside0 (Kd.R Kd.string 9 wc w.heap.size (fun _=>True) (.slice (some ad46) t45.length co40) t45):=⟨zb41⟩;have n1_:Aside0 (wc.heap[gb44]? = some (.cells #[.string (⟨#[]⟩:ByteArray),.string (⟨#[]⟩:ByteArray),.int .i64 0,.slice none 0 0,.slice none 0 0] 26 (0,0))):=⟨zb55⟩;have n2_:Aside0 (Below w.heap.size w wc):=⟨zb44⟩;clear HO_4 BK44 HB hq_;have HO_4:=n0_;have BK44:=n1_;have HB:=n2_;clear n0_ n1_ n2_));have p48:0 ≤ (1:Int):=zb10;have q48:1 < (t45.length:Int):=of_decide_eq_true zb1;obtain ⟨ad48,e48,hx48_0⟩:=Kd.at_string (Kd.R_reads' HO_4.out).2.2 1 p48 q48;obtain rfl:ad46=ad48:=(by injection e48);(try simp only [show (1:Int).toNat=1 from rfl,Nat.reduceMul,Nat.reduceEqDiff,Go.Addr.add,↓reduceIte] at hx48_0);have qi48:(1 < t45.length)=True:=eq_true zb10;(try rw [show ((1:Int)).toNat=1 from rfl] at hx48_0);replace p48:=eq_true p48;replace q48:=eq_true q48;have p49:0 ≤ (2:Int):=zb10;have q49:2 < (t45.length:Int):=of_decide_eq_true zb1;obtain ⟨ad49,e49,hx49_0⟩:=Kd.at_string (Kd.R_reads' HO_4.out).2.2 2 p49 q49;obtain rfl:ad46=ad49:=(by injection e49);(try simp only [show (2:Int).toNat=2 from rfl,Nat.reduceMul,Nat.reduceEqDiff,Go.Addr.add,↓reduceIte] at hx49_0);have qi49:(2 < t45.length)=True:=eq_true zb10;(try rw [show ((2:Int)).toNat=2 from rfl] at hx49_0);replace p49:=eq_true p49;replace q49:=eq_true q49)|((with_reducible refine gate_callee (f:=119) rfl ?_);refine goesL_ (some 55) rfl rfl Tryz.func119 zb7 rfl #[.string (rdOf ByteArray.empty t45 2)] rfl zb2 ?_;(with_reducible refine (line_numbered.calls (rdOf ByteArray.empty t45 2) true _ A29.out).mono ?_);rintro e w' ⟨rfl,⟨nd,rfl⟩⟩;(try clear A29);refine ⟨_,rfl,?_⟩;(try (rw [drewN_self wc];generalize hq_:World.drewN wc _=wc;have n0_:Aside0 (Kd.R Kd.string 9 wc w.heap.size (fun _=>True) (.slice (some ad46) t45.length co40) t45):=⟨zb41⟩;have n1_:Aside0 (wc.heap[gb44]? = some (.cells #[.string (⟨#[]⟩:ByteArray),.string (⟨#[]⟩:ByteArray),.int .i64 0,.slice none 0 0,.slice none 0 0] 26 (0,0))):=⟨zb55⟩;have n2_:Aside0 (Below w.heap.size w wc):=⟨zb44⟩;clear HO_4 BK44 HB hq_;have HO_4:=n0_;have BK44:=n1_;have HB:=n2_;clear n0_ n1_ n2_));obtain ⟨hcz41_0,hcz41_1,hcz41_2,hcz41_3,hcz41_4,hfz41_0,hfz41_1,hfz41_2,hfz41_3,hfz41_4⟩:=zq5 BK44.out))
     refine bodyPost_ret (results_ct rfl _ _ gb44 26 #[.string (⟨#[]⟩:ByteArray),.string (⟨#[]⟩:ByteArray),.int .i64 0,.slice none 0 0,.slice none 0 0] (0,0) _ rfl zb29 Tryz.underlying26 rfl zb7) rfl ?_
     exact ⟨_,_,zb3,zb6,zb6,zb33⟩
   ·rw [if_neg c25] at H
    exact absurd H zb24
/-- What the request's first line tells: its status. -/
def reqFst (k:Nat) (s:ByteArray):Option Int:=(line_Request.f k s).bind fun x=>some x.2.2.2.2.2
/-- What its block holds: nothing,or the words of the line that was read last. -/
def ReqVal (x:Option ByteArray) (cs:Array Value):Prop:=match x with
 | none=>cs=#[.string ⟨#[]⟩,.string ⟨#[]⟩,.int .i64 0,.slice none 0 0,.slice none 0 0]
 | some s => ∃ (k:Nat) (r1 r2:ByteArray) (r3:Int) (r4:List (S36)) (r5:List Int) (r6:Int),line_Request.f k s=some (r1,r2,r3,r4,r5,r6)∧cs=#[.string r1,.string r2,.int .i64 r3,.slice none 0 0,.slice none 0 0]
theorem ReqVal.form {x:Option ByteArray} {cs:Array Value} (h:ReqVal x cs) : ∃ (m t:ByteArray) (mi:Int),cs=#[.string m,.string t,.int .i64 mi,.slice none 0 0,.slice none 0 0]:=by
 cases x with
 | none=>exact ⟨_,_,_,h⟩
 | some s=>obtain ⟨_,m,t,mi,_,_,_,_,h⟩:=h;exact ⟨m,t,mi,h⟩
theorem opKeep {W w1:World} (G:Nat) (o:Obj) (hb:Below W.heap.size W w1):KeepBut W (w1.alloc o) G none:=keep_alloc ⟨hb.size,fun i hi _ _=>hb.block i hi⟩ o
theorem opSet {w w1:World} {g:Nat} (h:KeepBut w w1 g none) (j:Nat) (u:Value):KeepBut w (w1.setCell ⟨g,j,none⟩ u) g none :=
 ⟨by simpa [World.setCell] using h.1,fun i hi hg hr=>(Below.heap_setCell w1 ⟨g,j,none⟩ u i hg).trans (h.2 i hi hg hr)⟩
theorem http_open_1.callsOf (G:Nat):FirstOf 75 #[.pointer (some ⟨G,0,none⟩)] reqFst G 26 ReqVal:=by
 intro k W x s c hB h
 unfold reqFst at h
 obtain ⟨⟨r1,r2,r3,r4,r5,r6⟩,hs,h⟩:=Option.bind_eq_some_iff.1 h
 simp only [Option.some.injEq] at h
 subst h
 obtain ⟨cs,hv,hcs⟩:=hB
 obtain ⟨m0,t0,mi0,rfl⟩:=hv.form
 have hu:=Tryz.underlying26
 have HS:=Aside0.mk hs
 have HCS:=Aside0.mk hcs
 clear hs hcs hv
 show Calls Tryz.prog 75 #[.string s,.pointer (some ⟨G,0,none⟩)] W _
 go_enter Tryz.func75,Tryz.ntmps75
 go_wp2_with (go_at_call 76;refine (line_Request.calls k s r1 r2 r3 r4 r5 r6 W HS.out).mono ?_;rintro E w1 ⟨v3,v4,rfl,h3,h4,hb⟩;obtain ⟨A3,c3,rfl⟩:=Kd.R_slice h3;obtain ⟨A4,c4,rfl⟩:=Kd.R_slice h4;have HB:=Aside0.mk hb;have BG:=Aside0.mk (blk_alloc (blk_below HCS.out hb) (.cells #[.string r1,.string r2,.int .i64 r3,.slice A3 r4.length c3,.slice A4 r5.length c4] 26 (0,0)));have hne1 : ¬ (G=w1.heap.size):=Nat.ne_of_lt (blk_lt (blk_below HCS.out hb));have hne2 : ¬ (w1.heap.size=G):=fun e=>hne1 e.symm;have f0:=blk_frozen BG.out 0;have q0:(w1.alloc (.cells #[.string r1,.string r2,.int .i64 r3,.slice A3 r4.length c3,.slice A4 r5.length c4] 26 (0,0))).cell? ⟨G,0,none⟩=some (.string m0):=(blk_cell BG.out 0).trans rfl;have f1:=blk_frozen BG.out 1;have q1:(w1.alloc (.cells #[.string r1,.string r2,.int .i64 r3,.slice A3 r4.length c3,.slice A4 r5.length c4] 26 (0,0))).cell? ⟨G,1,none⟩=some (.string t0):=(blk_cell BG.out 1).trans rfl;have f2:=blk_frozen BG.out 2;have q2:(w1.alloc (.cells #[.string r1,.string r2,.int .i64 r3,.slice A3 r4.length c3,.slice A4 r5.length c4] 26 (0,0))).cell? ⟨G,2,none⟩=some (.int .i64 mi0):=(blk_cell BG.out 2).trans rfl;clear hb h3 h4)
 go_region_held3 (fun w' => w'.cell? ⟨w1.heap.size,0,none⟩=some (.string r1)∧w'.cell? ⟨w1.heap.size,1,none⟩=some (.string r2)∧w'.cell? ⟨w1.heap.size,2,none⟩=some (.int .i64 r3)) (go_keep) (fail)
 go_wp2
 go_ret
 refine ⟨rfl,⟨_,⟨k,r1,r2,r3,r4,r5,r6,HS.out,rfl⟩,blk_drew (blk_put (blk_put (blk_put BG.out 0 _ rfl) 1 _ rfl) 2 _ rfl)⟩,?_,keep_drewN (opSet (opSet (opSet (opKeep G _ HB.out) 0 _) 1 _) 2 _) 1⟩
 refine below_drew1 ?_
 exact (((hbase (Nat.le_of_lt (blk_lt HCS.out)) (below_alloc HB.out _)).setCell (Nat.le_refl _) _).setCell (Nat.le_refl _) _).setCell (Nat.le_refl _) _
def http_open.f (k:Nat) (l0:List Int):Option (ByteArray × ByteArray × Int × List (S36) × List Int × Int × Int × Bool × Int) :=
 (http_head.f reqFst k l0).bind fun h=>if h.2.1=0 then some (⟨#[]⟩,⟨#[]⟩,0,[],[],0,0,false,h.2.2.1) else (h.2.2.2).bind fun s=>(line_Request.f k s).bind fun x=>(http_hosts.f k x.1 x.2.1 x.2.2.1 h.1 []).bind fun g =>
  if g=true then ((frame_Request.f k h.1 x.2.2.1).bind fun y=>some (x.1,x.2.1,x.2.2.1,h.1,[],h.2.1,y.1,y.2.1,y.2.2)) else some (⟨#[]⟩,⟨#[]⟩,0,[],[],0,0,false,400)
/-- What it hands back. -/
def OpenPost (w:World) (r1 r2:ByteArray) (r3:Int) (r4:List (S36)) (r5:List Int) (r6 r7:Int) (r8:Bool) (r9:Int) (e:Ending) (w' : World):Prop := ∃ v4_ v5_:Value,e = .returned (.tuple #[.agg #[.string r1,.string r2,.int .i64 r3,v4_,v5_],.int .i64 r6,.int .i64 r7,.bool r8,.int .i64 r9])∧Kd.R k36 36 w' w.heap.size (fun _=>True) v4_ r4∧Kd.R (Kd.int .u8) 5 w' w.heap.size (fun _=>True) v5_ r5∧Below w.heap.size w w'
theorem lrDet {k k' : Nat} {s:ByteArray} {a b:ByteArray × ByteArray × Int × List (S36) × List Int × Int} (h:line_Request.f k s=some a) (h' : line_Request.f k' s=some b):a=b:=by
 have lup : ∀ {n:Nat} {r},line_Request.f n s=some r → ∀ d,line_Request.f (n + d) s=some r:=by
  intro n r h d
  induction d with
  | zero=>exact h
  | succ d ih=>exact line_Request.mono s _ _ ih
 have h1:=lup h k'
 have h2:=lup h' k
 rw [Nat.add_comm] at h2
 exact Option.some.inj (h1.symm.trans h2)
theorem open_none {w w' : World} {r9:Int} (hb:Below w.heap.size w w'):OpenPost w ⟨#[]⟩ ⟨#[]⟩ 0 [] [] 0 0 false r9 (.returned (.tuple #[.agg #[.string (⟨#[]⟩:ByteArray),.string (⟨#[]⟩:ByteArray),.int .i64 0,.slice none 0 0,.slice none 0 0],.int .i64 0,.int .i64 0,.bool false,.int .i64 r9])) w' := ⟨_,_,rfl,Kd.R_nil _ _ _ _ _,Kd.R_nil _ _ _ _ _,hb⟩
theorem opPut5 {w W:World} {R:Nat} (h:Below w.heap.size w W) (hR:w.heap.size ≤ R) (a b c d e:Value):Below w.heap.size w (((((W.setCell ⟨R,0,none⟩ a).setCell ⟨R,1,none⟩ b).setCell ⟨R,2,none⟩ c).setCell ⟨R,3,none⟩ d).setCell ⟨R,4,none⟩ e) :=
 ((((h.setCell hR a).setCell hR b).setCell hR c).setCell hR d).setCell hR e
theorem opBlk5 {W:World} {R t:Nat} {x0 x1 x2 x3 x4:Value} (h:W.heap[R]? = some (.cells #[x0,x1,x2,x3,x4] t (0,0))) (a b c d e:Value):(((((W.setCell ⟨R,0,none⟩ a).setCell ⟨R,1,none⟩ b).setCell ⟨R,2,none⟩ c).setCell ⟨R,3,none⟩ d).setCell ⟨R,4,none⟩ e).heap[R]? = some (.cells #[a,b,c,d,e] t (0,0)) :=
 blk_put (blk_put (blk_put (blk_put (blk_put h 0 _ rfl) 1 _ rfl) 2 _ rfl) 3 _ rfl) 4 _ rfl
theorem opR5 {α:Type} {dd:Kd α} {ty base R:Nat} {W:World} {v:Value} {xs:List α} (h:dd.R ty W base (fun k=>k ≠ R) v xs) (a b c d e:Value):dd.R ty (((((W.setCell ⟨R,0,none⟩ a).setCell ⟨R,1,none⟩ b).setCell ⟨R,2,none⟩ c).setCell ⟨R,3,none⟩ d).setCell ⟨R,4,none⟩ e) base (fun k=>k ≠ R) v xs :=
 Kd.R_far (Kd.R_far (Kd.R_far (Kd.R_far (Kd.R_far h (fun _ hk=>hk) a) (fun _ hk=>hk) b) (fun _ hk=>hk) c) (fun _ hk=>hk) d) (fun _ hk=>hk) e
theorem http_open.calls (k:Nat) (A0:Option Addr) (c0:Nat) (l0:List Int) (r1 r2:ByteArray) (r3:Int) (r4:List (S36)) (r5:List Int) (r6:Int) (r7:Int) (r8:Bool) (r9:Int) (w:World) (hr0:Kd.C (Kd.int .u8) w A0 l0.length l0) (hc0:l0.length ≤ c0) (h:http_open.f k l0=some (r1,r2,r3,r4,r5,r6,r7,r8,r9)) :
 Calls Tryz.prog 44 #[.slice A0 l0.length c0] w fun e w' => ∃ v3_ v4_:Value,e = .returned (.tuple #[.agg #[.string r1,.string r2,.int .i64 r3,v3_,v4_],.int .i64 r6,.int .i64 r7,.bool r8,.int .i64 r9])∧Kd.R k36 36 w' w.heap.size (fun _=>True) v3_ r4∧Kd.R (Kd.int .u8) 5 w' w.heap.size (fun _=>True) v4_ r5∧Below w.heap.size w w' := by
 show Calls _ _ _ _ (OpenPost w r1 r2 r3 r4 r5 r6 r7 r8 r9)
 unfold http_open.f at h
 obtain ⟨⟨h1,h2,h3,h4⟩,hh,h'⟩:=Option.bind_eq_some_iff.1 h
 clear h
 have h:=h'
 clear h'
 simp only at h
 have hu:=Tryz.underlying26
 have HC:=Aside0.mk hr0
 have HCC:=Aside0.mk hc0
 have HH:=Aside0.mk hh
 have eg : ∀ args w,(callFunc 75 args).run Tryz.prog w = .ok (.enter 75 args) w:=enters_of Tryz.func75 zb7 rfl
 have EG:=Aside0.mk eg
 clear hr0 hc0 hh eg
 by_cases b0:h2=0
 ·rw [if_pos b0] at h
  simp only [zi,zj] at h
  obtain ⟨rfl,rfl,rfl,rfl,rfl,rfl,rfl,rfl,rfl⟩:=h
  subst b0
  go_enter Tryz.func44,Tryz.ntmps44
  go_wp2_with (first
   | ((with_reducible refine gate_dst (N:=2) rfl ?_);refine box_event ?hg (N:=2) ?hd (cs:=#[.string (⟨#[]⟩:ByteArray),.string (⟨#[]⟩:ByteArray),.int .i64 0,.slice none 0 0,.slice none 0 0]) (t:=26) ?hr ?_;(case hd=>rfl);(case hg=>rfl);(case hr=>first|(go_simp;done)|(go_simp;rfl));intro R hR w5 hBR hb5;have BR:=Aside0.mk hBR;have LR:=Aside0.mk hb5;have ER:=Aside0.mk hR;clear hBR hb5 hR)
   | (go_at_call 67;refine (http_head.callsOf reqFst 75 #[.pointer (some ⟨R,0,none⟩)] EG.out R 26 ReqVal w k A0 c0 l0 h1 _ _ _ w5 HC.out HCC.out (Nat.le_of_eq ER.out.symm) ⟨_,rfl,BR.out⟩ LR.out (http_open_1.callsOf R) HH.out).mono ?_;rintro E w7 ⟨v0,rfl,hS⟩;obtain ⟨Af,cf,rfl⟩:=Kd.R_slice hS.2.2;have HS:=Aside0.mk hS;obtain ⟨cs,hv,hBG⟩:=hS.1;obtain ⟨m0,t0,mi0,rfl⟩:=hv.form;have BR7:=Aside0.mk hBG;obtain ⟨q0,q1,q2,q3,q4,f0,f1,f2,f3,f4⟩:=zq5 (x3:=.slice none 0 0) (x4:=.slice none 0 0) BR7.out;clear hv hBG;clear hS))
  refine bodyPost_ret (results_list (rs:=[.cell 2 26,.tmp 3,.tmp 4,.tmp 5,.tmp 6]) rfl zb24 (.cell R 26 #[.string (⟨#[]⟩:ByteArray),.string (⟨#[]⟩:ByteArray),.int .i64 0,.slice none 0 0,.slice none 0 0] (0,0) _ rfl (opBlk5 (blk_put BR7.out 3 _ rfl) _ _ _ _ _) hu rfl zb7 (.tmp (.tmp (.tmp (.tmp .nil)))))) rfl ?_
  exact open_none (opPut5 (HS.out.2.1.setCell (p:=⟨R,3,none⟩) (Nat.le_of_eq ER.out.symm) _) (Nat.le_of_eq ER.out.symm) _ _ _ _ _)
 rw [if_neg b0] at h
 have d2:(h2 == 0)=false:=beq_eq_false_iff_ne.2 b0
 clear b0
 obtain ⟨s,e4,h'⟩:=Option.bind_eq_some_iff.1 h
 subst e4
 clear h
 obtain ⟨⟨x1,x2,x3,x4,x5,x6⟩,hx,h⟩:=Option.bind_eq_some_iff.1 h'
 clear h'
 obtain ⟨g,ho,h'⟩:=Option.bind_eq_some_iff.1 h
 clear h
 simp only at h'
 have h:=h'
 clear h'
 have HX:=Aside0.mk hx
 have HO:=Aside0.mk ho
 clear hx ho
 cases g
 ·rw [if_neg zb24] at h
  simp only [zi,zj] at h
  obtain ⟨rfl,rfl,rfl,rfl,rfl,rfl,rfl,rfl,rfl⟩:=h
  go_enter Tryz.func44,Tryz.ntmps44
  go_wp2_with (first
   | ((with_reducible refine gate_dst (N:=2) rfl ?_);refine box_event ?hg (N:=2) ?hd (cs:=#[.string (⟨#[]⟩:ByteArray),.string (⟨#[]⟩:ByteArray),.int .i64 0,.slice none 0 0,.slice none 0 0]) (t:=26) ?hr ?_;(case hd=>rfl);(case hg=>rfl);(case hr=>first|(go_simp;done)|(go_simp;rfl));intro R hR w5 hBR hb5;have BR:=Aside0.mk hBR;have LR:=Aside0.mk hb5;have ER:=Aside0.mk hR;clear hBR hb5 hR)
   | (go_at_call 67;refine (http_head.callsOf reqFst 75 #[.pointer (some ⟨R,0,none⟩)] EG.out R 26 ReqVal w k A0 c0 l0 h1 _ _ _ w5 HC.out HCC.out (Nat.le_of_eq ER.out.symm) ⟨_,rfl,BR.out⟩ LR.out (http_open_1.callsOf R) HH.out).mono ?_;rintro E w7 ⟨v0,rfl,hS⟩;obtain ⟨Af,cf,rfl⟩:=Kd.R_slice hS.2.2;have HS:=Aside0.mk hS;obtain ⟨cs,⟨k2,s1,s2,s3,s4,s5,s6,hst,rfl⟩,hBG⟩:=hS.1;have e:=lrDet HX.out hst;simp only [Prod.mk.injEq] at e;obtain ⟨rfl,rfl,rfl,rfl,rfl,rfl⟩:=e;have BR7:=Aside0.mk hBG;obtain ⟨q0,q1,q2,q3,q4,f0,f1,f2,f3,f4⟩:=zq5 (x3:=.slice none 0 0) (x4:=.slice none 0 0) BR7.out;clear hst hBG;clear hS)
   | (go_at_call 77;refine (http_hosts.calls k x1 x2 x3 Af cf h1 none 0 [] _ _ (Kd.R_reads' (Kd.R_far (p:=⟨R,3,none⟩) HS.out.2.2 (fun q hq=>hq) _)).2.2 (Kd.R_reads' HS.out.2.2).2.1 ⟨rfl,zb24,fun h=>absurd h (Nat.lt_irrefl 0)⟩ (Nat.zero_le _) HO.out).mono ?_;rintro E w9 ⟨rfl,hb9⟩;have S9:=Aside0.mk (Kd.R_below (Kd.R_far (p:=⟨R,3,none⟩) HS.out.2.2 (fun q hq=>hq) (.slice Af h1.length cf)) hb9);have BR9:=Aside0.mk (blk_below (blk_put BR7.out 3 _ rfl) hb9);have L9:=Aside0.mk ((HS.out.2.1.setCell (p:=⟨R,3,none⟩) (Nat.le_of_eq ER.out.symm) (.slice Af h1.length cf)).trans (hbase (by simpa [World.setCell] using HS.out.2.1.size) hb9));obtain ⟨q0,q1,q2,q3,q4,f0,f1,f2,f3,f4⟩:=zq5 (x3:=.slice Af h1.length cf) (x4:=.slice none 0 0) BR9.out;clear hb9))
  refine bodyPost_ret (results_list (rs:=[.cell 2 26,.tmp 3,.tmp 4,.tmp 5,.tmp 6]) rfl zb24 (.cell R 26 #[.string (⟨#[]⟩:ByteArray),.string (⟨#[]⟩:ByteArray),.int .i64 0,.slice none 0 0,.slice none 0 0] (0,0) _ rfl (opBlk5 BR9.out _ _ _ _ _) hu rfl zb7 (.tmp (.tmp (.tmp (.tmp .nil)))))) rfl ?_
  exact open_none (opPut5 L9.out (Nat.le_of_eq ER.out.symm) _ _ _ _ _)
 rw [if_pos rfl] at h
 obtain ⟨⟨y1,y2,y3⟩,hy,h'⟩:=Option.bind_eq_some_iff.1 h
 clear h
 simp only [zi,zj] at h'
 obtain ⟨rfl,rfl,rfl,rfl,rfl,rfl,rfl,rfl,rfl⟩:=h'
 have HY:=Aside0.mk hy
 clear hy
 go_enter Tryz.func44,Tryz.ntmps44
 go_wp2_with (first
  | ((with_reducible refine gate_dst (N:=2) rfl ?_);refine box_event ?hg (N:=2) ?hd (cs:=#[.string (⟨#[]⟩:ByteArray),.string (⟨#[]⟩:ByteArray),.int .i64 0,.slice none 0 0,.slice none 0 0]) (t:=26) ?hr ?_;(case hd=>rfl);(case hg=>rfl);(case hr=>first|(go_simp;done)|(go_simp;rfl));intro R hR w5 hBR hb5;have BR:=Aside0.mk hBR;have LR:=Aside0.mk hb5;have ER:=Aside0.mk hR;clear hBR hb5 hR)
  | (go_at_call 67;refine (http_head.callsOf reqFst 75 #[.pointer (some ⟨R,0,none⟩)] EG.out R 26 ReqVal w k A0 c0 l0 h1 _ _ _ w5 HC.out HCC.out (Nat.le_of_eq ER.out.symm) ⟨_,rfl,BR.out⟩ LR.out (http_open_1.callsOf R) HH.out).mono ?_;rintro E w7 ⟨v0,rfl,hS⟩;obtain ⟨Af,cf,rfl⟩:=Kd.R_slice hS.2.2;have HS:=Aside0.mk hS;obtain ⟨cs,⟨k2,s1,s2,s3,s4,s5,s6,hst,rfl⟩,hBG⟩:=hS.1;have e:=lrDet HX.out hst;simp only [Prod.mk.injEq] at e;obtain ⟨rfl,rfl,rfl,rfl,rfl,rfl⟩:=e;have BR7:=Aside0.mk hBG;obtain ⟨q0,q1,q2,q3,q4,f0,f1,f2,f3,f4⟩:=zq5 (x3:=.slice none 0 0) (x4:=.slice none 0 0) BR7.out;clear hst hBG;clear hS)
  | (go_at_call 77;refine (http_hosts.calls k x1 x2 x3 Af cf h1 none 0 [] _ _ (Kd.R_reads' (Kd.R_far (p:=⟨R,3,none⟩) HS.out.2.2 (fun q hq=>hq) _)).2.2 (Kd.R_reads' HS.out.2.2).2.1 ⟨rfl,zb24,fun h=>absurd h (Nat.lt_irrefl 0)⟩ (Nat.zero_le _) HO.out).mono ?_;rintro E w9 ⟨rfl,hb9⟩;have S9:=Aside0.mk (Kd.R_below (Kd.R_far (p:=⟨R,3,none⟩) HS.out.2.2 (fun q hq=>hq) (.slice Af h1.length cf)) hb9);have BR9:=Aside0.mk (blk_below (blk_put BR7.out 3 _ rfl) hb9);have L9:=Aside0.mk ((HS.out.2.1.setCell (p:=⟨R,3,none⟩) (Nat.le_of_eq ER.out.symm) (.slice Af h1.length cf)).trans (hbase (by simpa [World.setCell] using HS.out.2.1.size) hb9));obtain ⟨q0,q1,q2,q3,q4,f0,f1,f2,f3,f4⟩:=zq5 (x3:=.slice Af h1.length cf) (x4:=.slice none 0 0) BR9.out;clear hb9)
  | (go_at_call 78;refine (frame_Request.calls k Af cf h1 x3 y1 y2 y3 w9 (Kd.R_reads' S9.out).2.2 (Kd.R_reads' S9.out).2.1 HY.out).mono ?_;rintro E w10 ⟨rfl,hb10⟩;have S10:=Aside0.mk (Kd.R_below S9.out hb10);have BR10:=Aside0.mk (blk_below BR9.out hb10);have L10:=Aside0.mk (L9.out.trans (hbase L9.out.size hb10));obtain ⟨q0,q1,q2,q3,q4,f0,f1,f2,f3,f4⟩:=zq5 (x3:=.slice Af h1.length cf) (x4:=.slice none 0 0) BR10.out;clear hb10))
 refine bodyPost_ret (results_list (rs:=[.cell 2 26,.tmp 3,.tmp 4,.tmp 5,.tmp 6]) rfl zb24 (.cell R 26 #[.string x1,.string x2,.int .i64 x3,.slice Af h1.length cf,.slice none 0 0] (0,0) _ rfl (opBlk5 BR10.out _ _ _ _ _) hu rfl zb7 (.tmp (.tmp (.tmp (.tmp .nil)))))) rfl ?_
 exact ⟨_,_,rfl,Kd.R_mono (opR5 S10.out _ _ _ _ _) (fun _ _=>trivial),Kd.R_nil _ _ _ _ _,opPut5 L10.out (Nat.le_of_eq ER.out.symm) _ _ _ _ _⟩
end Go.Proofs.YtagffbblalldiaaGreatDoor.P
namespace Go.Proofs.YtagffbblalldiaaGreatDoor.P
open Go.RowKit Go.Proofs.YtagffbblalldiaaGreatDoorW.PrintWords Go.Proofs.YtagffbblalldiaaGreatDoorW.PrintLast Go.Proofs.YtagffbblalldiaaGreatDoorW.PrintMore
attribute [local go_sem] max2_int min2_int max_two min_two max_three min_three max_four min_four   -- for this text's walks alone
set_option linter.unusedVariables false
set_option linter.unusedSimpArgs false
theorem globalPow10 : Tryz.prog.globalNamed "internal/strconv.uint64pow10" = some 1 := by kernel_rfl
theorem globalDeBruijn64 : Tryz.prog.globalNamed "math/bits.deBruijn64tab" = some 5 := by kernel_rfl
/-- The two tables of Go's library that numbers' texts read. -/
def Tabs (w : World) : Prop := Lib.TabIs Tryz.prog w "internal/strconv.uint64pow10" .u64 Lib.pow10Tab ∧ Lib.TabIs Tryz.prog w "math/bits.deBruijn64tab" .u8 (Lib.deBruijn64tab.map fun (n : Nat) => (n : Int))
theorem tabIs_below {P : Program} {w W : World} {name : String} {k : IntKind} {zs : List Int} (h : Lib.TabIs P w name k zs) (hb : Below w.heap.size w W) : Lib.TabIs P W name k zs := by
  unfold Lib.TabIs World.var? at h ⊢
  cases hg : P.globalNamed name with
  | none => simp [hg] at h
  | some g =>
    simp only [hg, Option.bind_some] at h ⊢
    have hlt : g < w.heap.size := by
      rcases Nat.lt_or_ge g w.heap.size with h' | h'
      · exact h'
      · simp [Array.getElem?_eq_none h'] at h
    rw [hb.block g hlt]
    exact h
theorem Tabs.below {w W : World} (h : Tabs w) (hb : Below w.heap.size w W) : Tabs W := ⟨tabIs_below h.1 hb, tabIs_below h.2 hb⟩
theorem laidVars_tab {P : Program} {W : World} {name : String} {k : IntKind} {zs : List Int} {g : Nat} {t e : TypeId} {n : Nat}
    (hg : P.globalNamed name = some g) (hty : (P.globals[g]?).map (·.type) = some t) (ht : P.underlying t = some (.array n e)) (he : P.underlying e = some (.int k)) (hce : P.cellsOf e = 1) (hct : P.cellsOf t = n) :
    ∀ {laid : List (String × DataW Unit)} {ps : List MemPlace}, DataW.LaidVars P W laid ps → (name, Lib.tabData k zs) ∈ laid → Lib.TabIs P W name k zs
  | [], _, _, hm => by cases hm
  | (nm, dt) :: rest, ps, h, hm => by
    obtain ⟨g', t', cs, fuel, p, q, hg', ht', hvar, hd, h1, h2⟩ := h
    rcases List.mem_cons.1 hm with e1 | hm
    · obtain ⟨rfl, rfl⟩ := Prod.mk.inj e1
      obtain rfl := Option.some.inj (hg.symm.trans hg')
      obtain rfl := Option.some.inj (hty.symm.trans ht')
      unfold Lib.TabIs
      rw [hvar, ← Lib.cells_of_tab ht he hce hct hd]
    · first | exact laidVars_tab hg hty ht he hce hct h1 hm | exact laidVars_tab hg hty ht he hce hct h2 hm
theorem Tabs.of_vars {W : World} {laid : List (String × DataW Unit)} {ps : List MemPlace} (h : DataW.LaidVars Tryz.prog W laid ps)
    (h1 : ("internal/strconv.uint64pow10", Lib.tabData .u64 Lib.pow10Tab) ∈ laid) (h2 : ("math/bits.deBruijn64tab", Lib.tabData .u8 (Lib.deBruijn64tab.map fun (n : Nat) => (n : Int))) ∈ laid) : Tabs W :=
  ⟨laidVars_tab globalPow10 (by kernel_rfl) Tryz.underlying191 Tryz.underlying180 (by kernel_rfl) (by kernel_rfl) h h1, laidVars_tab globalDeBruijn64 (by kernel_rfl) Tryz.underlying207 Tryz.underlying5 (by kernel_rfl) (by kernel_rfl) h h2⟩
theorem Tabs.of_met {W : World} {laid : List (String × DataW Unit)} (h : laidMet Tryz.prog laid W)
    (h1 : ("internal/strconv.uint64pow10", Lib.tabData .u64 Lib.pow10Tab) ∈ laid) (h2 : ("math/bits.deBruijn64tab", Lib.tabData .u8 (Lib.deBruijn64tab.map fun (n : Nat) => (n : Int))) ∈ laid) : Tabs W := by
  obtain ⟨ps, hv, _⟩ := h
  exact Tabs.of_vars hv h1 h2
end Go.Proofs.YtagffbblalldiaaGreatDoor.P
