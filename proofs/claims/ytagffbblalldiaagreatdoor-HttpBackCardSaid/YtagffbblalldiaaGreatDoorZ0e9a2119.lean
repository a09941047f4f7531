/- Each function below answers as its Lean twin says; plain lemmas; a row where its theorem stands. No further condition. (Laid by this repo's pack.py out of its texts and of the print's words.) -/
import Derived.Test.YtagffbblalldiaaGreatDoorZ0e6c455e
import Derived.Test.YtagffbblalldiaaGreatDoorZa9aa4ed7
import Derived.Lib.LastIndexByte
import Derived.Laws.RangeString
import Derived.Laws.RangeAny
import Derived.Lib.SlTrimSet
import Derived.Deep.RegionHeld3
import Derived.Shelf.Abstract
import Derived.Deep.AppendSrc
import Derived.Deep.MidRow
import Derived.Lib.ConvBytes
namespace Go.Proofs.YtagffbblalldiaaGreatDoor.P
open Go.RowKit Go.Proofs.YtagffbblalldiaaGreatDoorW.PrintWords Go.Proofs.YtagffbblalldiaaGreatDoorW.PrintLast Go.Proofs.YtagffbblalldiaaGreatDoorW.PrintMore
attribute [local go_sem] max2_int min2_int max_two min_two max_three min_three max_four min_four
set_option linter.unusedVariables false
set_option linter.unusedSimpArgs false
def frame_length.l0:Nat → Int → List ByteArray → Int → Int → Option (Int × Bool)
 | 0,_,_,_,_=>none
 | k + 1,x5,x12,x13,x14=>if x14 < x13 then (if 0 ≤ x14 then (if x14 < (x12.length:Int) then ((sign_Decimal.f k (rdOf ByteArray.empty x12 x14)).bind fun bt233=>(if bt233.2=true then (if x5 ≥ 0 then (if bt233.1=x5 then (frame_length.l0 k bt233.1 x12 x13 (wrap64 (x14 + 1))) else (some (0,false))) else (frame_length.l0 k bt233.1 x12 x13 (wrap64 (x14 + 1)))) else (some (0,false)))) else (none)) else (none)) else (some (x5,decide (x5 ≥ 0)))
def frame_length.f (k:Nat) (l0:List (S36)):Option (Int × Bool):=(field_List.f k l0 (⟨#[67,111,110,116,101,110,116,45,76,101,110,103,116,104]⟩:ByteArray)).bind fun t229=>(frame_length.l0 k (-1) t229 (t229.length:Int) 0)
set_option maxHeartbeats 8000000 in
set_option maxRecDepth 100000 in
theorem frame_length.calls (k:Nat) (A0:Option Addr) (c0:Nat) (l0:List (S36)) (r1:Int) (r2:Bool) (w:World) (hr0:Kd.C k36 w A0 l0.length l0) (hc0:l0.length ≤ c0) (h:frame_length.f k l0=some (r1,r2)) :
 Calls Tryz.prog 120 #[.slice A0 l0.length c0] w fun e w' => e = .returned (.tuple #[.int .i64 r1,.bool r2])∧Below w.heap.size w w' := by
 have HR0:=Aside0.mk hr0
 have HC0:=Aside0.mk hc0
 clear hr0 hc0
 have HB:=Aside0.mk (Below.refl w.heap.size w)
 unfold frame_length.f at h
 have H:=h
 clear h
 replace H:=Option.bind_eq_some_iff.mp H
 obtain ⟨t229,A20,H⟩:=H
 try dsimp only at H
 have A2:=Aside0.mk A20
 clear A20
 have H' := Aside0.mk H
 clear H
 go_enter Tryz.func120,Tryz.ntmps120
 go_wp2_with (first|((with_reducible refine gate_callee (f:=87) rfl ?_);refine goesL_ (some 11) rfl rfl Tryz.func87 zb8 rfl #[.slice A0 l0.length c0,.string (⟨#[67,111,110,116,101,110,116,45,76,101,110,103,116,104]⟩:ByteArray)] rfl zb1 ?_;(with_reducible refine (field_List.calls k _ _ l0 (⟨#[67,111,110,116,101,110,116,45,76,101,110,103,116,104]⟩:ByteArray) t229 _ ?side1 ?side2 A2.out).mono ?_);(case side1=>exact zb17);(case side2=>exact HC0.out);rintro e w3 ⟨v230,rfl,ho0,hb⟩;(try clear A2);refine ⟨_,rfl,?_⟩;have HO231:=Aside0.mk (Kd.R_lower ho0 (below_size zb0));replace HB:=Aside0.mk (below_step zb0 hb);try clear hb ho0;obtain ⟨Ao4,co4,eo4⟩:=Kd.R_slice HO231.out;subst eo4))
 go_loopg [5,14] k (fun kq v5 v14 w' => ∃ (x5_1:Int) (x14_1:Int),v5 = .int .i64 x5_1∧v14 = .int .i64 x14_1∧Aside0 (frame_length.l0 kq x5_1 t229 (t229.length:Int) x14_1=some (r1,r2))∧Aside0 (kq ≤ k)∧Aside0 (Kd.R Kd.string 9 w' w.heap.size (fun _=>True) (.slice Ao4 t229.length co4) t229)∧Aside0 (Below w.heap.size w w'))
 case atStart=>exact ⟨((-1)),(0),zb6,zb6,H',⟨Nat.le_refl _⟩,⟨by (with_reducible repeat (first|apply Kd.R_alloc|apply Kd.R_drewN|apply Kd.R_drew));exact HO231.out⟩,⟨zb0⟩⟩
 case round =>
  clear H'
  try clear c1
  try clear p2
  obtain ⟨x5_1,x14_1,rfl,rfl,HA,HK1,HO_12,HB⟩:=hrel
  cases gk with
  | zero=>exact absurd HA.out (by simp [frame_length.l0])
  | succ k1 =>
   have H:=HA.out
   clear HA
   simp only [frame_length.l0] at H
   by_cases c5:x14_1 < (t229.length:Int);rotate_left
   ·rw [if_neg c5] at H
    have c5b0:=decide_eq_false c5
    clear c5
    simp only [Option.some.injEq,Prod.mk.injEq] at H
    obtain ⟨rfl,rfl⟩:=H
    go_wp2
    go_ret2
    exact ⟨zb3,zb0⟩
   rw [if_pos c5] at H
   have c5b0:=decide_eq_true c5
   clear c5
   by_cases c6:0 ≤ x14_1
   ·rw [if_pos c6] at H
    have c6b0:=decide_eq_true c6
    clear c6
    by_cases c7:x14_1 < (t229.length:Int)
    ·rw [if_pos c7] at H
     have c7b0:=decide_eq_true c7
     clear c7
     replace H:=Option.bind_eq_some_iff.mp H
     obtain ⟨⟨t233,t234⟩,A80,H⟩:=H
     try dsimp only at H
     have A8:=Aside0.mk A80
     clear A80
     by_cases c9:t234=true;rotate_left
     ·replace c9:=Bool.eq_false_iff.mpr c9
      subst c9
      rw [if_neg (show ¬ (false=true) by decide)] at H
      simp only [Option.some.injEq,Prod.mk.injEq] at H
      obtain ⟨rfl,rfl⟩:=H
      have p232:0 ≤ (x14_1:Int):=of_decide_eq_true zb4
      have q232:x14_1 < (t229.length:Int):=of_decide_eq_true zb4
      obtain ⟨ad232,e232,hx232_0⟩:=Kd.at_string (Kd.R_reads' HO_12.out).2.2 x14_1 p232 q232
      cases e232
      replace p232:=eq_true p232
      replace q232:=eq_true q232
      go_wp2_with (first|((with_reducible refine gate_callee (f:=112) rfl ?_);refine goesL_ (some 20) rfl rfl Tryz.func112 zb8 rfl #[.string (rdOf ByteArray.empty t229 x14_1)] rfl zb1 ?_;(with_reducible refine (sign_Decimal.calls k1 (rdOf ByteArray.empty t229 x14_1) t233 false _ A8.out).mono ?_);rintro e w15 ⟨rfl,hb⟩;(try clear A8);refine ⟨_,rfl,?_⟩;replace HO_12:=Aside0.mk (Kd.R_below zb74 hb);replace HB:=Aside0.mk (below_step zb0 hb);(try clear hb)))
      go_ret2
      exact ⟨zb3,zb0⟩
     subst c9
     rw [if_pos rfl] at H
     by_cases c10:x5_1 ≥ 0;rotate_left
     ·rw [if_neg c10] at H
      have c10b0:decide (0 ≤ x5_1)=false:=decide_eq_false c10
      clear c10
      have H' := Aside0.mk H
      clear H
      have p232:0 ≤ (x14_1:Int):=of_decide_eq_true zb4
      have q232:x14_1 < (t229.length:Int):=of_decide_eq_true zb4
      obtain ⟨ad232,e232,hx232_0⟩:=Kd.at_string (Kd.R_reads' HO_12.out).2.2 x14_1 p232 q232
      cases e232
      replace p232:=eq_true p232
      replace q232:=eq_true q232
      go_wp2_with (first|((with_reducible refine gate_callee (f:=112) rfl ?_);refine goesL_ (some 20) rfl rfl Tryz.func112 zb8 rfl #[.string (rdOf ByteArray.empty t229 x14_1)] rfl zb1 ?_;(with_reducible refine (sign_Decimal.calls k1 (rdOf ByteArray.empty t229 x14_1) t233 true _ A8.out).mono ?_);rintro e w14 ⟨rfl,hb⟩;(try clear A8);refine ⟨_,rfl,?_⟩;replace HO_12:=Aside0.mk (Kd.R_below zb74 hb);replace HB:=Aside0.mk (below_step zb0 hb);(try clear hb)))
      go_roundg k1
      case measure=>have:=HK1.out;omega
      case rel=>exact ⟨(t233),(wrap64 (x14_1 + 1)),zb6,zb6,H',⟨zb93⟩,⟨zb74⟩,⟨zb0⟩⟩
     rw [if_pos c10] at H
     have c10b0:decide (0 ≤ x5_1)=true:=decide_eq_true c10
     clear c10
     by_cases c11:t233=x5_1
     ·rw [if_pos c11] at H
      have c11b0:=beq_iff_eq.mpr c11
      have c11b1:=bne_eq_false_iff_eq.mpr c11
      clear c11
      have H' := Aside0.mk H
      clear H
      have p232:0 ≤ (x14_1:Int):=of_decide_eq_true zb4
      have q232:x14_1 < (t229.length:Int):=of_decide_eq_true zb4
      obtain ⟨ad232,e232,hx232_0⟩:=Kd.at_string (Kd.R_reads' HO_12.out).2.2 x14_1 p232 q232
      cases e232
      replace p232:=eq_true p232
      replace q232:=eq_true q232
      go_wp2_with (first|((with_reducible refine gate_callee (f:=112) rfl ?_);refine goesL_ (some 20) rfl rfl Tryz.func112 zb8 rfl #[.string (rdOf ByteArray.empty t229 x14_1)] rfl zb1 ?_;(with_reducible refine (sign_Decimal.calls k1 (rdOf ByteArray.empty t229 x14_1) t233 true _ A8.out).mono ?_);rintro e w12 ⟨rfl,hb⟩;(try clear A8);refine ⟨_,rfl,?_⟩;replace HO_12:=Aside0.mk (Kd.R_below zb74 hb);replace HB:=Aside0.mk (below_step zb0 hb);(try clear hb)))
      go_roundg k1
      case measure=>have:=HK1.out;omega
      case rel=>exact ⟨(t233),(wrap64 (x14_1 + 1)),zb6,zb6,H',⟨zb93⟩,⟨zb74⟩,⟨zb0⟩⟩
     ·rw [if_neg c11] at H
      have c11b0:=beq_eq_false_iff_ne.mpr c11
      have c11b1:=bne_iff_ne.mpr c11
      simp only [Option.some.injEq,Prod.mk.injEq] at H
      obtain ⟨rfl,rfl⟩:=H
      have p232:0 ≤ (x14_1:Int):=of_decide_eq_true zb4
      have q232:x14_1 < (t229.length:Int):=of_decide_eq_true zb4
      obtain ⟨ad232,e232,hx232_0⟩:=Kd.at_string (Kd.R_reads' HO_12.out).2.2 x14_1 p232 q232
      cases e232
      replace p232:=eq_true p232
      replace q232:=eq_true q232
      go_wp2_with (first|((with_reducible refine gate_callee (f:=112) rfl ?_);refine goesL_ (some 20) rfl rfl Tryz.func112 zb8 rfl #[.string (rdOf ByteArray.empty t229 x14_1)] rfl zb1 ?_;(with_reducible refine (sign_Decimal.calls k1 (rdOf ByteArray.empty t229 x14_1) t233 true _ A8.out).mono ?_);rintro e w13 ⟨rfl,hb⟩;(try clear A8);refine ⟨_,rfl,?_⟩;replace HO_12:=Aside0.mk (Kd.R_below zb74 hb);replace HB:=Aside0.mk (below_step zb0 hb);(try clear hb)))
      go_ret2
      exact ⟨zb3,zb0⟩
    ·rw [if_neg c7] at H
     exact absurd H zb42
   ·rw [if_neg c6] at H
    exact absurd H zb42
def frame_there.f (k:Nat) (l0:List (S36)) (a1:ByteArray):Option (Bool):=(field_Get.f k l0 a1).bind fun t208=>(some (decide ((t208.length:Int) > 0)))
set_option maxHeartbeats 8000000 in
set_option maxRecDepth 100000 in
theorem frame_there.calls (k:Nat) (A0:Option Addr) (c0:Nat) (l0:List (S36)) (a1:ByteArray) (r:Bool) (w:World) (hr0:Kd.C k36 w A0 l0.length l0) (hc0:l0.length ≤ c0) (h:frame_there.f k l0 a1=some r) :
 Calls Tryz.prog 115 #[.slice A0 l0.length c0,.string a1] w fun e w' => e = .returned (.bool r)∧Below w.heap.size w w' := by
 have HR0:=Aside0.mk hr0
 have HC0:=Aside0.mk hc0
 clear hr0 hc0
 have HB:=Aside0.mk (Below.refl w.heap.size w)
 unfold frame_there.f at h
 have H:=h
 clear h
 replace H:=Option.bind_eq_some_iff.mp H
 obtain ⟨t208,A30,H⟩:=H
 try dsimp only at H
 have A3:=Aside0.mk A30
 clear A30
 obtain rfl:=Option.some.inj H
 go_enter Tryz.func115,Tryz.ntmps115
 go_wp2_with (first|((with_reducible refine gate_callee (f:=50) rfl ?_);refine goesL_ (some 7) rfl rfl Tryz.func50 zb8 rfl #[.slice A0 l0.length c0,.string a1] rfl zb1 ?_;(with_reducible refine (field_Get.calls k _ _ l0 a1 t208 _ ?side1 ?side2 A3.out).mono ?_);(case side1=>exact zb17);(case side2=>exact HC0.out);rintro e w4 ⟨v209,rfl,ho0,hb⟩;(try clear A3);refine ⟨_,rfl,?_⟩;have HO210:=Aside0.mk (Kd.R_lower ho0 (below_size zb0));replace HB:=Aside0.mk (below_step zb0 hb);try clear hb ho0;obtain ⟨Ao5,co5,eo5⟩:=Kd.R_slice HO210.out;subst eo5))
 go_ret
 exact ⟨zb3,zb0⟩
mutual
def frame_Request.j0:Nat → List (S36) → Bool → Bool → Int → Bool → Bool → Option (Int × Bool × Int)
 | 0,_,_,_,_,_,_=>none
 | k + 1,x0,x7,x8,x9,x10,x20=>if x20=true then (some (0,false,400)) else (if x8=true then ((frame_chunked.f k x0).bind fun t244=>(frame_Request.j1 k x7 x8 x9 x10 (!t244))) else (frame_Request.j1 k x7 x8 x9 x10 false))
def frame_Request.j1:Nat → Bool → Bool → Int → Bool → Bool → Option (Int × Bool × Int)
 | 0,_,_,_,_,_=>none
 | k + 1,x7,x8,x9,x10,x29=>if x29=true then (some (0,false,501)) else (if x8=true then (some (0,true,0)) else (if x7=true then (if x10=true then (if x9 > 4096 then (some (0,false,413)) else (some (x9,false,0))) else (some (0,false,400))) else (some (0,false,0))))
end
def frame_Request.f (k:Nat) (l0:List (S36)) (a1:Int):Option (Int × Bool × Int):=(frame_there.f k l0 (⟨#[67,111,110,116,101,110,116,45,76,101,110,103,116,104]⟩:ByteArray)).bind fun t240=>((frame_there.f k l0 (⟨#[84,114,97,110,115,102,101,114,45,69,110,99,111,100,105,110,103]⟩:ByteArray)).bind fun t241=>((frame_length.f k l0).bind fun bt242=>(if t241=true then (if t240=true then (frame_Request.j0 k l0 t240 t241 bt242.1 bt242.2 true) else (frame_Request.j0 k l0 t240 t241 bt242.1 bt242.2 (a1 == 0))) else (frame_Request.j0 k l0 t240 t241 bt242.1 bt242.2 false))))
set_option maxHeartbeats 8000000 in
set_option maxRecDepth 100000 in
theorem frame_Request.calls (k:Nat) (A0:Option Addr) (c0:Nat) (l0:List (S36)) (a1:Int) (r1:Int) (r2:Bool) (r3:Int) (w:World) (hr0:Kd.C k36 w A0 l0.length l0) (hc0:l0.length ≤ c0) (h:frame_Request.f k l0 a1=some (r1,r2,r3)) :
 Calls Tryz.prog 78 #[.slice A0 l0.length c0,.int .i64 a1] w fun e w' => e = .returned (.tuple #[.int .i64 r1,.bool r2,.int .i64 r3])∧Below w.heap.size w w' := by
 have HR0:=Aside0.mk hr0
 have HC0:=Aside0.mk hc0
 clear hr0 hc0
 have HB:=Aside0.mk (Below.refl w.heap.size w)
 unfold frame_Request.f at h
 have H:=h
 clear h
 replace H:=Option.bind_eq_some_iff.mp H
 obtain ⟨t240,A30,H⟩:=H
 try dsimp only at H
 have A3:=Aside0.mk A30
 clear A30
 replace H:=Option.bind_eq_some_iff.mp H
 obtain ⟨t241,A40,H⟩:=H
 try dsimp only at H
 have A4:=Aside0.mk A40
 clear A40
 replace H:=Option.bind_eq_some_iff.mp H
 obtain ⟨⟨t242,t243⟩,A50,H⟩:=H
 try dsimp only at H
 have A5:=Aside0.mk A50
 clear A50
 have HC6:=Aside0.mk H
 clear H
 go_enter Tryz.func78,Tryz.ntmps78
 go_upto_region 3 with (first|((with_reducible refine gate_callee (f:=115) rfl ?_);refine goesL_ (some 12) rfl rfl Tryz.func115 zb8 rfl #[.slice A0 l0.length c0,.string (⟨#[67,111,110,116,101,110,116,45,76,101,110,103,116,104]⟩:ByteArray)] rfl zb1 ?_;(with_reducible refine (frame_there.calls k _ _ l0 (⟨#[67,111,110,116,101,110,116,45,76,101,110,103,116,104]⟩:ByteArray) t240 _ ?side1 ?side2 A3.out).mono ?_);(case side1=>exact zb17);(case side2=>exact HC0.out);rintro e w7 ⟨rfl,hb⟩;refine ⟨_,rfl,?_⟩;replace HB:=Aside0.mk (below_step zb0 hb);(try clear hb))|((with_reducible refine gate_callee (f:=115) rfl ?_);refine goesL_ (some 14) rfl rfl Tryz.func115 zb8 rfl #[.slice A0 l0.length c0,.string (⟨#[84,114,97,110,115,102,101,114,45,69,110,99,111,100,105,110,103]⟩:ByteArray)] rfl zb1 ?_;(with_reducible refine (frame_there.calls k _ _ l0 (⟨#[84,114,97,110,115,102,101,114,45,69,110,99,111,100,105,110,103]⟩:ByteArray) t241 _ ?side1 ?side2 A4.out).mono ?_);(case side1=>exact zb61);(case side2=>exact HC0.out);rintro e w8 ⟨rfl,hb⟩;refine ⟨_,rfl,?_⟩;replace HB:=Aside0.mk (below_step zb0 hb);(try clear hb))|((with_reducible refine gate_callee (f:=120) rfl ?_);refine goesL_ (some 17) rfl rfl Tryz.func120 zb8 rfl #[.slice A0 l0.length c0] rfl zb1 ?_;(with_reducible refine (frame_length.calls k _ _ l0 t242 t243 _ ?side1 ?side2 A5.out).mono ?_);(case side1=>exact zb61);(case side2=>exact HC0.out);rintro e w9 ⟨rfl,hb⟩;refine ⟨_,rfl,?_⟩;replace HB:=Aside0.mk (below_step zb0 hb);(try clear hb)))
 (try simp only [Act.put,zqA,zqB,zqC])
 go_cut [20] (fun v20 wc => ∃ (kq:Nat) (x20_5:Bool),v20 = .bool x20_5∧Aside0 (frame_Request.j0 kq l0 t240 t241 t242 t243 x20_5=some (r1,r2,r3))∧Aside0 (kq ≤ k)∧Aside0 (Below w.heap.size w wc))
 case first =>
  have H:=HC6.out
  clear HC6
  by_cases c10:t241=true;rotate_left
  ·replace c10:=Bool.eq_false_iff.mpr c10
   subst c10
   rw [if_neg (show ¬ (false=true) by decide)] at H
   have H' := Aside0.mk H
   clear H
   go_wp2
   go_meet
   case rel=>exact ⟨_,(false),zb6,H',⟨zb85⟩,⟨zb0⟩⟩
  subst c10
  rw [if_pos rfl] at H
  by_cases c11:t240=true
  ·subst c11
   rw [if_pos rfl] at H
   have H' := Aside0.mk H
   clear H
   go_wp2
   go_meet
   case rel=>exact ⟨_,(true),zb6,H',⟨zb85⟩,⟨zb0⟩⟩
  ·replace c11:=Bool.eq_false_iff.mpr c11
   subst c11
   rw [if_neg (show ¬ (false=true) by decide)] at H
   have H' := Aside0.mk H
   clear H
   go_wp2
   go_meet
   case rel=>exact ⟨_,((a1 == 0)),zb6,H',⟨zb85⟩,⟨zb0⟩⟩
 case rest =>
  clear HC6
  try clear c1
  try clear p2
  try clear c7
  try clear c10
  try clear c11
  obtain ⟨kq,x20_5,rfl,HA,HJ5,HB⟩:=hcut
  cases kq with
  | zero=>exact absurd HA.out (by simp [frame_Request.j0])
  | succ kj5 =>
   have H:=HA.out
   clear HA
   simp only [frame_Request.j0] at H
   by_cases c12:x20_5=true
   ·subst c12
    rw [if_pos rfl] at H
    simp only [Option.some.injEq,Prod.mk.injEq] at H
    obtain ⟨rfl,rfl,rfl⟩:=H
    go_wp2
    go_ret3
    exact ⟨zb3,zb0⟩
   replace c12:=Bool.eq_false_iff.mpr c12
   subst c12
   rw [if_neg (show ¬ (false=true) by decide)] at H
   have HC13:=Aside0.mk H
   clear H
   go_upto_region 5 with (fail)
   go_cut [29] (fun v29 wc => ∃ (kq:Nat) (x29_12:Bool),v29 = .bool x29_12∧Aside0 (frame_Request.j1 kq t240 t241 t242 t243 x29_12=some (r1,r2,r3))∧Aside0 (kq ≤ kj5)∧Aside0 (Below w.heap.size w wc))
   case first =>
    have H:=HC13.out
    clear HC13
    by_cases c14:t241=true;rotate_left
    ·replace c14:=Bool.eq_false_iff.mpr c14
     subst c14
     rw [if_neg (show ¬ (false=true) by decide)] at H
     have H' := Aside0.mk H
     clear H
     go_wp2
     go_meet
     case rel=>exact ⟨_,(false),zb6,H',⟨by have:=HJ5.out;first|omega|exact Nat.le_refl _⟩,⟨zb0⟩⟩
    subst c14
    rw [if_pos rfl] at H
    replace H:=Option.bind_eq_some_iff.mp H
    obtain ⟨t244,A150,H⟩:=H
    try dsimp only at H
    have A15:=Aside0.mk A150
    clear A150
    have H' := Aside0.mk H
    clear H
    go_wp2_with (first|(go_at_call 121;(with_reducible refine (frame_chunked.calls kj5 _ _ l0 t244 _ ?side1 ?side2 A15.out).mono ?_);(case side1=>exact zb61);(case side2=>exact HC0.out);rintro e w16 ⟨rfl,hb⟩;(try clear A15);replace HB:=Aside0.mk (below_step zb0 hb);(try clear hb)))
    go_meet
    case rel=>exact ⟨_,(!t244),zb6,H',⟨by have:=HJ5.out;first|omega|exact Nat.le_refl _⟩,⟨zb0⟩⟩
   case rest =>
    clear HC13
    try clear c1
    try clear p2
    try clear c7
    try clear c10
    try clear c11
    try clear c12
    try clear c14
    try clear p2
    obtain ⟨kq,x29_12,rfl,HA,HJ12,HB⟩:=hcut
    cases kq with
    | zero=>exact absurd HA.out (by simp [frame_Request.j1])
    | succ kj12 =>
     have H:=HA.out
     clear HA
     simp only [frame_Request.j1] at H
     by_cases c17:x29_12=true
     ·subst c17
      rw [if_pos rfl] at H
      simp only [Option.some.injEq,Prod.mk.injEq] at H
      obtain ⟨rfl,rfl,rfl⟩:=H
      go_wp2
      go_ret3
      exact ⟨zb3,zb0⟩
     replace c17:=Bool.eq_false_iff.mpr c17
     subst c17
     rw [if_neg (show ¬ (false=true) by decide)] at H
     by_cases c18:t241=true
     ·subst c18
      rw [if_pos rfl] at H
      simp only [Option.some.injEq,Prod.mk.injEq] at H
      obtain ⟨rfl,rfl,rfl⟩:=H
      go_wp2
      go_ret3
      exact ⟨zb3,zb0⟩
     replace c18:=Bool.eq_false_iff.mpr c18
     subst c18
     rw [if_neg (show ¬ (false=true) by decide)] at H
     by_cases c19:t240=true;rotate_left
     ·replace c19:=Bool.eq_false_iff.mpr c19
      subst c19
      rw [if_neg (show ¬ (false=true) by decide)] at H
      simp only [Option.some.injEq,Prod.mk.injEq] at H
      obtain ⟨rfl,rfl,rfl⟩:=H
      go_wp2
      go_ret3
      exact ⟨zb3,zb0⟩
     subst c19
     rw [if_pos rfl] at H
     by_cases c20:t243=true
     ·subst c20
      rw [if_pos rfl] at H
      by_cases c21:t242 > 4096
      ·rw [if_pos c21] at H
       have c21b0:decide (4096 < t242)=true:=decide_eq_true c21
       clear c21
       simp only [Option.some.injEq,Prod.mk.injEq] at H
       obtain ⟨rfl,rfl,rfl⟩:=H
       go_wp2
       go_ret3
       exact ⟨zb3,zb0⟩
      rw [if_neg c21] at H
      have c21b0:decide (4096 < t242)=false:=decide_eq_false c21
      clear c21
      simp only [Option.some.injEq,Prod.mk.injEq] at H
      obtain ⟨rfl,rfl,rfl⟩:=H
      go_wp2
      go_ret3
      exact ⟨zb3,zb0⟩
     ·replace c20:=Bool.eq_false_iff.mpr c20
      subst c20
      rw [if_neg (show ¬ (false=true) by decide)] at H
      simp only [Option.some.injEq,Prod.mk.injEq] at H
      obtain ⟨rfl,rfl,rfl⟩:=H
      go_wp2
      go_ret3
      exact ⟨zb3,zb0⟩
def strings_LastIndexByte.f (a0:ByteArray) (a1:Int):Option Int:=if a0.size < 4611686018427387904 then some (Lib.lastIndexByte a0 a1) else none
theorem strings_LastIndexByte.calls (a0:ByteArray) (a1:Int) (r:Int) (w:World) (h:strings_LastIndexByte.f a0 a1=some r) :
 Calls Tryz.prog 90 #[.string a0,.int .u8 a1] w fun e w' => e = .returned (.int .i64 r)∧Drawn0 w w' := by
 unfold strings_LastIndexByte.f at h
 split at h
 ·rename_i hs
  obtain rfl:=Option.some.inj h
  refine (Tryz.strings_LastIndexByte a0 a1 hs w).mono ?_
  rintro e w' ⟨rfl,rfl⟩
  exact ⟨rfl,Drawn0.refl _⟩
 cases h
/-- A host's byte. -/
def hostC (c:Int):Bool:=decide ((48 ≤ c∧c ≤ 57) ∨ (97 ≤ c∧c ≤ 122) ∨ c=45 ∨ c=46)
/-- Does a text end in a port? -/
def hostPort (t:ByteArray):Bool:=decide (0 ≤ Lib.lastIndexByte t 58) && (Lib.trimS (t.extract (Lib.lastIndexByte t 58 + 1).toNat t.size).data.toList [48,49,50,51,52,53,54,55,56,57]).isEmpty
/-- The text without its port. -/
def hostCut (t:ByteArray):ByteArray:=if hostPort t=true then t.extract 0 (Lib.lastIndexByte t 58).toNat else t
def hostEnd (u:ByteArray):ByteArray × Bool:=if u.size=0 ∨ 64 < u.size then ((⟨#[]⟩:ByteArray),false) else if (bytesOf u).all hostC=true then (u,true) else ((⟨#[]⟩:ByteArray),false)
def line_Host.f (a0:ByteArray):Option (ByteArray × Bool) :=
 if a0.size ≤ 140737488355328 then some (hostEnd (hostCut (strOfNums ((bytesOf a0).map foldC)))) else none
theorem host_rune (s:ByteArray) (pos:Nat) (h:pos < s.size) (r:Nat) (hr:(Utf8.decode s pos).1=r) :
 (hostC (r:Int)=true → (Utf8.decode s pos).2=1∧bt s (pos:Int)=(r:Int))∧(hostC (r:Int)=false → hostC (bt s (pos:Int))=false)∧r ≤ 2147483647:=by
 subst hr
 have hb:bt s (pos:Int)=((s[pos]'h).toNat:Int):=by unfold bt;rw [dif_pos (by rw [Int.toNat_natCast];exact h)];rfl
 refine ⟨?_,?_,decode_le s pos⟩
 ·intro ht
  by_cases ha:(s[pos]'h).toNat < 128
  ·rw [decode_ascii s pos h ha,hb];exact ⟨rfl,rfl⟩
  have:=decode_high s pos h (by omega)
  unfold hostC at ht
  have:=of_decide_eq_true ht
  omega
 intro hf
 by_cases ha:(s[pos]'h).toNat < 128
 ·rw [decode_ascii s pos h ha] at hf;rw [hb];exact hf
 rw [hb]
 unfold hostC
 exact decide_eq_false (by omega)
theorem host_class (c:Int):(48 ≤ c∧c ≤ 57) ∨ (97 ≤ c∧c ≤ 122) ∨ c=45 ∨ c=46 ∨ (c < 48∧c ≠ 45∧c ≠ 46) ∨ (57 < c∧c < 97) ∨ 122 < c:=by omega
theorem lastIdx_lt (s:ByteArray) (c:Int):Lib.lastIndexByte s c < (s.size:Int) ∧ -1 ≤ Lib.lastIndexByte s c:=by
 rcases Lib.lastIndexByte_spec s c with ⟨h,_⟩|⟨i,hi,h,_⟩ <;> rw [h] <;> omega
theorem host_isEmpty (s:ByteArray):s.toList.isEmpty=decide (s.size=0):=by
 have h1:s.toList=s.data.toList:=by simp [ByteArray.toList_eq]
 rw [h1,Bool.eq_iff_iff,List.isEmpty_iff,decide_eq_true_eq,← data_length]
 exact List.length_eq_zero_iff.symm
theorem host_drop (p:Int → Bool) (s:ByteArray) (x:Nat) (h:x < s.size):((bytesOf s).drop x).all p=(p (bt s x) && ((bytesOf s).drop (x + 1)).all p):=by
 have:=bytes_drop_all p s x (by omega) (by omega)
 rwa [Int.toNat_natCast] at this
set_option maxHeartbeats 8000000 in
set_option maxRecDepth 100000 in
theorem line_Host.calls (a0:ByteArray) (r1:ByteArray) (r2:Bool) (w:World) (h:line_Host.f a0=some (r1,r2)) :
 Calls Tryz.prog 51 #[.string a0] w fun e w' => e = .returned (.tuple #[.string r1,.bool r2])∧Below w.heap.size w w' := by
 unfold line_Host.f at h
 by_cases h0:a0.size ≤ 140737488355328;rotate_left
 ·rw [if_neg h0] at h
  cases h
 rw [if_pos h0] at h
 have H:=Aside0.mk (Option.some.inj h)
 clear h
 have HF:=Aside0.mk (show sign_Fold.f a0=some (strOfNums ((bytesOf a0).map foldC)) from if_pos h0)
 have hz:(strOfNums ((bytesOf a0).map foldC)).size=a0.size:=by rw [strOfNums_size,List.length_map,bytesOf_length]
 obtain ⟨t,ht⟩ : ∃ t,t=strOfNums ((bytesOf a0).map foldC):=⟨_,rfl⟩
 rw [← ht] at H HF hz
 have hts:t.size ≤ 140737488355328:=by omega
 clear ht hz h0
 have HL:=Aside0.mk (show strings_LastIndexByte.f t 58=some (Lib.lastIndexByte t 58) from if_pos zb25)
 obtain ⟨h1,h2⟩:=lastIdx_lt t 58
 obtain ⟨u,hu⟩ : ∃ u,u=hostCut t:=⟨_,rfl⟩
 rw [← hu] at H
 unfold hostCut hostPort at hu
 obtain ⟨i,hi⟩ : ∃ i,i=Lib.lastIndexByte t 58:=⟨_,rfl⟩
 rw [← hi] at HL h1 h2 hu
 clear hi
 have HU:=Aside0.mk hu
 clear hu
 have hw:wrap64 (i + 1)=i + 1:=by unfold wrap64;omega
 have HW:=Aside0.mk hw
 clear hw
 go_enter Tryz.func51,Tryz.ntmps51
 go_wp2_with fail
 go_at_call 64
 refine (sign_Fold.calls a0 t _ HF.out).mono ?_
 rintro e w1 ⟨rfl,hb⟩
 have HB:=Aside0.mk hb
 clear hb
 go_wp2_with fail
 go_at_call 90
 refine (strings_LastIndexByte.calls t 58 _ _ HL.out).mono ?_
 rintro e w2 ⟨rfl,nd,rfl⟩
 by_cases c0:0 ≤ i
 case' pos =>
  have c1:decide (i ≥ 0)=true:=decide_eq_true c0
  have c2:=decide_eq_true c0
  have p1:0 ≤ i + 1:=by omega
  have p2:i + 1 ≤ (t.size:Int):=by omega
  have hw:=HW.out
  obtain ⟨q,hq⟩ : ∃ q,q=t.extract (i + 1).toNat t.size:=⟨_,rfl⟩
  have hqs:q.size ≤ t.size:=by rw [hq,ByteArray.size_extract];omega
  have HTR:=Aside0.mk (show strings_Trim.f q (⟨#[48,49,50,51,52,53,54,55,56,57]⟩:ByteArray)=some ⟨(Lib.trimS q.data.toList [48,49,50,51,52,53,54,55,56,57]).toArray⟩ from if_pos ⟨zb25,zb52,zb52⟩)
  have HQ:=Aside0.mk hq
  clear hqs
  have hu:=HU.out
  rw [decide_eq_true c0,← hq,Bool.true_and] at hu
  clear HU
  obtain ⟨x,hx⟩ : ∃ x,x=Lib.trimS q.data.toList [48,49,50,51,52,53,54,55,56,57]:=⟨_,rfl⟩
  rw [← hx] at HTR hu
  clear hx
  have HU:=Aside0.mk hu
  clear hu
  have hqq:=hq.symm
  clear hq
  go_wp2_with fail
  go_at_call 91
  refine (strings_Trim.calls q _ _ _ HTR.out).mono ?_
  rintro e w2 ⟨rfl,hb⟩
  have HB2:=Aside0.mk (below_step (by repeat (first|exact HB.out|apply below_alloc|apply pw_below_drewN)) hb)
  clear HB hb hqq
  have HB:=HB2
  clear HB2
  cases hxe:x.isEmpty
  case' false =>
   have hu:=HU.out
   rw [hxe,if_neg zb42] at hu
   subst hu
   clear HU
  case' true =>
   have hu:=(HU.out).trans (if_pos hxe)
   have huu:=hu.symm
   clear hu HU
 case' neg =>
  have c1:decide (i ≥ 0)=false:=decide_eq_false c0
  have c2:=decide_eq_false c0
  have hu:=HU.out
  rw [decide_eq_false c0,Bool.false_and,if_neg zb42] at hu
  subst hu
  clear HU
  obtain ⟨w2,hw2⟩ : ∃ w2,w1.drewN nd=w2:=⟨_,rfl⟩
  have HB2:Aside0 (Below w.heap.size w w2):=⟨by rw [← hw2];exact pw_below_drewN HB.out nd⟩
  rw [hw2]
  clear HB hw2
  have HB:=HB2
  clear HB2
 all_goals
  by_cases e0:u.size=0 ∨ 64 < u.size
  ·have HE:=H.out
   unfold hostEnd at HE
   rw [if_pos e0] at HE
   obtain ⟨rfl,rfl⟩:=Prod.mk.inj HE
   clear HE H
   by_cases e1:u.size=0
   ·have z1:u.toList=[]:=List.isEmpty_iff.1 (by rw [host_isEmpty,decide_eq_true e1])
    clear e0 e1
    go_wp2_with fail
    go_ret2
    exact ⟨rfl,HB.out⟩
   have z1:u.toList.isEmpty=false:=by rw [host_isEmpty,decide_eq_false e1]
   have z2:(u.toList=[])=False:=eq_false (fun e=>by rw [e] at z1;cases z1)
   have z3:(64 < (u.size:Int))=True:=eq_true zb25
   clear e0 e1
   go_wp2_with fail
   go_ret2
   exact ⟨rfl,HB.out⟩
  have z1:u.toList.isEmpty=false:=by rw [host_isEmpty];exact decide_eq_false zb25
  have z2:(u.toList=[])=False:=eq_false (fun e=>by rw [e] at z1;cases z1)
  have z3:(64 < (u.size:Int))=False:=eq_false zb25
  have z4:decide (64 < (u.size:Int))=false:=decide_eq_false zb25
  have z5:u.size ≤ 64:=by omega
  have HE:=H.out
  unfold hostEnd at HE
  rw [if_neg e0] at HE
  have HE2:=Aside0.mk HE
  clear HE H e0
  go_wp2_with fail
  go_loopw [6] (fun _ wr => ∃ pos:Nat,wr=w2.iter u pos∧Aside0 ((bytesOf u).all hostC=((bytesOf u).drop pos).all hostC∧pos ≤ u.size)) (fun _ wr=>u.size - wr.iterPos w2.heap.size)
  case atStart=>exact ⟨0,rfl,⟨by rw [List.drop_zero],zb25⟩⟩
  case round =>
   obtain ⟨pos,rfl,HP⟩:=hrel
   by_cases hp:pos < u.size;rotate_left
   ·have hnx : ∀ ty,(Instr.next (.pointer (some ⟨w2.heap.size,0,none⟩)) true ty).run Tryz.prog (w2.iter u pos) = .ok (.tuple #[.bool false]) (w2.iter u pos):=fun ty=>run_next_end w2 u pos ty hp
    have HE:=HE2.out
    rw [HP.out.1,List.drop_of_length_le (by rw [bytesOf_length];omega)] at HE
    rw [if_pos (show ([]:List Int).all hostC=true from rfl)] at HE
    obtain ⟨rfl,rfl⟩:=Prod.mk.inj HE
    clear HE HE2 hp
    go_wp2_with fail
    go_ret2
    exact ⟨rfl,HB.out.alloc (HB.out.size) _⟩
   obtain ⟨r,hr⟩ : ∃ r,(Utf8.decode u pos).1=r:=⟨_,rfl⟩
   obtain ⟨wd,hwd⟩ : ∃ wd,(Utf8.decode u pos).2=wd:=⟨_,rfl⟩
   have hnx : ∀ ty,(Instr.next (.pointer (some ⟨w2.heap.size,0,none⟩)) true ty).run Tryz.prog (w2.iter u pos) = .ok (.tuple #[.bool true,.int .i64 pos,.int .i32 r]) (w2.iter u (pos + wd)):=fun ty=>by rw [run_next_any w2 u pos ty hp,hr,hwd]
   obtain ⟨f1,f2,f3⟩:=host_rune u pos hp r hr
   rw [hwd] at f1
   have hall:=host_drop hostC u pos hp
   have F:=Aside0.mk (And.intro f1 (And.intro f2 (And.intro hall (And.intro hp HP.out))))
   clear f1 f2 hall hr hwd hp HP
   rcases host_class (r:Int) with c|c|c|c|c|c|c
   ·have d0:decide ((r:Int) < 48)=false:=decide_eq_false zb25
    have d1:decide ((r:Int) > 57)=false:=decide_eq_false zb25
    have d2:decide ((r:Int) < 97)=true:=decide_eq_true zb25
    have d3:decide ((r:Int) > 122)=false:=decide_eq_false zb25
    have d4:((r:Int) == 45)=false:=by rw [beq_eq_false_iff_ne];omega
    have n4:((r:Int) != 45)=true:=by unfold bne;rw [d4];rfl
    have d5:((r:Int) == 46)=false:=by rw [beq_eq_false_iff_ne];omega
    have n5:((r:Int) != 46)=true:=by unfold bne;rw [d5];rfl
    have hc:hostC (r:Int)=true:=decide_eq_true zb25
    have G:=F.out
    obtain ⟨g1,g2⟩:=G.1 hc
    rw [G.2.2.1,g2,hc,Bool.true_and] at G
    subst g1
    have G2:=Aside0.mk G
    clear F G g2 hc c f3
    go_wp2_with fail
    go_roundw
    case rel=>exact ⟨pos + 1,rfl,⟨by rw [G2.out.2.2.2.2.1,G2.out.2.2.1],by have:=G2.out.2.2.2.1;omega⟩⟩
    case measure=>have:=G2.out.2.2.2.1;simp;omega
   ·have d0:decide ((r:Int) < 48)=false:=decide_eq_false zb25
    have d1:decide ((r:Int) > 57)=true:=decide_eq_true zb25
    have d2:decide ((r:Int) < 97)=false:=decide_eq_false zb25
    have d3:decide ((r:Int) > 122)=false:=decide_eq_false zb25
    have d4:((r:Int) == 45)=false:=by rw [beq_eq_false_iff_ne];omega
    have n4:((r:Int) != 45)=true:=by unfold bne;rw [d4];rfl
    have d5:((r:Int) == 46)=false:=by rw [beq_eq_false_iff_ne];omega
    have n5:((r:Int) != 46)=true:=by unfold bne;rw [d5];rfl
    have hc:hostC (r:Int)=true:=decide_eq_true zb25
    have G:=F.out
    obtain ⟨g1,g2⟩:=G.1 hc
    rw [G.2.2.1,g2,hc,Bool.true_and] at G
    subst g1
    have G2:=Aside0.mk G
    clear F G g2 hc c f3
    go_wp2_with fail
    go_roundw
    case rel=>exact ⟨pos + 1,rfl,⟨by rw [G2.out.2.2.2.2.1,G2.out.2.2.1],by have:=G2.out.2.2.2.1;omega⟩⟩
    case measure=>have:=G2.out.2.2.2.1;simp;omega
   ·have d0:decide ((r:Int) < 48)=true:=decide_eq_true zb25
    have d1:decide ((r:Int) > 57)=false:=decide_eq_false zb25
    have d2:decide ((r:Int) < 97)=true:=decide_eq_true zb25
    have d3:decide ((r:Int) > 122)=false:=decide_eq_false zb25
    have d4:((r:Int) == 45)=true:=by rw [beq_iff_eq];omega
    have n4:((r:Int) != 45)=false:=by unfold bne;rw [d4];rfl
    have d5:((r:Int) == 46)=false:=by rw [beq_eq_false_iff_ne];omega
    have n5:((r:Int) != 46)=true:=by unfold bne;rw [d5];rfl
    have hc:hostC (r:Int)=true:=decide_eq_true zb25
    have G:=F.out
    obtain ⟨g1,g2⟩:=G.1 hc
    rw [G.2.2.1,g2,hc,Bool.true_and] at G
    subst g1
    have G2:=Aside0.mk G
    clear F G g2 hc c f3
    go_wp2_with fail
    go_roundw
    case rel=>exact ⟨pos + 1,rfl,⟨by rw [G2.out.2.2.2.2.1,G2.out.2.2.1],by have:=G2.out.2.2.2.1;omega⟩⟩
    case measure=>have:=G2.out.2.2.2.1;simp;omega
   ·have d0:decide ((r:Int) < 48)=true:=decide_eq_true zb25
    have d1:decide ((r:Int) > 57)=false:=decide_eq_false zb25
    have d2:decide ((r:Int) < 97)=true:=decide_eq_true zb25
    have d3:decide ((r:Int) > 122)=false:=decide_eq_false zb25
    have d4:((r:Int) == 45)=false:=by rw [beq_eq_false_iff_ne];omega
    have n4:((r:Int) != 45)=true:=by unfold bne;rw [d4];rfl
    have d5:((r:Int) == 46)=true:=by rw [beq_iff_eq];omega
    have n5:((r:Int) != 46)=false:=by unfold bne;rw [d5];rfl
    have hc:hostC (r:Int)=true:=decide_eq_true zb25
    have G:=F.out
    obtain ⟨g1,g2⟩:=G.1 hc
    rw [G.2.2.1,g2,hc,Bool.true_and] at G
    subst g1
    have G2:=Aside0.mk G
    clear F G g2 hc c f3
    go_wp2_with fail
    go_roundw
    case rel=>exact ⟨pos + 1,rfl,⟨by rw [G2.out.2.2.2.2.1,G2.out.2.2.1],by have:=G2.out.2.2.2.1;omega⟩⟩
    case measure=>have:=G2.out.2.2.2.1;simp;omega
   ·have d0:decide ((r:Int) < 48)=true:=decide_eq_true zb25
    have d1:decide ((r:Int) > 57)=false:=decide_eq_false zb25
    have d2:decide ((r:Int) < 97)=true:=decide_eq_true zb25
    have d3:decide ((r:Int) > 122)=false:=decide_eq_false zb25
    have d4:((r:Int) == 45)=false:=by rw [beq_eq_false_iff_ne];omega
    have n4:((r:Int) != 45)=true:=by unfold bne;rw [d4];rfl
    have d5:((r:Int) == 46)=false:=by rw [beq_eq_false_iff_ne];omega
    have n5:((r:Int) != 46)=true:=by unfold bne;rw [d5];rfl
    have hc:hostC (r:Int)=false:=decide_eq_false zb25
    have G:=F.out
    have g1:=G.2.1 hc
    have HE:=HE2.out
    rw [G.2.2.2.2.1,G.2.2.1,g1,Bool.false_and,if_neg zb42] at HE
    obtain ⟨rfl,rfl⟩:=Prod.mk.inj HE
    clear HE HE2 F G g1 hc c f3
    go_wp2_with fail
    go_ret2
    exact ⟨rfl,HB.out.alloc (HB.out.size) _⟩
   ·have d0:decide ((r:Int) < 48)=false:=decide_eq_false zb25
    have d1:decide ((r:Int) > 57)=true:=decide_eq_true zb25
    have d2:decide ((r:Int) < 97)=true:=decide_eq_true zb25
    have d3:decide ((r:Int) > 122)=false:=decide_eq_false zb25
    have d4:((r:Int) == 45)=false:=by rw [beq_eq_false_iff_ne];omega
    have n4:((r:Int) != 45)=true:=by unfold bne;rw [d4];rfl
    have d5:((r:Int) == 46)=false:=by rw [beq_eq_false_iff_ne];omega
    have n5:((r:Int) != 46)=true:=by unfold bne;rw [d5];rfl
    have hc:hostC (r:Int)=false:=decide_eq_false zb25
    have G:=F.out
    have g1:=G.2.1 hc
    have HE:=HE2.out
    rw [G.2.2.2.2.1,G.2.2.1,g1,Bool.false_and,if_neg zb42] at HE
    obtain ⟨rfl,rfl⟩:=Prod.mk.inj HE
    clear HE HE2 F G g1 hc c f3
    go_wp2_with fail
    go_ret2
    exact ⟨rfl,HB.out.alloc (HB.out.size) _⟩
   have d0:decide ((r:Int) < 48)=false:=decide_eq_false zb25
   have d1:decide ((r:Int) > 57)=true:=decide_eq_true zb25
   have d2:decide ((r:Int) < 97)=false:=decide_eq_false zb25
   have d3:decide ((r:Int) > 122)=true:=decide_eq_true zb25
   have d4:((r:Int) == 45)=false:=by rw [beq_eq_false_iff_ne];omega
   have n4:((r:Int) != 45)=true:=by unfold bne;rw [d4];rfl
   have d5:((r:Int) == 46)=false:=by rw [beq_eq_false_iff_ne];omega
   have n5:((r:Int) != 46)=true:=by unfold bne;rw [d5];rfl
   have hc:hostC (r:Int)=false:=decide_eq_false zb25
   have G:=F.out
   have g1:=G.2.1 hc
   have HE:=HE2.out
   rw [G.2.2.2.2.1,G.2.2.1,g1,Bool.false_and,if_neg zb42] at HE
   obtain ⟨rfl,rfl⟩:=Prod.mk.inj HE
   clear HE HE2 F G g1 hc c f3
   go_wp2_with fail
   go_ret2
   exact ⟨rfl,HB.out.alloc (HB.out.size) _⟩
def http_hosts.f (k:Nat) (a0_0:ByteArray) (a0_1:ByteArray) (a0_2:Int) (l0_3:List (S36)) (l0_4:List Int):Option (Bool):=(field_Get.f k l0_3 (⟨#[72,111,115,116]⟩:ByteArray)).bind fun t202=>(if (t202.length:Int)=0 then (some (a0_2 == 0)) else (if 0 < (t202.length:Int) then ((line_Host.f (rdOf ByteArray.empty t202 0)).bind fun bt206=>(if bt206.2=true then (some ((t202.length:Int) == 1)) else (some false))) else (none)))
set_option maxHeartbeats 8000000 in
set_option maxRecDepth 100000 in
theorem http_hosts.calls (k:Nat) (a0_0:ByteArray) (a0_1:ByteArray) (a0_2:Int) (A0_3:Option Addr) (c0_3:Nat) (l0_3:List (S36)) (A0_4:Option Addr) (c0_4:Nat) (l0_4:List Int) (r:Bool) (w:World) (hr0_3:Kd.C k36 w A0_3 l0_3.length l0_3) (hc0_3:l0_3.length ≤ c0_3) (hr0_4:Kd.C (Kd.int .u8) w A0_4 l0_4.length l0_4) (hc0_4:l0_4.length ≤ c0_4) (h:http_hosts.f k a0_0 a0_1 a0_2 l0_3 l0_4=some r) :
 Calls Tryz.prog 77 #[.agg #[.string a0_0,.string a0_1,.int .i64 a0_2,.slice A0_3 l0_3.length c0_3,.slice A0_4 l0_4.length c0_4]] w fun e w' => e = .returned (.bool r)∧Below w.heap.size w w' := by
 have hu26:=Tryz.underlying26
 have HR0_3:=Aside0.mk hr0_3
 have HC0_3:=Aside0.mk hc0_3
 clear hr0_3 hc0_3
 have HR0_4:=Aside0.mk hr0_4
 have HC0_4:=Aside0.mk hc0_4
 clear hr0_4 hc0_4
 have HB:=Aside0.mk (Below.refl w.heap.size w)
 unfold http_hosts.f at h
 have H:=h
 clear h
 replace H:=Option.bind_eq_some_iff.mp H
 obtain ⟨t202,A20,H⟩:=H
 try dsimp only at H
 have A2:=Aside0.mk A20
 clear A20
 by_cases c3:(t202.length:Int)=0
 ·rw [if_pos c3] at H
  have c3b0:=beq_iff_eq.mpr c3
  have c3b1:=bne_eq_false_iff_eq.mpr c3
  clear c3
  obtain rfl:=Option.some.inj H
  go_enter Tryz.func77,Tryz.ntmps77
  go_wp2_with (first|((with_reducible refine gate_dst (N:=1) rfl ?_);(try (refine gate_guard zb49 ?_;dsimp only));refine box_event rfl (N:=1) rfl (cs:=#[.string a0_0,.string a0_1,.int .i64 a0_2,.slice A0_3 l0_3.length c0_3,.slice A0_4 l0_4.length c0_4]) (t:=26) zS ?_;intro gb201 hg w4 hbox hb;have GW201:=zG hg zb0;have GE201:=GW201;have BK201:=Aside0.mk hbox;replace HB:=Aside0.mk (below_step zb0 hb);clear hb hbox hg;obtain ⟨hcz5_0,hcz5_1,hcz5_2,hcz5_3,hcz5_4,hfz5_0,hfz5_1,hfz5_2,hfz5_3,hfz5_4⟩:=zq5 BK201.out)|((with_reducible refine gate_callee (f:=50) rfl ?_);refine goesL_ (some 8) rfl rfl Tryz.func50 zb8 rfl #[.slice A0_3 l0_3.length c0_3,.string (⟨#[72,111,115,116]⟩:ByteArray)] rfl zb1 ?_;(with_reducible refine (field_Get.calls k _ _ l0_3 (⟨#[72,111,115,116]⟩:ByteArray) t202 _ ?side1 ?side2 A2.out).mono ?_);(case side1=>exact zb70);(case side2=>exact HC0_3.out);rintro e w6 ⟨v203,rfl,ho0,hb⟩;(try clear A2);refine ⟨_,rfl,?_⟩;have HO204:=Aside0.mk (Kd.R_lower ho0 (below_size zb26));replace BK201:=Aside0.mk (blk_below (g:=gb201) (o:=.cells #[.string a0_0,.string a0_1,.int .i64 a0_2,.slice A0_3 l0_3.length c0_3,.slice A0_4 l0_4.length c0_4] 26 (0,0)) zb75 hb);replace HB:=Aside0.mk (below_step zb26 hb);try clear hb ho0;obtain ⟨Ao7,co7,eo7⟩:=Kd.R_slice HO204.out;subst eo7;obtain ⟨hcz8_0,hcz8_1,hcz8_2,hcz8_3,hcz8_4,hfz8_0,hfz8_1,hfz8_2,hfz8_3,hfz8_4⟩:=zq5 BK201.out))
  go_ret
  exact ⟨zb3,zb26⟩
 rw [if_neg c3] at H
 have c3b0:=beq_eq_false_iff_ne.mpr c3
 have c3b1:=bne_iff_ne.mpr c3
 have c3b2 : ¬ (t202=[]):=fun h_=>c3 (by rw [h_];rfl)
 by_cases c9:0 < (t202.length:Int);rotate_left
 ·rw [if_neg c9] at H
  exact absurd H zb42
 rw [if_pos c9] at H
 have c9b0:=decide_eq_true c9
 have c9b1:decide (0 < t202.length)=true:=decide_eq_true zb25
 clear c9
 replace H:=Option.bind_eq_some_iff.mp H
 obtain ⟨⟨t206,t207⟩,A100,H⟩:=H
 try dsimp only at H
 have A10:=Aside0.mk A100
 clear A100
 by_cases c11:t207=true
 ·subst c11
  rw [if_pos rfl] at H
  obtain rfl:=Option.some.inj H
  go_enter Tryz.func77,Tryz.ntmps77
  go_wp2_with (first|((with_reducible refine gate_dst (N:=1) rfl ?_);(try (refine gate_guard zb49 ?_;dsimp only));refine box_event rfl (N:=1) rfl (cs:=#[.string a0_0,.string a0_1,.int .i64 a0_2,.slice A0_3 l0_3.length c0_3,.slice A0_4 l0_4.length c0_4]) (t:=26) zS ?_;intro gb201 hg w12 hbox hb;have GW201:=zG hg zb0;have GE201:=GW201;have BK201:=Aside0.mk hbox;replace HB:=Aside0.mk (below_step zb0 hb);clear hb hbox hg;obtain ⟨hcz13_0,hcz13_1,hcz13_2,hcz13_3,hcz13_4,hfz13_0,hfz13_1,hfz13_2,hfz13_3,hfz13_4⟩:=zq5 BK201.out)|((with_reducible refine gate_callee (f:=50) rfl ?_);refine goesL_ (some 8) rfl rfl Tryz.func50 zb8 rfl #[.slice A0_3 l0_3.length c0_3,.string (⟨#[72,111,115,116]⟩:ByteArray)] rfl zb1 ?_;(with_reducible refine (field_Get.calls k _ _ l0_3 (⟨#[72,111,115,116]⟩:ByteArray) t202 _ ?side1 ?side2 A2.out).mono ?_);(case side1=>exact zb70);(case side2=>exact HC0_3.out);rintro e w14 ⟨v203,rfl,ho0,hb⟩;(try clear A2);refine ⟨_,rfl,?_⟩;have HO204:=Aside0.mk (Kd.R_lower ho0 (below_size zb26));replace BK201:=Aside0.mk (blk_below (g:=gb201) (o:=.cells #[.string a0_0,.string a0_1,.int .i64 a0_2,.slice A0_3 l0_3.length c0_3,.slice A0_4 l0_4.length c0_4] 26 (0,0)) zb75 hb);replace HB:=Aside0.mk (below_step zb26 hb);try clear hb ho0;obtain ⟨Ao15,co15,eo15⟩:=Kd.R_slice HO204.out;subst eo15;have p205:0 ≤ (0:Int):=zb25;have q205:0 < (t202.length:Int):=of_decide_eq_true zb4;obtain ⟨ad205,e205,hx205_0⟩:=Kd.at_string (Kd.R_reads' HO204.out).2.2 0 p205 q205;cases e205;have qi205:(0 < t202.length)=True:=eq_true zb25;(try rw [show ((0:Int)).toNat=0 from rfl] at hx205_0);(try rw [Addr.add_zero'] at hx205_0);replace p205:=eq_true p205;replace q205:=eq_true q205)|((with_reducible refine gate_callee (f:=51) rfl ?_);refine goesL_ (some 19) rfl rfl Tryz.func51 zb8 rfl #[.string (rdOf ByteArray.empty t202 0)] rfl zb1 ?_;(with_reducible refine (line_Host.calls (rdOf ByteArray.empty t202 0) t206 true _ A10.out).mono ?_);rintro e w16 ⟨rfl,hb⟩;(try clear A10);refine ⟨_,rfl,?_⟩;replace HO204:=Aside0.mk (Kd.R_below (by (with_reducible repeat (first|apply Kd.R_alloc|apply Kd.R_drewN|apply Kd.R_drew));exact HO204.out) hb);replace BK201:=Aside0.mk (blk_below (g:=gb201) (o:=.cells #[.string a0_0,.string a0_1,.int .i64 a0_2,.slice A0_3 l0_3.length c0_3,.slice A0_4 l0_4.length c0_4] 26 (0,0)) zb75 hb);replace HB:=Aside0.mk (below_step zb26 hb);(try clear hb)))
  go_ret
  exact ⟨zb3,zb26⟩
 replace c11:=Bool.eq_false_iff.mpr c11
 subst c11
 rw [if_neg (show ¬ (false=true) by decide)] at H
 obtain rfl:=Option.some.inj H
 go_enter Tryz.func77,Tryz.ntmps77
 go_wp2_with (first|((with_reducible refine gate_dst (N:=1) rfl ?_);(try (refine gate_guard zb49 ?_;dsimp only));refine box_event rfl (N:=1) rfl (cs:=#[.string a0_0,.string a0_1,.int .i64 a0_2,.slice A0_3 l0_3.length c0_3,.slice A0_4 l0_4.length c0_4]) (t:=26) zS ?_;intro gb201 hg w17 hbox hb;have GW201:=zG hg zb0;have GE201:=GW201;have BK201:=Aside0.mk hbox;replace HB:=Aside0.mk (below_step zb0 hb);clear hb hbox hg;obtain ⟨hcz18_0,hcz18_1,hcz18_2,hcz18_3,hcz18_4,hfz18_0,hfz18_1,hfz18_2,hfz18_3,hfz18_4⟩:=zq5 BK201.out)|((with_reducible refine gate_callee (f:=50) rfl ?_);refine goesL_ (some 8) rfl rfl Tryz.func50 zb8 rfl #[.slice A0_3 l0_3.length c0_3,.string (⟨#[72,111,115,116]⟩:ByteArray)] rfl zb1 ?_;(with_reducible refine (field_Get.calls k _ _ l0_3 (⟨#[72,111,115,116]⟩:ByteArray) t202 _ ?side1 ?side2 A2.out).mono ?_);(case side1=>exact zb70);(case side2=>exact HC0_3.out);rintro e w19 ⟨v203,rfl,ho0,hb⟩;(try clear A2);refine ⟨_,rfl,?_⟩;have HO204:=Aside0.mk (Kd.R_lower ho0 (below_size zb26));replace BK201:=Aside0.mk (blk_below (g:=gb201) (o:=.cells #[.string a0_0,.string a0_1,.int .i64 a0_2,.slice A0_3 l0_3.length c0_3,.slice A0_4 l0_4.length c0_4] 26 (0,0)) zb75 hb);replace HB:=Aside0.mk (below_step zb26 hb);try clear hb ho0;obtain ⟨Ao20,co20,eo20⟩:=Kd.R_slice HO204.out;subst eo20;have p205:0 ≤ (0:Int):=zb25;have q205:0 < (t202.length:Int):=of_decide_eq_true zb4;obtain ⟨ad205,e205,hx205_0⟩:=Kd.at_string (Kd.R_reads' HO204.out).2.2 0 p205 q205;cases e205;have qi205:(0 < t202.length)=True:=eq_true zb25;(try rw [show ((0:Int)).toNat=0 from rfl] at hx205_0);(try rw [Addr.add_zero'] at hx205_0);replace p205:=eq_true p205;replace q205:=eq_true q205)|((with_reducible refine gate_callee (f:=51) rfl ?_);refine goesL_ (some 19) rfl rfl Tryz.func51 zb8 rfl #[.string (rdOf ByteArray.empty t202 0)] rfl zb1 ?_;(with_reducible refine (line_Host.calls (rdOf ByteArray.empty t202 0) t206 false _ A10.out).mono ?_);rintro e w21 ⟨rfl,hb⟩;(try clear A10);refine ⟨_,rfl,?_⟩;replace HO204:=Aside0.mk (Kd.R_below (by (with_reducible repeat (first|apply Kd.R_alloc|apply Kd.R_drewN|apply Kd.R_drew));exact HO204.out) hb);replace BK201:=Aside0.mk (blk_below (g:=gb201) (o:=.cells #[.string a0_0,.string a0_1,.int .i64 a0_2,.slice A0_3 l0_3.length c0_3,.slice A0_4 l0_4.length c0_4] 26 (0,0)) zb75 hb);replace HB:=Aside0.mk (below_step zb26 hb);(try clear hb)))
 go_ret
 exact ⟨zb3,zb26⟩
def line_minor.f (a0:ByteArray):Option (Int × Bool):=if a0.toList=([72,84,84,80,47,49,46,48]:List UInt8) then (some (0,true)) else (if a0.toList=([72,84,84,80,47,49,46,49]:List UInt8) then (some (1,true)) else (some (0,false)))
set_option maxHeartbeats 8000000 in
set_option maxRecDepth 100000 in
theorem line_minor.calls (a0:ByteArray) (r1:Int) (r2:Bool) (w:World) (h:line_minor.f a0=some (r1,r2)) :
 Calls Tryz.prog 111 #[.string a0] w fun e w' => e = .returned (.tuple #[.int .i64 r1,.bool r2])∧Drawn0 w w' := by
 unfold line_minor.f at h
 have H:=h
 clear h
 by_cases c2:a0.toList=([72,84,84,80,47,49,46,48]:List UInt8)
 ·rw [if_pos c2] at H
  have c2b0:=beq_iff_eq.mpr c2
  have c2b1:=bne_eq_false_iff_eq.mpr c2
  clear c2
  simp only [Option.some.injEq,Prod.mk.injEq] at H
  obtain ⟨rfl,rfl⟩:=H
  go_enter Tryz.func111,Tryz.ntmps111
  go_wp2
  go_ret2
  exact ⟨zb6,zb9⟩
 rw [if_neg c2] at H
 have c2b0:=beq_eq_false_iff_ne.mpr c2
 have c2b1:=bne_iff_ne.mpr c2
 by_cases c3:a0.toList=([72,84,84,80,47,49,46,49]:List UInt8);rotate_left
 ·rw [if_neg c3] at H
  have c3b0:=beq_eq_false_iff_ne.mpr c3
  have c3b1:=bne_iff_ne.mpr c3
  simp only [Option.some.injEq,Prod.mk.injEq] at H
  obtain ⟨rfl,rfl⟩:=H
  go_enter Tryz.func111,Tryz.ntmps111
  go_wp2
  go_ret2
  exact ⟨zb6,zb9⟩
 rw [if_pos c3] at H
 have c3b0:=beq_iff_eq.mpr c3
 have c3b1:=bne_eq_false_iff_eq.mpr c3
 clear c3
 simp only [Option.some.injEq,Prod.mk.injEq] at H
 obtain ⟨rfl,rfl⟩:=H
 go_enter Tryz.func111,Tryz.ntmps111
 go_wp2
 go_ret2
 exact ⟨zb6,zb9⟩
def line_digit.f (a0:Int):Option (Bool):=if a0 ≥ 48 then (some (decide (a0 ≤ 57))) else (some false)
set_option maxHeartbeats 8000000 in
set_option maxRecDepth 100000 in
theorem line_digit.calls (a0:Int) (r:Bool) (w:World) (h:line_digit.f a0=some r) :
 Calls Tryz.prog 164 #[.int .u8 a0] w fun e w' => e = .returned (.bool r)∧Drawn0 w w' := by
 unfold line_digit.f at h
 have H:=h
 clear h
 by_cases c2:a0 ≥ 48
 ·rw [if_pos c2] at H
  have c2b0:decide (48 ≤ a0)=true:=decide_eq_true c2
  clear c2
  obtain rfl:=Option.some.inj H
  go_enter Tryz.func164,Tryz.ntmps164
  go_wp2
  go_ret
  exact ⟨zb6,zb9⟩
 rw [if_neg c2] at H
 have c2b0:decide (48 ≤ a0)=false:=decide_eq_false c2
 clear c2
 obtain rfl:=Option.some.inj H
 go_enter Tryz.func164,Tryz.ntmps164
 go_wp2
 go_ret
 exact ⟨zb6,zb9⟩
def stringslite_HasPrefix.f (a0:ByteArray) (a1:ByteArray):Option (Bool):=if (a0.size:Int) ≥ (a1.size:Int) then (if 0 ≤ (a1.size:Int) then (if (a1.size:Int) ≤ (a0.size:Int) then (some ((a0.extract 0 ((a1.size:Int):Int).toNat).toList == a1.toList)) else (none)) else (none)) else (some false)
set_option maxHeartbeats 8000000 in
set_option maxRecDepth 100000 in
theorem stringslite_HasPrefix.calls (a0:ByteArray) (a1:ByteArray) (r:Bool) (w:World) (h:stringslite_HasPrefix.f a0 a1=some r) :
 Calls Tryz.prog 107 #[.string a0,.string a1] w fun e w' => e = .returned (.bool r)∧Drawn0 w w' := by
 unfold stringslite_HasPrefix.f at h
 have H:=h
 clear h
 by_cases c3:(a0.size:Int) ≥ (a1.size:Int);rotate_left
 ·rw [if_neg c3] at H
  have c3b0:decide ((a1.size:Int) ≤ (a0.size:Int))=false:=decide_eq_false c3
  have c3b1:decide (a1.size ≤ a0.size)=false:=decide_eq_false (fun h=>c3 (Int.ofNat_le.mpr h))
  clear c3
  obtain rfl:=Option.some.inj H
  go_enter Tryz.func107,Tryz.ntmps107
  go_wp2
  go_ret
  exact ⟨zb6,zb9⟩
 rw [if_pos c3] at H
 have c3b0:decide ((a1.size:Int) ≤ (a0.size:Int))=true:=decide_eq_true c3
 have c3b1:decide (a1.size ≤ a0.size)=true:=decide_eq_true (Int.ofNat_le.mp c3)
 clear c3
 by_cases c4:0 ≤ (a1.size:Int)
 ·rw [if_pos c4] at H
  have c4b0:=eq_true c4
  have c4b1:=decide_eq_true c4
  clear c4
  by_cases c5:(a1.size:Int) ≤ (a0.size:Int)
  ·rw [if_pos c5] at H
   have c5b0:=eq_true c5
   have c5b1:=decide_eq_true c5
   clear c5
   obtain rfl:=Option.some.inj H
   go_enter Tryz.func107,Tryz.ntmps107
   go_wp2
   go_ret
   exact ⟨zb6,zb9⟩
  ·rw [if_neg c5] at H
   exact absurd H zb42
 ·rw [if_neg c4] at H
  exact absurd H zb42
def stringslite_CutPrefix.f (a0:ByteArray) (a1:ByteArray):Option (ByteArray × Bool):=(stringslite_HasPrefix.f a0 a1).bind fun t111=>(if t111=true then (if 0 ≤ (a1.size:Int) then (if (a1.size:Int) ≤ (a0.size:Int) then (some (a0.extract ((a1.size:Int):Int).toNat a0.size,true)) else (none)) else (none)) else (some (a0,false)))
set_option maxHeartbeats 8000000 in
set_option maxRecDepth 100000 in
theorem stringslite_CutPrefix.calls (a0:ByteArray) (a1:ByteArray) (r1:ByteArray) (r2:Bool) (w:World) (h:stringslite_CutPrefix.f a0 a1=some (r1,r2)) :
 Calls Tryz.prog 157 #[.string a0,.string a1] w fun e w' => e = .returned (.tuple #[.string r1,.bool r2])∧Drawn0 w w' := by
 unfold stringslite_CutPrefix.f at h
 have H:=h
 clear h
 replace H:=Option.bind_eq_some_iff.mp H
 obtain ⟨t111,A30,H⟩:=H
 try dsimp only at H
 have A3:=Aside0.mk A30
 clear A30
 by_cases c4:t111=true;rotate_left
 ·replace c4:=Bool.eq_false_iff.mpr c4
  subst c4
  rw [if_neg (show ¬ (false=true) by decide)] at H
  simp only [Option.some.injEq,Prod.mk.injEq] at H
  obtain ⟨rfl,rfl⟩:=H
  go_enter Tryz.func157,Tryz.ntmps157
  go_wp2_with (first|((with_reducible refine gate_callee (f:=107) rfl ?_);refine goesL_ (some 8) rfl rfl Tryz.func107 zb8 rfl #[.string a0,.string a1] rfl zb1 ?_;(with_reducible refine (stringslite_HasPrefix.calls a0 a1 false _ A3.out).mono ?_);rintro e w' ⟨rfl,⟨nd,rfl⟩⟩;(try clear A3);refine ⟨_,rfl,?_⟩))
  go_ret2
  exact ⟨zb6,zb9⟩
 subst c4
 rw [if_pos rfl] at H
 by_cases c5:0 ≤ (a1.size:Int)
 ·rw [if_pos c5] at H
  have c5b0:=eq_true c5
  have c5b1:=decide_eq_true c5
  clear c5
  by_cases c6:(a1.size:Int) ≤ (a0.size:Int)
  ·rw [if_pos c6] at H
   have c6b0:=eq_true c6
   have c6b1:=decide_eq_true c6
   clear c6
   simp only [Option.some.injEq,Prod.mk.injEq] at H
   obtain ⟨rfl,rfl⟩:=H
   go_enter Tryz.func157,Tryz.ntmps157
   go_wp2_with (first|((with_reducible refine gate_callee (f:=107) rfl ?_);refine goesL_ (some 8) rfl rfl Tryz.func107 zb8 rfl #[.string a0,.string a1] rfl zb1 ?_;(with_reducible refine (stringslite_HasPrefix.calls a0 a1 true _ A3.out).mono ?_);rintro e w' ⟨rfl,⟨nd,rfl⟩⟩;(try clear A3);refine ⟨_,rfl,?_⟩))
   go_ret2
   exact ⟨zb6,zb9⟩
  ·rw [if_neg c6] at H
   exact absurd H zb42
 ·rw [if_neg c5] at H
  exact absurd H zb42
def strings_CutPrefix.f (a0:ByteArray) (a1:ByteArray):Option (ByteArray × Bool):=(stringslite_CutPrefix.f a0 a1).bind fun bt112=>(some (bt112.1,bt112.2))
set_option maxHeartbeats 8000000 in
set_option maxRecDepth 100000 in
theorem strings_CutPrefix.calls (a0:ByteArray) (a1:ByteArray) (r1:ByteArray) (r2:Bool) (w:World) (h:strings_CutPrefix.f a0 a1=some (r1,r2)) :
 Calls Tryz.prog 113 #[.string a0,.string a1] w fun e w' => e = .returned (.tuple #[.string r1,.bool r2])∧Drawn0 w w' := by
 unfold strings_CutPrefix.f at h
 have H:=h
 clear h
 replace H:=Option.bind_eq_some_iff.mp H
 obtain ⟨⟨t112,t113⟩,A30,H⟩:=H
 try dsimp only at H
 have A3:=Aside0.mk A30
 clear A30
 simp only [Option.some.injEq,Prod.mk.injEq] at H
 obtain ⟨rfl,rfl⟩:=H
 go_enter Tryz.func113,Tryz.ntmps113
 go_wp2_with (first|((with_reducible refine gate_callee (f:=157) rfl ?_);refine goesL_ (some 8) rfl rfl Tryz.func157 zb8 rfl #[.string a0,.string a1] rfl zb1 ?_;(with_reducible refine (stringslite_CutPrefix.calls a0 a1 t112 t113 _ A3.out).mono ?_);rintro e w' ⟨rfl,⟨nd,rfl⟩⟩;(try clear A3);refine ⟨_,rfl,?_⟩))
 go_ret2
 exact ⟨zb6,zb9⟩
def line_numbered.f (a0:ByteArray):Option (Bool):=(strings_CutPrefix.f a0 (⟨#[72,84,84,80,47]⟩:ByteArray)).bind fun bt147=>(if bt147.2=true then (if (bt147.1.size:Int)=3 then (if 0 < (bt147.1.size:Int) then ((line_digit.f (bt bt147.1 0)).bind fun t149=>(if t149=true then (if 1 < (bt147.1.size:Int) then (if (bt bt147.1 1)=46 then (if 2 < (bt147.1.size:Int) then ((line_digit.f (bt bt147.1 2)).bind fun t150=>(some t150)) else (none)) else (some false)) else (none)) else (some false))) else (none)) else (some false)) else (some false))
set_option maxHeartbeats 8000000 in
set_option maxRecDepth 100000 in
theorem line_numbered.calls (a0:ByteArray) (r:Bool) (w:World) (h:line_numbered.f a0=some r) :
 Calls Tryz.prog 119 #[.string a0] w fun e w' => e = .returned (.bool r)∧Drawn0 w w' := by
 unfold line_numbered.f at h
 have H:=h
 clear h
 replace H:=Option.bind_eq_some_iff.mp H
 obtain ⟨⟨t147,t148⟩,A20,H⟩:=H
 try dsimp only at H
 have A2:=Aside0.mk A20
 clear A20
 by_cases c3:t148=true;rotate_left
 ·replace c3:=Bool.eq_false_iff.mpr c3
  subst c3
  rw [if_neg (show ¬ (false=true) by decide)] at H
  obtain rfl:=Option.some.inj H
  go_enter Tryz.func119,Tryz.ntmps119
  go_wp2_with (first|((with_reducible refine gate_callee (f:=113) rfl ?_);refine goesL_ (some 7) rfl rfl Tryz.func113 zb8 rfl #[.string a0,.string (⟨#[72,84,84,80,47]⟩:ByteArray)] rfl zb1 ?_;(with_reducible refine (strings_CutPrefix.calls a0 (⟨#[72,84,84,80,47]⟩:ByteArray) t147 false _ A2.out).mono ?_);rintro e w' ⟨rfl,⟨nd,rfl⟩⟩;(try clear A2);refine ⟨_,rfl,?_⟩))
  go_ret
  exact ⟨zb6,zb9⟩
 subst c3
 rw [if_pos rfl] at H
 by_cases c4:(t147.size:Int)=3
 ·rw [if_pos c4] at H
  have c4b0:=beq_iff_eq.mpr c4
  have c4b1:=bne_eq_false_iff_eq.mpr c4
  clear c4
  by_cases c5:0 < (t147.size:Int);rotate_left
  ·rw [if_neg c5] at H
   exact absurd H zb42
  rw [if_pos c5] at H
  have c5b0:=decide_eq_true c5
  have c5b1:decide (0 < t147.size)=true:=decide_eq_true zb25
  clear c5
  replace H:=Option.bind_eq_some_iff.mp H
  obtain ⟨t149,A70,H⟩:=H
  try dsimp only at H
  have A7:=Aside0.mk A70
  clear A70
  by_cases c8:t149=true;rotate_left
  ·replace c8:=Bool.eq_false_iff.mpr c8
   subst c8
   rw [if_neg (show ¬ (false=true) by decide)] at H
   obtain rfl:=Option.some.inj H
   go_enter Tryz.func119,Tryz.ntmps119
   go_wp2_with (first|((with_reducible refine gate_callee (f:=113) rfl ?_);refine goesL_ (some 7) rfl rfl Tryz.func113 zb8 rfl #[.string a0,.string (⟨#[72,84,84,80,47]⟩:ByteArray)] rfl zb1 ?_;(with_reducible refine (strings_CutPrefix.calls a0 (⟨#[72,84,84,80,47]⟩:ByteArray) t147 true _ A2.out).mono ?_);rintro e w' ⟨rfl,⟨nd,rfl⟩⟩;(try clear A2);refine ⟨_,rfl,?_⟩;have p6:0 ≤ (0:Int):=zb25;have q6:0 < t147.size:=zb95;have hx6 : ∀ h:0 < t147.size,((t147[0]'h).toNat:Int)=bt t147 0:=bt_at t147 0;clear p6;have qi6:(0 < (t147.size:Int))=True:=eq_true (of_decide_eq_true zb4);replace q6:=eq_true q6)|(go_at_call 164;(with_reducible refine (line_digit.calls (bt t147 0) false _ A7.out).mono ?_);rintro e w' ⟨rfl,⟨nd,rfl⟩⟩;(try clear A7)))
   go_ret
   exact ⟨zb6,zb9⟩
  subst c8
  rw [if_pos rfl] at H
  by_cases c9:1 < (t147.size:Int)
  ·rw [if_pos c9] at H
   have c9b0:=decide_eq_true c9
   have c9b1:decide (1 < t147.size)=true:=decide_eq_true zb25
   clear c9
   by_cases c11:(bt t147 1)=46;rotate_left
   ·rw [if_neg c11] at H
    have c11b0:=beq_eq_false_iff_ne.mpr c11
    have c11b1:=bne_iff_ne.mpr c11
    obtain rfl:=Option.some.inj H
    go_enter Tryz.func119,Tryz.ntmps119
    go_wp2_with (first|((with_reducible refine gate_callee (f:=113) rfl ?_);refine goesL_ (some 7) rfl rfl Tryz.func113 zb8 rfl #[.string a0,.string (⟨#[72,84,84,80,47]⟩:ByteArray)] rfl zb1 ?_;(with_reducible refine (strings_CutPrefix.calls a0 (⟨#[72,84,84,80,47]⟩:ByteArray) t147 true _ A2.out).mono ?_);rintro e w' ⟨rfl,⟨nd,rfl⟩⟩;(try clear A2);refine ⟨_,rfl,?_⟩;have p6:0 ≤ (0:Int):=zb25;have q6:0 < t147.size:=zb95;have hx6 : ∀ h:0 < t147.size,((t147[0]'h).toNat:Int)=bt t147 0:=bt_at t147 0;clear p6;have qi6:(0 < (t147.size:Int))=True:=eq_true (of_decide_eq_true zb4);replace q6:=eq_true q6)|(go_at_call 164;(with_reducible refine (line_digit.calls (bt t147 0) true _ A7.out).mono ?_);rintro e w' ⟨rfl,⟨nd,rfl⟩⟩;(try clear A7);have p10:0 ≤ (1:Int):=zb25;have q10:1 < t147.size:=(by have:(1:Int) < (t147.size:Int):=of_decide_eq_true (by first|(with_reducible assumption)|assumption);omega);have hx10 : ∀ h:1 < t147.size,((t147[1]'h).toNat:Int)=bt t147 1:=bt_at t147 1;clear p10;have qi10:(1 < (t147.size:Int))=True:=eq_true (of_decide_eq_true zb4);replace q10:=eq_true q10))
    go_ret
    exact ⟨zb6,zb9⟩
   rw [if_pos c11] at H
   have c11b0:=beq_iff_eq.mpr c11
   have c11b1:=bne_eq_false_iff_eq.mpr c11
   clear c11
   by_cases c12:2 < (t147.size:Int)
   ·rw [if_pos c12] at H
    have c12b0:=decide_eq_true c12
    have c12b1:decide (2 < t147.size)=true:=decide_eq_true zb25
    clear c12
    replace H:=Option.bind_eq_some_iff.mp H
    obtain ⟨t150,A140,H⟩:=H
    try dsimp only at H
    have A14:=Aside0.mk A140
    clear A140
    obtain rfl:=Option.some.inj H
    go_enter Tryz.func119,Tryz.ntmps119
    go_wp2_with (first|((with_reducible refine gate_callee (f:=113) rfl ?_);refine goesL_ (some 7) rfl rfl Tryz.func113 zb8 rfl #[.string a0,.string (⟨#[72,84,84,80,47]⟩:ByteArray)] rfl zb1 ?_;(with_reducible refine (strings_CutPrefix.calls a0 (⟨#[72,84,84,80,47]⟩:ByteArray) t147 true _ A2.out).mono ?_);rintro e w' ⟨rfl,⟨nd,rfl⟩⟩;(try clear A2);refine ⟨_,rfl,?_⟩;have p6:0 ≤ (0:Int):=zb25;have q6:0 < t147.size:=zb95;have hx6 : ∀ h:0 < t147.size,((t147[0]'h).toNat:Int)=bt t147 0:=bt_at t147 0;clear p6;have qi6:(0 < (t147.size:Int))=True:=eq_true (of_decide_eq_true zb4);replace q6:=eq_true q6)|(go_at_call 164;(with_reducible refine (line_digit.calls (bt t147 0) true _ A7.out).mono ?_);rintro e w' ⟨rfl,⟨nd,rfl⟩⟩;(try clear A7);have p10:0 ≤ (1:Int):=zb25;have q10:1 < t147.size:=(by have:(1:Int) < (t147.size:Int):=of_decide_eq_true (by first|(with_reducible assumption)|assumption);omega);have hx10 : ∀ h:1 < t147.size,((t147[1]'h).toNat:Int)=bt t147 1:=bt_at t147 1;clear p10;have qi10:(1 < (t147.size:Int))=True:=eq_true (of_decide_eq_true zb4);replace q10:=eq_true q10;have p13:0 ≤ (2:Int):=zb25;have q13:2 < t147.size:=(by have:(2:Int) < (t147.size:Int):=of_decide_eq_true (by first|(with_reducible assumption)|assumption);omega);have hx13 : ∀ h:2 < t147.size,((t147[2]'h).toNat:Int)=bt t147 2:=bt_at t147 2;clear p13;have qi13:(2 < (t147.size:Int))=True:=eq_true (of_decide_eq_true zb4);replace q13:=eq_true q13)|(go_at_call 164;(with_reducible refine (line_digit.calls (bt t147 2) t150 _ A14.out).mono ?_);rintro e w' ⟨rfl,⟨nd,rfl⟩⟩;(try clear A14)))
    go_ret
    exact ⟨zb6,zb9⟩
   ·rw [if_neg c12] at H
    exact absurd H zb42
  ·rw [if_neg c9] at H
   exact absurd H zb42
 ·rw [if_neg c4] at H
  have c4b0:=beq_eq_false_iff_ne.mpr c4
  have c4b1:=bne_iff_ne.mpr c4
  obtain rfl:=Option.some.inj H
  go_enter Tryz.func119,Tryz.ntmps119
  go_wp2_with (first|((with_reducible refine gate_callee (f:=113) rfl ?_);refine goesL_ (some 7) rfl rfl Tryz.func113 zb8 rfl #[.string a0,.string (⟨#[72,84,84,80,47]⟩:ByteArray)] rfl zb1 ?_;(with_reducible refine (strings_CutPrefix.calls a0 (⟨#[72,84,84,80,47]⟩:ByteArray) t147 true _ A2.out).mono ?_);rintro e w' ⟨rfl,⟨nd,rfl⟩⟩;(try clear A2);refine ⟨_,rfl,?_⟩))
  go_ret
  exact ⟨zb6,zb9⟩
def sign_Target_1.f (a0:Int):Option (Bool):=if a0 ≥ 33 then (some (decide (a0 ≤ 126))) else (some false)
set_option maxHeartbeats 8000000 in
set_option maxRecDepth 100000 in
theorem sign_Target_1.calls (a0:Int) (r:Bool) (w:World) (h:sign_Target_1.f a0=some r) :
 Calls Tryz.prog 181 #[.int .u8 a0] w fun e w' => e = .returned (.bool r)∧Drawn0 w w' := by
 unfold sign_Target_1.f at h
 have H:=h
 clear h
 by_cases c2:a0 ≥ 33
 ·rw [if_pos c2] at H
  have c2b0:decide (33 ≤ a0)=true:=decide_eq_true c2
  clear c2
  obtain rfl:=Option.some.inj H
  go_enter Tryz.func181,Tryz.ntmps181
  go_wp2
  go_ret
  exact ⟨zb6,zb9⟩
 rw [if_neg c2] at H
 have c2b0:decide (33 ≤ a0)=false:=decide_eq_false c2
 clear c2
 obtain rfl:=Option.some.inj H
 go_enter Tryz.func181,Tryz.ntmps181
 go_wp2
 go_ret
 exact ⟨zb6,zb9⟩
def sign_Target.f (a0:ByteArray):Option Bool:=if a0.size ≤ 140737488355328 then some (!a0.toList.isEmpty && (bytesOf a0).all fun c=>(sign_Target_1.f c).getD false) else none
theorem sign_Target_1.tells (c:Int) : ∃ b,sign_Target_1.f c=some b:=by
 unfold sign_Target_1.f
 repeat' split
 all_goals exact ⟨_,rfl⟩
theorem sign_Target_1.any (c:Int) (w:World):Calls Tryz.prog 181 #[.int .u8 c] w fun e w' => e = .returned (.bool ((sign_Target_1.f c).getD false))∧Drawn0 w w' := by
 obtain ⟨b,hb⟩:=sign_Target_1.tells c
 have:=sign_Target_1.calls c b w hb
 rw [hb]
 exact this
theorem sign_Target.calls (a0:ByteArray) (r:Bool) (w:World) (h:sign_Target.f a0=some r) :
 Calls Tryz.prog 149 #[.string a0] w fun e w' => e = .returned (.bool r)∧Drawn0 w w' := by
 unfold sign_Target.f at h
 by_cases h0:a0.size ≤ 140737488355328;rotate_left
 ·rw [if_neg h0] at h
  cases h
 rw [if_pos h0] at h
 obtain rfl:=Option.some.inj h
 clear h
 have he : ∀ args w,(callFunc 181 args).run Tryz.prog w = .ok (.enter 181 args) w:=fun args w=>enters_ Tryz.func181 zb8 rfl args w
 have HC:=Aside0.mk (fun w' => sign_all.callsOf 181 (fun c=>(sign_Target_1.f c).getD false) he (fun c w _ _=>sign_Target_1.any c w) a0 h0 w')
 clear he h0
 go_enter Tryz.func149,Tryz.ntmps149
 go_wp2_with (go_at_call 158;(with_reducible refine (HC.out _).mono ?_);rintro e w' ⟨rfl,⟨nd,rfl⟩⟩)
 all_goals
  go_ret
  exact ⟨by first|rfl|(simp [*];done),zb9⟩
def line_target.f (a0:ByteArray) (a1:ByteArray):Option (Bool):=(sign_Target.f a1).bind fun t146=>(if t146=true then (if 0 < (a1.size:Int) then (if (bt a1 0)=47 then (some true) else (if a1.toList=([42]:List UInt8) then (some (a0.toList == ([79,80,84,73,79,78,83]:List UInt8))) else (some false))) else (none)) else (some false))
set_option maxHeartbeats 8000000 in
set_option maxRecDepth 100000 in
theorem line_target.calls (a0:ByteArray) (a1:ByteArray) (r:Bool) (w:World) (h:line_target.f a0 a1=some r) :
 Calls Tryz.prog 118 #[.string a0,.string a1] w fun e w' => e = .returned (.bool r)∧Drawn0 w w' := by
 unfold line_target.f at h
 have H:=h
 clear h
 replace H:=Option.bind_eq_some_iff.mp H
 obtain ⟨t146,A30,H⟩:=H
 try dsimp only at H
 have A3:=Aside0.mk A30
 clear A30
 by_cases c4:t146=true;rotate_left
 ·replace c4:=Bool.eq_false_iff.mpr c4
  subst c4
  rw [if_neg (show ¬ (false=true) by decide)] at H
  obtain rfl:=Option.some.inj H
  go_enter Tryz.func118,Tryz.ntmps118
  go_wp2_with (first|((with_reducible refine gate_callee (f:=149) rfl ?_);refine goesL_ (some 6) rfl rfl Tryz.func149 zb8 rfl #[.string a1] rfl zb1 ?_;(with_reducible refine (sign_Target.calls a1 false _ A3.out).mono ?_);rintro e w' ⟨rfl,⟨nd,rfl⟩⟩;(try clear A3);refine ⟨_,rfl,?_⟩))
  go_ret
  exact ⟨zb6,zb9⟩
 subst c4
 rw [if_pos rfl] at H
 by_cases c5:0 < (a1.size:Int)
 ·rw [if_pos c5] at H
  have c5b0:=decide_eq_true c5
  have c5b1:decide (0 < a1.size)=true:=decide_eq_true zb25
  clear c5
  by_cases c7:(bt a1 0)=47
  ·rw [if_pos c7] at H
   have c7b0:=beq_iff_eq.mpr c7
   have c7b1:=bne_eq_false_iff_eq.mpr c7
   clear c7
   obtain rfl:=Option.some.inj H
   go_enter Tryz.func118,Tryz.ntmps118
   go_wp2_with (first|((with_reducible refine gate_callee (f:=149) rfl ?_);refine goesL_ (some 6) rfl rfl Tryz.func149 zb8 rfl #[.string a1] rfl zb1 ?_;(with_reducible refine (sign_Target.calls a1 true _ A3.out).mono ?_);rintro e w' ⟨rfl,⟨nd,rfl⟩⟩;(try clear A3);refine ⟨_,rfl,?_⟩;have p6:0 ≤ (0:Int):=zb25;have q6:0 < a1.size:=zb98;have hx6 : ∀ h:0 < a1.size,((a1[0]'h).toNat:Int)=bt a1 0:=bt_at a1 0;clear p6;have qi6:(0 < (a1.size:Int))=True:=eq_true (of_decide_eq_true zb4);replace q6:=eq_true q6))
   go_ret
   exact ⟨zb6,zb9⟩
  rw [if_neg c7] at H
  have c7b0:=beq_eq_false_iff_ne.mpr c7
  have c7b1:=bne_iff_ne.mpr c7
  by_cases c8:a1.toList=([42]:List UInt8);rotate_left
  ·rw [if_neg c8] at H
   have c8b0:=beq_eq_false_iff_ne.mpr c8
   have c8b1:=bne_iff_ne.mpr c8
   obtain rfl:=Option.some.inj H
   go_enter Tryz.func118,Tryz.ntmps118
   go_wp2_with (first|((with_reducible refine gate_callee (f:=149) rfl ?_);refine goesL_ (some 6) rfl rfl Tryz.func149 zb8 rfl #[.string a1] rfl zb1 ?_;(with_reducible refine (sign_Target.calls a1 true _ A3.out).mono ?_);rintro e w' ⟨rfl,⟨nd,rfl⟩⟩;(try clear A3);refine ⟨_,rfl,?_⟩;have p6:0 ≤ (0:Int):=zb25;have q6:0 < a1.size:=zb98;have hx6 : ∀ h:0 < a1.size,((a1[0]'h).toNat:Int)=bt a1 0:=bt_at a1 0;clear p6;have qi6:(0 < (a1.size:Int))=True:=eq_true (of_decide_eq_true zb4);replace q6:=eq_true q6))
   go_ret
   exact ⟨zb6,zb9⟩
  rw [if_pos c8] at H
  have c8b0:=beq_iff_eq.mpr c8
  have c8b1:=bne_eq_false_iff_eq.mpr c8
  clear c8
  obtain rfl:=Option.some.inj H
  go_enter Tryz.func118,Tryz.ntmps118
  go_wp2_with (first|((with_reducible refine gate_callee (f:=149) rfl ?_);refine goesL_ (some 6) rfl rfl Tryz.func149 zb8 rfl #[.string a1] rfl zb1 ?_;(with_reducible refine (sign_Target.calls a1 true _ A3.out).mono ?_);rintro e w' ⟨rfl,⟨nd,rfl⟩⟩;(try clear A3);refine ⟨_,rfl,?_⟩;have p6:0 ≤ (0:Int):=zb25;have q6:0 < a1.size:=zb98;have hx6 : ∀ h:0 < a1.size,((a1[0]'h).toNat:Int)=bt a1 0:=bt_at a1 0;clear p6;have qi6:(0 < (a1.size:Int))=True:=eq_true (of_decide_eq_true zb4);replace q6:=eq_true q6))
  go_ret
  exact ⟨zb6,zb9⟩
 ·rw [if_neg c5] at H
  exact absurd H zb42
def line_Request.j0:Nat → List ByteArray → Bool → Option (ByteArray × ByteArray × Int × (List (S36)) × List Int × Int)
 | 0,_,_=>none
 | k + 1,x4,x35=>if x35=true then (some ((⟨#[]⟩:ByteArray),(⟨#[]⟩:ByteArray),0,([]:List (S36)),([]:List Int),400)) else (if 2 < (x4.length:Int) then ((line_minor.f (rdOf ByteArray.empty x4 2)).bind fun bt162=>(if 1 < (x4.length:Int) then (if ((rdOf ByteArray.empty x4 1).size:Int) > 512 then (some ((⟨#[]⟩:ByteArray),(⟨#[]⟩:ByteArray),0,([]:List (S36)),([]:List Int),414)) else ((line_numbered.f (rdOf ByteArray.empty x4 2)).bind fun t166=>(if t166=true then (if bt162.2=true then (if 0 < (x4.length:Int) then (some (rdOf ByteArray.empty x4 0,rdOf ByteArray.empty x4 1,bt162.1,([]:List (S36)),([]:List Int),0)) else (none)) else (some ((⟨#[]⟩:ByteArray),(⟨#[]⟩:ByteArray),0,([]:List (S36)),([]:List Int),505))) else (some ((⟨#[]⟩:ByteArray),(⟨#[]⟩:ByteArray),0,([]:List (S36)),([]:List Int),400))))) else (none))) else (none))
def line_Request.f (k:Nat) (a0:ByteArray):Option (ByteArray × ByteArray × Int × (List (S36)) × List Int × Int):=(strings_Split.f k a0 (⟨#[32]⟩:ByteArray)).bind fun t152=>(if (t152.length:Int)=3 then (if 0 < (t152.length:Int) then (if ((rdOf ByteArray.empty t152 0).size:Int) > 20 then (line_Request.j0 k t152 true) else ((sign_Token.f (rdOf ByteArray.empty t152 0)).bind fun t157=>(if t157=true then (if 1 < (t152.length:Int) then ((line_target.f (rdOf ByteArray.empty t152 0) (rdOf ByteArray.empty t152 1)).bind fun t160=>(line_Request.j0 k t152 (!t160))) else (none)) else (line_Request.j0 k t152 true)))) else (none)) else (line_Request.j0 k t152 true))
theorem line_Request.mono_l : ∀ k,(∀ y0 y1,LeO (line_Request.j0 k y0 y1) (line_Request.j0 (k + 1) y0 y1))
 | 0=>fun _ _ r h=>by simp [line_Request.j0] at h
 | k + 1=>by
  have ih0:=line_Request.mono_l k
  ·intro y0 y1
   unfold line_Request.j0
   repeat' first
   | (with_reducible exact ih0 _ _)
   | (with_reducible exact strings_Split.mono _ _ _)
   | (with_reducible exact LeO.refl _)
   | (with_reducible exact LeO.none _)
   | (with_reducible refine LeO.ite ?_ ?_)
   | (with_reducible refine LeO.bind ?_ (fun _=>?_))
   | exact ih0 _ _
   | exact strings_Split.mono _ _ _
   | exact LeO.none _
   | refine LeO.ite ?_ ?_
   | refine LeO.bind ?_ (fun _=>?_)
theorem line_Request.mono : ∀ a0 k,LeO (line_Request.f k a0) (line_Request.f (k + 1) a0):=by
 intro a0 k
 have ih0:=line_Request.mono_l k
 unfold line_Request.f
 repeat' first
  | (with_reducible exact ih0 _ _)
  | (with_reducible exact strings_Split.mono _ _ _)
  | (with_reducible exact LeO.refl _)
  | (with_reducible exact LeO.none _)
  | (with_reducible refine LeO.ite ?_ ?_)
  | (with_reducible refine LeO.bind ?_ (fun _=>?_))
  | exact ih0 _ _
  | exact strings_Split.mono _ _ _
  | exact LeO.none _
  | refine LeO.ite ?_ ?_
  | refine LeO.bind ?_ (fun _=>?_)
def line_Request.T2:Bool × List (List Nat × List Nat):=(true,[([],[]),([0],[0]),([1],[1]),([2],[2]),([3],[3]),([4,3],[3,4]),([5,3],[3,5]),([6,3],[3,6]),([7,3],[3,7]),([3,8],[3,8]),([9,3],[9]),([10],[10]),([11,10],[10,11]),([12,10],[10,12]),([13,10,10],[10,13]),([14,10],[10,14]),([10,15],[10,15]),([16,14],[16]),([17],[17]),([18,17],[17,18]),([19,17],[17,19]),([17],[17]),([21,17],[17,21]),([22,17],[17,22]),([20,23,17,17],[17,20,23]),([24,17],[17,24]),([17,25],[17,25])])
def line_Request.B2:List Nat:=[0,1,3,7,15,31,63,127,255,511,1023,2047,4095,8191,16383,32767,65535,131071,262143,524287,1048575,262143,2359295,6553599,16777215,33554431,67108863]
theorem line_Request.tab2:rtab .any (opsOf Tryz.f76 2)=line_Request.T2:=by kernel_rfl
theorem line_Request.bits2:waitsOk line_Request.T2.2 line_Request.B2=true:=by kernel_rfl
def line_Request.T11:Bool × List (List Nat × List Nat):=(true,[([],[]),([0],[0]),([1],[1]),([],[]),([3],[3]),([4],[4]),([],[]),([2,5,6],[2,5,6]),([7,0,1,2,3,4,5,6,7],[7]),([8,0,1,2,3,4,5,6,7,8],[])])
def line_Request.B11:List Nat:=[0,1,3,0,8,24,0,127,255,511]
theorem line_Request.tab11:rtab .any (opsOf Tryz.f76 11)=line_Request.T11:=by kernel_rfl
theorem line_Request.bits11:waitsOk line_Request.T11.2 line_Request.B11=true:=by kernel_rfl
set_option maxHeartbeats 8000000 in
set_option maxRecDepth 100000 in
theorem line_Request.calls (k:Nat) (a0:ByteArray) (r1:ByteArray) (r2:ByteArray) (r3:Int) (r4:List (S36)) (r5:List Int) (r6:Int) (w:World) (h:line_Request.f k a0=some (r1,r2,r3,r4,r5,r6)) :
 Calls Tryz.prog 76 #[.string a0] w fun e w' => ∃ v3_ v4_:Value,e = .returned (.tuple #[.agg #[.string r1,.string r2,.int .i64 r3,v3_,v4_],.int .i64 r6])∧Kd.R k36 36 w' w.heap.size (fun _=>True) v3_ r4∧Kd.R (Kd.int .u8) 5 w' w.heap.size (fun _=>True) v4_ r5∧Below w.heap.size w w' := by
 have hu26:=Tryz.underlying26
 have HB:=Aside0.mk (Below.refl w.heap.size w)
 unfold line_Request.f at h
 have H:=h
 clear h
 replace H:=Option.bind_eq_some_iff.mp H
 obtain ⟨t45,A20,H⟩:=H
 try dsimp only at H
 have A2:=Aside0.mk A20
 clear A20
 have HC3:=Aside0.mk H
 clear H
 go_enter Tryz.func76,Tryz.ntmps76
 go_upto_region 2 with (first|((with_reducible refine gate_dst (N:=2) rfl ?_);(try (refine gate_guard zb49 ?_;dsimp only));refine box_event rfl (N:=2) rfl (cs:=#[.string (⟨#[]⟩:ByteArray),.string (⟨#[]⟩:ByteArray),.int .i64 0,.slice none 0 0,.slice none 0 0]) (t:=26) zS ?_;intro gb44 hg w4 hbox hb;have GW44:=zG hg zb0;have GE44:=GW44;have BK44:=Aside0.mk hbox;replace HB:=Aside0.mk (below_step zb0 hb);clear hb hbox hg)|((with_reducible refine gate_callee (f:=116) rfl ?_);refine goesL_ (some 8) rfl rfl Tryz.func116 zb8 rfl #[.string a0,.string (⟨#[32]⟩:ByteArray)] rfl zb1 ?_;(with_reducible refine (strings_Split.calls k a0 (⟨#[32]⟩:ByteArray) t45 _ A2.out).mono ?_);rintro e w5 ⟨v66,rfl,ho0,hb⟩;refine ⟨_,rfl,?_⟩;have HO51:=Aside0.mk (Kd.R_lower ho0 (below_size zb27));replace BK44:=Aside0.mk (blk_below (g:=gb44) (o:=.cells #[.string (⟨#[]⟩:ByteArray),.string (⟨#[]⟩:ByteArray),.int .i64 0,.slice none 0 0,.slice none 0 0] 26 (0,0)) zb76 hb);replace HB:=Aside0.mk (below_step zb27 hb);try clear hb ho0))
 (try simp only [Act.put,zqA,zqB,zqC])
 go_cut [35] (fun v35 wc => ∃ (kq:Nat) (x35_2:Bool),v35 = .bool x35_2∧Aside0 (line_Request.j0 kq t45 x35_2=some (r1,r2,r3,r4,r5,r6))∧Aside0 (kq ≤ k)∧Aside0 (Kd.R Kd.string 9 wc w.heap.size (fun _=>True) v66 t45)∧Aside0 (wc.heap[gb44]? = some (.cells #[.string (⟨#[]⟩:ByteArray),.string (⟨#[]⟩:ByteArray),.int .i64 0,(.slice none 0 0),(.slice none 0 0)] 26 (0,0)))∧Aside0 (Below w.heap.size w wc))
 case first =>
  have H:=HC3.out
  clear HC3
  by_cases c6:(t45.length:Int)=3;rotate_left
  ·rw [if_neg c6] at H
   have c6b0:=beq_eq_false_iff_ne.mpr c6
   have c6b1:=bne_iff_ne.mpr c6
   (first|rw [c6b0]|(simp only [i64_w,i32_w];rw [c6b0])|rw [c6b1]|skip)
   have H' := Aside0.mk H
   clear H
   try go_wp2
   replace HO51:=Aside0.mk (Kd.R_drew HO51.out)
   replace BK44:=Aside0.mk (blk_drew BK44.out)
   replace HB:=Aside0.mk (below_drew1 HB.out)
   obtain ⟨Ao20,co20,eo20⟩:=Kd.R_slice HO51.out
   (first|subst eo20|(injection eo20 with f1_ f2_ f3_;have f4_:=f1_.symm;have f5_:=f3_.symm;clear f1_ f2_ f3_;subst f4_;subst f5_))
   refine start_ (n:=27) (S:=fun w' => True) (ds:=[]) (zl 27 0) zb8 rfl rfl trivial (fun hHeld=>?_);refine with_tabW line_Request.tab2 line_Request.bits2 (fun HT_ HW_=>?_)
   generalize w5.drew=w19 at HO51 BK44 HB hHeld ⊢
   refine zpu 0 (N:=some 9) (zl 27 1) HT_.out rfl rfl ?_
   refine zpu 1 (N:=some 10) (zl 27 3) HT_.out rfl rfl ?_
   refine zpu 2 (N:=some 11) (zl 27 7) HT_.out rfl rfl ?_
   refine zpu 3 (N:=some 12) (zl 27 15) HT_.out rfl rfl ?_
   refine pure_ (i:=4) (N:=some 13) (v:=undef) (a' := ?_) (zl 27 31) rfl rfl (any_of HT_.out zb8) (fun _ _ _ h=>h) (Or.inr ⟨zb49,rfl⟩) ?_ ?_
   rotate_left
   ·simp only [Act.put,zqA,zqB,zqC,i64_w,i32_w];rfl
   refine pure_ (i:=5) (N:=some 14) (v:=undef) (a' := ?_) (zl 27 63) rfl rfl (any_of HT_.out zb8) (fun _ _ _ h=>h) (Or.inr ⟨zb49,rfl⟩) ?_ ?_
   rotate_left
   ·simp only [Act.put,zqA,zqB,zqC,i64_w,i32_w];rfl
   refine pure_ (i:=6) (N:=some 15) (v:=undef) (a' := ?_) (zl 27 127) rfl rfl (any_of HT_.out zb8) (fun _ _ _ h=>h) (Or.inr ⟨zb49,rfl⟩) ?_ ?_
   rotate_left
   ·simp only [Act.put,zqA,zqB,zqC,i64_w,i32_w];rfl
   refine pure_ (i:=7) (N:=some 16) (v:=undef) (a' := ?_) (zl 27 255) rfl rfl (any_of HT_.out zb8) (fun _ _ _ h=>h) (Or.inr ⟨zb49,rfl⟩) ?_ ?_
   rotate_left
   ·simp only [Act.put,zqA,zqB,zqC,i64_w,i32_w];rfl
   refine pure_ (i:=8) (N:=some 17) (v:=undef) (a' := ?_) (zl 27 511) rfl rfl (any_of HT_.out zb8) (fun _ _ _ h=>h) (Or.inr ⟨zb49,rfl⟩) ?_ ?_
   rotate_left
   ·simp only [Act.put,zqA,zqB,zqC,i64_w,i32_w];rfl
   refine zpu 9 (N:=some 18) (zl 27 1023) HT_.out rfl rfl ?_
   refine zpu 10 (N:=some 19) (zl 27 2047) HT_.out rfl rfl ?_
   refine pure_ (i:=11) (N:=some 20) (v:=undef) (a' := ?_) (zl 27 4095) rfl rfl (any_of HT_.out zb8) (fun _ _ _ h=>h) (Or.inr ⟨zb49,rfl⟩) ?_ ?_
   rotate_left
   ·simp only [Act.put,zqA,zqB,zqC,i64_w,i32_w];rfl
   refine pure_ (i:=12) (N:=some 21) (v:=undef) (a' := ?_) (zl 27 8191) rfl rfl (any_of HT_.out zb8) (fun _ _ _ h=>h) (Or.inr ⟨zb49,rfl⟩) ?_ ?_
   rotate_left
   ·simp only [Act.put,zqA,zqB,zqC,i64_w,i32_w];rfl
   refine pure_ (i:=13) (N:=some 22) (v:=undef) (a' := ?_) (zl 27 16383) rfl rfl (any_of HT_.out zb8) (fun _ _ _ h=>h) (Or.inr ⟨zb49,rfl⟩) ?_ ?_
   rotate_left
   ·simp only [Act.put,zqA,zqB,zqC,i64_w,i32_w];rfl
   refine pure_ (i:=14) (N:=some 23) (v:=undef) (a' := ?_) (zl 27 32767) rfl rfl (any_of HT_.out zb8) (fun _ _ _ h=>h) (Or.inr ⟨zb49,rfl⟩) ?_ ?_
   rotate_left
   ·simp only [Act.put,zqA,zqB,zqC,i64_w,i32_w];rfl
   refine pure_ (i:=15) (N:=some 24) (v:=undef) (a' := ?_) (zl 27 65535) rfl rfl (any_of HT_.out zb8) (fun _ _ _ h=>h) (Or.inr ⟨zb49,rfl⟩) ?_ ?_
   rotate_left
   ·simp only [Act.put,zqA,zqB,zqC,i64_w,i32_w];rfl
   refine zpu 16 (N:=some 25) (zl 27 131071) HT_.out rfl rfl ?_
   refine zpu 17 (N:=some 26) (zl 27 262143) HT_.out rfl rfl ?_
   refine pure_ (i:=18) (N:=some 27) (v:=undef) (a' := ?_) (zl 27 524287) rfl rfl (any_of HT_.out zb8) (fun _ _ _ h=>h) (Or.inr ⟨zb49,rfl⟩) ?_ ?_
   rotate_left
   ·simp only [Act.put,zqA,zqB,zqC,i64_w,i32_w];rfl
   refine pure_ (i:=19) (N:=some 28) (v:=undef) (a' := ?_) (zl 27 1048575) rfl rfl (any_of HT_.out zb8) (fun _ _ _ h=>h) (Or.inr ⟨zb49,rfl⟩) ?_ ?_
   rotate_left
   ·simp only [Act.put,zqA,zqB,zqC,i64_w,i32_w];rfl
   refine pure_ (i:=20) (N:=some 29) (v:=undef) (a' := ?_) (zl 27 2097151) rfl rfl (any_of HT_.out zb8) (fun _ _ _ h=>h) (Or.inr ⟨zb49,rfl⟩) ?_ ?_
   rotate_left
   ·simp only [Act.put,zqA,zqB,zqC,i64_w,i32_w];rfl
   refine pure_ (i:=21) (N:=some 30) (v:=undef) (a' := ?_) (zl 27 4194303) rfl rfl (any_of HT_.out zb8) (fun _ _ _ h=>h) (Or.inr ⟨zb49,rfl⟩) ?_ ?_
   rotate_left
   ·simp only [Act.put,zqA,zqB,zqC,i64_w,i32_w];rfl
   refine pure_ (i:=22) (N:=some 31) (v:=undef) (a' := ?_) (zl 27 8388607) rfl rfl (any_of HT_.out zb8) (fun _ _ _ h=>h) (Or.inr ⟨zb49,rfl⟩) ?_ ?_
   rotate_left
   ·simp only [Act.put,zqA,zqB,zqC,i64_w,i32_w];rfl
   refine pure_ (i:=23) (N:=some 32) (v:=undef) (a' := ?_) (zl 27 16777215) rfl rfl (any_of HT_.out zb8) (fun _ _ _ h=>h) (Or.inr ⟨zb49,rfl⟩) ?_ ?_
   rotate_left
   ·simp only [Act.put,zqA,zqB,zqC,i64_w,i32_w];rfl
   refine pure_ (i:=24) (N:=some 33) (v:=undef) (a' := ?_) (zl 27 33554431) rfl rfl (any_of HT_.out zb8) (fun _ _ _ h=>h) (Or.inr ⟨zb49,rfl⟩) ?_ ?_
   rotate_left
   ·simp only [Act.put,zqA,zqB,zqC,i64_w,i32_w];rfl
   refine pure_ (i:=25) (N:=some 34) (v:=undef) (a' := ?_) (zl 27 67108863) rfl rfl (any_of HT_.out zb8) (fun _ _ _ h=>h) (Or.inr ⟨zb49,rfl⟩) ?_ ?_
   rotate_left
   ·simp only [Act.put,zqA,zqB,zqC,i64_w,i32_w];rfl
   refine zpu 26 (N:=some 35) (zl 27 134217727) HT_.out rfl rfl ?_
   refine done_ (done_of HT_.out zb8) ?_
   try go_wp2
   go_meet
   case rel=>exact ⟨_,(true),zb6,H',⟨zb85⟩,⟨zb33⟩,⟨zb76⟩,⟨zb27⟩⟩
  rw [if_pos c6] at H
  have c6b0:=beq_iff_eq.mpr c6
  have c6b1:=bne_eq_false_iff_eq.mpr c6
  clear c6
  (first|rw [c6b0]|(simp only [i64_w,i32_w];rw [c6b0])|rw [c6b1]|skip)
  by_cases c7:0 < (t45.length:Int)
  ·rw [if_pos c7] at H
   have c7b0:=decide_eq_true c7
   have c7b1:decide (0 < t45.length)=true:=decide_eq_true zb25
   clear c7
   by_cases c8:((rdOf ByteArray.empty t45 0).size:Int) > 20
   ·rw [if_pos c8] at H
    have c8b0:decide (20 < ((rdOf ByteArray.empty t45 0).size:Int))=true:=decide_eq_true c8
    have c8b1:decide (20 < (rdOf ByteArray.empty t45 0).size)=true:=decide_eq_true zb25
    clear c8
    have H' := Aside0.mk H
    clear H
    try go_wp2
    replace HO51:=Aside0.mk (Kd.R_drew HO51.out)
    replace BK44:=Aside0.mk (blk_drew BK44.out)
    replace HB:=Aside0.mk (below_drew1 HB.out)
    obtain ⟨Ao10,co10,eo10⟩:=Kd.R_slice HO51.out
    (first|subst eo10|(injection eo10 with f1_ f2_ f3_;have f4_:=f1_.symm;have f5_:=f3_.symm;clear f1_ f2_ f3_;subst f4_;subst f5_))
    have p47:0 ≤ (0:Int):=zb25
    have q47:0 < (t45.length:Int):=of_decide_eq_true zb4
    obtain ⟨ad47,e47,hx47_0⟩:=Kd.at_string (Kd.R_reads' HO51.out).2.2 0 p47 q47
    cases e47
    have qi47:(0 < t45.length)=True:=eq_true zb25
    (try rw [show ((0:Int)).toNat=0 from rfl] at hx47_0)
    (try rw [Addr.add_zero'] at hx47_0)
    replace p47:=eq_true p47
    replace q47:=eq_true q47
    refine start_ (n:=27) (S:=fun w' => w'.cell? ad47=some (.string (rdOf ByteArray.empty t45 0))) (ds:=[]) (zl 27 0) zb8 rfl rfl (hx47_0) (fun hHeld=>?_);refine with_tabW line_Request.tab2 line_Request.bits2 (fun HT_ HW_=>?_)
    generalize w5.drew=w9 at HO51 BK44 HB hx47_0 hHeld ⊢
    refine zpu 0 (N:=some 9) (zl 27 1) HT_.out rfl rfl ?_
    refine zpu 1 (N:=some 10) (zl 27 3) HT_.out rfl rfl ?_
    refine zpu 2 (N:=some 11) (zl 27 7) HT_.out rfl rfl ?_
    refine zpu 3 (N:=some 12) (zl 27 15) HT_.out rfl rfl ?_
    refine zpu 4 (N:=some 13) (zl 27 31) HT_.out rfl rfl ?_
    refine zpu 5 (N:=some 14) (zl 27 63) HT_.out rfl rfl ?_
    refine take_ (i:=6) (N:=some 15) (v:=?_) (a' := ?_) (zl 27 127) rfl rfl (take_ofW HT_.out HW_.out zb8) (fun _ _ _ h=>h) (Or.inl ⟨zb49,?_⟩) hHeld ?_ ?_
    rotate_left
    ·intro w' s0
     go_simp
     with_reducible rfl
    rotate_left
    ·simp only [Act.put,zqA,zqB,zqC,i64_w,i32_w];rfl
    refine zpu 7 (N:=some 16) (zl 27 255) HT_.out rfl rfl ?_
    refine zpu 8 (N:=some 17) (zl 27 511) HT_.out rfl rfl ?_
    refine zpu 9 (N:=some 18) (zl 27 1023) HT_.out rfl rfl ?_
    refine zpu 10 (N:=some 19) (zl 27 2047) HT_.out rfl rfl ?_
    refine pure_ (i:=11) (N:=some 20) (v:=undef) (a' := ?_) (zl 27 4095) rfl rfl (any_of HT_.out zb8) (fun _ _ _ h=>h) (Or.inr ⟨zb49,rfl⟩) ?_ ?_
    rotate_left
    ·simp only [Act.put,zqA,zqB,zqC,i64_w,i32_w];rfl
    refine pure_ (i:=12) (N:=some 21) (v:=undef) (a' := ?_) (zl 27 8191) rfl rfl (any_of HT_.out zb8) (fun _ _ _ h=>h) (Or.inr ⟨zb49,rfl⟩) ?_ ?_
    rotate_left
    ·simp only [Act.put,zqA,zqB,zqC,i64_w,i32_w];rfl
    refine pure_ (i:=13) (N:=some 22) (v:=undef) (a' := ?_) (zl 27 16383) rfl rfl (any_of HT_.out zb8) (fun _ _ _ h=>h) (Or.inr ⟨zb49,rfl⟩) ?_ ?_
    rotate_left
    ·simp only [Act.put,zqA,zqB,zqC,i64_w,i32_w];rfl
    refine pure_ (i:=14) (N:=some 23) (v:=undef) (a' := ?_) (zl 27 32767) rfl rfl (any_of HT_.out zb8) (fun _ _ _ h=>h) (Or.inr ⟨zb49,rfl⟩) ?_ ?_
    rotate_left
    ·simp only [Act.put,zqA,zqB,zqC,i64_w,i32_w];rfl
    refine pure_ (i:=15) (N:=some 24) (v:=undef) (a' := ?_) (zl 27 65535) rfl rfl (any_of HT_.out zb8) (fun _ _ _ h=>h) (Or.inr ⟨zb49,rfl⟩) ?_ ?_
    rotate_left
    ·simp only [Act.put,zqA,zqB,zqC,i64_w,i32_w];rfl
    refine zpu 16 (N:=some 25) (zl 27 131071) HT_.out rfl rfl ?_
    refine zpu 17 (N:=some 26) (zl 27 262143) HT_.out rfl rfl ?_
    refine pure_ (i:=18) (N:=some 27) (v:=undef) (a' := ?_) (zl 27 524287) rfl rfl (any_of HT_.out zb8) (fun _ _ _ h=>h) (Or.inr ⟨zb49,rfl⟩) ?_ ?_
    rotate_left
    ·simp only [Act.put,zqA,zqB,zqC,i64_w,i32_w];rfl
    refine pure_ (i:=19) (N:=some 28) (v:=undef) (a' := ?_) (zl 27 1048575) rfl rfl (any_of HT_.out zb8) (fun _ _ _ h=>h) (Or.inr ⟨zb49,rfl⟩) ?_ ?_
    rotate_left
    ·simp only [Act.put,zqA,zqB,zqC,i64_w,i32_w];rfl
    refine pure_ (i:=20) (N:=some 29) (v:=undef) (a' := ?_) (zl 27 2097151) rfl rfl (any_of HT_.out zb8) (fun _ _ _ h=>h) (Or.inr ⟨zb49,rfl⟩) ?_ ?_
    rotate_left
    ·simp only [Act.put,zqA,zqB,zqC,i64_w,i32_w];rfl
    refine pure_ (i:=21) (N:=some 30) (v:=undef) (a' := ?_) (zl 27 4194303) rfl rfl (any_of HT_.out zb8) (fun _ _ _ h=>h) (Or.inr ⟨zb49,rfl⟩) ?_ ?_
    rotate_left
    ·simp only [Act.put,zqA,zqB,zqC,i64_w,i32_w];rfl
    refine pure_ (i:=22) (N:=some 31) (v:=undef) (a' := ?_) (zl 27 8388607) rfl rfl (any_of HT_.out zb8) (fun _ _ _ h=>h) (Or.inr ⟨zb49,rfl⟩) ?_ ?_
    rotate_left
    ·simp only [Act.put,zqA,zqB,zqC,i64_w,i32_w];rfl
    refine pure_ (i:=23) (N:=some 32) (v:=undef) (a' := ?_) (zl 27 16777215) rfl rfl (any_of HT_.out zb8) (fun _ _ _ h=>h) (Or.inr ⟨zb49,rfl⟩) ?_ ?_
    rotate_left
    ·simp only [Act.put,zqA,zqB,zqC,i64_w,i32_w];rfl
    refine pure_ (i:=24) (N:=some 33) (v:=undef) (a' := ?_) (zl 27 33554431) rfl rfl (any_of HT_.out zb8) (fun _ _ _ h=>h) (Or.inr ⟨zb49,rfl⟩) ?_ ?_
    rotate_left
    ·simp only [Act.put,zqA,zqB,zqC,i64_w,i32_w];rfl
    refine pure_ (i:=25) (N:=some 34) (v:=undef) (a' := ?_) (zl 27 67108863) rfl rfl (any_of HT_.out zb8) (fun _ _ _ h=>h) (Or.inr ⟨zb49,rfl⟩) ?_ ?_
    rotate_left
    ·simp only [Act.put,zqA,zqB,zqC,i64_w,i32_w];rfl
    refine zpu 26 (N:=some 35) (zl 27 134217727) HT_.out rfl rfl ?_
    refine done_ (done_of HT_.out zb8) ?_
    try go_wp2
    go_meet
    case rel=>exact ⟨_,(true),zb6,H',⟨zb85⟩,⟨zb33⟩,⟨zb76⟩,⟨zb27⟩⟩
   rw [if_neg c8] at H
   have c8b0:decide (20 < ((rdOf ByteArray.empty t45 0).size:Int))=false:=decide_eq_false c8
   have c8b1:decide (20 < (rdOf ByteArray.empty t45 0).size)=false:=decide_eq_false zb25
   clear c8
   replace H:=Option.bind_eq_some_iff.mp H
   obtain ⟨t58,A61,H⟩:=H
   try dsimp only at H
   have A11:=Aside0.mk A61
   clear A61
   by_cases c12:t58=true;rotate_left
   ·replace c12:=Bool.eq_false_iff.mpr c12
    subst c12
    rw [if_neg (show ¬ (false=true) by decide)] at H
    have H' := Aside0.mk H
    clear H
    try go_wp2
    replace HO51:=Aside0.mk (Kd.R_drew HO51.out)
    replace BK44:=Aside0.mk (blk_drew BK44.out)
    replace HB:=Aside0.mk (below_drew1 HB.out)
    obtain ⟨Ao18,co18,eo18⟩:=Kd.R_slice HO51.out
    (first|subst eo18|(injection eo18 with f1_ f2_ f3_;have f4_:=f1_.symm;have f5_:=f3_.symm;clear f1_ f2_ f3_;subst f4_;subst f5_))
    have p47:0 ≤ (0:Int):=zb25
    have q47:0 < (t45.length:Int):=of_decide_eq_true zb4
    obtain ⟨ad47,e47,hx47_0⟩:=Kd.at_string (Kd.R_reads' HO51.out).2.2 0 p47 q47
    cases e47
    have qi47:(0 < t45.length)=True:=eq_true zb25
    (try rw [show ((0:Int)).toNat=0 from rfl] at hx47_0)
    (try rw [Addr.add_zero'] at hx47_0)
    replace p47:=eq_true p47
    replace q47:=eq_true q47
    have p50:0 ≤ (0:Int):=zb25
    have q50:0 < (t45.length:Int):=of_decide_eq_true zb4
    obtain ⟨ad50,e50,hx50_0⟩:=Kd.at_string (Kd.R_reads' HO51.out).2.2 0 p50 q50
    obtain rfl:ad47=ad50:=(by injection e50)
    have qi50:(0 < t45.length)=True:=eq_true zb25
    (try rw [show ((0:Int)).toNat=0 from rfl] at hx50_0)
    (try rw [Addr.add_zero'] at hx50_0)
    replace p50:=eq_true p50
    replace q50:=eq_true q50
    refine start_ (n:=27) (S:=fun w' => w'.cell? ad47=some (.string (rdOf ByteArray.empty t45 0))∧w'.cell? ad47=some (.string (rdOf ByteArray.empty t45 0))) (ds:=[]) (zl 27 0) zb8 rfl rfl ⟨hx47_0,hx50_0⟩ (fun hHeld=>?_);refine with_tabW line_Request.tab2 line_Request.bits2 (fun HT_ HW_=>?_)
    generalize w5.drew=w17 at HO51 BK44 HB hx47_0 hx50_0 hHeld ⊢
    refine zpu 0 (N:=some 9) (zl 27 1) HT_.out rfl rfl ?_
    refine zpu 1 (N:=some 10) (zl 27 3) HT_.out rfl rfl ?_
    refine zpu 2 (N:=some 11) (zl 27 7) HT_.out rfl rfl ?_
    refine zpu 3 (N:=some 12) (zl 27 15) HT_.out rfl rfl ?_
    refine zpu 4 (N:=some 13) (zl 27 31) HT_.out rfl rfl ?_
    refine zpu 5 (N:=some 14) (zl 27 63) HT_.out rfl rfl ?_
    refine take_ (i:=6) (N:=some 15) (v:=?_) (a' := ?_) (zl 27 127) rfl rfl (take_ofW HT_.out HW_.out zb8) (fun _ _ _ h=>h) (Or.inl ⟨zb49,?_⟩) hHeld ?_ ?_
    rotate_left
    ·rintro w' ⟨s0,s1⟩;go_simp;with_reducible rfl
    rotate_left
    ·simp only [Act.put,zqA,zqB,zqC,i64_w,i32_w];rfl
    refine zpu 7 (N:=some 16) (zl 27 255) HT_.out rfl rfl ?_
    refine zpu 8 (N:=some 17) (zl 27 511) HT_.out rfl rfl ?_
    refine zpu 9 (N:=some 18) (zl 27 1023) HT_.out rfl rfl ?_
    refine zpu 10 (N:=some 19) (zl 27 2047) HT_.out rfl rfl ?_
    refine zpu 11 (N:=some 20) (zl 27 4095) HT_.out rfl rfl ?_
    refine zpu 12 (N:=some 21) (zl 27 8191) HT_.out rfl rfl ?_
    refine take_ (i:=13) (N:=some 22) (v:=?_) (a' := ?_) (zl 27 16383) rfl rfl (take_ofW HT_.out HW_.out zb8) (fun _ _ _ h=>h) (Or.inl ⟨zb49,?_⟩) hHeld ?_ ?_
    rotate_left
    ·rintro w' ⟨s0,s1⟩;go_simp;with_reducible rfl
    rotate_left
    ·simp only [Act.put,zqA,zqB,zqC,i64_w,i32_w];rfl
    refine one_ (i:=14) (N:=some 23) (zl 27 32767) rfl rfl (one_of HT_.out zb8) zb52 (fun K hK=>?_)
    refine goes_ Tryz.func117 zb8 rfl #[.string (rdOf ByteArray.empty t45 0)] zb49 rfl rfl zb1 ?_
    with_reducible refine (sign_Token.calls (rdOf ByteArray.empty t45 0) false _ A11.out).mono ?_
    rintro e w' ⟨rfl,⟨nd,rfl⟩⟩
    refine ⟨_,rfl,?_⟩
    refine hK.out _ _ ⟨hHeld.1,hHeld.2⟩ (fun hHeld=>?_)
    clear hK K
    refine norm_ (a' := ?_) ?_ ?_
    rotate_left
    ·show Act.put _ (some 23) _=_
     simp only [Act.put,zqA,zqB,zqC,i64_w,i32_w]
     rfl
    refine zpu 15 (N:=some 24) (zl 27 65535) HT_.out rfl rfl ?_
    refine zpu 16 (N:=some 25) (zl 27 131071) HT_.out rfl rfl ?_
    refine zpu 17 (N:=some 26) (zl 27 262143) HT_.out rfl rfl ?_
    refine pure_ (i:=18) (N:=some 27) (v:=undef) (a' := ?_) (zl 27 524287) rfl rfl (any_of HT_.out zb8) (fun _ _ _ h=>h) (Or.inr ⟨zb49,rfl⟩) ?_ ?_
    rotate_left
    ·simp only [Act.put,zqA,zqB,zqC,i64_w,i32_w];rfl
    refine pure_ (i:=19) (N:=some 28) (v:=undef) (a' := ?_) (zl 27 1048575) rfl rfl (any_of HT_.out zb8) (fun _ _ _ h=>h) (Or.inr ⟨zb49,rfl⟩) ?_ ?_
    rotate_left
    ·simp only [Act.put,zqA,zqB,zqC,i64_w,i32_w];rfl
    refine pure_ (i:=20) (N:=some 29) (v:=undef) (a' := ?_) (zl 27 2097151) rfl rfl (any_of HT_.out zb8) (fun _ _ _ h=>h) (Or.inr ⟨zb49,rfl⟩) ?_ ?_
    rotate_left
    ·simp only [Act.put,zqA,zqB,zqC,i64_w,i32_w];rfl
    refine pure_ (i:=21) (N:=some 30) (v:=undef) (a' := ?_) (zl 27 4194303) rfl rfl (any_of HT_.out zb8) (fun _ _ _ h=>h) (Or.inr ⟨zb49,rfl⟩) ?_ ?_
    rotate_left
    ·simp only [Act.put,zqA,zqB,zqC,i64_w,i32_w];rfl
    refine pure_ (i:=22) (N:=some 31) (v:=undef) (a' := ?_) (zl 27 8388607) rfl rfl (any_of HT_.out zb8) (fun _ _ _ h=>h) (Or.inr ⟨zb49,rfl⟩) ?_ ?_
    rotate_left
    ·simp only [Act.put,zqA,zqB,zqC,i64_w,i32_w];rfl
    refine pure_ (i:=23) (N:=some 32) (v:=undef) (a' := ?_) (zl 27 16777215) rfl rfl (any_of HT_.out zb8) (fun _ _ _ h=>h) (Or.inr ⟨zb49,rfl⟩) ?_ ?_
    rotate_left
    ·simp only [Act.put,zqA,zqB,zqC,i64_w,i32_w];rfl
    refine pure_ (i:=24) (N:=some 33) (v:=undef) (a' := ?_) (zl 27 33554431) rfl rfl (any_of HT_.out zb8) (fun _ _ _ h=>h) (Or.inr ⟨zb49,rfl⟩) ?_ ?_
    rotate_left
    ·simp only [Act.put,zqA,zqB,zqC,i64_w,i32_w];rfl
    refine pure_ (i:=25) (N:=some 34) (v:=undef) (a' := ?_) (zl 27 67108863) rfl rfl (any_of HT_.out zb8) (fun _ _ _ h=>h) (Or.inr ⟨zb49,rfl⟩) ?_ ?_
    rotate_left
    ·simp only [Act.put,zqA,zqB,zqC,i64_w,i32_w];rfl
    refine zpu 26 (N:=some 35) (zl 27 134217727) HT_.out rfl rfl ?_
    refine done_ (done_of HT_.out zb8) ?_
    try go_wp2
    go_meet
    case rel=>exact ⟨_,(true),zb6,H',⟨zb85⟩,⟨zb33⟩,⟨zb76⟩,⟨zb27⟩⟩
   subst c12
   rw [if_pos rfl] at H
   by_cases c13:1 < (t45.length:Int)
   ·rw [if_pos c13] at H
    have c13b0:=decide_eq_true c13
    have c13b1:decide (1 < t45.length)=true:=decide_eq_true zb25
    clear c13
    replace H:=Option.bind_eq_some_iff.mp H
    obtain ⟨t57,A62,H⟩:=H
    try dsimp only at H
    have A14:=Aside0.mk A62
    clear A62
    have H' := Aside0.mk H
    clear H
    try go_wp2
    replace HO51:=Aside0.mk (Kd.R_drew HO51.out)
    replace BK44:=Aside0.mk (blk_drew BK44.out)
    replace HB:=Aside0.mk (below_drew1 HB.out)
    obtain ⟨Ao16,co16,eo16⟩:=Kd.R_slice HO51.out
    (first|subst eo16|(injection eo16 with f1_ f2_ f3_;have f4_:=f1_.symm;have f5_:=f3_.symm;clear f1_ f2_ f3_;subst f4_;subst f5_))
    have p47:0 ≤ (0:Int):=zb25
    have q47:0 < (t45.length:Int):=of_decide_eq_true zb4
    obtain ⟨ad47,e47,hx47_0⟩:=Kd.at_string (Kd.R_reads' HO51.out).2.2 0 p47 q47
    cases e47
    have qi47:(0 < t45.length)=True:=eq_true zb25
    (try rw [show ((0:Int)).toNat=0 from rfl] at hx47_0)
    (try rw [Addr.add_zero'] at hx47_0)
    replace p47:=eq_true p47
    replace q47:=eq_true q47
    have p50:0 ≤ (0:Int):=zb25
    have q50:0 < (t45.length:Int):=of_decide_eq_true zb4
    obtain ⟨ad50,e50,hx50_0⟩:=Kd.at_string (Kd.R_reads' HO51.out).2.2 0 p50 q50
    obtain rfl:ad47=ad50:=(by injection e50)
    have qi50:(0 < t45.length)=True:=eq_true zb25
    (try rw [show ((0:Int)).toNat=0 from rfl] at hx50_0)
    (try rw [Addr.add_zero'] at hx50_0)
    replace p50:=eq_true p50
    replace q50:=eq_true q50
    have p52:0 ≤ (0:Int):=zb25
    have q52:0 < (t45.length:Int):=of_decide_eq_true zb4
    obtain ⟨ad52,e52,hx52_0⟩:=Kd.at_string (Kd.R_reads' HO51.out).2.2 0 p52 q52
    obtain rfl:ad47=ad52:=(by injection e52)
    have qi52:(0 < t45.length)=True:=eq_true zb25
    (try rw [show ((0:Int)).toNat=0 from rfl] at hx52_0)
    (try rw [Addr.add_zero'] at hx52_0)
    replace p52:=eq_true p52
    replace q52:=eq_true q52
    have p53:0 ≤ (1:Int):=zb25
    have q53:1 < (t45.length:Int):=of_decide_eq_true zb4
    obtain ⟨ad53,e53,hx53_0⟩:=Kd.at_string (Kd.R_reads' HO51.out).2.2 1 p53 q53
    obtain rfl:ad47=ad53:=(by injection e53)
    (try simp only [show (1:Int).toNat=1 from rfl,Nat.reduceMul,Nat.reduceEqDiff,Go.Addr.add,↓reduceIte] at hx53_0)
    have qi53:(1 < t45.length)=True:=eq_true zb25
    (try rw [show ((1:Int)).toNat=1 from rfl] at hx53_0)
    replace p53:=eq_true p53
    replace q53:=eq_true q53
    refine start_ (n:=27) (S:=fun w' => w'.cell? ad47=some (.string (rdOf ByteArray.empty t45 0))∧w'.cell? ad47=some (.string (rdOf ByteArray.empty t45 0))∧w'.cell? ad47=some (.string (rdOf ByteArray.empty t45 0))∧w'.cell? ⟨ad47.block,ad47.off + 1,none⟩=some (.string (rdOf ByteArray.empty t45 1))) (ds:=[]) (zl 27 0) zb8 rfl rfl ⟨hx47_0,hx50_0,hx52_0,hx53_0⟩ (fun hHeld=>?_);refine with_tabW line_Request.tab2 line_Request.bits2 (fun HT_ HW_=>?_)
    generalize w5.drew=w15 at HO51 BK44 HB hx47_0 hx50_0 hx52_0 hx53_0 hHeld ⊢
    refine zpu 0 (N:=some 9) (zl 27 1) HT_.out rfl rfl ?_
    refine zpu 1 (N:=some 10) (zl 27 3) HT_.out rfl rfl ?_
    refine zpu 2 (N:=some 11) (zl 27 7) HT_.out rfl rfl ?_
    refine zpu 3 (N:=some 12) (zl 27 15) HT_.out rfl rfl ?_
    refine zpu 4 (N:=some 13) (zl 27 31) HT_.out rfl rfl ?_
    refine zpu 5 (N:=some 14) (zl 27 63) HT_.out rfl rfl ?_
    refine take_ (i:=6) (N:=some 15) (v:=?_) (a' := ?_) (zl 27 127) rfl rfl (take_ofW HT_.out HW_.out zb8) (fun _ _ _ h=>h) (Or.inl ⟨zb49,?_⟩) hHeld ?_ ?_
    rotate_left
    ·rintro w' ⟨s0,s1,s2,s3⟩;go_simp;with_reducible rfl
    rotate_left
    ·simp only [Act.put,zqA,zqB,zqC,i64_w,i32_w];rfl
    refine zpu 7 (N:=some 16) (zl 27 255) HT_.out rfl rfl ?_
    refine zpu 8 (N:=some 17) (zl 27 511) HT_.out rfl rfl ?_
    refine zpu 9 (N:=some 18) (zl 27 1023) HT_.out rfl rfl ?_
    refine zpu 10 (N:=some 19) (zl 27 2047) HT_.out rfl rfl ?_
    refine zpu 11 (N:=some 20) (zl 27 4095) HT_.out rfl rfl ?_
    refine zpu 12 (N:=some 21) (zl 27 8191) HT_.out rfl rfl ?_
    refine take_ (i:=13) (N:=some 22) (v:=?_) (a' := ?_) (zl 27 16383) rfl rfl (take_ofW HT_.out HW_.out zb8) (fun _ _ _ h=>h) (Or.inl ⟨zb49,?_⟩) hHeld ?_ ?_
    rotate_left
    ·rintro w' ⟨s0,s1,s2,s3⟩;go_simp;with_reducible rfl
    rotate_left
    ·simp only [Act.put,zqA,zqB,zqC,i64_w,i32_w];rfl
    refine one_ (i:=14) (N:=some 23) (zl 27 32767) rfl rfl (one_of HT_.out zb8) zb52 (fun K hK=>?_)
    refine goes_ Tryz.func117 zb8 rfl #[.string (rdOf ByteArray.empty t45 0)] zb49 rfl rfl zb1 ?_
    with_reducible refine (sign_Token.calls (rdOf ByteArray.empty t45 0) true _ A11.out).mono ?_
    rintro e w' ⟨rfl,⟨nd,rfl⟩⟩
    refine ⟨_,rfl,?_⟩
    refine hK.out _ _ ⟨hHeld.1,hHeld.2.1,hHeld.2.2.1,hHeld.2.2.2⟩ (fun hHeld=>?_)
    clear hK K
    refine norm_ (a' := ?_) ?_ ?_
    rotate_left
    ·show Act.put _ (some 23) _=_
     simp only [Act.put,zqA,zqB,zqC,i64_w,i32_w]
     rfl
    refine zpu 15 (N:=some 24) (zl 27 65535) HT_.out rfl rfl ?_
    refine zpu 16 (N:=some 25) (zl 27 131071) HT_.out rfl rfl ?_
    refine zpu 17 (N:=some 26) (zl 27 262143) HT_.out rfl rfl ?_
    refine zpu 18 (N:=some 27) (zl 27 524287) HT_.out rfl rfl ?_
    refine zpu 19 (N:=some 28) (zl 27 1048575) HT_.out rfl rfl ?_
    refine zpu 21 (N:=some 30) (zl 27 3145727) HT_.out rfl rfl ?_
    refine zpu 22 (N:=some 31) (zl 27 7340031) HT_.out rfl rfl ?_
    refine take_ (i:=20) (N:=some 29) (v:=?_) (a' := ?_) (zl 27 8388607) rfl rfl (take_ofW HT_.out HW_.out zb8) (fun _ _ _ h=>h) (Or.inl ⟨zb49,?_⟩) hHeld ?_ ?_
    rotate_left
    ·rintro w' ⟨s0,s1,s2,s3⟩;go_simp;with_reducible rfl
    rotate_left
    ·simp only [Act.put,zqA,zqB,zqC,i64_w,i32_w];rfl
    refine take_ (i:=23) (N:=some 32) (v:=?_) (a' := ?_) (zl 27 16777215) rfl rfl (take_ofW HT_.out HW_.out zb8) (fun _ _ _ h=>h) (Or.inl ⟨zb49,?_⟩) hHeld ?_ ?_
    rotate_left
    ·rintro w' ⟨s0,s1,s2,s3⟩;go_simp;with_reducible rfl
    rotate_left
    ·simp only [Act.put,zqA,zqB,zqC,i64_w,i32_w];rfl
    refine one_ (i:=24) (N:=some 33) (zl 27 33554431) rfl rfl (one_of HT_.out zb8) zb52 (fun K hK=>?_)
    refine goes_ Tryz.func118 zb8 rfl #[.string (rdOf ByteArray.empty t45 0),.string (rdOf ByteArray.empty t45 1)] zb49 rfl rfl zb1 ?_
    with_reducible refine (line_target.calls (rdOf ByteArray.empty t45 0) (rdOf ByteArray.empty t45 1) t57 _ A14.out).mono ?_
    rintro e w' ⟨rfl,⟨nd,rfl⟩⟩
    refine ⟨_,rfl,?_⟩
    refine hK.out _ _ ⟨hHeld.1,hHeld.2.1,hHeld.2.2.1,hHeld.2.2.2⟩ (fun hHeld=>?_)
    clear hK K
    refine norm_ (a' := ?_) ?_ ?_
    rotate_left
    ·show Act.put _ (some 33) _=_
     simp only [Act.put,zqA,zqB,zqC,i64_w,i32_w]
     rfl
    refine zpu 25 (N:=some 34) (zl 27 67108863) HT_.out rfl rfl ?_
    refine zpu 26 (N:=some 35) (zl 27 134217727) HT_.out rfl rfl ?_
    refine done_ (done_of HT_.out zb8) ?_
    try go_wp2
    go_meet
    case rel=>exact ⟨_,(!t57),zb6,H',⟨zb85⟩,⟨zb33⟩,⟨zb76⟩,⟨zb27⟩⟩
   ·rw [if_neg c13] at H
    exact absurd H zb42
  ·rw [if_neg c7] at H
   exact absurd H zb42
 case rest =>
  clear HC3
  try clear c1
  try clear p1
  try clear q1
  try clear hx1
  try clear qi1
  try clear p2
  try clear c6
  try clear c6b0
  try clear c6b1
  try clear c7
  try clear c11
  try clear c12
  try clear c13
  try clear p15
  try clear q15
  try clear hx15
  try clear qi15
  try clear hx47_0
  try clear hx50_0
  try clear p47
  try clear p50
  try clear q47
  try clear q50
  obtain ⟨kq,x35_2,rfl,HA,HJ2,HO_4,BK44,HB⟩:=hcut
  cases kq with
  | zero=>exact absurd HA.out (by simp [line_Request.j0])
  | succ kj2 =>
   have H:=HA.out
   clear HA
   simp only [line_Request.j0] at H
   by_cases c21:x35_2=true
   ·subst c21
    rw [if_pos rfl] at H
    simp only [Option.some.injEq,Prod.mk.injEq] at H
    obtain ⟨rfl,rfl,rfl,rfl,rfl,rfl⟩:=H
    obtain ⟨hcz22_0,hcz22_1,hcz22_2,hcz22_3,hcz22_4,hfz22_0,hfz22_1,hfz22_2,hfz22_3,hfz22_4⟩:=zq5 BK44.out
    go_wp2
    refine bodyPost_ret (results_ct rfl _ _ gb44 26 #[.string (⟨#[]⟩:ByteArray),.string (⟨#[]⟩:ByteArray),.int .i64 0,.slice none 0 0,.slice none 0 0] (0,0) _ rfl zb5 Tryz.underlying26 rfl zb8) rfl ?_
    exact ⟨_,_,zb3,zb11,zb11,zb27⟩
   replace c21:=Bool.eq_false_iff.mpr c21
   subst c21
   rw [if_neg (show ¬ (false=true) by decide)] at H
   by_cases c23:2 < (t45.length:Int);rotate_left
   ·rw [if_neg c23] at H
    exact absurd H zb42
   rw [if_pos c23] at H
   have c23b0:=decide_eq_true c23
   have c23b1:decide (2 < t45.length)=true:=decide_eq_true zb25
   clear c23
   replace H:=Option.bind_eq_some_iff.mp H
   obtain ⟨⟨t56,t59⟩,A63,H⟩:=H
   try dsimp only at H
   have A24:=Aside0.mk A63
   clear A63
   by_cases c25:1 < (t45.length:Int)
   ·rw [if_pos c25] at H
    have c25b0:=decide_eq_true c25
    have c25b1:decide (1 < t45.length)=true:=decide_eq_true zb25
    clear c25
    by_cases c26:((rdOf ByteArray.empty t45 1).size:Int) > 512
    ·rw [if_pos c26] at H
     have c26b0:decide (512 < ((rdOf ByteArray.empty t45 1).size:Int))=true:=decide_eq_true c26
     have c26b1:decide (512 < (rdOf ByteArray.empty t45 1).size)=true:=decide_eq_true zb25
     clear c26
     simp only [Option.some.injEq,Prod.mk.injEq] at H
     obtain ⟨rfl,rfl,rfl,rfl,rfl,rfl⟩:=H
     obtain ⟨Ao27,co27,eo27⟩:=Kd.R_slice HO_4.out
     subst eo27
     have p46:0 ≤ (2:Int):=zb25
     have q46:2 < (t45.length:Int):=of_decide_eq_true zb4
     obtain ⟨ad46,e46,hx46_0⟩:=Kd.at_string (Kd.R_reads' HO_4.out).2.2 2 p46 q46
     cases e46
     (try simp only [show (2:Int).toNat=2 from rfl,Nat.reduceMul,Nat.reduceEqDiff,Go.Addr.add,↓reduceIte] at hx46_0)
     have qi46:(2 < t45.length)=True:=eq_true zb25
     (try rw [show ((2:Int)).toNat=2 from rfl] at hx46_0)
     replace p46:=eq_true p46
     replace q46:=eq_true q46
     go_wp2_with (first|((with_reducible refine gate_callee (f:=111) rfl ?_);refine goesL_ (some 41) rfl rfl Tryz.func111 zb8 rfl #[.string (rdOf ByteArray.empty t45 2)] rfl zb1 ?_;(with_reducible refine (line_minor.calls (rdOf ByteArray.empty t45 2) t56 t59 _ A24.out).mono ?_);rintro e w' ⟨rfl,⟨nd,rfl⟩⟩;(try clear A24);refine ⟨_,rfl,?_⟩;(try (rw [drewN_self wc];generalize hq_:World.drewN wc _=wc;have n0_:Aside0 (Kd.R Kd.string 9 wc w.heap.size (fun _=>True) (.slice (some ad46) t45.length co27) t45):=⟨zb60⟩;have n1_:Aside0 (wc.heap[gb44]? = some (.cells #[.string (⟨#[]⟩:ByteArray),.string (⟨#[]⟩:ByteArray),.int .i64 0,.slice none 0 0,.slice none 0 0] 26 (0,0))):=⟨zb53⟩;have n2_:Aside0 (Below w.heap.size w wc):=⟨zb40⟩;clear HO_4 BK44 HB hq_;have HO_4:=n0_;have BK44:=n1_;have HB:=n2_;clear n0_ n1_ n2_));have p48:0 ≤ (1:Int):=zb25;have q48:1 < (t45.length:Int):=of_decide_eq_true zb4;obtain ⟨ad48,e48,hx48_0⟩:=Kd.at_string (Kd.R_reads' HO_4.out).2.2 1 p48 q48;obtain rfl:ad46=ad48:=(by injection e48);(try simp only [show (1:Int).toNat=1 from rfl,Nat.reduceMul,Nat.reduceEqDiff,Go.Addr.add,↓reduceIte] at hx48_0);have qi48:(1 < t45.length)=True:=eq_true zb25;(try rw [show ((1:Int)).toNat=1 from rfl] at hx48_0);replace p48:=eq_true p48;replace q48:=eq_true q48;obtain ⟨hcz28_0,hcz28_1,hcz28_2,hcz28_3,hcz28_4,hfz28_0,hfz28_1,hfz28_2,hfz28_3,hfz28_4⟩:=zq5 BK44.out))
     refine bodyPost_ret (results_ct rfl _ _ gb44 26 #[.string (⟨#[]⟩:ByteArray),.string (⟨#[]⟩:ByteArray),.int .i64 0,.slice none 0 0,.slice none 0 0] (0,0) _ rfl zb5 Tryz.underlying26 rfl zb8) rfl ?_
     exact ⟨_,_,zb3,zb11,zb11,zb27⟩
    rw [if_neg c26] at H
    have c26b0:decide (512 < ((rdOf ByteArray.empty t45 1).size:Int))=false:=decide_eq_false c26
    have c26b1:decide (512 < (rdOf ByteArray.empty t45 1).size)=false:=decide_eq_false zb25
    clear c26
    replace H:=Option.bind_eq_some_iff.mp H
    obtain ⟨t60,A65,H⟩:=H
    try dsimp only at H
    have A29:=Aside0.mk A65
    clear A65
    by_cases c30:t60=true;rotate_left
    ·replace c30:=Bool.eq_false_iff.mpr c30
     subst c30
     rw [if_neg (show ¬ (false=true) by decide)] at H
     simp only [Option.some.injEq,Prod.mk.injEq] at H
     obtain ⟨rfl,rfl,rfl,rfl,rfl,rfl⟩:=H
     obtain ⟨Ao42,co42,eo42⟩:=Kd.R_slice HO_4.out
     subst eo42
     have p46:0 ≤ (2:Int):=zb25
     have q46:2 < (t45.length:Int):=of_decide_eq_true zb4
     obtain ⟨ad46,e46,hx46_0⟩:=Kd.at_string (Kd.R_reads' HO_4.out).2.2 2 p46 q46
     cases e46
     (try simp only [show (2:Int).toNat=2 from rfl,Nat.reduceMul,Nat.reduceEqDiff,Go.Addr.add,↓reduceIte] at hx46_0)
     have qi46:(2 < t45.length)=True:=eq_true zb25
     (try rw [show ((2:Int)).toNat=2 from rfl] at hx46_0)
     replace p46:=eq_true p46
     replace q46:=eq_true q46
     go_wp2_with (first|((with_reducible refine gate_callee (f:=111) rfl ?_);refine goesL_ (some 41) rfl rfl Tryz.func111 zb8 rfl #[.string (rdOf ByteArray.empty t45 2)] rfl zb1 ?_;(with_reducible refine (line_minor.calls (rdOf ByteArray.empty t45 2) t56 t59 _ A24.out).mono ?_);rintro e w' ⟨rfl,⟨nd,rfl⟩⟩;(try clear A24);refine ⟨_,rfl,?_⟩;(try (rw [drewN_self wc];generalize hq_:World.drewN wc _=wc;have n0_:Aside0 (Kd.R Kd.string 9 wc w.heap.size (fun _=>True) (.slice (some ad46) t45.length co42) t45):=⟨zb60⟩;have n1_:Aside0 (wc.heap[gb44]? = some (.cells #[.string (⟨#[]⟩:ByteArray),.string (⟨#[]⟩:ByteArray),.int .i64 0,.slice none 0 0,.slice none 0 0] 26 (0,0))):=⟨zb53⟩;have n2_:Aside0 (Below w.heap.size w wc):=⟨zb40⟩;clear HO_4 BK44 HB hq_;have HO_4:=n0_;have BK44:=n1_;have HB:=n2_;clear n0_ n1_ n2_));have p48:0 ≤ (1:Int):=zb25;have q48:1 < (t45.length:Int):=of_decide_eq_true zb4;obtain ⟨ad48,e48,hx48_0⟩:=Kd.at_string (Kd.R_reads' HO_4.out).2.2 1 p48 q48;obtain rfl:ad46=ad48:=(by injection e48);(try simp only [show (1:Int).toNat=1 from rfl,Nat.reduceMul,Nat.reduceEqDiff,Go.Addr.add,↓reduceIte] at hx48_0);have qi48:(1 < t45.length)=True:=eq_true zb25;(try rw [show ((1:Int)).toNat=1 from rfl] at hx48_0);replace p48:=eq_true p48;replace q48:=eq_true q48;have p49:0 ≤ (2:Int):=zb25;have q49:2 < (t45.length:Int):=of_decide_eq_true zb4;obtain ⟨ad49,e49,hx49_0⟩:=Kd.at_string (Kd.R_reads' HO_4.out).2.2 2 p49 q49;obtain rfl:ad46=ad49:=(by injection e49);(try simp only [show (2:Int).toNat=2 from rfl,Nat.reduceMul,Nat.reduceEqDiff,Go.Addr.add,↓reduceIte] at hx49_0);have qi49:(2 < t45.length)=True:=eq_true zb25;(try rw [show ((2:Int)).toNat=2 from rfl] at hx49_0);replace p49:=eq_true p49;replace q49:=eq_true q49)|((with_reducible refine gate_callee (f:=119) rfl ?_);refine goesL_ (some 55) rfl rfl Tryz.func119 zb8 rfl #[.string (rdOf ByteArray.empty t45 2)] rfl zb1 ?_;(with_reducible refine (line_numbered.calls (rdOf ByteArray.empty t45 2) false _ A29.out).mono ?_);rintro e w' ⟨rfl,⟨nd,rfl⟩⟩;(try clear A29);refine ⟨_,rfl,?_⟩;(try (rw [drewN_self wc];generalize hq_:World.drewN wc _=wc;have n0_:Aside0 (Kd.R Kd.string 9 wc w.heap.size (fun _=>True) (.slice (some ad46) t45.length co42) t45):=⟨zb60⟩;have n1_:Aside0 (wc.heap[gb44]? = some (.cells #[.string (⟨#[]⟩:ByteArray),.string (⟨#[]⟩:ByteArray),.int .i64 0,.slice none 0 0,.slice none 0 0] 26 (0,0))):=⟨zb53⟩;have n2_:Aside0 (Below w.heap.size w wc):=⟨zb40⟩;clear HO_4 BK44 HB hq_;have HO_4:=n0_;have BK44:=n1_;have HB:=n2_;clear n0_ n1_ n2_));obtain ⟨hcz43_0,hcz43_1,hcz43_2,hcz43_3,hcz43_4,hfz43_0,hfz43_1,hfz43_2,hfz43_3,hfz43_4⟩:=zq5 BK44.out))
     refine bodyPost_ret (results_ct rfl _ _ gb44 26 #[.string (⟨#[]⟩:ByteArray),.string (⟨#[]⟩:ByteArray),.int .i64 0,.slice none 0 0,.slice none 0 0] (0,0) _ rfl zb5 Tryz.underlying26 rfl zb8) rfl ?_
     exact ⟨_,_,zb3,zb11,zb11,zb27⟩
    subst c30
    rw [if_pos rfl] at H
    by_cases c31:t59=true
    ·subst c31
     rw [if_pos rfl] at H
     by_cases c32:0 < (t45.length:Int);rotate_left
     ·rw [if_neg c32] at H
      exact absurd H zb42
     rw [if_pos c32] at H
     have c32b0:=decide_eq_true c32
     have c32b1:decide (0 < t45.length)=true:=decide_eq_true zb25
     clear c32
     simp only [Option.some.injEq,Prod.mk.injEq] at H
     obtain ⟨rfl,rfl,rfl,rfl,rfl,rfl⟩:=H
     obtain ⟨Ao33,co33,eo33⟩:=Kd.R_slice HO_4.out
     subst eo33
     have p46:0 ≤ (2:Int):=zb25
     have q46:2 < (t45.length:Int):=of_decide_eq_true zb4
     obtain ⟨ad46,e46,hx46_0⟩:=Kd.at_string (Kd.R_reads' HO_4.out).2.2 2 p46 q46
     cases e46
     (try simp only [show (2:Int).toNat=2 from rfl,Nat.reduceMul,Nat.reduceEqDiff,Go.Addr.add,↓reduceIte] at hx46_0)
     have qi46:(2 < t45.length)=True:=eq_true zb25
     (try rw [show ((2:Int)).toNat=2 from rfl] at hx46_0)
     replace p46:=eq_true p46
     replace q46:=eq_true q46
     try go_wp2_with (first|((with_reducible refine gate_callee (f:=111) rfl ?_);refine goesL_ (some 41) rfl rfl Tryz.func111 zb8 rfl #[.string (rdOf ByteArray.empty t45 2)] rfl zb1 ?_;(with_reducible refine (line_minor.calls (rdOf ByteArray.empty t45 2) t56 true _ A24.out).mono ?_);rintro e w' ⟨rfl,⟨nd,rfl⟩⟩;(try clear A24);refine ⟨_,rfl,?_⟩;(try (rw [drewN_self wc];generalize hq_:World.drewN wc _=wc;have n0_:Aside0 (Kd.R Kd.string 9 wc w.heap.size (fun _=>True) (.slice (some ad46) t45.length co33) t45):=⟨zb60⟩;have n1_:Aside0 (wc.heap[gb44]? = some (.cells #[.string (⟨#[]⟩:ByteArray),.string (⟨#[]⟩:ByteArray),.int .i64 0,.slice none 0 0,.slice none 0 0] 26 (0,0))):=⟨zb53⟩;have n2_:Aside0 (Below w.heap.size w wc):=⟨zb40⟩;clear HO_4 BK44 HB hq_;have HO_4:=n0_;have BK44:=n1_;have HB:=n2_;clear n0_ n1_ n2_));have p48:0 ≤ (1:Int):=zb25;have q48:1 < (t45.length:Int):=of_decide_eq_true zb4;obtain ⟨ad48,e48,hx48_0⟩:=Kd.at_string (Kd.R_reads' HO_4.out).2.2 1 p48 q48;obtain rfl:ad46=ad48:=(by injection e48);(try simp only [show (1:Int).toNat=1 from rfl,Nat.reduceMul,Nat.reduceEqDiff,Go.Addr.add,↓reduceIte] at hx48_0);have qi48:(1 < t45.length)=True:=eq_true zb25;(try rw [show ((1:Int)).toNat=1 from rfl] at hx48_0);replace p48:=eq_true p48;replace q48:=eq_true q48;have p49:0 ≤ (2:Int):=zb25;have q49:2 < (t45.length:Int):=of_decide_eq_true zb4;obtain ⟨ad49,e49,hx49_0⟩:=Kd.at_string (Kd.R_reads' HO_4.out).2.2 2 p49 q49;obtain rfl:ad46=ad49:=(by injection e49);(try simp only [show (2:Int).toNat=2 from rfl,Nat.reduceMul,Nat.reduceEqDiff,Go.Addr.add,↓reduceIte] at hx49_0);have qi49:(2 < t45.length)=True:=eq_true zb25;(try rw [show ((2:Int)).toNat=2 from rfl] at hx49_0);replace p49:=eq_true p49;replace q49:=eq_true q49)|((with_reducible refine gate_callee (f:=119) rfl ?_);refine goesL_ (some 55) rfl rfl Tryz.func119 zb8 rfl #[.string (rdOf ByteArray.empty t45 2)] rfl zb1 ?_;(with_reducible refine (line_numbered.calls (rdOf ByteArray.empty t45 2) true _ A29.out).mono ?_);rintro e w' ⟨rfl,⟨nd,rfl⟩⟩;(try clear A29);refine ⟨_,rfl,?_⟩;(try (rw [drewN_self wc];generalize hq_:World.drewN wc _=wc;have n0_:Aside0 (Kd.R Kd.string 9 wc w.heap.size (fun _=>True) (.slice (some ad46) t45.length co33) t45):=⟨zb60⟩;have n1_:Aside0 (wc.heap[gb44]? = some (.cells #[.string (⟨#[]⟩:ByteArray),.string (⟨#[]⟩:ByteArray),.int .i64 0,.slice none 0 0,.slice none 0 0] 26 (0,0))):=⟨zb53⟩;have n2_:Aside0 (Below w.heap.size w wc):=⟨zb40⟩;clear HO_4 BK44 HB hq_;have HO_4:=n0_;have BK44:=n1_;have HB:=n2_;clear n0_ n1_ n2_))))
     replace HO_4:=Aside0.mk (Kd.R_drew HO_4.out)
     replace BK44:=Aside0.mk (blk_drew BK44.out)
     replace HB:=Aside0.mk (below_drew1 HB.out)
     have p54:0 ≤ (0:Int):=zb25
     have q54:0 < (t45.length:Int):=of_decide_eq_true zb4
     obtain ⟨ad54,e54,hx54_0⟩:=Kd.at_string (Kd.R_reads' HO_4.out).2.2 0 p54 q54
     obtain rfl:ad46=ad54:=(by injection e54)
     have qi54:(0 < t45.length)=True:=eq_true zb25
     (try rw [show ((0:Int)).toNat=0 from rfl] at hx54_0)
     (try rw [Addr.add_zero'] at hx54_0)
     replace p54:=eq_true p54
     replace q54:=eq_true q54
     have p55:0 ≤ (1:Int):=zb25
     have q55:1 < (t45.length:Int):=of_decide_eq_true zb4
     obtain ⟨ad55,e55,hx55_0⟩:=Kd.at_string (Kd.R_reads' HO_4.out).2.2 1 p55 q55
     obtain rfl:ad46=ad55:=(by injection e55)
     (try simp only [show (1:Int).toNat=1 from rfl,Nat.reduceMul,Nat.reduceEqDiff,Go.Addr.add,↓reduceIte] at hx55_0)
     have qi55:(1 < t45.length)=True:=eq_true zb25
     (try rw [show ((1:Int)).toNat=1 from rfl] at hx55_0)
     replace p55:=eq_true p55
     replace q55:=eq_true q55
     refine start_ (n:=10) (S:=fun w' => w'.cell? ad46=some (.string (rdOf ByteArray.empty t45 0))∧w'.cell? ⟨ad46.block,ad46.off + 1,none⟩=some (.string (rdOf ByteArray.empty t45 1))) (ds:=[]) (zl 10 0) zb8 rfl rfl ⟨hx54_0,hx55_0⟩ (fun hHeld=>?_);refine with_tabW line_Request.tab11 line_Request.bits11 (fun HT_ HW_=>?_)
     generalize wc.drew=w34 at HO_4 BK44 HB hx54_0 hx55_0 hHeld ⊢
     refine zpu 0 (N:=some 62) (zl 10 1) HT_.out rfl rfl ?_
     refine zpu 1 (N:=some 63) (zl 10 3) HT_.out rfl rfl ?_
     refine zpu 3 (N:=some 65) (zl 10 11) HT_.out rfl rfl ?_
     refine zpu 4 (N:=some 66) (zl 10 27) HT_.out rfl rfl ?_
     refine zpu 6 (N:=some 68) (zl 10 91) HT_.out rfl rfl ?_
     refine take_ (i:=2) (N:=some 64) (v:=?_) (a' := ?_) (zl 10 95) rfl rfl (take_ofW HT_.out HW_.out zb8) (fun _ _ _ h=>h) (Or.inl ⟨zb49,?_⟩) hHeld ?_ ?_
     rotate_left
     ·rintro w' ⟨s0,s1⟩;go_simp;with_reducible rfl
     rotate_left
     ·simp only [Act.put,zqA,zqB,zqC,i64_w,i32_w];rfl
     refine take_ (i:=5) (N:=some 67) (v:=?_) (a' := ?_) (zl 10 127) rfl rfl (take_ofW HT_.out HW_.out zb8) (fun _ _ _ h=>h) (Or.inl ⟨zb49,?_⟩) hHeld ?_ ?_
     rotate_left
     ·rintro w' ⟨s0,s1⟩;go_simp;with_reducible rfl
     rotate_left
     ·simp only [Act.put,zqA,zqB,zqC,i64_w,i32_w];rfl
     refine zpu 7 (N:=some 69) (zl 10 255) HT_.out rfl rfl ?_
     refine one_ (i:=8) (N:=none) (zl 10 511) rfl rfl (one_of HT_.out zb8) zb52 (fun K hK=>?_)
     have hs35:w34.cell? ⟨gb44,0,none⟩=some (.string (⟨#[]⟩:ByteArray)):=(blk_cell BK44.out 0).trans rfl
     have hfs35:=blk_frozen BK44.out 0
     have hs36:w34.cell? ⟨gb44,1,none⟩=some (.string (⟨#[]⟩:ByteArray)):=(blk_cell BK44.out 1).trans rfl
     have hfs36:=blk_frozen BK44.out 1
     have hs37:w34.cell? ⟨gb44,2,none⟩=some (.int .i64 0):=(blk_cell BK44.out 2).trans rfl
     have hfs37:=blk_frozen BK44.out 2
     have hs38:w34.cell? ⟨gb44,3,none⟩=some (.slice none 0 0):=(blk_cell BK44.out 3).trans rfl
     have hfs38:=blk_frozen BK44.out 3
     have hs39:w34.cell? ⟨gb44,4,none⟩=some (.slice none 0 0):=(blk_cell BK44.out 4).trans rfl
     have hfs39:=blk_frozen BK44.out 4
     refine skip_ (w1:=?_) zb49 rfl ?_ ?_
     rotate_left
     ·go_simp
      rfl
     refine hK.out _ _ ⟨((cell_far (p:=⟨gb44,_,none⟩) zb10 _).trans (((cell_far (p:=⟨gb44,_,none⟩) zb10 _).trans (((cell_far (p:=⟨gb44,_,none⟩) zb10 _).trans (((cell_far (p:=⟨gb44,_,none⟩) zb10 _).trans (((cell_far (p:=⟨gb44,_,none⟩) zb10 _).trans (hHeld.1)))))))))),((cell_far (p:=⟨gb44,_,none⟩) zb10 _).trans (((cell_far (p:=⟨gb44,_,none⟩) zb10 _).trans (((cell_far (p:=⟨gb44,_,none⟩) zb10 _).trans (((cell_far (p:=⟨gb44,_,none⟩) zb10 _).trans (((cell_far (p:=⟨gb44,_,none⟩) zb10 _).trans (hHeld.2))))))))))⟩ (fun hHeld=>?_)
     clear hK K
     refine zpu 9 (N:=some 3) (zl 10 1023) HT_.out rfl rfl ?_
     refine done_ (done_of HT_.out zb8) ?_
     try go_wp2
     refine bodyPost_ret (results_ct rfl _ _ gb44 26 #[.string (rdOf ByteArray.empty t45 0),.string (rdOf ByteArray.empty t45 1),.int .i64 t56,.slice none 0 0,.slice none 0 0] (0,0) _ rfl (by (with_reducible repeat (first|refine blk_drewN ?_ _|refine blk_drew ?_|refine blk_alloc ?_ _));refine blk_put (cs:=#[.string (rdOf ByteArray.empty t45 0),.string (rdOf ByteArray.empty t45 1),.int .i64 t56,.slice none 0 0,.slice none 0 0]) ?_ 4 _ rfl;(with_reducible repeat (first|refine blk_drewN ?_ _|refine blk_drew ?_|refine blk_alloc ?_ _));refine blk_put (cs:=#[.string (rdOf ByteArray.empty t45 0),.string (rdOf ByteArray.empty t45 1),.int .i64 t56,.slice none 0 0,.slice none 0 0]) ?_ 3 _ rfl;(with_reducible repeat (first|refine blk_drewN ?_ _|refine blk_drew ?_|refine blk_alloc ?_ _));refine blk_put (cs:=#[.string (rdOf ByteArray.empty t45 0),.string (rdOf ByteArray.empty t45 1),.int .i64 0,.slice none 0 0,.slice none 0 0]) ?_ 2 _ rfl;(with_reducible repeat (first|refine blk_drewN ?_ _|refine blk_drew ?_|refine blk_alloc ?_ _));refine blk_put (cs:=#[.string (rdOf ByteArray.empty t45 0),.string (⟨#[]⟩:ByteArray),.int .i64 0,.slice none 0 0,.slice none 0 0]) ?_ 1 _ rfl;(with_reducible repeat (first|refine blk_drewN ?_ _|refine blk_drew ?_|refine blk_alloc ?_ _));refine blk_put (cs:=#[.string (⟨#[]⟩:ByteArray),.string (⟨#[]⟩:ByteArray),.int .i64 0,.slice none 0 0,.slice none 0 0]) ?_ 0 _ rfl;(with_reducible repeat (first|refine blk_drewN ?_ _|refine blk_drew ?_|refine blk_alloc ?_ _));exact BK44.out) Tryz.underlying26 rfl zb8) rfl ?_
     exact ⟨_,_,zb3,zb11,zb11,zb27⟩
    ·replace c31:=Bool.eq_false_iff.mpr c31
     subst c31
     rw [if_neg (show ¬ (false=true) by decide)] at H
     simp only [Option.some.injEq,Prod.mk.injEq] at H
     obtain ⟨rfl,rfl,rfl,rfl,rfl,rfl⟩:=H
     obtain ⟨Ao40,co40,eo40⟩:=Kd.R_slice HO_4.out
     subst eo40
     have p46:0 ≤ (2:Int):=zb25
     have q46:2 < (t45.length:Int):=of_decide_eq_true zb4
     obtain ⟨ad46,e46,hx46_0⟩:=Kd.at_string (Kd.R_reads' HO_4.out).2.2 2 p46 q46
     cases e46
     (try simp only [show (2:Int).toNat=2 from rfl,Nat.reduceMul,Nat.reduceEqDiff,Go.Addr.add,↓reduceIte] at hx46_0)
     have qi46:(2 < t45.length)=True:=eq_true zb25
     (try rw [show ((2:Int)).toNat=2 from rfl] at hx46_0)
     replace p46:=eq_true p46
     replace q46:=eq_true q46
     go_wp2_with (first|((with_reducible refine gate_callee (f:=111) rfl ?_);refine goesL_ (some 41) rfl rfl Tryz.func111 zb8 rfl #[.string (rdOf ByteArray.empty t45 2)] rfl zb1 ?_;(with_reducible refine (line_minor.calls (rdOf ByteArray.empty t45 2) t56 false _ A24.out).mono ?_);rintro e w' ⟨rfl,⟨nd,rfl⟩⟩;(try clear A24);refine ⟨_,rfl,?_⟩;(try (rw [drewN_self wc];generalize hq_:World.drewN wc _=wc;have n0_:Aside0 (Kd.R Kd.string 9 wc w.heap.size (fun _=>True) (.slice (some ad46) t45.length co40) t45):=⟨zb60⟩;have n1_:Aside0 (wc.heap[gb44]? = some (.cells #[.string (⟨#[]⟩:ByteArray),.string (⟨#[]⟩:ByteArray),.int .i64 0,.slice none 0 0,.slice none 0 0] 26 (0,0))):=⟨zb53⟩;have n2_:Aside0 (Below w.heap.size w wc):=⟨zb40⟩;clear HO_4 BK44 HB hq_;have HO_4:=n0_;have BK44:=n1_;have HB:=n2_;clear n0_ n1_ n2_));have p48:0 ≤ (1:Int):=zb25;have q48:1 < (t45.length:Int):=of_decide_eq_true zb4;obtain ⟨ad48,e48,hx48_0⟩:=Kd.at_string (Kd.R_reads' HO_4.out).2.2 1 p48 q48;obtain rfl:ad46=ad48:=(by injection e48);(try simp only [show (1:Int).toNat=1 from rfl,Nat.reduceMul,Nat.reduceEqDiff,Go.Addr.add,↓reduceIte] at hx48_0);have qi48:(1 < t45.length)=True:=eq_true zb25;(try rw [show ((1:Int)).toNat=1 from rfl] at hx48_0);replace p48:=eq_true p48;replace q48:=eq_true q48;have p49:0 ≤ (2:Int):=zb25;have q49:2 < (t45.length:Int):=of_decide_eq_true zb4;obtain ⟨ad49,e49,hx49_0⟩:=Kd.at_string (Kd.R_reads' HO_4.out).2.2 2 p49 q49;obtain rfl:ad46=ad49:=(by injection e49);(try simp only [show (2:Int).toNat=2 from rfl,Nat.reduceMul,Nat.reduceEqDiff,Go.Addr.add,↓reduceIte] at hx49_0);have qi49:(2 < t45.length)=True:=eq_true zb25;(try rw [show ((2:Int)).toNat=2 from rfl] at hx49_0);replace p49:=eq_true p49;replace q49:=eq_true q49)|((with_reducible refine gate_callee (f:=119) rfl ?_);refine goesL_ (some 55) rfl rfl Tryz.func119 zb8 rfl #[.string (rdOf ByteArray.empty t45 2)] rfl zb1 ?_;(with_reducible refine (line_numbered.calls (rdOf ByteArray.empty t45 2) true _ A29.out).mono ?_);rintro e w' ⟨rfl,⟨nd,rfl⟩⟩;(try clear A29);refine ⟨_,rfl,?_⟩;(try (rw [drewN_self wc];generalize hq_:World.drewN wc _=wc;have n0_:Aside0 (Kd.R Kd.string 9 wc w.heap.size (fun _=>True) (.slice (some ad46) t45.length co40) t45):=⟨zb60⟩;have n1_:Aside0 (wc.heap[gb44]? = some (.cells #[.string (⟨#[]⟩:ByteArray),.string (⟨#[]⟩:ByteArray),.int .i64 0,.slice none 0 0,.slice none 0 0] 26 (0,0))):=⟨zb53⟩;have n2_:Aside0 (Below w.heap.size w wc):=⟨zb40⟩;clear HO_4 BK44 HB hq_;have HO_4:=n0_;have BK44:=n1_;have HB:=n2_;clear n0_ n1_ n2_));obtain ⟨hcz41_0,hcz41_1,hcz41_2,hcz41_3,hcz41_4,hfz41_0,hfz41_1,hfz41_2,hfz41_3,hfz41_4⟩:=zq5 BK44.out))
     refine bodyPost_ret (results_ct rfl _ _ gb44 26 #[.string (⟨#[]⟩:ByteArray),.string (⟨#[]⟩:ByteArray),.int .i64 0,.slice none 0 0,.slice none 0 0] (0,0) _ rfl zb5 Tryz.underlying26 rfl zb8) rfl ?_
     exact ⟨_,_,zb3,zb11,zb11,zb27⟩
   ·rw [if_neg c25] at H
    exact absurd H zb42
/-- What the request's first line tells: its status. -/
def reqFst (k:Nat) (s:ByteArray):Option Int:=(line_Request.f k s).bind fun x=>some x.2.2.2.2.2
/-- What its block holds: nothing,or the words of the line that was read last. -/
def ReqVal (x:Option ByteArray) (cs:Array Value):Prop:=match x with
 | none=>cs=#[.string ⟨#[]⟩,.string ⟨#[]⟩,.int .i64 0,.slice none 0 0,.slice none 0 0]
 | some s => ∃ (k:Nat) (r1 r2:ByteArray) (r3:Int) (r4:List (S36)) (r5:List Int) (r6:Int),line_Request.f k s=some (r1,r2,r3,r4,r5,r6)∧cs=#[.string r1,.string r2,.int .i64 r3,.slice none 0 0,.slice none 0 0]
theorem ReqVal.form {x:Option ByteArray} {cs:Array Value} (h:ReqVal x cs) : ∃ (m t:ByteArray) (mi:Int),cs=#[.string m,.string t,.int .i64 mi,.slice none 0 0,.slice none 0 0]:=by
 cases x with
 | none=>exact ⟨_,_,_,h⟩
 | some s=>obtain ⟨_,m,t,mi,_,_,_,_,h⟩:=h;exact ⟨m,t,mi,h⟩
theorem opKeep {W w1:World} (G:Nat) (o:Obj) (hb:Below W.heap.size W w1):KeepBut W (w1.alloc o) G none:=keep_alloc ⟨hb.size,fun i hi _ _=>hb.block i hi⟩ o
theorem opSet {w w1:World} {g:Nat} (h:KeepBut w w1 g none) (j:Nat) (u:Value):KeepBut w (w1.setCell ⟨g,j,none⟩ u) g none :=
 ⟨by simpa [World.setCell] using h.1,fun i hi hg hr=>(Below.heap_setCell w1 ⟨g,j,none⟩ u i hg).trans (h.2 i hi hg hr)⟩
set_option maxHeartbeats 4000000 in
set_option maxRecDepth 100000 in
theorem http_open_1.callsOf (G:Nat):FirstOf 75 #[.pointer (some ⟨G,0,none⟩)] reqFst G 26 ReqVal:=by
 intro k W x s c hB h
 unfold reqFst at h
 obtain ⟨⟨r1,r2,r3,r4,r5,r6⟩,hs,h⟩:=Option.bind_eq_some_iff.1 h
 simp only [Option.some.injEq] at h
 subst h
 obtain ⟨cs,hv,hcs⟩:=hB
 obtain ⟨m0,t0,mi0,rfl⟩:=hv.form
 have hu:=Tryz.underlying26
 have HS:=Aside0.mk hs
 have HCS:=Aside0.mk hcs
 clear hs hcs hv
 show Calls Tryz.prog 75 #[.string s,.pointer (some ⟨G,0,none⟩)] W _
 go_enter Tryz.func75,Tryz.ntmps75
 go_wp2_with (go_at_call 76;refine (line_Request.calls k s r1 r2 r3 r4 r5 r6 W HS.out).mono ?_;rintro E w1 ⟨v3,v4,rfl,h3,h4,hb⟩;obtain ⟨A3,c3,rfl⟩:=Kd.R_slice h3;obtain ⟨A4,c4,rfl⟩:=Kd.R_slice h4;have HB:=Aside0.mk hb;have BG:=Aside0.mk (blk_alloc (blk_below HCS.out hb) (.cells #[.string r1,.string r2,.int .i64 r3,.slice A3 r4.length c3,.slice A4 r5.length c4] 26 (0,0)));have hne1 : ¬ (G=w1.heap.size):=Nat.ne_of_lt (blk_lt (blk_below HCS.out hb));have hne2 : ¬ (w1.heap.size=G):=fun e=>hne1 e.symm;have f0:=blk_frozen BG.out 0;have q0:(w1.alloc (.cells #[.string r1,.string r2,.int .i64 r3,.slice A3 r4.length c3,.slice A4 r5.length c4] 26 (0,0))).cell? ⟨G,0,none⟩=some (.string m0):=(blk_cell BG.out 0).trans rfl;have f1:=blk_frozen BG.out 1;have q1:(w1.alloc (.cells #[.string r1,.string r2,.int .i64 r3,.slice A3 r4.length c3,.slice A4 r5.length c4] 26 (0,0))).cell? ⟨G,1,none⟩=some (.string t0):=(blk_cell BG.out 1).trans rfl;have f2:=blk_frozen BG.out 2;have q2:(w1.alloc (.cells #[.string r1,.string r2,.int .i64 r3,.slice A3 r4.length c3,.slice A4 r5.length c4] 26 (0,0))).cell? ⟨G,2,none⟩=some (.int .i64 mi0):=(blk_cell BG.out 2).trans rfl;clear hb h3 h4)
 go_region_held3 (fun w' => w'.cell? ⟨w1.heap.size,0,none⟩=some (.string r1)∧w'.cell? ⟨w1.heap.size,1,none⟩=some (.string r2)∧w'.cell? ⟨w1.heap.size,2,none⟩=some (.int .i64 r3)) (go_keep) (fail)
 go_wp2
 go_ret
 refine ⟨rfl,⟨_,⟨k,r1,r2,r3,r4,r5,r6,HS.out,rfl⟩,blk_drew (blk_put (blk_put (blk_put BG.out 0 _ rfl) 1 _ rfl) 2 _ rfl)⟩,?_,keep_drewN (opSet (opSet (opSet (opKeep G _ HB.out) 0 _) 1 _) 2 _) 1⟩
 refine below_drew1 ?_
 exact (((hbase (Nat.le_of_lt (blk_lt HCS.out)) (below_alloc HB.out _)).setCell (Nat.le_refl _) _).setCell (Nat.le_refl _) _).setCell (Nat.le_refl _) _
def http_open.f (k:Nat) (l0:List Int):Option (ByteArray × ByteArray × Int × List (S36) × List Int × Int × Int × Bool × Int) :=
 (http_head.f reqFst k l0).bind fun h=>if h.2.1=0 then some (⟨#[]⟩,⟨#[]⟩,0,[],[],0,0,false,h.2.2.1) else (h.2.2.2).bind fun s=>(line_Request.f k s).bind fun x=>(http_hosts.f k x.1 x.2.1 x.2.2.1 h.1 []).bind fun g =>
  if g=true then ((frame_Request.f k h.1 x.2.2.1).bind fun y=>some (x.1,x.2.1,x.2.2.1,h.1,[],h.2.1,y.1,y.2.1,y.2.2)) else some (⟨#[]⟩,⟨#[]⟩,0,[],[],0,0,false,400)
/-- What it hands back. -/
def OpenPost (w:World) (r1 r2:ByteArray) (r3:Int) (r4:List (S36)) (r5:List Int) (r6 r7:Int) (r8:Bool) (r9:Int) (e:Ending) (w' : World):Prop := ∃ v4_ v5_:Value,e = .returned (.tuple #[.agg #[.string r1,.string r2,.int .i64 r3,v4_,v5_],.int .i64 r6,.int .i64 r7,.bool r8,.int .i64 r9])∧Kd.R k36 36 w' w.heap.size (fun _=>True) v4_ r4∧Kd.R (Kd.int .u8) 5 w' w.heap.size (fun _=>True) v5_ r5∧Below w.heap.size w w'
theorem lrDet {k k' : Nat} {s:ByteArray} {a b:ByteArray × ByteArray × Int × List (S36) × List Int × Int} (h:line_Request.f k s=some a) (h' : line_Request.f k' s=some b):a=b:=by
 have lup : ∀ {n:Nat} {r},line_Request.f n s=some r → ∀ d,line_Request.f (n + d) s=some r:=by
  intro n r h d
  induction d with
  | zero=>exact h
  | succ d ih=>exact line_Request.mono s _ _ ih
 have h1:=lup h k'
 have h2:=lup h' k
 rw [Nat.add_comm] at h2
 exact Option.some.inj (h1.symm.trans h2)
theorem open_none {w w' : World} {r9:Int} (hb:Below w.heap.size w w'):OpenPost w ⟨#[]⟩ ⟨#[]⟩ 0 [] [] 0 0 false r9 (.returned (.tuple #[.agg #[.string (⟨#[]⟩:ByteArray),.string (⟨#[]⟩:ByteArray),.int .i64 0,.slice none 0 0,.slice none 0 0],.int .i64 0,.int .i64 0,.bool false,.int .i64 r9])) w' := ⟨_,_,rfl,Kd.R_nil _ _ _ _ _,Kd.R_nil _ _ _ _ _,hb⟩
theorem opPut5 {w W:World} {R:Nat} (h:Below w.heap.size w W) (hR:w.heap.size ≤ R) (a b c d e:Value):Below w.heap.size w (((((W.setCell ⟨R,0,none⟩ a).setCell ⟨R,1,none⟩ b).setCell ⟨R,2,none⟩ c).setCell ⟨R,3,none⟩ d).setCell ⟨R,4,none⟩ e) :=
 ((((h.setCell hR a).setCell hR b).setCell hR c).setCell hR d).setCell hR e
theorem opBlk5 {W:World} {R t:Nat} {x0 x1 x2 x3 x4:Value} (h:W.heap[R]? = some (.cells #[x0,x1,x2,x3,x4] t (0,0))) (a b c d e:Value):(((((W.setCell ⟨R,0,none⟩ a).setCell ⟨R,1,none⟩ b).setCell ⟨R,2,none⟩ c).setCell ⟨R,3,none⟩ d).setCell ⟨R,4,none⟩ e).heap[R]? = some (.cells #[a,b,c,d,e] t (0,0)) :=
 blk_put (blk_put (blk_put (blk_put (blk_put h 0 _ rfl) 1 _ rfl) 2 _ rfl) 3 _ rfl) 4 _ rfl
theorem opR5 {α:Type} {dd:Kd α} {ty base R:Nat} {W:World} {v:Value} {xs:List α} (h:dd.R ty W base (fun k=>k ≠ R) v xs) (a b c d e:Value):dd.R ty (((((W.setCell ⟨R,0,none⟩ a).setCell ⟨R,1,none⟩ b).setCell ⟨R,2,none⟩ c).setCell ⟨R,3,none⟩ d).setCell ⟨R,4,none⟩ e) base (fun k=>k ≠ R) v xs :=
 Kd.R_far (Kd.R_far (Kd.R_far (Kd.R_far (Kd.R_far h (fun _ hk=>hk) a) (fun _ hk=>hk) b) (fun _ hk=>hk) c) (fun _ hk=>hk) d) (fun _ hk=>hk) e
set_option maxHeartbeats 8000000 in
set_option maxRecDepth 100000 in
theorem http_open.calls (k:Nat) (A0:Option Addr) (c0:Nat) (l0:List Int) (r1 r2:ByteArray) (r3:Int) (r4:List (S36)) (r5:List Int) (r6:Int) (r7:Int) (r8:Bool) (r9:Int) (w:World) (hr0:Kd.C (Kd.int .u8) w A0 l0.length l0) (hc0:l0.length ≤ c0) (h:http_open.f k l0=some (r1,r2,r3,r4,r5,r6,r7,r8,r9)) :
 Calls Tryz.prog 44 #[.slice A0 l0.length c0] w fun e w' => ∃ v3_ v4_:Value,e = .returned (.tuple #[.agg #[.string r1,.string r2,.int .i64 r3,v3_,v4_],.int .i64 r6,.int .i64 r7,.bool r8,.int .i64 r9])∧Kd.R k36 36 w' w.heap.size (fun _=>True) v3_ r4∧Kd.R (Kd.int .u8) 5 w' w.heap.size (fun _=>True) v4_ r5∧Below w.heap.size w w' := by
 show Calls _ _ _ _ (OpenPost w r1 r2 r3 r4 r5 r6 r7 r8 r9)
 unfold http_open.f at h
 obtain ⟨⟨h1,h2,h3,h4⟩,hh,h'⟩:=Option.bind_eq_some_iff.1 h
 clear h
 have h:=h'
 clear h'
 simp only at h
 have hu:=Tryz.underlying26
 have HC:=Aside0.mk hr0
 have HCC:=Aside0.mk hc0
 have HH:=Aside0.mk hh
 have eg : ∀ args w,(callFunc 75 args).run Tryz.prog w = .ok (.enter 75 args) w:=enters_of Tryz.func75 zb8 rfl
 have EG:=Aside0.mk eg
 clear hr0 hc0 hh eg
 by_cases b0:h2=0
 ·rw [if_pos b0] at h
  simp only [Option.some.injEq,Prod.mk.injEq] at h
  obtain ⟨rfl,rfl,rfl,rfl,rfl,rfl,rfl,rfl,rfl⟩:=h
  subst b0
  go_enter Tryz.func44,Tryz.ntmps44
  go_wp2_with (first
   | ((with_reducible refine gate_dst (N:=2) rfl ?_);refine box_event ?hg (N:=2) ?hd (cs:=#[.string (⟨#[]⟩:ByteArray),.string (⟨#[]⟩:ByteArray),.int .i64 0,.slice none 0 0,.slice none 0 0]) (t:=26) ?hr ?_;(case hd=>rfl);(case hg=>rfl);(case hr=>first|(go_simp;done)|(go_simp;rfl));intro R hR w5 hBR hb5;have BR:=Aside0.mk hBR;have LR:=Aside0.mk hb5;have ER:=Aside0.mk hR;clear hBR hb5 hR)
   | (go_at_call 67;refine (http_head.callsOf reqFst 75 #[.pointer (some ⟨R,0,none⟩)] EG.out R 26 ReqVal w k A0 c0 l0 h1 _ _ _ w5 HC.out HCC.out (Nat.le_of_eq ER.out.symm) ⟨_,rfl,BR.out⟩ LR.out (http_open_1.callsOf R) HH.out).mono ?_;rintro E w7 ⟨v0,rfl,hS⟩;obtain ⟨Af,cf,rfl⟩:=Kd.R_slice hS.2.2;have HS:=Aside0.mk hS;obtain ⟨cs,hv,hBG⟩:=hS.1;obtain ⟨m0,t0,mi0,rfl⟩:=hv.form;have BR7:=Aside0.mk hBG;obtain ⟨q0,q1,q2,q3,q4,f0,f1,f2,f3,f4⟩:=zq5 (x3:=.slice none 0 0) (x4:=.slice none 0 0) BR7.out;clear hv hBG;clear hS))
  refine bodyPost_ret (results_list (rs:=[.cell 2 26,.tmp 3,.tmp 4,.tmp 5,.tmp 6]) rfl zb42 (.cell R 26 #[.string (⟨#[]⟩:ByteArray),.string (⟨#[]⟩:ByteArray),.int .i64 0,.slice none 0 0,.slice none 0 0] (0,0) _ rfl (opBlk5 (blk_put BR7.out 3 _ rfl) _ _ _ _ _) hu rfl zb8 (.tmp (.tmp (.tmp (.tmp .nil)))))) rfl ?_
  exact open_none (opPut5 (HS.out.2.1.setCell (p:=⟨R,3,none⟩) (Nat.le_of_eq ER.out.symm) _) (Nat.le_of_eq ER.out.symm) _ _ _ _ _)
 rw [if_neg b0] at h
 have d2:(h2 == 0)=false:=beq_eq_false_iff_ne.2 b0
 clear b0
 obtain ⟨s,e4,h'⟩:=Option.bind_eq_some_iff.1 h
 subst e4
 clear h
 obtain ⟨⟨x1,x2,x3,x4,x5,x6⟩,hx,h⟩:=Option.bind_eq_some_iff.1 h'
 clear h'
 obtain ⟨g,ho,h'⟩:=Option.bind_eq_some_iff.1 h
 clear h
 simp only at h'
 have h:=h'
 clear h'
 have HX:=Aside0.mk hx
 have HO:=Aside0.mk ho
 clear hx ho
 cases g
 ·rw [if_neg zb42] at h
  simp only [Option.some.injEq,Prod.mk.injEq] at h
  obtain ⟨rfl,rfl,rfl,rfl,rfl,rfl,rfl,rfl,rfl⟩:=h
  go_enter Tryz.func44,Tryz.ntmps44
  go_wp2_with (first
   | ((with_reducible refine gate_dst (N:=2) rfl ?_);refine box_event ?hg (N:=2) ?hd (cs:=#[.string (⟨#[]⟩:ByteArray),.string (⟨#[]⟩:ByteArray),.int .i64 0,.slice none 0 0,.slice none 0 0]) (t:=26) ?hr ?_;(case hd=>rfl);(case hg=>rfl);(case hr=>first|(go_simp;done)|(go_simp;rfl));intro R hR w5 hBR hb5;have BR:=Aside0.mk hBR;have LR:=Aside0.mk hb5;have ER:=Aside0.mk hR;clear hBR hb5 hR)
   | (go_at_call 67;refine (http_head.callsOf reqFst 75 #[.pointer (some ⟨R,0,none⟩)] EG.out R 26 ReqVal w k A0 c0 l0 h1 _ _ _ w5 HC.out HCC.out (Nat.le_of_eq ER.out.symm) ⟨_,rfl,BR.out⟩ LR.out (http_open_1.callsOf R) HH.out).mono ?_;rintro E w7 ⟨v0,rfl,hS⟩;obtain ⟨Af,cf,rfl⟩:=Kd.R_slice hS.2.2;have HS:=Aside0.mk hS;obtain ⟨cs,⟨k2,s1,s2,s3,s4,s5,s6,hst,rfl⟩,hBG⟩:=hS.1;have e:=lrDet HX.out hst;simp only [Prod.mk.injEq] at e;obtain ⟨rfl,rfl,rfl,rfl,rfl,rfl⟩:=e;have BR7:=Aside0.mk hBG;obtain ⟨q0,q1,q2,q3,q4,f0,f1,f2,f3,f4⟩:=zq5 (x3:=.slice none 0 0) (x4:=.slice none 0 0) BR7.out;clear hst hBG;clear hS)
   | (go_at_call 77;refine (http_hosts.calls k x1 x2 x3 Af cf h1 none 0 [] _ _ (Kd.R_reads' (Kd.R_far (p:=⟨R,3,none⟩) HS.out.2.2 (fun q hq=>hq) _)).2.2 (Kd.R_reads' HS.out.2.2).2.1 ⟨rfl,zb42,fun h=>absurd h (Nat.lt_irrefl 0)⟩ (Nat.zero_le _) HO.out).mono ?_;rintro E w9 ⟨rfl,hb9⟩;have S9:=Aside0.mk (Kd.R_below (Kd.R_far (p:=⟨R,3,none⟩) HS.out.2.2 (fun q hq=>hq) (.slice Af h1.length cf)) hb9);have BR9:=Aside0.mk (blk_below (blk_put BR7.out 3 _ rfl) hb9);have L9:=Aside0.mk ((HS.out.2.1.setCell (p:=⟨R,3,none⟩) (Nat.le_of_eq ER.out.symm) (.slice Af h1.length cf)).trans (hbase (by simpa [World.setCell] using HS.out.2.1.size) hb9));obtain ⟨q0,q1,q2,q3,q4,f0,f1,f2,f3,f4⟩:=zq5 (x3:=.slice Af h1.length cf) (x4:=.slice none 0 0) BR9.out;clear hb9))
  refine bodyPost_ret (results_list (rs:=[.cell 2 26,.tmp 3,.tmp 4,.tmp 5,.tmp 6]) rfl zb42 (.cell R 26 #[.string (⟨#[]⟩:ByteArray),.string (⟨#[]⟩:ByteArray),.int .i64 0,.slice none 0 0,.slice none 0 0] (0,0) _ rfl (opBlk5 BR9.out _ _ _ _ _) hu rfl zb8 (.tmp (.tmp (.tmp (.tmp .nil)))))) rfl ?_
  exact open_none (opPut5 L9.out (Nat.le_of_eq ER.out.symm) _ _ _ _ _)
 rw [if_pos rfl] at h
 obtain ⟨⟨y1,y2,y3⟩,hy,h'⟩:=Option.bind_eq_some_iff.1 h
 clear h
 simp only [Option.some.injEq,Prod.mk.injEq] at h'
 obtain ⟨rfl,rfl,rfl,rfl,rfl,rfl,rfl,rfl,rfl⟩:=h'
 have HY:=Aside0.mk hy
 clear hy
 go_enter Tryz.func44,Tryz.ntmps44
 go_wp2_with (first
  | ((with_reducible refine gate_dst (N:=2) rfl ?_);refine box_event ?hg (N:=2) ?hd (cs:=#[.string (⟨#[]⟩:ByteArray),.string (⟨#[]⟩:ByteArray),.int .i64 0,.slice none 0 0,.slice none 0 0]) (t:=26) ?hr ?_;(case hd=>rfl);(case hg=>rfl);(case hr=>first|(go_simp;done)|(go_simp;rfl));intro R hR w5 hBR hb5;have BR:=Aside0.mk hBR;have LR:=Aside0.mk hb5;have ER:=Aside0.mk hR;clear hBR hb5 hR)
  | (go_at_call 67;refine (http_head.callsOf reqFst 75 #[.pointer (some ⟨R,0,none⟩)] EG.out R 26 ReqVal w k A0 c0 l0 h1 _ _ _ w5 HC.out HCC.out (Nat.le_of_eq ER.out.symm) ⟨_,rfl,BR.out⟩ LR.out (http_open_1.callsOf R) HH.out).mono ?_;rintro E w7 ⟨v0,rfl,hS⟩;obtain ⟨Af,cf,rfl⟩:=Kd.R_slice hS.2.2;have HS:=Aside0.mk hS;obtain ⟨cs,⟨k2,s1,s2,s3,s4,s5,s6,hst,rfl⟩,hBG⟩:=hS.1;have e:=lrDet HX.out hst;simp only [Prod.mk.injEq] at e;obtain ⟨rfl,rfl,rfl,rfl,rfl,rfl⟩:=e;have BR7:=Aside0.mk hBG;obtain ⟨q0,q1,q2,q3,q4,f0,f1,f2,f3,f4⟩:=zq5 (x3:=.slice none 0 0) (x4:=.slice none 0 0) BR7.out;clear hst hBG;clear hS)
  | (go_at_call 77;refine (http_hosts.calls k x1 x2 x3 Af cf h1 none 0 [] _ _ (Kd.R_reads' (Kd.R_far (p:=⟨R,3,none⟩) HS.out.2.2 (fun q hq=>hq) _)).2.2 (Kd.R_reads' HS.out.2.2).2.1 ⟨rfl,zb42,fun h=>absurd h (Nat.lt_irrefl 0)⟩ (Nat.zero_le _) HO.out).mono ?_;rintro E w9 ⟨rfl,hb9⟩;have S9:=Aside0.mk (Kd.R_below (Kd.R_far (p:=⟨R,3,none⟩) HS.out.2.2 (fun q hq=>hq) (.slice Af h1.length cf)) hb9);have BR9:=Aside0.mk (blk_below (blk_put BR7.out 3 _ rfl) hb9);have L9:=Aside0.mk ((HS.out.2.1.setCell (p:=⟨R,3,none⟩) (Nat.le_of_eq ER.out.symm) (.slice Af h1.length cf)).trans (hbase (by simpa [World.setCell] using HS.out.2.1.size) hb9));obtain ⟨q0,q1,q2,q3,q4,f0,f1,f2,f3,f4⟩:=zq5 (x3:=.slice Af h1.length cf) (x4:=.slice none 0 0) BR9.out;clear hb9)
  | (go_at_call 78;refine (frame_Request.calls k Af cf h1 x3 y1 y2 y3 w9 (Kd.R_reads' S9.out).2.2 (Kd.R_reads' S9.out).2.1 HY.out).mono ?_;rintro E w10 ⟨rfl,hb10⟩;have S10:=Aside0.mk (Kd.R_below S9.out hb10);have BR10:=Aside0.mk (blk_below BR9.out hb10);have L10:=Aside0.mk (L9.out.trans (hbase L9.out.size hb10));obtain ⟨q0,q1,q2,q3,q4,f0,f1,f2,f3,f4⟩:=zq5 (x3:=.slice Af h1.length cf) (x4:=.slice none 0 0) BR10.out;clear hb10))
 refine bodyPost_ret (results_list (rs:=[.cell 2 26,.tmp 3,.tmp 4,.tmp 5,.tmp 6]) rfl zb42 (.cell R 26 #[.string x1,.string x2,.int .i64 x3,.slice Af h1.length cf,.slice none 0 0] (0,0) _ rfl (opBlk5 BR10.out _ _ _ _ _) hu rfl zb8 (.tmp (.tmp (.tmp (.tmp .nil)))))) rfl ?_
 exact ⟨_,_,rfl,Kd.R_mono (opR5 S10.out _ _ _ _ _) (fun _ _=>trivial),Kd.R_nil _ _ _ _ _,opPut5 L10.out (Nat.le_of_eq ER.out.symm) _ _ _ _ _⟩
def http_Request.j0:Nat → List Int → Int → Int → Bool → Int → Bool → ByteArray → ByteArray → Int → List (S36) → List Int → Option (ByteArray × ByteArray × Int × (List (S36)) × List Int × Int × Int)
 | 0,_,_,_,_,_,_,_,_,_,_,_=>none
 | k + 1,x0,x6,x7,x8,x9,x25,x271000,x271001,x271002,x271003,x271004=>if x25=true then (some ((⟨#[]⟩:ByteArray),(⟨#[]⟩:ByteArray),0,([]:List (S36)),([]:List Int),0,x9)) else (if 0 ≤ x6 then (if x6 ≤ (x0.length:Int) then ((http_body.f k (x0.drop (x6:Int).toNat) x7 x8).bind fun bt272=>(if bt272.2.1 < 0 then (some ((⟨#[]⟩:ByteArray),(⟨#[]⟩:ByteArray),0,([]:List (S36)),([]:List Int),0,bt272.2.2)) else (some (x271000,x271001,x271002,x271003,bt272.1,wrap64 (x6 + bt272.2.1),0)))) else (none)) else (none))
def http_Request.f (k:Nat) (l0:List Int):Option (ByteArray × ByteArray × Int × (List (S36)) × List Int × Int × Int):=(http_open.f k l0).bind fun bt257=>(if bt257.2.2.2.2.2.1=0 then (http_Request.j0 k l0 bt257.2.2.2.2.2.1 bt257.2.2.2.2.2.2.1 bt257.2.2.2.2.2.2.2.1 bt257.2.2.2.2.2.2.2.2 true bt257.1 bt257.2.1 bt257.2.2.1 bt257.2.2.2.1 bt257.2.2.2.2.1) else (http_Request.j0 k l0 bt257.2.2.2.2.2.1 bt257.2.2.2.2.2.2.1 bt257.2.2.2.2.2.2.2.1 bt257.2.2.2.2.2.2.2.2 (bt257.2.2.2.2.2.2.2.2 != 0) bt257.1 bt257.2.1 bt257.2.2.1 bt257.2.2.2.1 bt257.2.2.2.2.1))
set_option maxHeartbeats 8000000 in
set_option maxRecDepth 100000 in
theorem http_Request.calls (k:Nat) (A0:Option Addr) (c0:Nat) (l0:List Int) (r1:ByteArray) (r2:ByteArray) (r3:Int) (r4:List (S36)) (r5:List Int) (r6:Int) (r7:Int) (w:World) (hr0:Kd.C (Kd.int .u8) w A0 l0.length l0) (hc0:l0.length ≤ c0) (h:http_Request.f k l0=some (r1,r2,r3,r4,r5,r6,r7)) :
 Calls Tryz.prog 12 #[.slice A0 l0.length c0] w fun e w' => ∃ v3_ v4_:Value,e = .returned (.tuple #[.agg #[.string r1,.string r2,.int .i64 r3,v3_,v4_],.int .i64 r6,.int .i64 r7])∧Kd.R k36 36 w' w.heap.size (fun _=>True) v3_ r4∧Kd.R (Kd.int .u8) 5 w' w.heap.size (fun _=>True) v4_ r5∧Below w.heap.size w w' := by
 have hu26:=Tryz.underlying26
 have HR0:=Aside0.mk hr0
 have HC0:=Aside0.mk hc0
 clear hr0 hc0
 have HB:=Aside0.mk (Below.refl w.heap.size w)
 unfold http_Request.f at h
 have H:=h
 clear h
 replace H:=Option.bind_eq_some_iff.mp H
 obtain ⟨⟨t31,t34,t35,t37,t40,t33,t42,t43,t46⟩,A20,H⟩:=H
 try dsimp only at H
 have A2:=Aside0.mk A20
 clear A20
 have HC3:=Aside0.mk H
 clear H
 go_enter Tryz.func12,Tryz.ntmps12
 go_upto_region 2 with (first|((with_reducible refine gate_dst (N:=2) rfl ?_);refine box_event rfl (N:=2) rfl (cs:=#[.string (⟨#[]⟩:ByteArray),.string (⟨#[]⟩:ByteArray),.int .i64 0,.slice none 0 0,.slice none 0 0]) (t:=26) zS ?_;intro gb29 hg w4 hbox hb;have GW29:=zG hg zb0;have GE29:=GW29;have BK29:=Aside0.mk hbox;replace HB:=Aside0.mk (below_step zb0 hb);clear hb hbox hg)|((with_reducible refine gate_callee (f:=44) rfl ?_);refine goesL_ (some 14) rfl rfl Tryz.func44 zb8 rfl #[.slice A0 l0.length c0] rfl zb1 ?_;(with_reducible refine (http_open.calls k _ _ l0 t31 t34 t35 t37 t40 t33 t42 t43 t46 _ ?side1 ?side2 A2.out).mono ?_);(case side1=>exact zb61);(case side2=>exact HC0.out);rintro e w5 ⟨v57,v58,rfl,ho0,ho1,hb⟩;refine ⟨_,rfl,?_⟩;have HO49:=Aside0.mk (Kd.R_lower ho0 (below_size zb62));have HO50:=Aside0.mk (Kd.R_lower ho1 (below_size zb62));replace BK29:=Aside0.mk (blk_below (g:=gb29) (o:=.cells #[.string (⟨#[]⟩:ByteArray),.string (⟨#[]⟩:ByteArray),.int .i64 0,.slice none 0 0,.slice none 0 0] 26 (0,0)) zb66 hb);replace HB:=Aside0.mk (below_step zb62 hb);try clear hb ho0 ho1)|((with_reducible refine gate_dst (N:=5) rfl ?_);refine box_event rfl (N:=5) rfl (cs:=#[.string (⟨#[]⟩:ByteArray),.string (⟨#[]⟩:ByteArray),.int .i64 0,.slice none 0 0,.slice none 0 0]) (t:=26) zS ?_;intro gb30 hg w6 hbox hb;replace HO49:=Aside0.mk (Kd.R_below (by (with_reducible repeat (first|apply Kd.R_alloc|apply Kd.R_drewN|apply Kd.R_drew));exact HO49.out) hb);replace HO50:=Aside0.mk (Kd.R_below zb59 hb);have BK30:=Aside0.mk (hbox);have GW30:=zG hg zb62;have GE30:=GW30;replace HB:=Aside0.mk (below_step zb62 hb);have NB29_270:=Aside0.mk ((by rw [hg];exact Nat.ne_of_lt (blk_lt (g:=gb29) (o:=.cells #[.string (⟨#[]⟩:ByteArray),.string (⟨#[]⟩:ByteArray),.int .i64 0,.slice none 0 0,.slice none 0 0] 26 (0,0)) zb66):gb29 ≠ gb30));have NB30_256:=Aside0.mk ((by rw [hg];exact Nat.ne_of_gt (blk_lt (g:=gb29) (o:=.cells #[.string (⟨#[]⟩:ByteArray),.string (⟨#[]⟩:ByteArray),.int .i64 0,.slice none 0 0,.slice none 0 0] 26 (0,0)) zb66):gb30 ≠ gb29));replace BK29:=Aside0.mk (blk_below (g:=gb29) (o:=.cells #[.string (⟨#[]⟩:ByteArray),.string (⟨#[]⟩:ByteArray),.int .i64 0,.slice none 0 0,.slice none 0 0] 26 (0,0)) zb66 hb);clear hb hbox hg;have hnb7:=NB30_256.out;have hnc7:=NB29_270.out;obtain ⟨hcz8_0,hcz8_1,hcz8_2,hcz8_3,hcz8_4,hfz8_0,hfz8_1,hfz8_2,hfz8_3,hfz8_4⟩:=zq5 BK30.out;obtain ⟨Ao9,co9,eo9⟩:=Kd.R_slice HO49.out;subst eo9;obtain ⟨Ao10,co10,eo10⟩:=Kd.R_slice HO50.out;subst eo10))
 (try simp only [Act.put,zqA,zqB,zqC])
 go_cut [25] (fun v25 wc => ∃ (kq:Nat) (x25_2:Bool),v25 = .bool x25_2∧Aside0 (http_Request.j0 kq l0 t33 t42 t43 t46 x25_2 t31 t34 t35 t37 t40=some (r1,r2,r3,r4,r5,r6,r7))∧Aside0 (kq ≤ k)∧Aside0 (Kd.R k36 36 wc w.heap.size (fun _=>True) (.slice Ao9 t37.length co9) t37)∧Aside0 (Kd.R (Kd.int .u8) 5 wc w.heap.size (fun _=>True) (.slice Ao10 t40.length co10) t40)∧Aside0 (wc.heap[gb29]? = some (.cells #[.string (⟨#[]⟩:ByteArray),.string (⟨#[]⟩:ByteArray),.int .i64 0,(.slice none 0 0),(.slice none 0 0)] 26 (0,0)))∧Aside0 (wc.heap[gb30]? = some (.cells #[.string t31,.string t34,.int .i64 t35,(.slice Ao9 t37.length co9),(.slice Ao10 t40.length co10)] 26 (0,0)))∧Aside0 (Below w.heap.size w wc))
 case first =>
  have H:=HC3.out
  clear HC3
  by_cases c11:t33=0;rotate_left
  ·rw [if_neg c11] at H
   have c11b0:=beq_eq_false_iff_ne.mpr c11
   have c11b1:=bne_iff_ne.mpr c11
   (first|rw [c11b0]|(simp only [i64_w,i32_w];rw [c11b0])|rw [c11b1]|skip)
   have H' := Aside0.mk H
   clear H
   go_wp2
   go_meet
   case rel=>exact ⟨_,((t46 != 0)),zb6,H',⟨zb85⟩,⟨zb47⟩,⟨zb48⟩,⟨zb31⟩,⟨zb15⟩,⟨zb28⟩⟩
  rw [if_pos c11] at H
  have c11b0:=beq_iff_eq.mpr c11
  have c11b1:=bne_eq_false_iff_eq.mpr c11
  clear c11
  (first|rw [c11b0]|(simp only [i64_w,i32_w];rw [c11b0])|rw [c11b1]|skip)
  have H' := Aside0.mk H
  clear H
  go_wp2
  go_meet
  case rel=>exact ⟨_,(true),zb6,H',⟨zb85⟩,⟨zb47⟩,⟨zb48⟩,⟨zb31⟩,⟨zb15⟩,⟨zb28⟩⟩
 case rest =>
  clear HC3
  try clear c1
  try clear p2
  try clear c4
  try clear c7
  try clear c11
  try clear c11b0
  try clear c11b1
  try clear hcz8_0
  try clear hcz8_1
  try clear hcz8_2
  try clear hcz8_3
  try clear hcz8_4
  try clear hfz8_0
  try clear hfz8_1
  try clear hfz8_2
  try clear hfz8_3
  try clear hfz8_4
  obtain ⟨kq,x25_2,rfl,HA,HJ2,HO_39,HO_38,BK29,BK30,HB⟩:=hcut
  cases kq with
  | zero=>exact absurd HA.out (by simp [http_Request.j0])
  | succ kj2 =>
   have H:=HA.out
   clear HA
   simp only [http_Request.j0] at H
   by_cases c12:x25_2=true
   ·subst c12
    rw [if_pos rfl] at H
    simp only [Option.some.injEq,Prod.mk.injEq] at H
    obtain ⟨rfl,rfl,rfl,rfl,rfl,rfl,rfl⟩:=H
    have hnb13:=NB29_270.out
    have hnc13:=NB30_256.out
    obtain ⟨hcz14_0,hcz14_1,hcz14_2,hcz14_3,hcz14_4,hfz14_0,hfz14_1,hfz14_2,hfz14_3,hfz14_4⟩:=zq5 BK29.out
    go_wp2
    refine bodyPost_ret (results_ctt rfl _ _ gb29 26 #[.string (⟨#[]⟩:ByteArray),.string (⟨#[]⟩:ByteArray),.int .i64 0,.slice none 0 0,.slice none 0 0] (0,0) _ rfl zb14 Tryz.underlying26 rfl zb8) rfl ?_
    exact ⟨_,_,zb3,zb11,zb11,zb28⟩
   replace c12:=Bool.eq_false_iff.mpr c12
   subst c12
   rw [if_neg (show ¬ (false=true) by decide)] at H
   by_cases c15:0 ≤ t33;rotate_left
   ·rw [if_neg c15] at H
    exact absurd H zb42
   rw [if_pos c15] at H
   have c15b0:=eq_true c15
   have c15b1:=decide_eq_true c15
   clear c15
   by_cases c16:t33 ≤ (l0.length:Int)
   ·rw [if_pos c16] at H
    have c16b0:=eq_true c16
    have c16b1:=decide_eq_true c16
    clear c16
    replace H:=Option.bind_eq_some_iff.mp H
    obtain ⟨⟨t41,t48,t53⟩,A55,H⟩:=H
    try dsimp only at H
    have A17:=Aside0.mk A55
    clear A55
    by_cases c18:t48 < 0
    ·rw [if_pos c18] at H
     have c18b0:=decide_eq_true c18
     clear c18
     simp only [Option.some.injEq,Prod.mk.injEq] at H
     obtain ⟨rfl,rfl,rfl,rfl,rfl,rfl,rfl⟩:=H
     obtain ⟨i51,hi51,_,hsz19,_⟩:=info_parts info5
     obtain ⟨A19,hcut19,hA19,hC19⟩:=print_drop_of (P:=Tryz.prog) (Value.int .u8) 0 22 5 .i64 Tryz.underlying22 hi51 hsz19 A0 c0 l0 t33 (of_decide_eq_true zb4) (of_decide_eq_true zb4) HC0.out
     have HR47:=Aside0.mk (Kd.C_of_reads (h1:=fun _=>rfl) (hA19 _ (Kd.reads_of_C HR0.out)))
     have HC47:=Aside0.mk hC19
     clear hA19 hC19 hi51 hsz19
     go_wp2_with (first|((with_reducible refine gate_callee (f:=45) rfl ?_);refine goesL_ (some 34) rfl rfl Tryz.func45 zb8 rfl #[.slice A19 (l0.drop (t33:Int).toNat).length (c0 - t33.toNat),.int .i64 t42,.bool t43] rfl zb82 ?_;(with_reducible refine (http_body.calls kj2 _ _ (l0.drop (t33:Int).toNat) t42 t43 t41 t48 t53 _ ?side1 ?side2 A17.out).mono ?_);(case side1=>exact zb102);(case side2=>exact HC47.out);rintro e w20 ⟨v56,rfl,ho0,hb⟩;(try clear A17);refine ⟨_,rfl,?_⟩;replace HO_39:=Aside0.mk (Kd.R_below (by (with_reducible repeat (first|apply Kd.R_alloc|apply Kd.R_drewN|apply Kd.R_drew));exact HO_39.out) hb);have HO54:=Aside0.mk (Kd.R_lower (Kd.R_new' ho0 (Kd.R_lt zb86)) (below_size zb28));replace HO_38:=Aside0.mk (Kd.R_elder' zb86 (Kd.R_base ho0) hb);replace BK29:=Aside0.mk (blk_below (g:=gb29) (o:=.cells #[.string (⟨#[]⟩:ByteArray),.string (⟨#[]⟩:ByteArray),.int .i64 0,.slice none 0 0,.slice none 0 0] 26 (0,0)) zb66 hb);replace BK30:=Aside0.mk (blk_below (g:=gb30) (o:=.cells #[.string t31,.string t34,.int .i64 t35,.slice Ao9 t37.length co9,.slice Ao10 t40.length co10] 26 (0,0)) (by (with_reducible repeat (first|refine blk_drewN ?_ _|refine blk_drew ?_|refine blk_alloc ?_ _));exact BK30.out) hb);replace HB:=Aside0.mk (below_step zb28 hb);try clear hb ho0;have hnb21:=NB29_270.out;have hnc21:=NB30_256.out;obtain ⟨hcz22_0,hcz22_1,hcz22_2,hcz22_3,hcz22_4,hfz22_0,hfz22_1,hfz22_2,hfz22_3,hfz22_4⟩:=zq5 BK29.out))
     refine bodyPost_ret (results_ctt rfl _ _ gb29 26 #[.string (⟨#[]⟩:ByteArray),.string (⟨#[]⟩:ByteArray),.int .i64 0,.slice none 0 0,.slice none 0 0] (0,0) _ rfl zb14 Tryz.underlying26 rfl zb8) rfl ?_
     exact ⟨_,_,zb3,zb11,zb11,zb28⟩
    rw [if_neg c18] at H
    have c18b0:=decide_eq_false c18
    clear c18
    simp only [Option.some.injEq,Prod.mk.injEq] at H
    obtain ⟨rfl,rfl,rfl,rfl,rfl,rfl,rfl⟩:=H
    obtain ⟨i52,hi52,_,hsz23,_⟩:=info_parts info5
    obtain ⟨A23,hcut23,hA23,hC23⟩:=print_drop_of (P:=Tryz.prog) (Value.int .u8) 0 22 5 .i64 Tryz.underlying22 hi52 hsz23 A0 c0 l0 t33 (of_decide_eq_true zb4) (of_decide_eq_true zb4) HC0.out
    have HR47:=Aside0.mk (Kd.C_of_reads (h1:=fun _=>rfl) (hA23 _ (Kd.reads_of_C HR0.out)))
    have HC47:=Aside0.mk hC23
    clear hA23 hC23 hi52 hsz23
    go_wp2_with (first|((with_reducible refine gate_callee (f:=45) rfl ?_);refine goesL_ (some 34) rfl rfl Tryz.func45 zb8 rfl #[.slice A23 (l0.drop (t33:Int).toNat).length (c0 - t33.toNat),.int .i64 t42,.bool t43] rfl zb82 ?_;(with_reducible refine (http_body.calls kj2 _ _ (l0.drop (t33:Int).toNat) t42 t43 t41 t48 t53 _ ?side1 ?side2 A17.out).mono ?_);(case side1=>exact zb102);(case side2=>exact HC47.out);rintro e w24 ⟨v56,rfl,ho0,hb⟩;(try clear A17);refine ⟨_,rfl,?_⟩;replace HO_39:=Aside0.mk (Kd.R_below (by (with_reducible repeat (first|apply Kd.R_alloc|apply Kd.R_drewN|apply Kd.R_drew));exact HO_39.out) hb);have HO54:=Aside0.mk (Kd.R_lower (Kd.R_new' ho0 (Kd.R_lt zb86)) (below_size zb28));replace HO_38:=Aside0.mk (Kd.R_elder' zb86 (Kd.R_base ho0) hb);replace BK29:=Aside0.mk (blk_below (g:=gb29) (o:=.cells #[.string (⟨#[]⟩:ByteArray),.string (⟨#[]⟩:ByteArray),.int .i64 0,.slice none 0 0,.slice none 0 0] 26 (0,0)) zb66 hb);replace BK30:=Aside0.mk (blk_below (g:=gb30) (o:=.cells #[.string t31,.string t34,.int .i64 t35,.slice Ao9 t37.length co9,.slice Ao10 t40.length co10] 26 (0,0)) (by (with_reducible repeat (first|refine blk_drewN ?_ _|refine blk_drew ?_|refine blk_alloc ?_ _));exact BK30.out) hb);replace HB:=Aside0.mk (below_step zb28 hb);try clear hb ho0;obtain ⟨Ao25,co25,eo25⟩:=Kd.R_slice HO54.out;subst eo25;have hnb26:=NB30_256.out;have hnc26:=NB29_270.out;obtain ⟨hcz27_0,hcz27_1,hcz27_2,hcz27_3,hcz27_4,hfz27_0,hfz27_1,hfz27_2,hfz27_3,hfz27_4⟩:=zq5 BK30.out;obtain ⟨hcz28_0,hcz28_1,hcz28_2,hcz28_3,hcz28_4,hfz28_0,hfz28_1,hfz28_2,hfz28_3,hfz28_4⟩:=zq5 BK29.out))
    refine bodyPost_ret (results_ctt rfl _ _ gb29 26 #[.string t31,.string t34,.int .i64 t35,.slice Ao9 t37.length co9,.slice Ao25 t41.length co25] (0,0) _ rfl (by (with_reducible repeat (first|refine blk_drewN ?_ _|refine blk_drew ?_|refine blk_alloc ?_ _));refine blk_put (cs:=#[.string t31,.string t34,.int .i64 t35,.slice Ao9 t37.length co9,.slice none 0 0]) ?_ 4 _ rfl;(with_reducible repeat (first|refine blk_drewN ?_ _|refine blk_drew ?_|refine blk_alloc ?_ _));refine blk_put (cs:=#[.string t31,.string t34,.int .i64 t35,.slice none 0 0,.slice none 0 0]) ?_ 3 _ rfl;(with_reducible repeat (first|refine blk_drewN ?_ _|refine blk_drew ?_|refine blk_alloc ?_ _));refine blk_put (cs:=#[.string t31,.string t34,.int .i64 0,.slice none 0 0,.slice none 0 0]) ?_ 2 _ rfl;(with_reducible repeat (first|refine blk_drewN ?_ _|refine blk_drew ?_|refine blk_alloc ?_ _));refine blk_put (cs:=#[.string t31,.string (⟨#[]⟩:ByteArray),.int .i64 0,.slice none 0 0,.slice none 0 0]) ?_ 1 _ rfl;(with_reducible repeat (first|refine blk_drewN ?_ _|refine blk_drew ?_|refine blk_alloc ?_ _));refine blk_put (cs:=#[.string (⟨#[]⟩:ByteArray),.string (⟨#[]⟩:ByteArray),.int .i64 0,.slice none 0 0,.slice none 0 0]) ?_ 0 _ rfl;(with_reducible repeat (first|refine blk_drewN ?_ _|refine blk_drew ?_|refine blk_alloc ?_ _));refine blk_far ?_ NB29_270.out _;(with_reducible repeat (first|refine blk_drewN ?_ _|refine blk_drew ?_|refine blk_alloc ?_ _));exact BK29.out) Tryz.underlying26 rfl zb8) rfl ?_
    exact ⟨_,_,zb3,by (with_reducible repeat (first|apply Kd.R_alloc|apply Kd.R_drewN|apply Kd.R_drew));exact Kd.R_mono (Kd.R_far (p:=⟨gb29,4,none⟩) (Kd.R_far (p:=⟨gb29,3,none⟩) (Kd.R_far (p:=⟨gb29,2,none⟩) (Kd.R_far (p:=⟨gb29,1,none⟩) (Kd.R_far (p:=⟨gb29,0,none⟩) (Kd.R_far (p:=⟨gb30,4,none⟩) (Kd.R_types (Kd.R_types HO_39.out BK30.out (by decide)) BK29.out (by decide)) (fun _ hk=>hk.1.2) (.slice Ao25 t41.length co25)) (fun _ hk=>hk.2) (.string t31)) (fun _ hk=>hk.2) (.string t34)) (fun _ hk=>hk.2) (.int .i64 t35)) (fun _ hk=>hk.2) (.slice Ao9 t37.length co9)) (fun _ hk=>hk.2) (.slice Ao25 t41.length co25)) (fun _ hk=>trivial),by (with_reducible repeat (first|apply Kd.R_alloc|apply Kd.R_drewN|apply Kd.R_drew));exact Kd.R_mono (Kd.R_far (p:=⟨gb29,4,none⟩) (Kd.R_far (p:=⟨gb29,3,none⟩) (Kd.R_far (p:=⟨gb29,2,none⟩) (Kd.R_far (p:=⟨gb29,1,none⟩) (Kd.R_far (p:=⟨gb29,0,none⟩) (Kd.R_far (p:=⟨gb30,4,none⟩) (Kd.R_types (Kd.R_types HO54.out BK30.out (by decide)) BK29.out (by decide)) (fun _ hk=>hk.1.2) (.slice Ao25 t41.length co25)) (fun _ hk=>hk.2) (.string t31)) (fun _ hk=>hk.2) (.string t34)) (fun _ hk=>hk.2) (.int .i64 t35)) (fun _ hk=>hk.2) (.slice Ao9 t37.length co9)) (fun _ hk=>hk.2) (.slice Ao25 t41.length co25)) (fun _ hk=>trivial),zb28⟩
   ·rw [if_neg c16] at H
    exact absurd H zb42
def field_Line.f (a0_0:ByteArray) (a0_1:ByteArray):Option (ByteArray):=if a0_0.size + 2 ≤ 9223372036854775807 then (if (a0_0 ++ (⟨#[58,32]⟩:ByteArray)).size + a0_1.size ≤ 9223372036854775807 then (if ((a0_0 ++ (⟨#[58,32]⟩:ByteArray)) ++ a0_1).size + 2 ≤ 9223372036854775807 then (some (((a0_0 ++ (⟨#[58,32]⟩:ByteArray)) ++ a0_1) ++ (⟨#[13,10]⟩:ByteArray))) else (none)) else (none)) else (none)
set_option maxHeartbeats 8000000 in
set_option maxRecDepth 100000 in
theorem field_Line.calls (a0_0:ByteArray) (a0_1:ByteArray) (r:ByteArray) (w:World) (h:field_Line.f a0_0 a0_1=some r) :
 Calls Tryz.prog 94 #[.agg #[.string a0_0,.string a0_1]] w fun e w' => e = .returned (.string r)∧Below w.heap.size w w' := by
 have hu36:=Tryz.underlying36
 have HB:=Aside0.mk (Below.refl w.heap.size w)
 unfold field_Line.f at h
 have H:=h
 clear h
 by_cases c2:a0_0.size + 2 ≤ 9223372036854775807;rotate_left
 ·rw [if_neg c2] at H
  exact absurd H zb42
 rw [if_pos c2] at H
 have c2b0:=eq_true c2
 have c2b1:=decide_eq_true c2
 try have c2b2:(9223372036854775807 < a0_0.size + 2)=False:=eq_false (Nat.not_lt.2 c2)
 by_cases c3:(a0_0 ++ (⟨#[58,32]⟩:ByteArray)).size + a0_1.size ≤ 9223372036854775807
 ·rw [if_pos c3] at H
  have c3b0:=eq_true c3
  have c3b1:=decide_eq_true c3
  try have c3b2:(9223372036854775807 < (a0_0 ++ (⟨#[58,32]⟩:ByteArray)).size + a0_1.size)=False:=eq_false (Nat.not_lt.2 c3)
  try (have c3b3:=c3b0;simp only [ByteArray.size_append] at c3b3;have c3b4:=c3b2;simp only [ByteArray.size_append] at c3b4)
  try have c3b5:(9223372036854775807 < a0_0.size + 2 + a0_1.size)=False:=eq_false (by have q_:=c3;simp only [ByteArray.size_append] at q_;have e0_:(⟨#[58,32]⟩:ByteArray).size=2:=rfl;omega)
  try have c3b6:(a0_0.size + 2 + a0_1.size ≤ 9223372036854775807)=True:=eq_true (by have q_:=c3;simp only [ByteArray.size_append] at q_;have e0_:(⟨#[58,32]⟩:ByteArray).size=2:=rfl;omega)
  by_cases c4:((a0_0 ++ (⟨#[58,32]⟩:ByteArray)) ++ a0_1).size + 2 ≤ 9223372036854775807;rotate_left
  ·rw [if_neg c4] at H
   exact absurd H zb42
  rw [if_pos c4] at H
  have c4b0:=eq_true c4
  have c4b1:=decide_eq_true c4
  try have c4b2:(9223372036854775807 < ((a0_0 ++ (⟨#[58,32]⟩:ByteArray)) ++ a0_1).size + 2)=False:=eq_false (Nat.not_lt.2 c4)
  try (have c4b3:=c4b0;simp only [ByteArray.size_append] at c4b3;have c4b4:=c4b2;simp only [ByteArray.size_append] at c4b4)
  try have c4b5:(9223372036854775807 < a0_0.size + 2 + a0_1.size + 2)=False:=eq_false (by have q_:=c4;simp only [ByteArray.size_append] at q_;have e0_:(⟨#[58,32]⟩:ByteArray).size=2:=rfl;omega)
  try have c4b6:(a0_0.size + 2 + a0_1.size + 2 ≤ 9223372036854775807)=True:=eq_true (by have q_:=c4;simp only [ByteArray.size_append] at q_;have e0_:(⟨#[58,32]⟩:ByteArray).size=2:=rfl;omega)
  obtain rfl:=Option.some.inj H
  go_enter Tryz.func94,Tryz.ntmps94
  go_wp2_with (first|((with_reducible refine gate_dst (N:=1) rfl ?_);refine box_event rfl (N:=1) rfl (cs:=#[.string a0_0,.string a0_1]) (t:=36) zS ?_;intro gb305 hg w5 hbox hb;have GW305:=zG hg zb0;have GE305:=GW305;have BK305:=Aside0.mk hbox;replace HB:=Aside0.mk (below_step zb0 hb);clear hb hbox hg;obtain ⟨hcz6_0,hcz6_1,hfz6_0,hfz6_1⟩:=zq2 BK305.out))
  go_ret
  exact ⟨zb3,by repeat (first|(with_reducible first|exact HB.out|apply below_alloc|apply pw_below_drewN|apply below_drew1|refine below_set ?_ GE305.out)|exact HB.out)⟩
 ·rw [if_neg c3] at H
  exact absurd H zb42
/-- A slice of bytes that this call made,whatever stands behind its row: its cells can be written. -/
def BufM (w:World) (base:Nat) (v:Value) (xs:List Int):Prop := ∃ g cap,v = .slice (some ⟨g,0,none⟩) xs.length cap∧base ≤ g∧xs.length ≤ cap∧(∀ j u,xs[j]? = some u → w.cell? ⟨g,j,none⟩=some (.int .u8 u))∧(∀ j,j < cap → (w.cell? ⟨g,j,none⟩).isSome=true∧w.frozen? ⟨g,j,none⟩=false)
theorem BufM.form {w:World} {base:Nat} {v:Value} {xs:List Int} (h:BufM w base v xs) : ∃ A c,v = .slice A xs.length c:=by obtain ⟨g,cap,rfl,_⟩:=h;exact ⟨_,_,rfl⟩
theorem BufM.lower {w:World} {base b:Nat} {v:Value} {xs:List Int} (h:BufM w base v xs) (hb:b ≤ base):BufM w b v xs:=by obtain ⟨g,cap,e,hg,r⟩:=h;exact ⟨g,cap,e,Nat.le_trans hb hg,r⟩
theorem BufM.lt {w:World} {g j:Nat} (h:(w.cell? ⟨g,j,none⟩).isSome=true):g < w.heap.size:=by
 obtain ⟨u,hu⟩:=Option.isSome_iff_exists.1 h
 exact World.block_lt_of_cell? w _ hu
theorem BufM.below {w w1:World} {base:Nat} {v:Value} {xs:List Int} (h:BufM w base v xs) (hb:Below w.heap.size w w1):BufM w1 base v xs:=by
 obtain ⟨g,cap,e,hg,hc,h1,h2⟩:=h
 have hs : ∀ j,j < cap → w1.heap[g]? = w.heap[g]?:=fun j hj=>hb.block g (BufM.lt (h2 j hj).1)
 refine ⟨g,cap,e,hg,hc,fun j u hj=>?_,fun j hj=>?_⟩
 ·have hl:j < xs.length:=(List.getElem?_eq_some_iff.1 hj).1
  rw [World.cell?_of_block (a:=⟨g,j,none⟩) (hs j (by omega))]
  exact h1 j u hj
 rw [World.cell?_of_block (a:=⟨g,j,none⟩) (hs j hj),World.frozen?_of_block (a:=⟨g,j,none⟩) (hs j hj)]
 exact h2 j hj
theorem BufM.reads {w:World} {base:Nat} {v:Value} {xs:List Int} (h:BufM w base v xs) (hl:xs.length ≤ 9223372036854775807) : ∃ A c,v = .slice A xs.length c∧xs.length ≤ c∧Kd.C (Kd.int .u8) w A xs.length xs:=by
 obtain ⟨g,cap,e,hg,hc,h1,h2⟩:=h
 refine ⟨_,cap,e,hc,Kd.C_of_reads (h1:=fun _=>rfl) (d:=0) ⟨rfl,hl,fun _=>⟨_,rfl,fun j hj=>?_⟩⟩⟩
 have hadd:(⟨g,0,none⟩:Addr).add j=⟨g,j,none⟩:=by unfold Addr.add;split <;> simp_all
 rw [hadd,List.getD_eq_getElem?_getD,List.getElem?_eq_getElem (by omega)]
 exact h1 j _ (List.getElem?_eq_getElem (by omega))
theorem BufM.reads' {w:World} {base n c:Nat} {A:Option Addr} {xs:List Int} (h:BufM w base (.slice A n c) xs) (hl:xs.length ≤ 9223372036854775807):n=xs.length∧xs.length ≤ c∧Kd.C (Kd.int .u8) w A xs.length xs:=by
 obtain ⟨A',c',e,hc,hC⟩:=h.reads hl
 injection e with e1 e2 e3
 subst e1 e2 e3
 exact ⟨rfl,hc,hC⟩
/-- A slice of bytes that a call made out of a text: it is read,and stays. -/
def Kd.B (w:World) (base:Nat) (ok:Nat → Prop) (v:Value) (xs:List Int):Prop:=(∀ k,v.ownBlock=some k → ok k)∧BufM w base v xs∧0 < xs.length∧xs.length ≤ 9223372036854775807
theorem Kd.B_mono {w:World} {base:Nat} {ok ok' : Nat → Prop} {v:Value} {xs:List Int} (h:Kd.B w base ok v xs) (hok : ∀ k,ok k → ok' k):Kd.B w base ok' v xs:=⟨fun k hk=>hok k (h.1 k hk),h.2⟩
theorem Kd.B_below {w w1:World} {base:Nat} {ok:Nat → Prop} {v:Value} {xs:List Int} (h:Kd.B w base ok v xs) (hb:Below w.heap.size w w1):Kd.B w1 base ok v xs:=⟨h.1,h.2.1.below hb,h.2.2⟩
theorem Kd.B_lower {w:World} {base base' : Nat} {ok:Nat → Prop} {v:Value} {xs:List Int} (h:Kd.B w base ok v xs) (hb:base' ≤ base):Kd.B w base' ok v xs:=⟨h.1,h.2.1.lower hb,h.2.2⟩
theorem Kd.B_lt {w:World} {base:Nat} {ok:Nat → Prop} {v:Value} {xs:List Int} (h:Kd.B w base ok v xs) : ∀ k,v.ownBlock=some k → k < w.heap.size:=by
 obtain ⟨_,⟨g,cap,rfl,hg,hc,h1,h2⟩,hp,_⟩:=h
 intro k hk
 obtain rfl:g=k:=by simpa [Value.ownBlock] using hk
 exact BufM.lt (h2 0 (by omega)).1
theorem Kd.B_base {w:World} {base:Nat} {ok:Nat → Prop} {v:Value} {xs:List Int} (h:Kd.B w base ok v xs) : ∀ k,v.ownBlock=some k → base ≤ k:=by
 obtain ⟨_,⟨g,cap,rfl,hg,_⟩,_⟩:=h
 intro k hk
 obtain rfl:g=k:=by simpa [Value.ownBlock] using hk
 exact hg
theorem Kd.B_elder' {W w1:World} {base:Nat} {ok:Nat → Prop} {u v:Value} {xs:List Int} (hu:Kd.B W base ok u xs) (hbase : ∀ k,v.ownBlock=some k → W.heap.size ≤ k) (hb:Below W.heap.size W w1):Kd.B w1 base (fun k=>ok k∧some k ≠ v.ownBlock) u xs :=
 ⟨fun k hk=>⟨hu.1 k hk,fun he=>by have:=hbase k he.symm;have:=Kd.B_lt hu k hk;omega⟩,hu.2.1.below hb,hu.2.2⟩
theorem Kd.B_new' {W w1:World} {ok:Nat → Prop} {u v:Value} {xs:List Int} (h:Kd.B w1 W.heap.size ok v xs) (hlt : ∀ k,u.ownBlock=some k → k < W.heap.size):Kd.B w1 W.heap.size (fun k=>ok k∧some k ≠ u.ownBlock) v xs :=
 ⟨fun k hk=>⟨h.1 k hk,fun he=>by have:=hlt k he.symm;have:=Kd.B_base h k hk;omega⟩,h.2⟩
theorem Kd.B_alloc {w:World} {base:Nat} {ok:Nat → Prop} {v:Value} {xs:List Int} (h:Kd.B w base ok v xs) (o:Obj):Kd.B (w.alloc o) base ok v xs:=Kd.B_below h (below_alloc (Below.refl _ _) o)
theorem Kd.B_drew {w:World} {base:Nat} {ok:Nat → Prop} {v:Value} {xs:List Int} (h:Kd.B w base ok v xs):Kd.B w.drew base ok v xs:=Kd.B_below h (below_drew (Below.refl _ _))
theorem Kd.B_drewN {w:World} {base:Nat} {ok:Nat → Prop} {v:Value} {xs:List Int} (h:Kd.B w base ok v xs) (m:Nat):Kd.B (w.drewN m) base ok v xs:=Kd.B_below h (pw_below_drewN (Below.refl _ _) m)
theorem Kd.B_slice {w:World} {base:Nat} {ok:Nat → Prop} {v:Value} {xs:List Int} (h:Kd.B w base ok v xs) : ∃ A c,v = .slice A xs.length c:=h.2.1.form
theorem Kd.B_reads' {w:World} {base:Nat} {ok:Nat → Prop} {A:Option Addr} {n c:Nat} {xs:List Int} (h:Kd.B w base ok (.slice A n c) xs):n=xs.length∧n ≤ c∧Kd.C (Kd.int .u8) w A xs.length xs:=by
 obtain ⟨h1,h2,h3⟩:=h.2.1.reads' h.2.2.2
 exact ⟨h1,by omega,h3⟩
theorem Kd.B_step {w w1:World} {base:Nat} {ok:Nat → Prop} {v:Value} {xs:List Int} (h:Kd.B w base ok v xs) (hm : ∀ k,ok k → k < w.heap.size → w1.heap[k]? = w.heap[k]?):Kd.B w1 base ok v xs:=by
 have hlt:=Kd.B_lt h
 obtain ⟨h0,⟨g,cap,rfl,hg,hc,h1,h2⟩,hp,hl⟩:=h
 have hs:w1.heap[g]? = w.heap[g]?:=hm g (h0 g (by simp [Value.ownBlock])) (hlt g (by simp [Value.ownBlock]))
 refine ⟨h0,⟨g,cap,rfl,hg,hc,fun j u hj=>?_,fun j hj=>?_⟩,hp,hl⟩
 ·rw [World.cell?_of_block (a:=⟨g,j,none⟩) hs]
  exact h1 j u hj
 rw [World.cell?_of_block (a:=⟨g,j,none⟩) hs,World.frozen?_of_block (a:=⟨g,j,none⟩) hs]
 exact h2 j hj
theorem Kd.B_after {base:Nat} {ok:Nat → Prop} {W w1:World} {u v v1:Value} {xs:List Int} (h:Kd.B W base (fun k=>ok k∧some k ≠ v.ownBlock) u xs) (hg:W.grownBy w1 v.ownBlock) (hat:v1.ownBlock=v.ownBlock ∨ ∃ b,v1.ownBlock=some b∧W.heap.size ≤ b):Kd.B w1 base (fun k=>ok k∧some k ≠ v1.ownBlock) u xs:=by
 have hs:=Kd.B_step h (w1:=w1) (fun k ho hk=>hg.block k hk ho.2)
 refine ⟨fun k hk=>⟨(h.1 k hk).1,?_⟩,hs.2⟩
 rcases hat with hat|⟨b,hb,hle⟩
 ·rw [hat];exact (h.1 k hk).2
 rw [hb]
 intro he
 injection he with he
 have:=Kd.B_lt h k hk
 omega
theorem Kd.B_of {w:World} {base:Nat} {v:Value} {xs:List Int} (h:BufM w base v xs) (hp:0 < xs.length) (hl:xs.length ≤ 9223372036854775807):Kd.B w base (fun _=>True) v xs:=⟨fun _ _=>trivial,h,hp,hl⟩
theorem hbase2 {w w1:World} {b g:Nat} (hg:b ≤ g) (h:Below g w w1):Below b w w1:=⟨h.os,h.tape,h.output,h.size,fun i hi=>h.block i (Nat.lt_of_lt_of_le hi hg)⟩
theorem below_cells {a:World} {B g:Nat} (hg:B ≤ g) : ∀ (vs:List Value) (o:Nat) (w:World),Below B a w → Below B a (w.setCells g o vs)
 | [],_,_,h=>h
 | v :: r,o,w,h=>below_cells hg r (o + 1) (w.setCell ⟨g,o,none⟩ v) (h.setCell hg v)
theorem ints_cells (w:World) (g:Nat) (xs:List Int) (h1 : ∀ j u,xs[j]? = some u → w.cell? ⟨g,j,none⟩=some (.int .u8 u)) : ∀ j u,(xs.map (Value.int .u8))[j]? = some u → w.cell? ((⟨g,0,none⟩:Addr).add j)=some u:=by
 intro j u hj
 have hadd:(⟨g,0,none⟩:Addr).add j=⟨g,j,none⟩:=by unfold Addr.add;split <;> simp_all
 rw [List.getElem?_map] at hj
 obtain ⟨x,hx,rfl⟩:=Option.map_eq_some_iff.1 hj
 rw [hadd]
 exact h1 j x hx
/-- 'append' onto it,of a string's bytes or of a slice's. -/
theorem run_bufM {P:Program} (w:World) (base:Nat) (t tx ty e:TypeId) (i:TypeInfo) (ht:P.underlying t=some (.slice e)) (hi:P.info? e=some i) (hz:i.zero=some (.int .u8 0)) (hs1:i.size=1) (hb1:i.bytes=1)
 (v x:Value) (xs ys:List Int) (h:BufM w base v xs) (hs:Src P 1 tx x ys.length (ys.map (Value.int .u8)) w) (hn:xs.length + ys.length ≤ 140737488355328) (hbase:base ≤ w.heap.size) :
 ∃ v' w',(Builtin.append_ #[t,tx] ty #[v,x]).run P w = .ok v' w' ∧ BufM w' base v' (xs ++ ys)∧Below base w w' := by
 obtain ⟨g,cap,rfl,hg,hc,h1,h2⟩:=h
 have hs' : Src P i.size tx x ys.length (ys.map (Value.int .u8)) w:=by rw [hs1];exact hs
 by_cases hroom:xs.length + ys.length ≤ cap;rotate_left
 ·have hold:=run_firstCells_some (P:=P) w.drew 1 xs.length ⟨g,0,none⟩ xs.length cap (xs.map (Value.int .u8)) (by simp) (by intro j u hj;have:=ints_cells w g xs h1 j u hj;simpa using this)
  have hr:=run_append_grow_src (P:=P) w t tx ty e i (.int .u8 0) ht hi hz (some ⟨g,0,none⟩) xs.length cap (xs.map (Value.int .u8)) (by rw [hs1];exact hold) x ys.length (ys.map (Value.int .u8)) hs' (by omega) (by omega) (by rw [hb1];exact growslice_fits (by omega) (by omega))
  have hge:=grownCap_ge w (xs.length + ys.length) cap e
  have hnb : ∀ ob,(w.drew.alloc ob).heap[w.heap.size]? = some ob:=fun ob=>blk_new w.drew ob
  refine ⟨_,_,hr,⟨w.heap.size,_,by rw [List.length_append],hbase,by rw [List.length_append];exact hge,fun j u hj=>?_,fun j hj=>?_⟩,(below_drew (Below.refl _ _)).alloc hbase _⟩
  ·rw [blk_cell (hnb _) j,Array.getElem?_append_left (by simp;have:=(List.getElem?_eq_some_iff.1 hj).1;simp at this;omega)]
   simp only [List.getElem?_toArray]
   rw [← List.map_append,List.getElem?_map,hj]
   rfl
  refine ⟨?_,blk_frozen (hnb _) j⟩
  have hz1:(Value.int IntKind.u8 0).cells.size=1:=rfl
  rw [blk_cell (hnb _) j,Array.getElem?_eq_getElem (by simp only [Array.size_append,List.size_toArray,size_zeroCells,hz1,List.length_append,List.length_map];omega)]
  rfl
 have hr:=run_append_room_src (P:=P) w t tx ty e i ht hi g 0 xs.length cap x ys.length (ys.map (Value.int .u8)) hs' hroom
  (fun j hj=>by rw [hs1];simp only [List.length_map] at hj;exact (h2 (0 + xs.length * 1 + j) (by omega)).1) (fun j hj=>by rw [hs1];simp only [List.length_map] at hj;exact (h2 (0 + xs.length * 1 + j) (by omega)).2)
 rw [hs1,show 0 + xs.length * 1=xs.length by omega] at hr
 refine ⟨_,_,hr,⟨g,cap,by rw [List.length_append],hg,by rw [List.length_append];exact hroom,fun j u hj=>?_,fun j hj=>?_⟩,below_cells hg _ _ _ (Below.refl _ _)⟩
 ·by_cases hl:j < xs.length
  ·rw [List.getElem?_append_left hl] at hj
   rw [World.cell?_setCells_out g _ _ w ⟨g,j,none⟩ (fun _ _=>.inl hl)]
   exact h1 j u hj
  ·rw [List.getElem?_append_right (by omega)] at hj
   obtain ⟨hl2,e2⟩:=List.getElem?_eq_some_iff.1 hj
   have:=World.cell?_setCells_in g (ys.map (Value.int .u8)) xs.length w (fun q hq=>by simp only [List.length_map] at hq;exact (h2 _ (by omega)).1) (j - xs.length) (by simpa using hl2)
   rw [show xs.length + (j - xs.length)=j by omega] at this
   rw [this,List.getElem_map,e2]
 ·exact ⟨World.isSome_setCells g _ _ w _ (h2 j hj).1,by rw [World.frozen?_setCells];exact (h2 j hj).2⟩
theorem wp_bufM {P:Program} {ops:Array Oper} {rest:List Oper} {o:Oper} {a:Act} {Q:Exit → Act → World → Prop} {w:World} (hgd:o.guard=none) (sl x:Operand) (t tx:TypeId) (ho:o.op = .call { callee:=.builtin .append,args:=#[sl,x],argTypes:=#[t,tx] })
 (base:Nat) (e:TypeId) (i:TypeInfo) (ht:P.underlying t=some (.slice e)) (hi:P.info? e=some i) (hz:i.zero=some (.int .u8 0)) (hs1:i.size=1) (hb1:i.bytes=1) (v xv:Value) (xs ys:List Int) (hsl:a.eval sl=v) (hx:a.eval x=xv)
 (h:BufM w base v xs) (hs:Src P 1 tx xv ys.length (ys.map (Value.int .u8)) w) (hn:xs.length + ys.length ≤ 140737488355328) (hbase:base ≤ w.heap.size)
 (K : ∀ v' w',BufM w' base v' (xs ++ ys) → Below base w w' → wpList P ops Q rest (a.put o.dst v') w'):wpList P ops Q (o :: rest) a w:=by
 refine wpList_plain hgd fun K' hK=>?_
 obtain ⟨v',w',hr,h2,h3⟩:=run_bufM (P:=P) w base t tx o.type e i ht hi hz hs1 hb1 v xv xs ys h hs hn hbase
 unfold Oper.wp execOp
 simp only [ho,resolve,invoke,builtin,Sem.run_bind,Sem.run_pure,Result.andThen_ok,List.map_toArray,List.map_cons,List.map_nil,hsl,hx,hr]
 exact hK _ _ (K v' w' h2 h3)
theorem bufM_len (s:ByteArray):(bytesOf s).length=s.size:=by
 unfold bytesOf
 rw [List.length_map,Array.length_toList]
 rfl
theorem src_bytes {P:Program} (w:World) {tx:TypeId} (hk:P.underlying tx=some .string) (s:ByteArray):Src P 1 tx (.string s) (bytesOf s).length ((bytesOf s).map (Value.int .u8)) w:=by
 have h:=Src.ofString (P:=P) w hk s
 have e:(bytesOf s).map (Value.int .u8)=byteCells s:=by unfold bytesOf byteCells;rw [List.map_map];rfl
 rw [e,bufM_len]
 exact h
theorem src_ints {P:Program} {w:World} {tx e' : TypeId} (hk:P.underlying tx=some (.slice e')) {A:Option Addr} {c:Nat} {l:List Int} (h:Kd.C (Kd.int .u8) w A l.length l):Src P 1 tx (.slice A l.length c) l.length (l.map (Value.int .u8)) w:=by
 cases l with
 | nil=>cases A with
  | none=>exact Src.ofNil w hk c
  | some ad=>exact Src.ofSlice w hk ad 0 c [] rfl (fun j u hj=>by simp at hj) (fun u hu=>by cases hu)
 | cons x r =>
  obtain ⟨ad,rfl,hc⟩:=(Kd.reads_of_C (d:=0) h).2.2 (by simp)
  refine Src.ofSlice w hk ad _ c _ (by simp) (fun j u hj=>?_) (fun u hu=>by obtain ⟨_,_,rfl⟩:=List.mem_map.1 hu;rfl)
  rw [List.getElem?_map] at hj
  obtain ⟨y,hy,rfl⟩:=Option.map_eq_some_iff.1 hj
  obtain ⟨hl,e2⟩:=List.getElem?_eq_some_iff.1 hy
  have:=hc j hl
  rw [List.getD_eq_getElem?_getD,List.getElem?_eq_getElem hl,e2] at this
  exact this
theorem bufM_conv (w:World) (e:TypeId) (s:ByteArray):BufM (Lib.bytesWorld w e s) w.heap.size (.slice (some ⟨w.heap.size,0,none⟩) s.size (grownCap w s.size 0 e)) (bytesOf s):=by
 have hge:=grownCap_ge w s.size 0 e
 have hsz:(Lib.bytesCells w e s).size=grownCap w s.size 0 e:=by
  have h1:s.data.size=s.size:=rfl
  simp only [Lib.bytesCells,Array.size_append,Array.size_map,Array.size_replicate,h1];omega
 refine ⟨w.heap.size,_,by rw [bufM_len],Nat.le_refl _,by rw [bufM_len];exact hge,fun j u hj=>?_,fun j hj=>⟨?_,?_⟩⟩
 ·have hl:j < s.size:=by have:=(List.getElem?_eq_some_iff.1 hj).1;rw [bufM_len] at this;exact this
  rw [Lib.bytesWorld_cell w e s j hl]
  unfold bytesOf at hj
  rw [List.getElem?_map] at hj
  obtain ⟨y,hy,rfl⟩:=Option.map_eq_some_iff.1 hj
  rw [List.getD_eq_getElem?_getD,hy]
  rfl
 ·simp only [World.cell?,Lib.bytesWorld_at_new]
  rw [Array.getElem?_eq_getElem (by rw [hsz];exact hj)]
  rfl
 simp only [World.frozen?,Lib.bytesWorld_at_new,Bool.and_eq_false_iff,decide_eq_false_iff_not]
 left
 rw [hsz]
 omega
def http_write.l:Nat → List (S36) → List Int → Int → List Int → Option (List Int)
 | 0,_,_,_,_=>none
 | k + 1,fs,b,i,out=>if i < (fs.length:Int) then (if 0 ≤ i then ((field_Line.f (rd_T36 fs i).f0 (rd_T36 fs i).f1).bind fun s=>if out.length + s.size ≤ 140737488355328 then http_write.l k fs b (wrap64 (i + 1)) (out ++ bytesOf s) else none) else none) else (if out.length + 2 + b.length ≤ 140737488355328 then some ((out ++ [13,10]) ++ b) else none)
def http_write.f (k:Nat) (a0:ByteArray) (l1:List (S36)) (l2:List Int):Option (List Int):=http_write.l k l1 l2 0 (bytesOf a0)
theorem http_write.len_l : ∀ k fs b i out r,http_write.l k fs b i out=some r → 0 < r.length∧r.length ≤ 9223372036854775807
 | 0=>fun _ _ _ _ r h=>by simp [http_write.l] at h
 | k + 1=>by
  intro fs b i out r h
  rw [http_write.l] at h
  split at h
  ·split at h
   ·obtain ⟨s,_,h⟩:=Option.bind_eq_some_iff.1 h
    split at h
    ·exact http_write.len_l k _ _ _ _ _ h
    cases h
   cases h
  split at h
  ·injection h with h
   subst h
   simp only [List.length_append,List.length_cons,List.length_nil]
   omega
  cases h
theorem http_write.len {k:Nat} {a0:ByteArray} {fs:List (S36)} {b r:List Int} (h:http_write.f k a0 fs b=some r):0 < r.length∧r.length ≤ 9223372036854775807:=http_write.len_l k fs b 0 _ r h
set_option maxHeartbeats 8000000 in
set_option maxRecDepth 100000 in
theorem http_write.callsB (k:Nat) (a0:ByteArray) (A1:Option Addr) (c1:Nat) (l1:List (S36)) (A2:Option Addr) (c2:Nat) (l2:List Int) (r:List Int) (w:World) (hr1:Kd.C k36 w A1 l1.length l1) (hc1:l1.length ≤ c1) (hr2:Kd.C (Kd.int .u8) w A2 l2.length l2) (hc2:l2.length ≤ c2) (h:http_write.f k a0 l1 l2=some r) :
 Calls Tryz.prog 54 #[.string a0,.slice A1 l1.length c1,.slice A2 l2.length c2] w fun e w' => ∃ v,e = .returned v∧BufM w' w.heap.size v r∧Below w.heap.size w w' := by
 have hu:=Tryz.underlying36
 have hconv : ∀ W:World,(convert 9 22 (.string a0)).run Tryz.prog W = .ok (.slice (some ⟨W.heap.size,0,none⟩) a0.size (grownCap W a0.size 0 5)) (Lib.bytesWorld W 5 a0):=fun W=>Lib.run_convert_string_bytes W _ _ _ a0 Tryz.underlying9 Tryz.underlying22 Tryz.underlying5
 obtain ⟨i0,hi0,hz0,hsz0,hby0⟩:=info_parts info5
 have HI:=Aside0.mk (And.intro hi0 (And.intro hz0 (And.intro hsz0 hby0)))
 have HR1:=Aside0.mk hr1
 have HR2:=Aside0.mk hr2
 have H' := Aside0.mk (show http_write.l k l1 l2 0 (bytesOf a0)=some r from h)
 clear hr1 hc1 hr2 hc2 h hi0 hz0 hsz0 hby0
 go_enter Tryz.func54,Tryz.ntmps54
 go_wp2
 go_loopg [7,14] k (fun kq v7 v14 w' => ∃ (i:Int) (out:List Int),v14 = .int .i64 i∧Aside0 (http_write.l kq l1 l2 i out=some r)∧Aside0 (BufM w' w.heap.size v7 out)∧Aside0 (Below w.heap.size w w'))
 case atStart=>exact ⟨0,bytesOf a0,rfl,H',⟨bufM_conv w _ a0⟩,⟨bytes_below (Below.refl _ _) (Nat.le_refl _) _ _⟩⟩
 case round =>
  clear H'
  obtain ⟨i,out,rfl,HA,BU,HB⟩:=hrel
  cases gk with
  | zero=>exact absurd HA.out (by simp [http_write.l])
  | succ k =>
   have h:=HA.out
   clear HA
   simp only [http_write.l] at h
   obtain ⟨Ab,cb,eb⟩:=BU.out.form
   subst eb
   by_cases b0:i < (l1.length:Int);rotate_left
   ·rw [if_neg b0] at h
    have d0:decide (i < (l1.length:Int))=false:=decide_eq_false b0
    replace b0:=eq_false b0
    by_cases b2:out.length + 2 + l2.length ≤ 140737488355328;rotate_left
    ·rw [if_neg b2] at h
     cases h
    rw [if_pos b2] at h
    simp only [Option.some.injEq] at h
    subst h
    have LM:=Aside0.mk b2
    clear b2
    go_wp2_with (first
     | ((with_reducible refine gate_builtin (b:=.append) (xs:=#[.tmp 23,.const (.string ⟨#[13,10]⟩)]) rfl ?_);at_builtin;refine wp_bufM rfl (.tmp 23) (.const (.string ⟨#[13,10]⟩)) 22 9 rfl w.heap.size 5 i0 Tryz.underlying22 HI.out.1 HI.out.2.1 HI.out.2.2.1 HI.out.2.2.2 _ (.string ⟨#[13,10]⟩) out [13,10] rfl rfl BU.out (src_bytes _ Tryz.underlying9 ⟨#[13,10]⟩) (by have z:=LM.out;simp only [List.length_cons,List.length_nil];omega) HB.out.size ?_;intro v3 w3 hB3 hb3;obtain ⟨y3,hy3⟩ : ∃ y,y=out ++ [13,10]:=⟨_,rfl⟩;rw [← hy3] at hB3;have HY:=Aside0.mk hy3;obtain ⟨A3,c3,e3⟩:=hB3.form;subst e3;clear hy3;have B3:=Aside0.mk hB3;have L3:=Aside0.mk (HB.out.trans hb3);clear hB3 hb3)
     | ((with_reducible refine gate_builtin (b:=.append) (xs:=#[.tmp 24,.tmp 25]) rfl ?_);at_builtin;refine wp_bufM rfl (.tmp 24) (.tmp 25) 22 22 rfl w.heap.size 5 i0 Tryz.underlying22 HI.out.1 HI.out.2.1 HI.out.2.2.1 HI.out.2.2.2 _ (.slice A2 l2.length c2) y3 l2 rfl rfl B3.out (src_ints Tryz.underlying22 (Kd.C_below HR2.out L3.out)) (by have z:=LM.out;rw [HY.out];simp only [List.length_append,List.length_cons,List.length_nil];omega) L3.out.size ?_;intro v4 w4 hB4 hb4;have B4:=Aside0.mk hB4;have L4:=Aside0.mk (L3.out.trans hb4);clear hB4 hb4))
    go_ret
    exact ⟨_,rfl,by rw [← HY.out];exact B4.out,L4.out⟩
   rw [if_pos b0] at h
   by_cases b1:0 ≤ i
   ·rw [if_pos b1] at h
    obtain ⟨s,hl,h'⟩:=Option.bind_eq_some_iff.1 h
    clear h
    by_cases b2:out.length + s.size ≤ 140737488355328
    ·rw [if_pos b2] at h'
     have H2:=Aside0.mk h'
     have HL:=Aside0.mk hl
     have LM:=Aside0.mk b2
     clear h' hl b2
     obtain ⟨ad,e1,hx0,hx1⟩:=at_T36 HR1.out i b1 b0
     cases e1
     replace hx0:=(HB.out.cell (World.block_lt_of_cell? w _ hx0)).trans hx0
     replace hx1:=(HB.out.cell (World.block_lt_of_cell? w _ hx1)).trans hx1
     have d0:decide (i < (l1.length:Int))=true:=decide_eq_true b0
     replace b0:=eq_true b0
     replace b1:=eq_true b1
     go_wp2_with (first
      | (go_at_call 94;refine (field_Line.calls _ _ s _ HL.out).mono ?_;rintro E w2 ⟨rfl,hb2⟩;have B2:=Aside0.mk ((BU.out.below (below_alloc (Below.refl _ _) _)).below hb2);have L2:=Aside0.mk ((below_alloc HB.out _).trans (hbase2 (below_alloc HB.out _).size hb2));clear hb2)
      | ((with_reducible refine gate_builtin (b:=.append) (xs:=#[.tmp 18,.tmp 20]) rfl ?_);at_builtin;refine wp_bufM rfl (.tmp 18) (.tmp 20) 22 9 rfl w.heap.size 5 i0 Tryz.underlying22 HI.out.1 HI.out.2.1 HI.out.2.2.1 HI.out.2.2.2 _ (.string s) out (bytesOf s) rfl rfl B2.out (src_bytes _ Tryz.underlying9 s) (by rw [bufM_len];exact LM.out) L2.out.size ?_;intro v3 w3 hB3 hb3;have B3:=Aside0.mk hB3;have L3:=Aside0.mk (L2.out.trans hb3);clear hB3 hb3))
     go_roundg k
     case rel=>exact ⟨wrap64 (i + 1),out ++ bytesOf s,zb115,H2,B3,L3⟩
     case measure=>exact Nat.lt_succ_self k
    ·rw [if_neg b2] at h'
     cases h'
   ·rw [if_neg b1] at h
    cases h
def sign_Text.f (a0:Int):Option (ByteArray):=(strconv_FormatInt_93.f a0 10).bind fun t325=>(some t325)
set_option maxHeartbeats 8000000 in
set_option maxRecDepth 100000 in
theorem sign_Text.calls (a0:Int) (r:ByteArray) (w:World) (h:sign_Text.f a0=some r) (ht:Tabs w) :
 Calls Tryz.prog 95 #[.int .i64 a0] w fun e w' => e = .returned (.string r)∧Below w.heap.size w w' := by
 have HTB:=Aside0.mk ht
 clear ht
 have HB:=Aside0.mk (Below.refl w.heap.size w)
 unfold sign_Text.f at h
 have H:=h
 clear h
 replace H:=Option.bind_eq_some_iff.mp H
 obtain ⟨t325,A20,H⟩:=H
 try dsimp only at H
 have A2:=Aside0.mk A20
 clear A20
 obtain rfl:=Option.some.inj H
 go_enter Tryz.func95,Tryz.ntmps95
 go_wp2_with (first|((with_reducible refine gate_callee (f:=93) rfl ?_);refine goesL_ (some 4) rfl rfl Tryz.func93 zb8 rfl #[.int .i64 a0,.int .i64 10] rfl zb1 ?_;(with_reducible refine (strconv_FormatInt_93.calls a0 10 t325 _ A2.out ?hT).mono ?_);(case hT=>exact HTB.out.below zb0);rintro e w3 ⟨rfl,hb⟩;(try clear A2);refine ⟨_,rfl,?_⟩;replace HB:=Aside0.mk (below_step zb0 hb);(try clear hb)))
 go_ret
 exact ⟨zb3,zb0⟩
def line_RequestLine.f (a0_0:ByteArray) (a0_1:ByteArray) (a0_2:Int) (l0_3:List (S36)) (l0_4:List Int):Option (ByteArray):=if a0_0.size + 1 ≤ 9223372036854775807 then (if (a0_0 ++ (⟨#[32]⟩:ByteArray)).size + a0_1.size ≤ 9223372036854775807 then (if ((a0_0 ++ (⟨#[32]⟩:ByteArray)) ++ a0_1).size + 8 ≤ 9223372036854775807 then ((sign_Text.f a0_2).bind fun t327=>(if (((a0_0 ++ (⟨#[32]⟩:ByteArray)) ++ a0_1) ++ (⟨#[32,72,84,84,80,47,49,46]⟩:ByteArray)).size + t327.size ≤ 9223372036854775807 then (if ((((a0_0 ++ (⟨#[32]⟩:ByteArray)) ++ a0_1) ++ (⟨#[32,72,84,84,80,47,49,46]⟩:ByteArray)) ++ t327).size + 2 ≤ 9223372036854775807 then (some (((((a0_0 ++ (⟨#[32]⟩:ByteArray)) ++ a0_1) ++ (⟨#[32,72,84,84,80,47,49,46]⟩:ByteArray)) ++ t327) ++ (⟨#[13,10]⟩:ByteArray))) else (none)) else (none))) else (none)) else (none)) else (none)
def line_RequestLine.T1:Bool × List (List Nat × List Nat):=(true,[([],[]),([0],[0]),([1],[1]),([],[]),([3],[3]),([2,4],[2,4]),([5],[5]),([],[]),([7],[7]),([8],[8]),([6,9],[6,9]),([10],[10]),([11,9,0,1,2,3,4,5,6,7,8,9,10,11],[11])])
def line_RequestLine.B1:List Nat:=[0,1,3,0,8,31,63,0,128,384,1023,2047,4095]
theorem line_RequestLine.tab1:rtab .any (opsOf Tryz.f55 1)=line_RequestLine.T1:=by kernel_rfl
theorem line_RequestLine.bits1:waitsOk line_RequestLine.T1.2 line_RequestLine.B1=true:=by kernel_rfl
set_option maxHeartbeats 8000000 in
set_option maxRecDepth 100000 in
theorem line_RequestLine.calls (a0_0:ByteArray) (a0_1:ByteArray) (a0_2:Int) (A0_3:Option Addr) (c0_3:Nat) (l0_3:List (S36)) (A0_4:Option Addr) (c0_4:Nat) (l0_4:List Int) (r:ByteArray) (w:World) (hr0_3:Kd.C k36 w A0_3 l0_3.length l0_3) (hc0_3:l0_3.length ≤ c0_3) (hr0_4:Kd.C (Kd.int .u8) w A0_4 l0_4.length l0_4) (hc0_4:l0_4.length ≤ c0_4) (h:line_RequestLine.f a0_0 a0_1 a0_2 l0_3 l0_4=some r) (ht:Tabs w) :
 Calls Tryz.prog 55 #[.agg #[.string a0_0,.string a0_1,.int .i64 a0_2,.slice A0_3 l0_3.length c0_3,.slice A0_4 l0_4.length c0_4]] w fun e w' => e = .returned (.string r)∧Below w.heap.size w w' := by
 have HTB:=Aside0.mk ht
 clear ht
 have hu26:=Tryz.underlying26
 have HR0_3:=Aside0.mk hr0_3
 have HC0_3:=Aside0.mk hc0_3
 clear hr0_3 hc0_3
 have HR0_4:=Aside0.mk hr0_4
 have HC0_4:=Aside0.mk hc0_4
 clear hr0_4 hc0_4
 have HB:=Aside0.mk (Below.refl w.heap.size w)
 unfold line_RequestLine.f at h
 have H:=h
 clear h
 by_cases c2:a0_0.size + 1 ≤ 9223372036854775807;rotate_left
 ·rw [if_neg c2] at H
  exact absurd H zb42
 rw [if_pos c2] at H
 have c2b0:=eq_true c2
 have c2b1:=decide_eq_true c2
 try have c2b2:(9223372036854775807 < a0_0.size + 1)=False:=eq_false (Nat.not_lt.2 c2)
 by_cases c3:(a0_0 ++ (⟨#[32]⟩:ByteArray)).size + a0_1.size ≤ 9223372036854775807
 ·rw [if_pos c3] at H
  have c3b0:=eq_true c3
  have c3b1:=decide_eq_true c3
  try have c3b2:(9223372036854775807 < (a0_0 ++ (⟨#[32]⟩:ByteArray)).size + a0_1.size)=False:=eq_false (Nat.not_lt.2 c3)
  try (have c3b3:=c3b0;simp only [ByteArray.size_append] at c3b3;have c3b4:=c3b2;simp only [ByteArray.size_append] at c3b4)
  try have c3b5:(9223372036854775807 < a0_0.size + 1 + a0_1.size)=False:=eq_false (by have q_:=c3;simp only [ByteArray.size_append] at q_;have e0_:(⟨#[32]⟩:ByteArray).size=1:=rfl;omega)
  try have c3b6:(a0_0.size + 1 + a0_1.size ≤ 9223372036854775807)=True:=eq_true (by have q_:=c3;simp only [ByteArray.size_append] at q_;have e0_:(⟨#[32]⟩:ByteArray).size=1:=rfl;omega)
  by_cases c4:((a0_0 ++ (⟨#[32]⟩:ByteArray)) ++ a0_1).size + 8 ≤ 9223372036854775807;rotate_left
  ·rw [if_neg c4] at H
   exact absurd H zb42
  rw [if_pos c4] at H
  have c4b0:=eq_true c4
  have c4b1:=decide_eq_true c4
  try have c4b2:(9223372036854775807 < ((a0_0 ++ (⟨#[32]⟩:ByteArray)) ++ a0_1).size + 8)=False:=eq_false (Nat.not_lt.2 c4)
  try (have c4b3:=c4b0;simp only [ByteArray.size_append] at c4b3;have c4b4:=c4b2;simp only [ByteArray.size_append] at c4b4)
  try have c4b5:(9223372036854775807 < a0_0.size + 1 + a0_1.size + 8)=False:=eq_false (by have q_:=c4;simp only [ByteArray.size_append] at q_;have e0_:(⟨#[32]⟩:ByteArray).size=1:=rfl;omega)
  try have c4b6:(a0_0.size + 1 + a0_1.size + 8 ≤ 9223372036854775807)=True:=eq_true (by have q_:=c4;simp only [ByteArray.size_append] at q_;have e0_:(⟨#[32]⟩:ByteArray).size=1:=rfl;omega)
  replace H:=Option.bind_eq_some_iff.mp H
  obtain ⟨t327,A50,H⟩:=H
  try dsimp only at H
  have A5:=Aside0.mk A50
  clear A50
  by_cases c6:(((a0_0 ++ (⟨#[32]⟩:ByteArray)) ++ a0_1) ++ (⟨#[32,72,84,84,80,47,49,46]⟩:ByteArray)).size + t327.size ≤ 9223372036854775807
  ·rw [if_pos c6] at H
   have c6b0:=eq_true c6
   have c6b1:=decide_eq_true c6
   try have c6b2:(9223372036854775807 < (((a0_0 ++ (⟨#[32]⟩:ByteArray)) ++ a0_1) ++ (⟨#[32,72,84,84,80,47,49,46]⟩:ByteArray)).size + t327.size)=False:=eq_false (Nat.not_lt.2 c6)
   try (have c6b3:=c6b0;simp only [ByteArray.size_append] at c6b3;have c6b4:=c6b2;simp only [ByteArray.size_append] at c6b4)
   try have c6b5:(9223372036854775807 < a0_0.size + 1 + a0_1.size + 8 + t327.size)=False:=eq_false zb96
   try have c6b6:(a0_0.size + 1 + a0_1.size + 8 + t327.size ≤ 9223372036854775807)=True:=eq_true zb96
   by_cases c7:((((a0_0 ++ (⟨#[32]⟩:ByteArray)) ++ a0_1) ++ (⟨#[32,72,84,84,80,47,49,46]⟩:ByteArray)) ++ t327).size + 2 ≤ 9223372036854775807;rotate_left
   ·rw [if_neg c7] at H
    exact absurd H zb42
   rw [if_pos c7] at H
   have c7b0:=eq_true c7
   have c7b1:=decide_eq_true c7
   try have c7b2:(9223372036854775807 < ((((a0_0 ++ (⟨#[32]⟩:ByteArray)) ++ a0_1) ++ (⟨#[32,72,84,84,80,47,49,46]⟩:ByteArray)) ++ t327).size + 2)=False:=eq_false (Nat.not_lt.2 c7)
   try (have c7b3:=c7b0;simp only [ByteArray.size_append] at c7b3;have c7b4:=c7b2;simp only [ByteArray.size_append] at c7b4)
   try have c7b5:(9223372036854775807 < a0_0.size + 1 + a0_1.size + 8 + t327.size + 2)=False:=eq_false zb97
   try have c7b6:(a0_0.size + 1 + a0_1.size + 8 + t327.size + 2 ≤ 9223372036854775807)=True:=eq_true zb97
   obtain rfl:=Option.some.inj H
   go_enter Tryz.func55,Tryz.ntmps55
   try go_wp2_with (first|((with_reducible refine gate_dst (N:=1) rfl ?_);refine box_event rfl (N:=1) rfl (cs:=#[.string a0_0,.string a0_1,.int .i64 a0_2,.slice A0_3 l0_3.length c0_3,.slice A0_4 l0_4.length c0_4]) (t:=26) zS ?_;intro gb326 hg w8 hbox hb;have GW326:=zG hg zb0;have GE326:=GW326;have BK326:=Aside0.mk hbox;replace HB:=Aside0.mk (below_step zb0 hb);clear hb hbox hg))
   replace BK326:=Aside0.mk (blk_drew BK326.out)
   replace HB:=Aside0.mk (below_drew1 HB.out)
   refine start_ (n:=13) (S:=fun w' => w'.cell? ⟨gb326,0,none⟩=some (.string a0_0)∧w'.cell? ⟨gb326,1,none⟩=some (.string a0_1)∧w'.cell? ⟨gb326,2,none⟩=some (.int .i64 a0_2)∧w'.cell? ⟨gb326,3,none⟩=some (.slice A0_3 l0_3.length c0_3)∧w'.cell? ⟨gb326,4,none⟩=some (.slice A0_4 l0_4.length c0_4)) (ds:=[]) (zl 13 0) zb8 rfl rfl ⟨(blk_cell BK326.out 0).trans rfl,(blk_cell BK326.out 1).trans rfl,(blk_cell BK326.out 2).trans rfl,(blk_cell BK326.out 3).trans rfl,(blk_cell BK326.out 4).trans rfl⟩ (fun hHeld=>?_);refine with_tabW line_RequestLine.tab1 line_RequestLine.bits1 (fun HT_ HW_=>?_)
   generalize w8.drew=w9 at BK326 HB hHeld ⊢
   refine zpu 0 (N:=some 3) (zl 13 1) HT_.out rfl rfl ?_
   refine zpu 3 (N:=some 6) (zl 13 9) HT_.out rfl rfl ?_
   refine zpu 7 (N:=some 10) (zl 13 137) HT_.out rfl rfl ?_
   refine take_ (i:=1) (N:=some 4) (v:=?_) (a' := ?_) (zl 13 139) rfl rfl (take_ofW HT_.out HW_.out zb8) (fun _ _ _ h=>h) (Or.inl ⟨zb49,?_⟩) hHeld ?_ ?_
   rotate_left
   ·rintro w' ⟨s0,s1,s2,s3,s4⟩;go_simp;with_reducible rfl
   rotate_left
   ·simp only [Act.put,zqA,zqB,zqC,i64_w,i32_w];rfl
   refine zpu 2 (N:=some 5) (zl 13 143) HT_.out rfl rfl ?_
   refine take_ (i:=4) (N:=some 7) (v:=?_) (a' := ?_) (zl 13 159) rfl rfl (take_ofW HT_.out HW_.out zb8) (fun _ _ _ h=>h) (Or.inl ⟨zb49,?_⟩) hHeld ?_ ?_
   rotate_left
   ·rintro w' ⟨s0,s1,s2,s3,s4⟩;go_simp;with_reducible rfl
   rotate_left
   ·simp only [Act.put,zqA,zqB,zqC,i64_w,i32_w];rfl
   refine zpu 5 (N:=some 8) (zl 13 191) HT_.out rfl rfl ?_
   refine zpu 6 (N:=some 9) (zl 13 255) HT_.out rfl rfl ?_
   refine take_ (i:=8) (N:=some 11) (v:=?_) (a' := ?_) (zl 13 511) rfl rfl (take_ofW HT_.out HW_.out zb8) (fun _ _ _ h=>h) (Or.inl ⟨zb49,?_⟩) hHeld ?_ ?_
   rotate_left
   ·rintro w' ⟨s0,s1,s2,s3,s4⟩;go_simp;with_reducible rfl
   rotate_left
   ·simp only [Act.put,zqA,zqB,zqC,i64_w,i32_w];rfl
   refine one_ (i:=9) (N:=some 12) (zl 13 1023) rfl rfl (one_of HT_.out zb8) zb52 (fun K hK=>?_)
   refine goes_ Tryz.func95 zb8 rfl #[.int .i64 a0_2] zb49 rfl rfl zb1 ?_
   with_reducible refine (sign_Text.calls a0_2 t327 _ A5.out ?hT).mono ?_;(case hT=>exact HTB.out.below zb84)
   rintro e w10 ⟨rfl,hb⟩
   refine ⟨_,rfl,?_⟩
   replace BK326:=Aside0.mk (blk_below (g:=gb326) (o:=.cells #[.string a0_0,.string a0_1,.int .i64 a0_2,.slice A0_3 l0_3.length c0_3,.slice A0_4 l0_4.length c0_4] 26 (0,0)) (by (with_reducible repeat (first|refine blk_drewN ?_ _|refine blk_drew ?_|refine blk_alloc ?_ _));exact BK326.out) hb)
   replace HB:=Aside0.mk (below_step zb84 hb)
   (try clear hb)
   (try clear hb2)
   (try clear hk)
   (try clear hi)
   refine hK.out _ _ ⟨(blk_cell BK326.out 0).trans rfl,(blk_cell BK326.out 1).trans rfl,(blk_cell BK326.out 2).trans rfl,(blk_cell BK326.out 3).trans rfl,(blk_cell BK326.out 4).trans rfl⟩ (fun hHeld=>?_)
   clear hK K
   refine norm_ (a' := ?_) ?_ ?_
   rotate_left
   ·show Act.put _ (some 12) _=_
    simp only [Act.put,zqA,zqB,zqC,i64_w,i32_w]
    rfl
   refine zpu 10 (N:=some 13) (zl 13 2047) HT_.out rfl rfl ?_
   refine zpu 11 (N:=some 14) (zl 13 4095) HT_.out rfl rfl ?_
   refine zpu 12 (N:=some 2) (zl 13 8191) HT_.out rfl rfl ?_
   refine done_ (done_of HT_.out zb8) ?_
   try go_wp2
   go_ret
   exact ⟨zb3,zb84⟩
  ·rw [if_neg c6] at H
   exact absurd H zb42
 ·rw [if_neg c3] at H
  exact absurd H zb42
def http_WriteRequest.f (k:Nat) (a0:ByteArray) (a1:ByteArray) (a2:Int) (l3:List (S36)) (l4:List Int):Option (List Int):=(line_RequestLine.f a0 a1 a2 l3 l4).bind fun s=>http_write.f k s l3 l4
set_option maxHeartbeats 8000000 in
set_option maxRecDepth 100000 in
theorem http_WriteRequest.callsB (k:Nat) (a0:ByteArray) (a1:ByteArray) (a2:Int) (A3:Option Addr) (c3:Nat) (l3:List (S36)) (A4:Option Addr) (c4:Nat) (l4:List Int) (r:List Int) (w:World) (hr3:Kd.C k36 w A3 l3.length l3) (hc3:l3.length ≤ c3) (hr4:Kd.C (Kd.int .u8) w A4 l4.length l4) (hc4:l4.length ≤ c4) (h:http_WriteRequest.f k a0 a1 a2 l3 l4=some r) (ht:Tabs w) :
 Calls Tryz.prog 24 #[.agg #[.string a0,.string a1,.int .i64 a2,.slice A3 l3.length c3,.slice A4 l4.length c4]] w fun e w' => ∃ v,e = .returned v∧BufM w' w.heap.size v r∧Below w.heap.size w w' := by
 have hu:=Tryz.underlying26
 unfold http_WriteRequest.f at h
 obtain ⟨s,hs,h'⟩:=Option.bind_eq_some_iff.1 h
 have HS:=Aside0.mk hs
 have HW:=Aside0.mk h'
 have R3:=Aside0.mk hr3
 have R4:=Aside0.mk hr4
 have C3:=Aside0.mk hc3
 have C4:=Aside0.mk hc4
 have HT:=Aside0.mk ht
 clear h hs h' hr3 hr4 hc3 hc4 ht
 go_enter Tryz.func24,Tryz.ntmps24
 go_wp2_with (first
  | ((with_reducible refine gate_dst (N:=1) rfl ?_);refine box_event ?hg (N:=1) ?hd (cs:=#[.string a0,.string a1,.int .i64 a2,.slice A3 l3.length c3,.slice A4 l4.length c4]) (t:=26) ?hr ?_;(case hd=>rfl);(case hg=>rfl);(case hr=>first|(go_simp;done)|(go_simp;rfl));intro X hX w5 hBX hb5;have BX:=Aside0.mk hBX;have L5:=Aside0.mk hb5;have EX:=Aside0.mk hX;have q0:w5.cell? ⟨X,0,none⟩=some (.string a0):=(blk_cell BX.out 0).trans rfl;have q1:w5.cell? ⟨X,1,none⟩=some (.string a1):=(blk_cell BX.out 1).trans rfl;have q2:w5.cell? ⟨X,2,none⟩=some (.int .i64 a2):=(blk_cell BX.out 2).trans rfl;have q3:w5.cell? ⟨X,3,none⟩=some (.slice A3 l3.length c3):=(blk_cell BX.out 3).trans rfl;have q4:w5.cell? ⟨X,4,none⟩=some (.slice A4 l4.length c4):=(blk_cell BX.out 4).trans rfl;clear hBX hb5 hX))
 go_region_held3 (fun w' => w'.cell? ⟨X,0,none⟩=some (.string a0)∧w'.cell? ⟨X,1,none⟩=some (.string a1)∧w'.cell? ⟨X,2,none⟩=some (.int .i64 a2)∧w'.cell? ⟨X,3,none⟩=some (.slice A3 l3.length c3)∧w'.cell? ⟨X,4,none⟩=some (.slice A4 l4.length c4)) (go_keep)
  (first
   | (go_at_call 55;refine (line_RequestLine.calls a0 a1 a2 A3 c3 l3 A4 c4 l4 s _ (Kd.C_drew (Kd.C_below R3.out L5.out)) C3.out (Kd.C_drew (Kd.C_below R4.out L5.out)) C4.out HS.out (Tabs.below HT.out (below_drew1 L5.out))).mono ?_;rintro E w6 ⟨rfl,hb6⟩;have BX6:=Aside0.mk (blk_below (blk_drew BX.out) hb6);have L6:=Aside0.mk ((below_drew1 L5.out).trans (hbase2 (below_drew1 L5.out).size hb6));have q0:w6.cell? ⟨X,0,none⟩=some (.string a0):=(blk_cell BX6.out 0).trans rfl;have q1:w6.cell? ⟨X,1,none⟩=some (.string a1):=(blk_cell BX6.out 1).trans rfl;have q2:w6.cell? ⟨X,2,none⟩=some (.int .i64 a2):=(blk_cell BX6.out 2).trans rfl;have q3:w6.cell? ⟨X,3,none⟩=some (.slice A3 l3.length c3):=(blk_cell BX6.out 3).trans rfl;have q4:w6.cell? ⟨X,4,none⟩=some (.slice A4 l4.length c4):=(blk_cell BX6.out 4).trans rfl;clear hb6)
   | (go_at_call 54;refine (http_write.callsB k s A3 c3 l3 A4 c4 l4 r _ (Kd.C_below R3.out L6.out) C3.out (Kd.C_below R4.out L6.out) C4.out HW.out).mono ?_;rintro E w7 ⟨v7,rfl,hB7,hb7⟩;obtain ⟨A7,c7,e7⟩:=hB7.form;subst e7;have B7:=Aside0.mk hB7;have L7:=Aside0.mk hb7;have BX7:=Aside0.mk (blk_below BX6.out hb7);have q0:w7.cell? ⟨X,0,none⟩=some (.string a0):=(blk_cell BX7.out 0).trans rfl;have q1:w7.cell? ⟨X,1,none⟩=some (.string a1):=(blk_cell BX7.out 1).trans rfl;have q2:w7.cell? ⟨X,2,none⟩=some (.int .i64 a2):=(blk_cell BX7.out 2).trans rfl;have q3:w7.cell? ⟨X,3,none⟩=some (.slice A3 l3.length c3):=(blk_cell BX7.out 3).trans rfl;have q4:w7.cell? ⟨X,4,none⟩=some (.slice A4 l4.length c4):=(blk_cell BX7.out 4).trans rfl;clear hB7 hb7))
 go_wp2
 go_ret
 exact ⟨_,rfl,BufM.lower B7.out L6.out.size,L6.out.trans (hbase2 L6.out.size L7.out)⟩
theorem http_WriteRequest.calls (k:Nat) (a0:ByteArray) (a1:ByteArray) (a2:Int) (A3:Option Addr) (c3:Nat) (l3:List (S36)) (A4:Option Addr) (c4:Nat) (l4:List Int) (r:List Int) (w:World) (hr3:Kd.C k36 w A3 l3.length l3) (hc3:l3.length ≤ c3) (hr4:Kd.C (Kd.int .u8) w A4 l4.length l4) (hc4:l4.length ≤ c4) (h:http_WriteRequest.f k a0 a1 a2 l3 l4=some r) (ht:Tabs w) :
 Calls Tryz.prog 24 #[.agg #[.string a0,.string a1,.int .i64 a2,.slice A3 l3.length c3,.slice A4 l4.length c4]] w fun e w' => ∃ v,e = .returned v∧Kd.B w' w.heap.size (fun _=>True) v r∧Below w.heap.size w w' := by
 refine (http_WriteRequest.callsB k a0 a1 a2 A3 c3 l3 A4 c4 l4 r w hr3 hc3 hr4 hc4 h ht).mono ?_
 rintro E w1 ⟨v,rfl,hB,hb⟩
 unfold http_WriteRequest.f at h
 obtain ⟨s,_,h'⟩:=Option.bind_eq_some_iff.1 h
 have hl:=http_write.len h'
 exact ⟨v,rfl,Kd.B_of hB hl.1 hl.2,hb⟩
def http_Host.l0:Nat → List ByteArray → Int → Int → Option (ByteArray)
 | 0,_,_,_=>none
 | k + 1,x9,x10,x11=>if x11 < x10 then (if 0 ≤ x11 then (if x11 < (x9.length:Int) then ((line_Host.f (rdOf ByteArray.empty x9 x11)).bind fun bt303=>(some bt303.1)) else (none)) else (none)) else (some (⟨#[]⟩:ByteArray))
def http_Host.f (k:Nat) (a0_0:ByteArray) (a0_1:ByteArray) (a0_2:Int) (l0_3:List (S36)) (l0_4:List Int):Option (ByteArray):=(field_Get.f k l0_3 (⟨#[72,111,115,116]⟩:ByteArray)).bind fun t299=>(http_Host.l0 k t299 (t299.length:Int) 0)
set_option maxHeartbeats 8000000 in
set_option maxRecDepth 100000 in
theorem http_Host.calls (k:Nat) (a0_0:ByteArray) (a0_1:ByteArray) (a0_2:Int) (A0_3:Option Addr) (c0_3:Nat) (l0_3:List (S36)) (A0_4:Option Addr) (c0_4:Nat) (l0_4:List Int) (r:ByteArray) (w:World) (hr0_3:Kd.C k36 w A0_3 l0_3.length l0_3) (hc0_3:l0_3.length ≤ c0_3) (hr0_4:Kd.C (Kd.int .u8) w A0_4 l0_4.length l0_4) (hc0_4:l0_4.length ≤ c0_4) (h:http_Host.f k a0_0 a0_1 a0_2 l0_3 l0_4=some r) :
 Calls Tryz.prog 19 #[.agg #[.string a0_0,.string a0_1,.int .i64 a0_2,.slice A0_3 l0_3.length c0_3,.slice A0_4 l0_4.length c0_4]] w fun e w' => e = .returned (.string r)∧Below w.heap.size w w' := by
 have hu26:=Tryz.underlying26
 have HR0_3:=Aside0.mk hr0_3
 have HC0_3:=Aside0.mk hc0_3
 clear hr0_3 hc0_3
 have HR0_4:=Aside0.mk hr0_4
 have HC0_4:=Aside0.mk hc0_4
 clear hr0_4 hc0_4
 have HB:=Aside0.mk (Below.refl w.heap.size w)
 unfold http_Host.f at h
 have H:=h
 clear h
 replace H:=Option.bind_eq_some_iff.mp H
 obtain ⟨t299,A20,H⟩:=H
 try dsimp only at H
 have A2:=Aside0.mk A20
 clear A20
 have H' := Aside0.mk H
 clear H
 go_enter Tryz.func19,Tryz.ntmps19
 go_wp2_with (first|((with_reducible refine gate_dst (N:=1) rfl ?_);refine box_event rfl (N:=1) rfl (cs:=#[.string a0_0,.string a0_1,.int .i64 a0_2,.slice A0_3 l0_3.length c0_3,.slice A0_4 l0_4.length c0_4]) (t:=26) zS ?_;intro gb298 hg w3 hbox hb;have GW298:=zG hg zb0;have GE298:=GW298;have BK298:=Aside0.mk hbox;replace HB:=Aside0.mk (below_step zb0 hb);clear hb hbox hg;obtain ⟨hcz4_0,hcz4_1,hcz4_2,hcz4_3,hcz4_4,hfz4_0,hfz4_1,hfz4_2,hfz4_3,hfz4_4⟩:=zq5 BK298.out)|((with_reducible refine gate_callee (f:=50) rfl ?_);refine goesL_ (some 9) rfl rfl Tryz.func50 zb8 rfl #[.slice A0_3 l0_3.length c0_3,.string (⟨#[72,111,115,116]⟩:ByteArray)] rfl zb1 ?_;(with_reducible refine (field_Get.calls k _ _ l0_3 (⟨#[72,111,115,116]⟩:ByteArray) t299 _ ?side1 ?side2 A2.out).mono ?_);(case side1=>exact zb70);(case side2=>exact HC0_3.out);rintro e w5 ⟨v300,rfl,ho0,hb⟩;(try clear A2);refine ⟨_,rfl,?_⟩;have HO301:=Aside0.mk (Kd.R_lower ho0 (below_size zb56));replace BK298:=Aside0.mk (blk_below (g:=gb298) (o:=.cells #[.string a0_0,.string a0_1,.int .i64 a0_2,.slice A0_3 l0_3.length c0_3,.slice A0_4 l0_4.length c0_4] 26 (0,0)) zb94 hb);replace HB:=Aside0.mk (below_step zb56 hb);try clear hb ho0;obtain ⟨Ao6,co6,eo6⟩:=Kd.R_slice HO301.out;subst eo6))
 go_loopg [11] k (fun kq v11 w' => ∃ (x11_1:Int),v11 = .int .i64 x11_1∧Aside0 (http_Host.l0 kq t299 (t299.length:Int) x11_1=some r)∧Aside0 (kq ≤ k)∧Aside0 (Kd.R Kd.string 9 w' w.heap.size (fun _=>True) (.slice Ao6 t299.length co6) t299)∧Aside0 (w'.heap[gb298]? = some (.cells #[.string a0_0,.string a0_1,.int .i64 a0_2,(.slice A0_3 l0_3.length c0_3),(.slice A0_4 l0_4.length c0_4)] 26 (0,0)))∧Aside0 (Below w.heap.size w w'))
 case atStart=>exact ⟨(0),zb6,H',⟨Nat.le_refl _⟩,⟨by (with_reducible repeat (first|apply Kd.R_alloc|apply Kd.R_drewN|apply Kd.R_drew));exact HO301.out⟩,⟨zb94⟩,⟨zb56⟩⟩
 case round =>
  clear H'
  try clear c1
  try clear p2
  try clear c5
  try clear hcz4_0
  try clear hcz4_1
  try clear hcz4_2
  try clear hcz4_3
  try clear hcz4_4
  try clear hfz4_0
  try clear hfz4_1
  try clear hfz4_2
  try clear hfz4_3
  try clear hfz4_4
  obtain ⟨x11_1,rfl,HA,HK1,HO_9,BK298,HB⟩:=hrel
  cases gk with
  | zero=>exact absurd HA.out (by simp [http_Host.l0])
  | succ k1 =>
   have H:=HA.out
   clear HA
   simp only [http_Host.l0] at H
   by_cases c7:x11_1 < (t299.length:Int);rotate_left
   ·rw [if_neg c7] at H
    have c7b0:=decide_eq_false c7
    clear c7
    obtain rfl:=Option.some.inj H
    go_wp2
    go_ret
    exact ⟨zb3,zb56⟩
   rw [if_pos c7] at H
   have c7b0:=decide_eq_true c7
   clear c7
   by_cases c8:0 ≤ x11_1
   ·rw [if_pos c8] at H
    have c8b0:=decide_eq_true c8
    clear c8
    by_cases c9:x11_1 < (t299.length:Int)
    ·rw [if_pos c9] at H
     have c9b0:=decide_eq_true c9
     clear c9
     replace H:=Option.bind_eq_some_iff.mp H
     obtain ⟨⟨t303,t304⟩,A100,H⟩:=H
     try dsimp only at H
     have A10:=Aside0.mk A100
     clear A100
     obtain rfl:=Option.some.inj H
     have p302:0 ≤ (x11_1:Int):=of_decide_eq_true zb4
     have q302:x11_1 < (t299.length:Int):=of_decide_eq_true zb4
     obtain ⟨ad302,e302,hx302_0⟩:=Kd.at_string (Kd.R_reads' HO_9.out).2.2 x11_1 p302 q302
     cases e302
     replace p302:=eq_true p302
     replace q302:=eq_true q302
     go_wp2_with (first|((with_reducible refine gate_callee (f:=51) rfl ?_);refine goesL_ (some 17) rfl rfl Tryz.func51 zb8 rfl #[.string (rdOf ByteArray.empty t299 x11_1)] rfl zb1 ?_;(with_reducible refine (line_Host.calls (rdOf ByteArray.empty t299 x11_1) t303 t304 _ A10.out).mono ?_);rintro e w11 ⟨rfl,hb⟩;(try clear A10);refine ⟨_,rfl,?_⟩;replace HO_9:=Aside0.mk (Kd.R_below (by (with_reducible repeat (first|apply Kd.R_alloc|apply Kd.R_drewN|apply Kd.R_drew));exact HO_9.out) hb);replace BK298:=Aside0.mk (blk_below (g:=gb298) (o:=.cells #[.string a0_0,.string a0_1,.int .i64 a0_2,.slice A0_3 l0_3.length c0_3,.slice A0_4 l0_4.length c0_4] 26 (0,0)) zb94 hb);replace HB:=Aside0.mk (below_step zb56 hb);(try clear hb)))
     go_ret
     exact ⟨zb3,zb56⟩
    ·rw [if_neg c9] at H
     exact absurd H zb42
   ·rw [if_neg c8] at H
    exact absurd H zb42
/-- The place of the first that a test takes,from a place on: -1: none. -/
def idxO {α:Type} (q:α → Option Bool):List α → Int → Option Int
 | [],_=>some (-1)
 | x :: r,i=>(q x).bind fun b=>if b=true then some i else idxO q r (i + 1)
/-- Does a test take one of them? -/
def anyO {α:Type} (q:α → Option Bool):List α → Option Bool
 | []=>some false
 | x :: r=>(q x).bind fun b=>if b=true then some true else anyO q r
theorem idxO_any {α:Type} (q:α → Option Bool) : ∀ (xs:List α) (i:Int) (b:Bool),0 ≤ i → anyO q xs=some b → ∃ j,idxO q xs i=some j∧decide (0 ≤ j)=b
 | [],i,b,_,h=>⟨-1,rfl,by simp only [anyO,Option.some.injEq] at h;rw [← h];rfl⟩
 | x :: r,i,b,hi,h=>by
  simp only [anyO] at h
  obtain ⟨c,hc,h⟩:=Option.bind_eq_some_iff.1 h
  simp only [idxO,hc,Option.bind_some]
  cases c
  ·simp only [Bool.false_eq_true,if_false] at h ⊢
   exact idxO_any q r (i + 1) b (by omega) h
  simp only [if_true,Option.some.injEq] at h ⊢
  exact ⟨i,rfl,by rw [← h];exact decide_eq_true hi⟩
theorem sl_base {w w1:World} {b g:Nat} (hg:b ≤ g) (h:Below g w w1):Below b w w1:=⟨h.os,h.tape,h.output,h.size,fun i hi=>h.block i (Nat.lt_of_lt_of_le hi hg)⟩
/-- What is asked of a test that is handed over: its answer,in every later world. -/
def TestOf (g:Nat) (lb:Array Value) (enc:ByteArray → Value) (q:ByteArray → Option Bool) (w:World):Prop :=
 ∀ (W:World) (x:ByteArray) (b:Bool),Below w.heap.size w W → q x=some b → Calls Tryz.prog g (#[enc x] ++ lb) W fun e w' => e = .returned (.bool b)∧Below W.heap.size W w'
set_option maxHeartbeats 4000000 in
set_option maxRecDepth 100000 in
theorem slices_IndexFunc_string_string.callsOf (q:ByteArray → Option Bool) (g:Nat) (lb:Array Value) (eg : ∀ args w,(callFunc g args).run Tryz.prog w = .ok (.enter g args) w) (A0:Option Addr) (c0:Nat) (l0:List ByteArray) (r:Int) (w:World) (hr0:Kd.C Kd.string w A0 l0.length l0) (hc0:l0.length ≤ c0)
 (hq:TestOf g lb Value.string q w) (h:idxO q l0 0=some r) :
 Calls Tryz.prog 135 #[.slice A0 l0.length c0,.func (.func g) #[] lb] w fun e w' => e = .returned (.int .i64 r)∧Below w.heap.size w w' := by
 have HR:=Aside0.mk hr0
 have HQ:=Aside0.mk hq
 have H0:=Aside0.mk (show idxO q (l0.drop (0:Int).toNat) 0=some r from h)
 have HM:=Aside0.mk (show l0.length ≤ 9223372036854775807 from hr0.2.1)
 clear hr0 hq h
 go_enter Tryz.func135,Tryz.ntmps135
 go_wp2
 go_loopg [5,8] l0.length (fun kq _ v8 wr => ∃ (x8:Int),v8 = .int .i64 x8∧Aside0 (0 ≤ x8∧x8 ≤ l0.length∧(l0.length:Int) - x8 ≤ kq)∧Aside0 (Below w.heap.size w wr)∧Aside0 (idxO q (l0.drop x8.toNat) x8=some r))
 case atStart=>exact ⟨0,rfl,⟨zb25⟩,⟨Below.refl _ w⟩,H0⟩
 case round =>
  obtain ⟨x8,rfl,HX,BW,HH⟩:=hrel
  clear H0
  by_cases c4:x8 < (l0.length:Int);rotate_left
  ·have c4b0:=decide_eq_false c4
   have hx:=HH.out
   rw [List.drop_of_length_le (by have:=HX.out;omega),idxO] at hx
   injection hx with hx
   clear c4
   go_wp2
   go_ret
   subst hx
   exact ⟨zb115,BW.out⟩
  have c4b0:=decide_eq_true c4
  have hx:=HH.out
  have hlt:x8.toNat < l0.length:=by have:=HX.out;omega
  rw [List.drop_eq_getElem_cons hlt,idxO] at hx
  obtain ⟨b,hb,hx⟩:=Option.bind_eq_some_iff.1 hx
  have hrd:rdOf ByteArray.empty l0 x8=l0[x8.toNat]:=by simp [rdOf,List.getD_eq_getElem?_getD,List.getElem?_eq_getElem hlt]
  have hcall:=HQ.out wr l0[x8.toNat] b BW.out hb
  rw [← hrd] at hcall
  obtain ⟨ad,he,hcell⟩:=Kd.at_string HR.out x8 HX.out.1 c4
  replace hcell:=(BW.out.cell (World.block_lt_of_cell? w _ hcell)).trans hcell
  obtain ⟨y,hy⟩ : ∃ y,rdOf ByteArray.empty l0 x8=y:=⟨_,rfl⟩
  rw [hy] at hcall hcell
  have HCALL:=Aside0.mk hcall
  have HN:=Aside0.mk hx
  have p8:(0 ≤ x8)=True:=eq_true HX.out.1
  have q8:(x8 < (l0.length:Int))=True:=eq_true c4
  clear hx hb hrd HH hy hcall c4
  subst he
  cases b with
  | true =>
   go_wp2_with (go_at_fn g;refine HCALL.out.mono ?_;rintro e w' ⟨rfl,hb'⟩)
   go_ret
   have hx:=HN.out
   simp only [if_true,Option.some.injEq] at hx
   subst hx
   exact ⟨zb115,BW.out.trans (sl_base (Below.size BW.out) hb')⟩
  | false =>
   go_wp2_with (go_at_fn g;refine HCALL.out.mono ?_;rintro e w' ⟨rfl,hb'⟩)
   go_roundg (gk - 1)
   case measure=>have:=HX.out;have:=of_eq_true q8;omega
   case rel =>
    have hx:=HN.out
    simp only [Bool.false_eq_true,if_false] at hx
    have hx8:=HX.out
    have hq8:=of_eq_true q8
    have hw:wrap64 (x8 + 1)=x8 + 1:=by have:=HM.out;unfold wrap64;omega
    refine ⟨wrap64 (x8 + 1),rfl,⟨by rw [hw];omega⟩,⟨BW.out.trans (sl_base (Below.size BW.out) hb')⟩,⟨?_⟩⟩
    rw [hw,show (x8 + 1).toNat=x8.toNat + 1 by omega]
    exact hx
set_option maxHeartbeats 4000000 in
set_option maxRecDepth 100000 in
theorem field_Has_1.callsOf (B:Nat) (part:ByteArray) (w:World) (hc:w.cell? ⟨B,0,none⟩=some (.string part)):TestOf 88 #[.pointer (some ⟨B,0,none⟩)] Value.string (fun p=>sign_Same.f p part) w:=fun W x b hb h=>by
 have hB:B < w.heap.size:=World.block_lt_of_cell? w _ hc
 have hcell:W.cell? ⟨B,0,none⟩=some (.string part):=(hb.cell (p:=⟨B,0,none⟩) hB).trans hc
 have HS:=Aside0.mk h
 clear hc h hb
 show Calls Tryz.prog 88 #[.string x,.pointer (some ⟨B,0,none⟩)] W _
 go_enter Tryz.func88,Tryz.ntmps88
 go_wp2_with (go_at_call 89;refine (sign_Same.calls x part b W HS.out).mono ?_;rintro e w' ⟨rfl,hb'⟩)
 go_ret
 exact ⟨rfl,hb'⟩
set_option maxHeartbeats 4000000 in
set_option maxRecDepth 100000 in
theorem slices_ContainsFunc_string_string.callsOf (q:ByteArray → Option Bool) (g:Nat) (lb:Array Value) (eg : ∀ args w,(callFunc g args).run Tryz.prog w = .ok (.enter g args) w) (A0:Option Addr) (c0:Nat) (l0:List ByteArray) (r:Bool) (w:World) (hr0:Kd.C Kd.string w A0 l0.length l0) (hc0:l0.length ≤ c0)
 (hq:TestOf g lb Value.string q w) (h:anyO q l0=some r) :
 Calls Tryz.prog 86 #[.slice A0 l0.length c0,.func (.func g) #[] lb] w fun e w' => e = .returned (.bool r)∧Below w.heap.size w w' := by
 obtain ⟨j,hj,hb⟩:=idxO_any q l0 0 r zb25 h
 have HC:=Aside0.mk (slices_IndexFunc_string_string.callsOf q g lb eg A0 c0 l0 j w hr0 hc0 hq hj)
 have HBB:=Aside0.mk hb
 clear hb hj h hq hr0 hc0 eg
 go_enter Tryz.func86,Tryz.ntmps86
 go_wp2_with (go_at_call 135;refine HC.out.mono ?_;rintro e w' ⟨rfl,hb'⟩)
 go_ret
 have e:=HBB.out
 subst e
 exact ⟨zb115,hb'⟩
def field_Has.f (k:Nat) (l0:List (S36)) (a1 a2:ByteArray):Option Bool:=(field_List.f k l0 a1).bind fun l=>anyO (fun p=>sign_Same.f p a2) l
set_option maxHeartbeats 4000000 in
set_option maxRecDepth 100000 in
theorem field_Has.calls (k:Nat) (A0:Option Addr) (c0:Nat) (l0:List (S36)) (a1:ByteArray) (a2:ByteArray) (r:Bool) (w:World) (hr0:Kd.C k36 w A0 l0.length l0) (hc0:l0.length ≤ c0) (h:field_Has.f k l0 a1 a2=some r) :
 Calls Tryz.prog 48 #[.slice A0 l0.length c0,.string a1,.string a2] w fun e w' => e = .returned (.bool r)∧Below w.heap.size w w' := by
 unfold field_Has.f at h
 obtain ⟨l,hl,h⟩:=Option.bind_eq_some_iff.1 h
 have HR:=Aside0.mk hr0
 have HC:=Aside0.mk hc0
 have HL:=Aside0.mk hl
 have HA:=Aside0.mk h
 have eg : ∀ args w,(callFunc 88 args).run Tryz.prog w = .ok (.enter 88 args) w:=enters_of Tryz.func88 zb8 rfl
 have EG:=Aside0.mk eg
 clear hr0 hc0 hl h eg
 have hcell:(w.alloc (.cells #[.string a2] 9)).cell? ⟨w.heap.size,0,none⟩=some (.string a2):=(blk_cell (blk_new w _) 0).trans rfl
 go_enter Tryz.func48,Tryz.ntmps48
 go_wp2_with (first
  | (go_at_call 87;refine (field_List.calls k A0 c0 l0 a1 l _ (Kd.C_alloc HR.out _) HC.out HL.out).mono ?_;rintro e w1 ⟨v,rfl,hR,hb⟩;obtain ⟨A1,c1,rfl,hc1,hC1⟩:=Kd.R_reads hR;have HC1:=Aside0.mk hC1;have HB1:=Aside0.mk hb;have hcell1:=pw_cell_below hb hcell;clear hR hC1 hb)
  | (go_at_call 86;refine (slices_ContainsFunc_string_string.callsOf (fun p=>sign_Same.f p a2) 88 #[.pointer (some ⟨w.heap.size,0,none⟩)] EG.out A1 c1 l r _ HC1.out hc1 (field_Has_1.callsOf w.heap.size a2 _ hcell1) HA.out).mono ?_;rintro e w2 ⟨rfl,hb2⟩))
 go_ret
 exact ⟨rfl,((Below.refl _ w).alloc (Nat.le_refl _) _).trans (sl_base zb42 (HB1.out.trans (sl_base HB1.out.size hb2)))⟩
def http_Waits.f (k:Nat) (l0:List Int):Option (Bool):=(http_open.f k l0).bind fun bt277=>(if bt277.2.2.2.2.2.1=0 then (some false) else (if bt277.2.2.2.2.2.2.2.2=0 then (if bt277.2.2.1=0 then (some false) else ((field_Has.f k bt277.2.2.2.1 (⟨#[69,120,112,101,99,116]⟩:ByteArray) (⟨#[49,48,48,45,99,111,110,116,105,110,117,101]⟩:ByteArray)).bind fun t291=>(if t291=true then (if 0 ≤ bt277.2.2.2.2.2.1 then (if bt277.2.2.2.2.2.1 ≤ (l0.length:Int) then ((http_body.f k (l0.drop (bt277.2.2.2.2.2.1:Int).toNat) bt277.2.2.2.2.2.2.1 bt277.2.2.2.2.2.2.2.1).bind fun bt293=>(if bt293.2.1 < 0 then (some (bt293.2.2 == 0)) else (some false))) else (none)) else (none)) else (some false)))) else (some false)))
set_option maxHeartbeats 8000000 in
set_option maxRecDepth 100000 in
theorem http_Waits.calls (k:Nat) (A0:Option Addr) (c0:Nat) (l0:List Int) (r:Bool) (w:World) (hr0:Kd.C (Kd.int .u8) w A0 l0.length l0) (hc0:l0.length ≤ c0) (h:http_Waits.f k l0=some r) :
 Calls Tryz.prog 17 #[.slice A0 l0.length c0] w fun e w' => e = .returned (.bool r)∧Below w.heap.size w w' := by
 have hu26:=Tryz.underlying26
 have HR0:=Aside0.mk hr0
 have HC0:=Aside0.mk hc0
 clear hr0 hc0
 have HB:=Aside0.mk (Below.refl w.heap.size w)
 unfold http_Waits.f at h
 have H:=h
 clear h
 replace H:=Option.bind_eq_some_iff.mp H
 obtain ⟨⟨t52,t56,t54,t55,t57,t53,t59,t60,t61⟩,A20,H⟩:=H
 try dsimp only at H
 have A2:=Aside0.mk A20
 clear A20
 by_cases c3:t53=0
 ·rw [if_pos c3] at H
  have c3b0:=beq_iff_eq.mpr c3
  have c3b1:=bne_eq_false_iff_eq.mpr c3
  clear c3
  obtain rfl:=Option.some.inj H
  go_enter Tryz.func17,Tryz.ntmps17
  go_wp2_with (first|((with_reducible refine gate_callee (f:=44) rfl ?_);refine goesL_ (some 12) rfl rfl Tryz.func44 zb8 rfl #[.slice A0 l0.length c0] rfl zb1 ?_;(with_reducible refine (http_open.calls k _ _ l0 t52 t56 t54 t55 t57 t53 t59 t60 t61 _ ?side1 ?side2 A2.out).mono ?_);(case side1=>exact zb17);(case side2=>exact HC0.out);rintro e w4 ⟨v66,v67,rfl,ho0,ho1,hb⟩;(try clear A2);refine ⟨_,rfl,?_⟩;have HO50:=Aside0.mk (Kd.R_lower ho0 (below_size zb0));have HO51:=Aside0.mk (Kd.R_lower ho1 (below_size zb0));replace HB:=Aside0.mk (below_step zb0 hb);try clear hb ho0 ho1)|((with_reducible refine gate_dst (N:=3) rfl ?_);refine box_event rfl (N:=3) rfl (cs:=#[.string (⟨#[]⟩:ByteArray),.string (⟨#[]⟩:ByteArray),.int .i64 0,.slice none 0 0,.slice none 0 0]) (t:=26) zS ?_;intro gb49 hg w5 hbox hb;replace HO50:=Aside0.mk (Kd.R_below zb59 hb);replace HO51:=Aside0.mk (Kd.R_below zb33 hb);have BK49:=Aside0.mk (hbox);have GW49:=zG hg zb0;have GE49:=GW49;replace HB:=Aside0.mk (below_step zb0 hb);clear hb hbox hg;obtain ⟨hcz6_0,hcz6_1,hcz6_2,hcz6_3,hcz6_4,hfz6_0,hfz6_1,hfz6_2,hfz6_3,hfz6_4⟩:=zq5 BK49.out;obtain ⟨Ao7,co7,eo7⟩:=Kd.R_slice HO50.out;subst eo7;obtain ⟨Ao8,co8,eo8⟩:=Kd.R_slice HO51.out;subst eo8))
  go_ret
  exact ⟨zb3,zb24⟩
 rw [if_neg c3] at H
 have c3b0:=beq_eq_false_iff_ne.mpr c3
 have c3b1:=bne_iff_ne.mpr c3
 by_cases c9:t61=0;rotate_left
 ·rw [if_neg c9] at H
  have c9b0:=beq_eq_false_iff_ne.mpr c9
  have c9b1:=bne_iff_ne.mpr c9
  obtain rfl:=Option.some.inj H
  go_enter Tryz.func17,Tryz.ntmps17
  go_wp2_with (first|((with_reducible refine gate_callee (f:=44) rfl ?_);refine goesL_ (some 12) rfl rfl Tryz.func44 zb8 rfl #[.slice A0 l0.length c0] rfl zb1 ?_;(with_reducible refine (http_open.calls k _ _ l0 t52 t56 t54 t55 t57 t53 t59 t60 t61 _ ?side1 ?side2 A2.out).mono ?_);(case side1=>exact zb17);(case side2=>exact HC0.out);rintro e w44 ⟨v66,v67,rfl,ho0,ho1,hb⟩;(try clear A2);refine ⟨_,rfl,?_⟩;have HO50:=Aside0.mk (Kd.R_lower ho0 (below_size zb0));have HO51:=Aside0.mk (Kd.R_lower ho1 (below_size zb0));replace HB:=Aside0.mk (below_step zb0 hb);try clear hb ho0 ho1)|((with_reducible refine gate_dst (N:=3) rfl ?_);refine box_event rfl (N:=3) rfl (cs:=#[.string (⟨#[]⟩:ByteArray),.string (⟨#[]⟩:ByteArray),.int .i64 0,.slice none 0 0,.slice none 0 0]) (t:=26) zS ?_;intro gb49 hg w45 hbox hb;replace HO50:=Aside0.mk (Kd.R_below zb59 hb);replace HO51:=Aside0.mk (Kd.R_below zb33 hb);have BK49:=Aside0.mk (hbox);have GW49:=zG hg zb0;have GE49:=GW49;replace HB:=Aside0.mk (below_step zb0 hb);clear hb hbox hg;obtain ⟨hcz46_0,hcz46_1,hcz46_2,hcz46_3,hcz46_4,hfz46_0,hfz46_1,hfz46_2,hfz46_3,hfz46_4⟩:=zq5 BK49.out;obtain ⟨Ao47,co47,eo47⟩:=Kd.R_slice HO50.out;subst eo47;obtain ⟨Ao48,co48,eo48⟩:=Kd.R_slice HO51.out;subst eo48))
  go_ret
  exact ⟨zb3,zb24⟩
 rw [if_pos c9] at H
 have c9b0:=beq_iff_eq.mpr c9
 have c9b1:=bne_eq_false_iff_eq.mpr c9
 clear c9
 by_cases c10:t54=0
 ·rw [if_pos c10] at H
  have c10b0:=beq_iff_eq.mpr c10
  have c10b1:=bne_eq_false_iff_eq.mpr c10
  clear c10
  obtain rfl:=Option.some.inj H
  go_enter Tryz.func17,Tryz.ntmps17
  go_wp2_with (first|((with_reducible refine gate_callee (f:=44) rfl ?_);refine goesL_ (some 12) rfl rfl Tryz.func44 zb8 rfl #[.slice A0 l0.length c0] rfl zb1 ?_;(with_reducible refine (http_open.calls k _ _ l0 t52 t56 t54 t55 t57 t53 t59 t60 t61 _ ?side1 ?side2 A2.out).mono ?_);(case side1=>exact zb17);(case side2=>exact HC0.out);rintro e w11 ⟨v66,v67,rfl,ho0,ho1,hb⟩;(try clear A2);refine ⟨_,rfl,?_⟩;have HO50:=Aside0.mk (Kd.R_lower ho0 (below_size zb0));have HO51:=Aside0.mk (Kd.R_lower ho1 (below_size zb0));replace HB:=Aside0.mk (below_step zb0 hb);try clear hb ho0 ho1)|((with_reducible refine gate_dst (N:=3) rfl ?_);refine box_event rfl (N:=3) rfl (cs:=#[.string (⟨#[]⟩:ByteArray),.string (⟨#[]⟩:ByteArray),.int .i64 0,.slice none 0 0,.slice none 0 0]) (t:=26) zS ?_;intro gb49 hg w12 hbox hb;replace HO50:=Aside0.mk (Kd.R_below zb59 hb);replace HO51:=Aside0.mk (Kd.R_below zb33 hb);have BK49:=Aside0.mk (hbox);have GW49:=zG hg zb0;have GE49:=GW49;replace HB:=Aside0.mk (below_step zb0 hb);clear hb hbox hg;obtain ⟨hcz13_0,hcz13_1,hcz13_2,hcz13_3,hcz13_4,hfz13_0,hfz13_1,hfz13_2,hfz13_3,hfz13_4⟩:=zq5 BK49.out;obtain ⟨Ao14,co14,eo14⟩:=Kd.R_slice HO50.out;subst eo14;obtain ⟨Ao15,co15,eo15⟩:=Kd.R_slice HO51.out;subst eo15))
  go_ret
  exact ⟨zb3,zb24⟩
 rw [if_neg c10] at H
 have c10b0:=beq_eq_false_iff_ne.mpr c10
 have c10b1:=bne_iff_ne.mpr c10
 replace H:=Option.bind_eq_some_iff.mp H
 obtain ⟨t63,A71,H⟩:=H
 try dsimp only at H
 have A16:=Aside0.mk A71
 clear A71
 by_cases c17:t63=true
 ·subst c17
  rw [if_pos rfl] at H
  by_cases c18:0 ≤ t53;rotate_left
  ·rw [if_neg c18] at H
   exact absurd H zb42
  rw [if_pos c18] at H
  have c18b0:=eq_true c18
  have c18b1:=decide_eq_true c18
  clear c18
  by_cases c19:t53 ≤ (l0.length:Int)
  ·rw [if_pos c19] at H
   have c19b0:=eq_true c19
   have c19b1:=decide_eq_true c19
   clear c19
   replace H:=Option.bind_eq_some_iff.mp H
   obtain ⟨⟨t58,t65,t70⟩,A72,H⟩:=H
   try dsimp only at H
   have A20:=Aside0.mk A72
   clear A72
   by_cases c21:t65 < 0
   ·rw [if_pos c21] at H
    have c21b0:=decide_eq_true c21
    clear c21
    obtain rfl:=Option.some.inj H
    go_enter Tryz.func17,Tryz.ntmps17
    go_wp2_with (first|((with_reducible refine gate_callee (f:=44) rfl ?_);refine goesL_ (some 12) rfl rfl Tryz.func44 zb8 rfl #[.slice A0 l0.length c0] rfl zb1 ?_;(with_reducible refine (http_open.calls k _ _ l0 t52 t56 t54 t55 t57 t53 t59 t60 t61 _ ?side1 ?side2 A2.out).mono ?_);(case side1=>exact zb17);(case side2=>exact HC0.out);rintro e w22 ⟨v66,v67,rfl,ho0,ho1,hb⟩;(try clear A2);refine ⟨_,rfl,?_⟩;have HO50:=Aside0.mk (Kd.R_lower ho0 (below_size zb0));have HO51:=Aside0.mk (Kd.R_lower ho1 (below_size zb0));replace HB:=Aside0.mk (below_step zb0 hb);try clear hb ho0 ho1)|((with_reducible refine gate_dst (N:=3) rfl ?_);refine box_event rfl (N:=3) rfl (cs:=#[.string (⟨#[]⟩:ByteArray),.string (⟨#[]⟩:ByteArray),.int .i64 0,.slice none 0 0,.slice none 0 0]) (t:=26) zS ?_;intro gb49 hg w23 hbox hb;replace HO50:=Aside0.mk (Kd.R_below zb59 hb);replace HO51:=Aside0.mk (Kd.R_below zb33 hb);have BK49:=Aside0.mk (hbox);have GW49:=zG hg zb0;have GE49:=GW49;replace HB:=Aside0.mk (below_step zb0 hb);clear hb hbox hg;obtain ⟨hcz24_0,hcz24_1,hcz24_2,hcz24_3,hcz24_4,hfz24_0,hfz24_1,hfz24_2,hfz24_3,hfz24_4⟩:=zq5 BK49.out;obtain ⟨Ao25,co25,eo25⟩:=Kd.R_slice HO50.out;subst eo25;obtain ⟨Ao26,co26,eo26⟩:=Kd.R_slice HO51.out;subst eo26)|(go_at_call 48;(with_reducible refine (field_Has.calls k _ _ t55 (⟨#[69,120,112,101,99,116]⟩:ByteArray) (⟨#[49,48,48,45,99,111,110,116,105,110,117,101]⟩:ByteArray) true _ ?side1 ?side2 A16.out).mono ?_);(case side1=>refine (Kd.R_reads' (e:=36) (base:=w.heap.size) (ok:=fun k_=>True) (n:=t55.length) (c:=co25) ?_).2.2;exact zb44);(case side2=>exact (Kd.R_reads' HO50.out).2.1);rintro e w27 ⟨rfl,hb⟩;(try clear A16);replace HO50:=Aside0.mk (Kd.R_below zb44 hb);replace HO51:=Aside0.mk (Kd.R_below (by (with_reducible repeat (first|apply Kd.R_alloc|apply Kd.R_drewN|apply Kd.R_drew));exact (Kd.R_mono (Kd.R_far (p:=⟨gb49,4,none⟩) (Kd.R_far (p:=⟨gb49,3,none⟩) (Kd.R_far (p:=⟨gb49,2,none⟩) (Kd.R_far (p:=⟨gb49,1,none⟩) (Kd.R_far (p:=⟨gb49,0,none⟩) (Kd.R_types HO51.out BK49.out (by decide)) (fun _ hk=>hk.2) (.string t52)) (fun _ hk=>hk.2) (.string t56)) (fun _ hk=>hk.2) (.int .i64 t54)) (fun _ hk=>hk.2) (.slice Ao25 t55.length co25)) (fun _ hk=>hk.2) (.slice Ao26 t57.length co26)) (fun _ h_=>h_.1))) hb);replace BK49:=Aside0.mk (blk_below (g:=gb49) (o:=.cells #[.string t52,.string t56,.int .i64 t54,.slice Ao25 t55.length co25,.slice Ao26 t57.length co26] 26 (0,0)) (by (with_reducible repeat (first|refine blk_drewN ?_ _|refine blk_drew ?_|refine blk_alloc ?_ _));refine blk_put (cs:=#[.string t52,.string t56,.int .i64 t54,.slice Ao25 t55.length co25,.slice none 0 0]) ?_ 4 _ rfl;(with_reducible repeat (first|refine blk_drewN ?_ _|refine blk_drew ?_|refine blk_alloc ?_ _));refine blk_put (cs:=#[.string t52,.string t56,.int .i64 t54,.slice none 0 0,.slice none 0 0]) ?_ 3 _ rfl;(with_reducible repeat (first|refine blk_drewN ?_ _|refine blk_drew ?_|refine blk_alloc ?_ _));refine blk_put (cs:=#[.string t52,.string t56,.int .i64 0,.slice none 0 0,.slice none 0 0]) ?_ 2 _ rfl;(with_reducible repeat (first|refine blk_drewN ?_ _|refine blk_drew ?_|refine blk_alloc ?_ _));refine blk_put (cs:=#[.string t52,.string (⟨#[]⟩:ByteArray),.int .i64 0,.slice none 0 0,.slice none 0 0]) ?_ 1 _ rfl;(with_reducible repeat (first|refine blk_drewN ?_ _|refine blk_drew ?_|refine blk_alloc ?_ _));refine blk_put (cs:=#[.string (⟨#[]⟩:ByteArray),.string (⟨#[]⟩:ByteArray),.int .i64 0,.slice none 0 0,.slice none 0 0]) ?_ 0 _ rfl;(with_reducible repeat (first|refine blk_drewN ?_ _|refine blk_drew ?_|refine blk_alloc ?_ _));exact BK49.out) hb);replace HB:=Aside0.mk (below_step zb24 hb);(try clear hb);obtain ⟨i68,hi68,_,hsz28,_⟩:=info_parts info5;obtain ⟨A28,hcut28,hA28,hC28⟩:=print_drop_of (P:=Tryz.prog) (Value.int .u8) 0 22 5 .i64 Tryz.underlying22 hi68 hsz28 A0 c0 l0 t53 (of_decide_eq_true zb4) (of_decide_eq_true zb4) HC0.out;have HR62:=Aside0.mk (Kd.C_of_reads (h1:=fun _=>rfl) (hA28 _ (Kd.reads_of_C HR0.out)));have HC62:=Aside0.mk hC28;clear hA28 hC28 hi68 hsz28)|((with_reducible refine gate_callee (f:=45) rfl ?_);refine goesL_ (some 41) rfl rfl Tryz.func45 zb8 rfl #[.slice A28 (l0.drop (t53:Int).toNat).length (c0 - t53.toNat),.int .i64 t59,.bool t60] rfl zb83 ?_;(with_reducible refine (http_body.calls k _ _ (l0.drop (t53:Int).toNat) t59 t60 t58 t65 t70 _ ?side1 ?side2 A20.out).mono ?_);(case side1=>exact zb103);(case side2=>exact HC62.out);rintro e w29 ⟨v73,rfl,ho0,hb⟩;(try clear A20);refine ⟨_,rfl,?_⟩;replace HO50:=Aside0.mk (Kd.R_below zb59 hb);have HO74:=Aside0.mk (Kd.R_lower (Kd.R_new' ho0 (Kd.R_lt zb33)) (below_size zb24));replace HO51:=Aside0.mk (Kd.R_elder' zb33 (Kd.R_base ho0) hb);replace BK49:=Aside0.mk (blk_below (g:=gb49) (o:=.cells #[.string t52,.string t56,.int .i64 t54,.slice Ao25 t55.length co25,.slice Ao26 t57.length co26] 26 (0,0)) (by (with_reducible repeat (first|refine blk_drewN ?_ _|refine blk_drew ?_|refine blk_alloc ?_ _));exact BK49.out) hb);replace HB:=Aside0.mk (below_step zb24 hb);try clear hb ho0))
    go_ret
    exact ⟨zb3,zb24⟩
   rw [if_neg c21] at H
   have c21b0:=decide_eq_false c21
   clear c21
   obtain rfl:=Option.some.inj H
   go_enter Tryz.func17,Tryz.ntmps17
   go_wp2_with (first|((with_reducible refine gate_callee (f:=44) rfl ?_);refine goesL_ (some 12) rfl rfl Tryz.func44 zb8 rfl #[.slice A0 l0.length c0] rfl zb1 ?_;(with_reducible refine (http_open.calls k _ _ l0 t52 t56 t54 t55 t57 t53 t59 t60 t61 _ ?side1 ?side2 A2.out).mono ?_);(case side1=>exact zb17);(case side2=>exact HC0.out);rintro e w30 ⟨v66,v67,rfl,ho0,ho1,hb⟩;(try clear A2);refine ⟨_,rfl,?_⟩;have HO50:=Aside0.mk (Kd.R_lower ho0 (below_size zb0));have HO51:=Aside0.mk (Kd.R_lower ho1 (below_size zb0));replace HB:=Aside0.mk (below_step zb0 hb);try clear hb ho0 ho1)|((with_reducible refine gate_dst (N:=3) rfl ?_);refine box_event rfl (N:=3) rfl (cs:=#[.string (⟨#[]⟩:ByteArray),.string (⟨#[]⟩:ByteArray),.int .i64 0,.slice none 0 0,.slice none 0 0]) (t:=26) zS ?_;intro gb49 hg w31 hbox hb;replace HO50:=Aside0.mk (Kd.R_below zb59 hb);replace HO51:=Aside0.mk (Kd.R_below zb33 hb);have BK49:=Aside0.mk (hbox);have GW49:=zG hg zb0;have GE49:=GW49;replace HB:=Aside0.mk (below_step zb0 hb);clear hb hbox hg;obtain ⟨hcz32_0,hcz32_1,hcz32_2,hcz32_3,hcz32_4,hfz32_0,hfz32_1,hfz32_2,hfz32_3,hfz32_4⟩:=zq5 BK49.out;obtain ⟨Ao33,co33,eo33⟩:=Kd.R_slice HO50.out;subst eo33;obtain ⟨Ao34,co34,eo34⟩:=Kd.R_slice HO51.out;subst eo34)|(go_at_call 48;(with_reducible refine (field_Has.calls k _ _ t55 (⟨#[69,120,112,101,99,116]⟩:ByteArray) (⟨#[49,48,48,45,99,111,110,116,105,110,117,101]⟩:ByteArray) true _ ?side1 ?side2 A16.out).mono ?_);(case side1=>refine (Kd.R_reads' (e:=36) (base:=w.heap.size) (ok:=fun k_=>True) (n:=t55.length) (c:=co33) ?_).2.2;exact zb45);(case side2=>exact (Kd.R_reads' HO50.out).2.1);rintro e w35 ⟨rfl,hb⟩;(try clear A16);replace HO50:=Aside0.mk (Kd.R_below zb45 hb);replace HO51:=Aside0.mk (Kd.R_below (by (with_reducible repeat (first|apply Kd.R_alloc|apply Kd.R_drewN|apply Kd.R_drew));exact (Kd.R_mono (Kd.R_far (p:=⟨gb49,4,none⟩) (Kd.R_far (p:=⟨gb49,3,none⟩) (Kd.R_far (p:=⟨gb49,2,none⟩) (Kd.R_far (p:=⟨gb49,1,none⟩) (Kd.R_far (p:=⟨gb49,0,none⟩) (Kd.R_types HO51.out BK49.out (by decide)) (fun _ hk=>hk.2) (.string t52)) (fun _ hk=>hk.2) (.string t56)) (fun _ hk=>hk.2) (.int .i64 t54)) (fun _ hk=>hk.2) (.slice Ao33 t55.length co33)) (fun _ hk=>hk.2) (.slice Ao34 t57.length co34)) (fun _ h_=>h_.1))) hb);replace BK49:=Aside0.mk (blk_below (g:=gb49) (o:=.cells #[.string t52,.string t56,.int .i64 t54,.slice Ao33 t55.length co33,.slice Ao34 t57.length co34] 26 (0,0)) (by (with_reducible repeat (first|refine blk_drewN ?_ _|refine blk_drew ?_|refine blk_alloc ?_ _));refine blk_put (cs:=#[.string t52,.string t56,.int .i64 t54,.slice Ao33 t55.length co33,.slice none 0 0]) ?_ 4 _ rfl;(with_reducible repeat (first|refine blk_drewN ?_ _|refine blk_drew ?_|refine blk_alloc ?_ _));refine blk_put (cs:=#[.string t52,.string t56,.int .i64 t54,.slice none 0 0,.slice none 0 0]) ?_ 3 _ rfl;(with_reducible repeat (first|refine blk_drewN ?_ _|refine blk_drew ?_|refine blk_alloc ?_ _));refine blk_put (cs:=#[.string t52,.string t56,.int .i64 0,.slice none 0 0,.slice none 0 0]) ?_ 2 _ rfl;(with_reducible repeat (first|refine blk_drewN ?_ _|refine blk_drew ?_|refine blk_alloc ?_ _));refine blk_put (cs:=#[.string t52,.string (⟨#[]⟩:ByteArray),.int .i64 0,.slice none 0 0,.slice none 0 0]) ?_ 1 _ rfl;(with_reducible repeat (first|refine blk_drewN ?_ _|refine blk_drew ?_|refine blk_alloc ?_ _));refine blk_put (cs:=#[.string (⟨#[]⟩:ByteArray),.string (⟨#[]⟩:ByteArray),.int .i64 0,.slice none 0 0,.slice none 0 0]) ?_ 0 _ rfl;(with_reducible repeat (first|refine blk_drewN ?_ _|refine blk_drew ?_|refine blk_alloc ?_ _));exact BK49.out) hb);replace HB:=Aside0.mk (below_step zb24 hb);(try clear hb);obtain ⟨i69,hi69,_,hsz36,_⟩:=info_parts info5;obtain ⟨A36,hcut36,hA36,hC36⟩:=print_drop_of (P:=Tryz.prog) (Value.int .u8) 0 22 5 .i64 Tryz.underlying22 hi69 hsz36 A0 c0 l0 t53 (of_decide_eq_true zb4) (of_decide_eq_true zb4) HC0.out;have HR62:=Aside0.mk (Kd.C_of_reads (h1:=fun _=>rfl) (hA36 _ (Kd.reads_of_C HR0.out)));have HC62:=Aside0.mk hC36;clear hA36 hC36 hi69 hsz36)|((with_reducible refine gate_callee (f:=45) rfl ?_);refine goesL_ (some 41) rfl rfl Tryz.func45 zb8 rfl #[.slice A36 (l0.drop (t53:Int).toNat).length (c0 - t53.toNat),.int .i64 t59,.bool t60] rfl zb83 ?_;(with_reducible refine (http_body.calls k _ _ (l0.drop (t53:Int).toNat) t59 t60 t58 t65 t70 _ ?side1 ?side2 A20.out).mono ?_);(case side1=>exact zb103);(case side2=>exact HC62.out);rintro e w37 ⟨v73,rfl,ho0,hb⟩;(try clear A20);refine ⟨_,rfl,?_⟩;replace HO50:=Aside0.mk (Kd.R_below zb59 hb);have HO74:=Aside0.mk (Kd.R_lower (Kd.R_new' ho0 (Kd.R_lt zb33)) (below_size zb24));replace HO51:=Aside0.mk (Kd.R_elder' zb33 (Kd.R_base ho0) hb);replace BK49:=Aside0.mk (blk_below (g:=gb49) (o:=.cells #[.string t52,.string t56,.int .i64 t54,.slice Ao33 t55.length co33,.slice Ao34 t57.length co34] 26 (0,0)) (by (with_reducible repeat (first|refine blk_drewN ?_ _|refine blk_drew ?_|refine blk_alloc ?_ _));exact BK49.out) hb);replace HB:=Aside0.mk (below_step zb24 hb);try clear hb ho0))
   go_ret
   exact ⟨zb3,zb24⟩
  ·rw [if_neg c19] at H
   exact absurd H zb42
 ·replace c17:=Bool.eq_false_iff.mpr c17
  subst c17
  rw [if_neg (show ¬ (false=true) by decide)] at H
  obtain rfl:=Option.some.inj H
  go_enter Tryz.func17,Tryz.ntmps17
  go_wp2_with (first|((with_reducible refine gate_callee (f:=44) rfl ?_);refine goesL_ (some 12) rfl rfl Tryz.func44 zb8 rfl #[.slice A0 l0.length c0] rfl zb1 ?_;(with_reducible refine (http_open.calls k _ _ l0 t52 t56 t54 t55 t57 t53 t59 t60 t61 _ ?side1 ?side2 A2.out).mono ?_);(case side1=>exact zb17);(case side2=>exact HC0.out);rintro e w38 ⟨v66,v67,rfl,ho0,ho1,hb⟩;(try clear A2);refine ⟨_,rfl,?_⟩;have HO50:=Aside0.mk (Kd.R_lower ho0 (below_size zb0));have HO51:=Aside0.mk (Kd.R_lower ho1 (below_size zb0));replace HB:=Aside0.mk (below_step zb0 hb);try clear hb ho0 ho1)|((with_reducible refine gate_dst (N:=3) rfl ?_);refine box_event rfl (N:=3) rfl (cs:=#[.string (⟨#[]⟩:ByteArray),.string (⟨#[]⟩:ByteArray),.int .i64 0,.slice none 0 0,.slice none 0 0]) (t:=26) zS ?_;intro gb49 hg w39 hbox hb;replace HO50:=Aside0.mk (Kd.R_below zb59 hb);replace HO51:=Aside0.mk (Kd.R_below zb33 hb);have BK49:=Aside0.mk (hbox);have GW49:=zG hg zb0;have GE49:=GW49;replace HB:=Aside0.mk (below_step zb0 hb);clear hb hbox hg;obtain ⟨hcz40_0,hcz40_1,hcz40_2,hcz40_3,hcz40_4,hfz40_0,hfz40_1,hfz40_2,hfz40_3,hfz40_4⟩:=zq5 BK49.out;obtain ⟨Ao41,co41,eo41⟩:=Kd.R_slice HO50.out;subst eo41;obtain ⟨Ao42,co42,eo42⟩:=Kd.R_slice HO51.out;subst eo42)|(go_at_call 48;(with_reducible refine (field_Has.calls k _ _ t55 (⟨#[69,120,112,101,99,116]⟩:ByteArray) (⟨#[49,48,48,45,99,111,110,116,105,110,117,101]⟩:ByteArray) false _ ?side1 ?side2 A16.out).mono ?_);(case side1=>refine (Kd.R_reads' (e:=36) (base:=w.heap.size) (ok:=fun k_=>True) (n:=t55.length) (c:=co41) ?_).2.2;exact zb46);(case side2=>exact (Kd.R_reads' HO50.out).2.1);rintro e w43 ⟨rfl,hb⟩;(try clear A16);replace HO50:=Aside0.mk (Kd.R_below zb46 hb);replace HO51:=Aside0.mk (Kd.R_below (by (with_reducible repeat (first|apply Kd.R_alloc|apply Kd.R_drewN|apply Kd.R_drew));exact (Kd.R_mono (Kd.R_far (p:=⟨gb49,4,none⟩) (Kd.R_far (p:=⟨gb49,3,none⟩) (Kd.R_far (p:=⟨gb49,2,none⟩) (Kd.R_far (p:=⟨gb49,1,none⟩) (Kd.R_far (p:=⟨gb49,0,none⟩) (Kd.R_types HO51.out BK49.out (by decide)) (fun _ hk=>hk.2) (.string t52)) (fun _ hk=>hk.2) (.string t56)) (fun _ hk=>hk.2) (.int .i64 t54)) (fun _ hk=>hk.2) (.slice Ao41 t55.length co41)) (fun _ hk=>hk.2) (.slice Ao42 t57.length co42)) (fun _ h_=>h_.1))) hb);replace BK49:=Aside0.mk (blk_below (g:=gb49) (o:=.cells #[.string t52,.string t56,.int .i64 t54,.slice Ao41 t55.length co41,.slice Ao42 t57.length co42] 26 (0,0)) (by (with_reducible repeat (first|refine blk_drewN ?_ _|refine blk_drew ?_|refine blk_alloc ?_ _));refine blk_put (cs:=#[.string t52,.string t56,.int .i64 t54,.slice Ao41 t55.length co41,.slice none 0 0]) ?_ 4 _ rfl;(with_reducible repeat (first|refine blk_drewN ?_ _|refine blk_drew ?_|refine blk_alloc ?_ _));refine blk_put (cs:=#[.string t52,.string t56,.int .i64 t54,.slice none 0 0,.slice none 0 0]) ?_ 3 _ rfl;(with_reducible repeat (first|refine blk_drewN ?_ _|refine blk_drew ?_|refine blk_alloc ?_ _));refine blk_put (cs:=#[.string t52,.string t56,.int .i64 0,.slice none 0 0,.slice none 0 0]) ?_ 2 _ rfl;(with_reducible repeat (first|refine blk_drewN ?_ _|refine blk_drew ?_|refine blk_alloc ?_ _));refine blk_put (cs:=#[.string t52,.string (⟨#[]⟩:ByteArray),.int .i64 0,.slice none 0 0,.slice none 0 0]) ?_ 1 _ rfl;(with_reducible repeat (first|refine blk_drewN ?_ _|refine blk_drew ?_|refine blk_alloc ?_ _));refine blk_put (cs:=#[.string (⟨#[]⟩:ByteArray),.string (⟨#[]⟩:ByteArray),.int .i64 0,.slice none 0 0,.slice none 0 0]) ?_ 0 _ rfl;(with_reducible repeat (first|refine blk_drewN ?_ _|refine blk_drew ?_|refine blk_alloc ?_ _));exact BK49.out) hb);replace HB:=Aside0.mk (below_step zb24 hb);(try clear hb)))
  go_ret
  exact ⟨zb3,zb24⟩
end Go.Proofs.YtagffbblalldiaaGreatDoor.P
