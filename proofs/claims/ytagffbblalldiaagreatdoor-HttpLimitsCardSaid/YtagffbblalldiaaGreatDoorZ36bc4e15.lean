/- Each function below answers as its Lean twin says; plain lemmas; a row where its theorem stands. No further condition. (Laid by this repo's pack.py out of its texts and of the print's words.) -/
import Derived.Test.YtagffbblalldiaaGreatDoorZ804fef78
import Derived.Test.YtagffbblalldiaaGreatDoorZacead438
import Derived.Deep.RegionHeld3
import Derived.Shelf.Abstract
import Derived.Deep.AppendSrc
import Derived.Deep.MidRow
import Derived.Lib.ConvBytes
namespace Go.Proofs.YtagffbblalldiaaGreatDoor.P
open Go.RowKit Go.Proofs.YtagffbblalldiaaGreatDoorW.PrintWords Go.Proofs.YtagffbblalldiaaGreatDoorW.PrintLast Go.Proofs.YtagffbblalldiaaGreatDoorW.PrintMore
attribute [local go_sem] max2_int min2_int max_two min_two max_three min_three max_four min_four
set_option linter.unusedVariables false
set_option linter.unusedSimpArgs false
def line_minor.f (a0:ByteArray):Option (Int × Bool):=if a0.toList=([72,84,84,80,47,49,46,48]:List UInt8) then (some (0,true)) else (if a0.toList=([72,84,84,80,47,49,46,49]:List UInt8) then (some (1,true)) else (some (0,false)))
set_option maxHeartbeats 8000000 in
set_option maxRecDepth 100000 in
theorem line_minor.calls (a0:ByteArray) (r1:Int) (r2:Bool) (w:World) (h:line_minor.f a0=some (r1,r2)) :
 Calls Tryz.prog 111 #[.string a0] w fun e w' => e = .returned (.tuple #[.int .i64 r1,.bool r2])∧Drawn0 w w' := by
 unfold line_minor.f at h
 have H:=h
 clear h
 by_cases c2:a0.toList=([72,84,84,80,47,49,46,48]:List UInt8)
 ·rw [if_pos c2] at H
  have c2b0:=beq_iff_eq.mpr c2
  have c2b1:=bne_eq_false_iff_eq.mpr c2
  clear c2
  simp only [Option.some.injEq,Prod.mk.injEq] at H
  obtain ⟨rfl,rfl⟩:=H
  go_enter Tryz.func111,Tryz.ntmps111
  go_wp2
  go_ret2
  exact ⟨zb6,zb9⟩
 rw [if_neg c2] at H
 have c2b0:=beq_eq_false_iff_ne.mpr c2
 have c2b1:=bne_iff_ne.mpr c2
 by_cases c3:a0.toList=([72,84,84,80,47,49,46,49]:List UInt8);rotate_left
 ·rw [if_neg c3] at H
  have c3b0:=beq_eq_false_iff_ne.mpr c3
  have c3b1:=bne_iff_ne.mpr c3
  simp only [Option.some.injEq,Prod.mk.injEq] at H
  obtain ⟨rfl,rfl⟩:=H
  go_enter Tryz.func111,Tryz.ntmps111
  go_wp2
  go_ret2
  exact ⟨zb6,zb9⟩
 rw [if_pos c3] at H
 have c3b0:=beq_iff_eq.mpr c3
 have c3b1:=bne_eq_false_iff_eq.mpr c3
 clear c3
 simp only [Option.some.injEq,Prod.mk.injEq] at H
 obtain ⟨rfl,rfl⟩:=H
 go_enter Tryz.func111,Tryz.ntmps111
 go_wp2
 go_ret2
 exact ⟨zb6,zb9⟩
def line_digit.f (a0:Int):Option (Bool):=if a0 ≥ 48 then (some (decide (a0 ≤ 57))) else (some false)
set_option maxHeartbeats 8000000 in
set_option maxRecDepth 100000 in
theorem line_digit.calls (a0:Int) (r:Bool) (w:World) (h:line_digit.f a0=some r) :
 Calls Tryz.prog 164 #[.int .u8 a0] w fun e w' => e = .returned (.bool r)∧Drawn0 w w' := by
 unfold line_digit.f at h
 have H:=h
 clear h
 by_cases c2:a0 ≥ 48
 ·rw [if_pos c2] at H
  have c2b0:decide (48 ≤ a0)=true:=decide_eq_true c2
  clear c2
  obtain rfl:=Option.some.inj H
  go_enter Tryz.func164,Tryz.ntmps164
  go_wp2
  go_ret
  exact ⟨zb6,zb9⟩
 rw [if_neg c2] at H
 have c2b0:decide (48 ≤ a0)=false:=decide_eq_false c2
 clear c2
 obtain rfl:=Option.some.inj H
 go_enter Tryz.func164,Tryz.ntmps164
 go_wp2
 go_ret
 exact ⟨zb6,zb9⟩
def stringslite_HasPrefix.f (a0:ByteArray) (a1:ByteArray):Option (Bool):=if (a0.size:Int) ≥ (a1.size:Int) then (if 0 ≤ (a1.size:Int) then (if (a1.size:Int) ≤ (a0.size:Int) then (some ((a0.extract 0 ((a1.size:Int):Int).toNat).toList == a1.toList)) else (none)) else (none)) else (some false)
set_option maxHeartbeats 8000000 in
set_option maxRecDepth 100000 in
theorem stringslite_HasPrefix.calls (a0:ByteArray) (a1:ByteArray) (r:Bool) (w:World) (h:stringslite_HasPrefix.f a0 a1=some r) :
 Calls Tryz.prog 107 #[.string a0,.string a1] w fun e w' => e = .returned (.bool r)∧Drawn0 w w' := by
 unfold stringslite_HasPrefix.f at h
 have H:=h
 clear h
 by_cases c3:(a0.size:Int) ≥ (a1.size:Int);rotate_left
 ·rw [if_neg c3] at H
  have c3b0:decide ((a1.size:Int) ≤ (a0.size:Int))=false:=decide_eq_false c3
  have c3b1:decide (a1.size ≤ a0.size)=false:=decide_eq_false (fun h=>c3 (Int.ofNat_le.mpr h))
  clear c3
  obtain rfl:=Option.some.inj H
  go_enter Tryz.func107,Tryz.ntmps107
  go_wp2
  go_ret
  exact ⟨zb6,zb9⟩
 rw [if_pos c3] at H
 have c3b0:decide ((a1.size:Int) ≤ (a0.size:Int))=true:=decide_eq_true c3
 have c3b1:decide (a1.size ≤ a0.size)=true:=decide_eq_true (Int.ofNat_le.mp c3)
 clear c3
 by_cases c4:0 ≤ (a1.size:Int)
 ·rw [if_pos c4] at H
  have c4b0:=eq_true c4
  have c4b1:=decide_eq_true c4
  clear c4
  by_cases c5:(a1.size:Int) ≤ (a0.size:Int)
  ·rw [if_pos c5] at H
   have c5b0:=eq_true c5
   have c5b1:=decide_eq_true c5
   clear c5
   obtain rfl:=Option.some.inj H
   go_enter Tryz.func107,Tryz.ntmps107
   go_wp2
   go_ret
   exact ⟨zb6,zb9⟩
  ·rw [if_neg c5] at H
   exact absurd H zb36
 ·rw [if_neg c4] at H
  exact absurd H zb36
def stringslite_CutPrefix.f (a0:ByteArray) (a1:ByteArray):Option (ByteArray × Bool):=(stringslite_HasPrefix.f a0 a1).bind fun t111=>(if t111=true then (if 0 ≤ (a1.size:Int) then (if (a1.size:Int) ≤ (a0.size:Int) then (some (a0.extract ((a1.size:Int):Int).toNat a0.size,true)) else (none)) else (none)) else (some (a0,false)))
set_option maxHeartbeats 8000000 in
set_option maxRecDepth 100000 in
theorem stringslite_CutPrefix.calls (a0:ByteArray) (a1:ByteArray) (r1:ByteArray) (r2:Bool) (w:World) (h:stringslite_CutPrefix.f a0 a1=some (r1,r2)) :
 Calls Tryz.prog 157 #[.string a0,.string a1] w fun e w' => e = .returned (.tuple #[.string r1,.bool r2])∧Drawn0 w w' := by
 unfold stringslite_CutPrefix.f at h
 have H:=h
 clear h
 replace H:=Option.bind_eq_some_iff.mp H
 obtain ⟨t111,A30,H⟩:=H
 try dsimp only at H
 have A3:=Aside0.mk A30
 clear A30
 by_cases c4:t111=true;rotate_left
 ·replace c4:=Bool.eq_false_iff.mpr c4
  subst c4
  rw [if_neg (show ¬ (false=true) by decide)] at H
  simp only [Option.some.injEq,Prod.mk.injEq] at H
  obtain ⟨rfl,rfl⟩:=H
  go_enter Tryz.func157,Tryz.ntmps157
  go_wp2_with (first|((with_reducible refine gate_callee (f:=107) rfl ?_);refine goesL_ (some 8) rfl rfl Tryz.func107 zb5 rfl #[.string a0,.string a1] rfl zb1 ?_;(with_reducible refine (stringslite_HasPrefix.calls a0 a1 false _ A3.out).mono ?_);rintro e w' ⟨rfl,⟨nd,rfl⟩⟩;(try clear A3);refine ⟨_,rfl,?_⟩))
  go_ret2
  exact ⟨zb6,zb9⟩
 subst c4
 rw [if_pos rfl] at H
 by_cases c5:0 ≤ (a1.size:Int)
 ·rw [if_pos c5] at H
  have c5b0:=eq_true c5
  have c5b1:=decide_eq_true c5
  clear c5
  by_cases c6:(a1.size:Int) ≤ (a0.size:Int)
  ·rw [if_pos c6] at H
   have c6b0:=eq_true c6
   have c6b1:=decide_eq_true c6
   clear c6
   simp only [Option.some.injEq,Prod.mk.injEq] at H
   obtain ⟨rfl,rfl⟩:=H
   go_enter Tryz.func157,Tryz.ntmps157
   go_wp2_with (first|((with_reducible refine gate_callee (f:=107) rfl ?_);refine goesL_ (some 8) rfl rfl Tryz.func107 zb5 rfl #[.string a0,.string a1] rfl zb1 ?_;(with_reducible refine (stringslite_HasPrefix.calls a0 a1 true _ A3.out).mono ?_);rintro e w' ⟨rfl,⟨nd,rfl⟩⟩;(try clear A3);refine ⟨_,rfl,?_⟩))
   go_ret2
   exact ⟨zb6,zb9⟩
  ·rw [if_neg c6] at H
   exact absurd H zb36
 ·rw [if_neg c5] at H
  exact absurd H zb36
def strings_CutPrefix.f (a0:ByteArray) (a1:ByteArray):Option (ByteArray × Bool):=(stringslite_CutPrefix.f a0 a1).bind fun bt112=>(some (bt112.1,bt112.2))
set_option maxHeartbeats 8000000 in
set_option maxRecDepth 100000 in
theorem strings_CutPrefix.calls (a0:ByteArray) (a1:ByteArray) (r1:ByteArray) (r2:Bool) (w:World) (h:strings_CutPrefix.f a0 a1=some (r1,r2)) :
 Calls Tryz.prog 113 #[.string a0,.string a1] w fun e w' => e = .returned (.tuple #[.string r1,.bool r2])∧Drawn0 w w' := by
 unfold strings_CutPrefix.f at h
 have H:=h
 clear h
 replace H:=Option.bind_eq_some_iff.mp H
 obtain ⟨⟨t112,t113⟩,A30,H⟩:=H
 try dsimp only at H
 have A3:=Aside0.mk A30
 clear A30
 simp only [Option.some.injEq,Prod.mk.injEq] at H
 obtain ⟨rfl,rfl⟩:=H
 go_enter Tryz.func113,Tryz.ntmps113
 go_wp2_with (first|((with_reducible refine gate_callee (f:=157) rfl ?_);refine goesL_ (some 8) rfl rfl Tryz.func157 zb5 rfl #[.string a0,.string a1] rfl zb1 ?_;(with_reducible refine (stringslite_CutPrefix.calls a0 a1 t112 t113 _ A3.out).mono ?_);rintro e w' ⟨rfl,⟨nd,rfl⟩⟩;(try clear A3);refine ⟨_,rfl,?_⟩))
 go_ret2
 exact ⟨zb6,zb9⟩
def line_numbered.f (a0:ByteArray):Option (Bool):=(strings_CutPrefix.f a0 (⟨#[72,84,84,80,47]⟩:ByteArray)).bind fun bt147=>(if bt147.2=true then (if (bt147.1.size:Int)=3 then (if 0 < (bt147.1.size:Int) then ((line_digit.f (bt bt147.1 0)).bind fun t149=>(if t149=true then (if 1 < (bt147.1.size:Int) then (if (bt bt147.1 1)=46 then (if 2 < (bt147.1.size:Int) then ((line_digit.f (bt bt147.1 2)).bind fun t150=>(some t150)) else (none)) else (some false)) else (none)) else (some false))) else (none)) else (some false)) else (some false))
set_option maxHeartbeats 8000000 in
set_option maxRecDepth 100000 in
theorem line_numbered.calls (a0:ByteArray) (r:Bool) (w:World) (h:line_numbered.f a0=some r) :
 Calls Tryz.prog 119 #[.string a0] w fun e w' => e = .returned (.bool r)∧Drawn0 w w' := by
 unfold line_numbered.f at h
 have H:=h
 clear h
 replace H:=Option.bind_eq_some_iff.mp H
 obtain ⟨⟨t147,t148⟩,A20,H⟩:=H
 try dsimp only at H
 have A2:=Aside0.mk A20
 clear A20
 by_cases c3:t148=true;rotate_left
 ·replace c3:=Bool.eq_false_iff.mpr c3
  subst c3
  rw [if_neg (show ¬ (false=true) by decide)] at H
  obtain rfl:=Option.some.inj H
  go_enter Tryz.func119,Tryz.ntmps119
  go_wp2_with (first|((with_reducible refine gate_callee (f:=113) rfl ?_);refine goesL_ (some 7) rfl rfl Tryz.func113 zb5 rfl #[.string a0,.string (⟨#[72,84,84,80,47]⟩:ByteArray)] rfl zb1 ?_;(with_reducible refine (strings_CutPrefix.calls a0 (⟨#[72,84,84,80,47]⟩:ByteArray) t147 false _ A2.out).mono ?_);rintro e w' ⟨rfl,⟨nd,rfl⟩⟩;(try clear A2);refine ⟨_,rfl,?_⟩))
  go_ret
  exact ⟨zb6,zb9⟩
 subst c3
 rw [if_pos rfl] at H
 by_cases c4:(t147.size:Int)=3
 ·rw [if_pos c4] at H
  have c4b0:=beq_iff_eq.mpr c4
  have c4b1:=bne_eq_false_iff_eq.mpr c4
  clear c4
  by_cases c5:0 < (t147.size:Int);rotate_left
  ·rw [if_neg c5] at H
   exact absurd H zb36
  rw [if_pos c5] at H
  have c5b0:=decide_eq_true c5
  have c5b1:decide (0 < t147.size)=true:=decide_eq_true zb14
  clear c5
  replace H:=Option.bind_eq_some_iff.mp H
  obtain ⟨t149,A70,H⟩:=H
  try dsimp only at H
  have A7:=Aside0.mk A70
  clear A70
  by_cases c8:t149=true;rotate_left
  ·replace c8:=Bool.eq_false_iff.mpr c8
   subst c8
   rw [if_neg (show ¬ (false=true) by decide)] at H
   obtain rfl:=Option.some.inj H
   go_enter Tryz.func119,Tryz.ntmps119
   go_wp2_with (first|((with_reducible refine gate_callee (f:=113) rfl ?_);refine goesL_ (some 7) rfl rfl Tryz.func113 zb5 rfl #[.string a0,.string (⟨#[72,84,84,80,47]⟩:ByteArray)] rfl zb1 ?_;(with_reducible refine (strings_CutPrefix.calls a0 (⟨#[72,84,84,80,47]⟩:ByteArray) t147 true _ A2.out).mono ?_);rintro e w' ⟨rfl,⟨nd,rfl⟩⟩;(try clear A2);refine ⟨_,rfl,?_⟩;have p6:0 ≤ (0:Int):=zb14;have q6:0 < t147.size:=zb61;have hx6 : ∀ h:0 < t147.size,((t147[0]'h).toNat:Int)=bt t147 0:=bt_at t147 0;clear p6;have qi6:(0 < (t147.size:Int))=True:=eq_true (of_decide_eq_true zb4);replace q6:=eq_true q6)|(go_at_call 164;(with_reducible refine (line_digit.calls (bt t147 0) false _ A7.out).mono ?_);rintro e w' ⟨rfl,⟨nd,rfl⟩⟩;(try clear A7)))
   go_ret
   exact ⟨zb6,zb9⟩
  subst c8
  rw [if_pos rfl] at H
  by_cases c9:1 < (t147.size:Int)
  ·rw [if_pos c9] at H
   have c9b0:=decide_eq_true c9
   have c9b1:decide (1 < t147.size)=true:=decide_eq_true zb14
   clear c9
   by_cases c11:(bt t147 1)=46;rotate_left
   ·rw [if_neg c11] at H
    have c11b0:=beq_eq_false_iff_ne.mpr c11
    have c11b1:=bne_iff_ne.mpr c11
    obtain rfl:=Option.some.inj H
    go_enter Tryz.func119,Tryz.ntmps119
    go_wp2_with (first|((with_reducible refine gate_callee (f:=113) rfl ?_);refine goesL_ (some 7) rfl rfl Tryz.func113 zb5 rfl #[.string a0,.string (⟨#[72,84,84,80,47]⟩:ByteArray)] rfl zb1 ?_;(with_reducible refine (strings_CutPrefix.calls a0 (⟨#[72,84,84,80,47]⟩:ByteArray) t147 true _ A2.out).mono ?_);rintro e w' ⟨rfl,⟨nd,rfl⟩⟩;(try clear A2);refine ⟨_,rfl,?_⟩;have p6:0 ≤ (0:Int):=zb14;have q6:0 < t147.size:=zb61;have hx6 : ∀ h:0 < t147.size,((t147[0]'h).toNat:Int)=bt t147 0:=bt_at t147 0;clear p6;have qi6:(0 < (t147.size:Int))=True:=eq_true (of_decide_eq_true zb4);replace q6:=eq_true q6)|(go_at_call 164;(with_reducible refine (line_digit.calls (bt t147 0) true _ A7.out).mono ?_);rintro e w' ⟨rfl,⟨nd,rfl⟩⟩;(try clear A7);have p10:0 ≤ (1:Int):=zb14;have q10:1 < t147.size:=(by have:(1:Int) < (t147.size:Int):=of_decide_eq_true (by first|(with_reducible assumption)|assumption);omega);have hx10 : ∀ h:1 < t147.size,((t147[1]'h).toNat:Int)=bt t147 1:=bt_at t147 1;clear p10;have qi10:(1 < (t147.size:Int))=True:=eq_true (of_decide_eq_true zb4);replace q10:=eq_true q10))
    go_ret
    exact ⟨zb6,zb9⟩
   rw [if_pos c11] at H
   have c11b0:=beq_iff_eq.mpr c11
   have c11b1:=bne_eq_false_iff_eq.mpr c11
   clear c11
   by_cases c12:2 < (t147.size:Int)
   ·rw [if_pos c12] at H
    have c12b0:=decide_eq_true c12
    have c12b1:decide (2 < t147.size)=true:=decide_eq_true zb14
    clear c12
    replace H:=Option.bind_eq_some_iff.mp H
    obtain ⟨t150,A140,H⟩:=H
    try dsimp only at H
    have A14:=Aside0.mk A140
    clear A140
    obtain rfl:=Option.some.inj H
    go_enter Tryz.func119,Tryz.ntmps119
    go_wp2_with (first|((with_reducible refine gate_callee (f:=113) rfl ?_);refine goesL_ (some 7) rfl rfl Tryz.func113 zb5 rfl #[.string a0,.string (⟨#[72,84,84,80,47]⟩:ByteArray)] rfl zb1 ?_;(with_reducible refine (strings_CutPrefix.calls a0 (⟨#[72,84,84,80,47]⟩:ByteArray) t147 true _ A2.out).mono ?_);rintro e w' ⟨rfl,⟨nd,rfl⟩⟩;(try clear A2);refine ⟨_,rfl,?_⟩;have p6:0 ≤ (0:Int):=zb14;have q6:0 < t147.size:=zb61;have hx6 : ∀ h:0 < t147.size,((t147[0]'h).toNat:Int)=bt t147 0:=bt_at t147 0;clear p6;have qi6:(0 < (t147.size:Int))=True:=eq_true (of_decide_eq_true zb4);replace q6:=eq_true q6)|(go_at_call 164;(with_reducible refine (line_digit.calls (bt t147 0) true _ A7.out).mono ?_);rintro e w' ⟨rfl,⟨nd,rfl⟩⟩;(try clear A7);have p10:0 ≤ (1:Int):=zb14;have q10:1 < t147.size:=(by have:(1:Int) < (t147.size:Int):=of_decide_eq_true (by first|(with_reducible assumption)|assumption);omega);have hx10 : ∀ h:1 < t147.size,((t147[1]'h).toNat:Int)=bt t147 1:=bt_at t147 1;clear p10;have qi10:(1 < (t147.size:Int))=True:=eq_true (of_decide_eq_true zb4);replace q10:=eq_true q10;have p13:0 ≤ (2:Int):=zb14;have q13:2 < t147.size:=(by have:(2:Int) < (t147.size:Int):=of_decide_eq_true (by first|(with_reducible assumption)|assumption);omega);have hx13 : ∀ h:2 < t147.size,((t147[2]'h).toNat:Int)=bt t147 2:=bt_at t147 2;clear p13;have qi13:(2 < (t147.size:Int))=True:=eq_true (of_decide_eq_true zb4);replace q13:=eq_true q13)|(go_at_call 164;(with_reducible refine (line_digit.calls (bt t147 2) t150 _ A14.out).mono ?_);rintro e w' ⟨rfl,⟨nd,rfl⟩⟩;(try clear A14)))
    go_ret
    exact ⟨zb6,zb9⟩
   ·rw [if_neg c12] at H
    exact absurd H zb36
  ·rw [if_neg c9] at H
   exact absurd H zb36
 ·rw [if_neg c4] at H
  have c4b0:=beq_eq_false_iff_ne.mpr c4
  have c4b1:=bne_iff_ne.mpr c4
  obtain rfl:=Option.some.inj H
  go_enter Tryz.func119,Tryz.ntmps119
  go_wp2_with (first|((with_reducible refine gate_callee (f:=113) rfl ?_);refine goesL_ (some 7) rfl rfl Tryz.func113 zb5 rfl #[.string a0,.string (⟨#[72,84,84,80,47]⟩:ByteArray)] rfl zb1 ?_;(with_reducible refine (strings_CutPrefix.calls a0 (⟨#[72,84,84,80,47]⟩:ByteArray) t147 true _ A2.out).mono ?_);rintro e w' ⟨rfl,⟨nd,rfl⟩⟩;(try clear A2);refine ⟨_,rfl,?_⟩))
  go_ret
  exact ⟨zb6,zb9⟩
def sign_Target_1.f (a0:Int):Option (Bool):=if a0 ≥ 33 then (some (decide (a0 ≤ 126))) else (some false)
set_option maxHeartbeats 8000000 in
set_option maxRecDepth 100000 in
theorem sign_Target_1.calls (a0:Int) (r:Bool) (w:World) (h:sign_Target_1.f a0=some r) :
 Calls Tryz.prog 181 #[.int .u8 a0] w fun e w' => e = .returned (.bool r)∧Drawn0 w w' := by
 unfold sign_Target_1.f at h
 have H:=h
 clear h
 by_cases c2:a0 ≥ 33
 ·rw [if_pos c2] at H
  have c2b0:decide (33 ≤ a0)=true:=decide_eq_true c2
  clear c2
  obtain rfl:=Option.some.inj H
  go_enter Tryz.func181,Tryz.ntmps181
  go_wp2
  go_ret
  exact ⟨zb6,zb9⟩
 rw [if_neg c2] at H
 have c2b0:decide (33 ≤ a0)=false:=decide_eq_false c2
 clear c2
 obtain rfl:=Option.some.inj H
 go_enter Tryz.func181,Tryz.ntmps181
 go_wp2
 go_ret
 exact ⟨zb6,zb9⟩
def sign_Target.f (a0:ByteArray):Option Bool:=if a0.size ≤ 140737488355328 then some (!a0.toList.isEmpty && (bytesOf a0).all fun c=>(sign_Target_1.f c).getD false) else none
theorem sign_Target_1.tells (c:Int) : ∃ b,sign_Target_1.f c=some b:=by
 unfold sign_Target_1.f
 repeat' split
 all_goals exact ⟨_,rfl⟩
theorem sign_Target_1.any (c:Int) (w:World):Calls Tryz.prog 181 #[.int .u8 c] w fun e w' => e = .returned (.bool ((sign_Target_1.f c).getD false))∧Drawn0 w w' := by
 obtain ⟨b,hb⟩:=sign_Target_1.tells c
 have:=sign_Target_1.calls c b w hb
 rw [hb]
 exact this
theorem sign_Target.calls (a0:ByteArray) (r:Bool) (w:World) (h:sign_Target.f a0=some r) :
 Calls Tryz.prog 149 #[.string a0] w fun e w' => e = .returned (.bool r)∧Drawn0 w w' := by
 unfold sign_Target.f at h
 by_cases h0:a0.size ≤ 140737488355328;rotate_left
 ·rw [if_neg h0] at h
  cases h
 rw [if_pos h0] at h
 obtain rfl:=Option.some.inj h
 clear h
 have he : ∀ args w,(callFunc 181 args).run Tryz.prog w = .ok (.enter 181 args) w:=fun args w=>enters_ Tryz.func181 zb5 rfl args w
 have HC:=Aside0.mk (fun w' => sign_all.callsOf 181 (fun c=>(sign_Target_1.f c).getD false) he (fun c w _ _=>sign_Target_1.any c w) a0 h0 w')
 clear he h0
 go_enter Tryz.func149,Tryz.ntmps149
 go_wp2_with (go_at_call 158;(with_reducible refine (HC.out _).mono ?_);rintro e w' ⟨rfl,⟨nd,rfl⟩⟩)
 all_goals
  go_ret
  exact ⟨by first|rfl|(simp [*];done),zb9⟩
def line_target.f (a0:ByteArray) (a1:ByteArray):Option (Bool):=(sign_Target.f a1).bind fun t146=>(if t146=true then (if 0 < (a1.size:Int) then (if (bt a1 0)=47 then (some true) else (if a1.toList=([42]:List UInt8) then (some (a0.toList == ([79,80,84,73,79,78,83]:List UInt8))) else (some false))) else (none)) else (some false))
set_option maxHeartbeats 8000000 in
set_option maxRecDepth 100000 in
theorem line_target.calls (a0:ByteArray) (a1:ByteArray) (r:Bool) (w:World) (h:line_target.f a0 a1=some r) :
 Calls Tryz.prog 118 #[.string a0,.string a1] w fun e w' => e = .returned (.bool r)∧Drawn0 w w' := by
 unfold line_target.f at h
 have H:=h
 clear h
 replace H:=Option.bind_eq_some_iff.mp H
 obtain ⟨t146,A30,H⟩:=H
 try dsimp only at H
 have A3:=Aside0.mk A30
 clear A30
 by_cases c4:t146=true;rotate_left
 ·replace c4:=Bool.eq_false_iff.mpr c4
  subst c4
  rw [if_neg (show ¬ (false=true) by decide)] at H
  obtain rfl:=Option.some.inj H
  go_enter Tryz.func118,Tryz.ntmps118
  go_wp2_with (first|((with_reducible refine gate_callee (f:=149) rfl ?_);refine goesL_ (some 6) rfl rfl Tryz.func149 zb5 rfl #[.string a1] rfl zb1 ?_;(with_reducible refine (sign_Target.calls a1 false _ A3.out).mono ?_);rintro e w' ⟨rfl,⟨nd,rfl⟩⟩;(try clear A3);refine ⟨_,rfl,?_⟩))
  go_ret
  exact ⟨zb6,zb9⟩
 subst c4
 rw [if_pos rfl] at H
 by_cases c5:0 < (a1.size:Int)
 ·rw [if_pos c5] at H
  have c5b0:=decide_eq_true c5
  have c5b1:decide (0 < a1.size)=true:=decide_eq_true zb14
  clear c5
  by_cases c7:(bt a1 0)=47
  ·rw [if_pos c7] at H
   have c7b0:=beq_iff_eq.mpr c7
   have c7b1:=bne_eq_false_iff_eq.mpr c7
   clear c7
   obtain rfl:=Option.some.inj H
   go_enter Tryz.func118,Tryz.ntmps118
   go_wp2_with (first|((with_reducible refine gate_callee (f:=149) rfl ?_);refine goesL_ (some 6) rfl rfl Tryz.func149 zb5 rfl #[.string a1] rfl zb1 ?_;(with_reducible refine (sign_Target.calls a1 true _ A3.out).mono ?_);rintro e w' ⟨rfl,⟨nd,rfl⟩⟩;(try clear A3);refine ⟨_,rfl,?_⟩;have p6:0 ≤ (0:Int):=zb14;have q6:0 < a1.size:=zb64;have hx6 : ∀ h:0 < a1.size,((a1[0]'h).toNat:Int)=bt a1 0:=bt_at a1 0;clear p6;have qi6:(0 < (a1.size:Int))=True:=eq_true (of_decide_eq_true zb4);replace q6:=eq_true q6))
   go_ret
   exact ⟨zb6,zb9⟩
  rw [if_neg c7] at H
  have c7b0:=beq_eq_false_iff_ne.mpr c7
  have c7b1:=bne_iff_ne.mpr c7
  by_cases c8:a1.toList=([42]:List UInt8);rotate_left
  ·rw [if_neg c8] at H
   have c8b0:=beq_eq_false_iff_ne.mpr c8
   have c8b1:=bne_iff_ne.mpr c8
   obtain rfl:=Option.some.inj H
   go_enter Tryz.func118,Tryz.ntmps118
   go_wp2_with (first|((with_reducible refine gate_callee (f:=149) rfl ?_);refine goesL_ (some 6) rfl rfl Tryz.func149 zb5 rfl #[.string a1] rfl zb1 ?_;(with_reducible refine (sign_Target.calls a1 true _ A3.out).mono ?_);rintro e w' ⟨rfl,⟨nd,rfl⟩⟩;(try clear A3);refine ⟨_,rfl,?_⟩;have p6:0 ≤ (0:Int):=zb14;have q6:0 < a1.size:=zb64;have hx6 : ∀ h:0 < a1.size,((a1[0]'h).toNat:Int)=bt a1 0:=bt_at a1 0;clear p6;have qi6:(0 < (a1.size:Int))=True:=eq_true (of_decide_eq_true zb4);replace q6:=eq_true q6))
   go_ret
   exact ⟨zb6,zb9⟩
  rw [if_pos c8] at H
  have c8b0:=beq_iff_eq.mpr c8
  have c8b1:=bne_eq_false_iff_eq.mpr c8
  clear c8
  obtain rfl:=Option.some.inj H
  go_enter Tryz.func118,Tryz.ntmps118
  go_wp2_with (first|((with_reducible refine gate_callee (f:=149) rfl ?_);refine goesL_ (some 6) rfl rfl Tryz.func149 zb5 rfl #[.string a1] rfl zb1 ?_;(with_reducible refine (sign_Target.calls a1 true _ A3.out).mono ?_);rintro e w' ⟨rfl,⟨nd,rfl⟩⟩;(try clear A3);refine ⟨_,rfl,?_⟩;have p6:0 ≤ (0:Int):=zb14;have q6:0 < a1.size:=zb64;have hx6 : ∀ h:0 < a1.size,((a1[0]'h).toNat:Int)=bt a1 0:=bt_at a1 0;clear p6;have qi6:(0 < (a1.size:Int))=True:=eq_true (of_decide_eq_true zb4);replace q6:=eq_true q6))
  go_ret
  exact ⟨zb6,zb9⟩
 ·rw [if_neg c5] at H
  exact absurd H zb36
def line_Request.j0:Nat → List ByteArray → Bool → Option (ByteArray × ByteArray × Int × (List (S36)) × List Int × Int)
 | 0,_,_=>none
 | k + 1,x4,x35=>if x35=true then (some ((⟨#[]⟩:ByteArray),(⟨#[]⟩:ByteArray),0,([]:List (S36)),([]:List Int),400)) else (if 2 < (x4.length:Int) then ((line_minor.f (rdOf ByteArray.empty x4 2)).bind fun bt162=>(if 1 < (x4.length:Int) then (if ((rdOf ByteArray.empty x4 1).size:Int) > 512 then (some ((⟨#[]⟩:ByteArray),(⟨#[]⟩:ByteArray),0,([]:List (S36)),([]:List Int),414)) else ((line_numbered.f (rdOf ByteArray.empty x4 2)).bind fun t166=>(if t166=true then (if bt162.2=true then (if 0 < (x4.length:Int) then (some (rdOf ByteArray.empty x4 0,rdOf ByteArray.empty x4 1,bt162.1,([]:List (S36)),([]:List Int),0)) else (none)) else (some ((⟨#[]⟩:ByteArray),(⟨#[]⟩:ByteArray),0,([]:List (S36)),([]:List Int),505))) else (some ((⟨#[]⟩:ByteArray),(⟨#[]⟩:ByteArray),0,([]:List (S36)),([]:List Int),400))))) else (none))) else (none))
def line_Request.f (k:Nat) (a0:ByteArray):Option (ByteArray × ByteArray × Int × (List (S36)) × List Int × Int):=(strings_Split.f k a0 (⟨#[32]⟩:ByteArray)).bind fun t152=>(if (t152.length:Int)=3 then (if 0 < (t152.length:Int) then (if ((rdOf ByteArray.empty t152 0).size:Int) > 20 then (line_Request.j0 k t152 true) else ((sign_Token.f (rdOf ByteArray.empty t152 0)).bind fun t157=>(if t157=true then (if 1 < (t152.length:Int) then ((line_target.f (rdOf ByteArray.empty t152 0) (rdOf ByteArray.empty t152 1)).bind fun t160=>(line_Request.j0 k t152 (!t160))) else (none)) else (line_Request.j0 k t152 true)))) else (none)) else (line_Request.j0 k t152 true))
theorem line_Request.mono_l : ∀ k,(∀ y0 y1,LeO (line_Request.j0 k y0 y1) (line_Request.j0 (k + 1) y0 y1))
 | 0=>fun _ _ r h=>by simp [line_Request.j0] at h
 | k + 1=>by
  have ih0:=line_Request.mono_l k
  ·intro y0 y1
   unfold line_Request.j0
   repeat' first
   | (with_reducible exact ih0 _ _)
   | (with_reducible exact strings_Split.mono _ _ _)
   | (with_reducible exact LeO.refl _)
   | (with_reducible exact LeO.none _)
   | (with_reducible refine LeO.ite ?_ ?_)
   | (with_reducible refine LeO.bind ?_ (fun _=>?_))
   | exact ih0 _ _
   | exact strings_Split.mono _ _ _
   | exact LeO.none _
   | refine LeO.ite ?_ ?_
   | refine LeO.bind ?_ (fun _=>?_)
theorem line_Request.mono : ∀ a0 k,LeO (line_Request.f k a0) (line_Request.f (k + 1) a0):=by
 intro a0 k
 have ih0:=line_Request.mono_l k
 unfold line_Request.f
 repeat' first
  | (with_reducible exact ih0 _ _)
  | (with_reducible exact strings_Split.mono _ _ _)
  | (with_reducible exact LeO.refl _)
  | (with_reducible exact LeO.none _)
  | (with_reducible refine LeO.ite ?_ ?_)
  | (with_reducible refine LeO.bind ?_ (fun _=>?_))
  | exact ih0 _ _
  | exact strings_Split.mono _ _ _
  | exact LeO.none _
  | refine LeO.ite ?_ ?_
  | refine LeO.bind ?_ (fun _=>?_)
def line_Request.T2:Bool × List (List Nat × List Nat):=(true,[([],[]),([0],[0]),([1],[1]),([2],[2]),([3],[3]),([4,3],[3,4]),([5,3],[3,5]),([6,3],[3,6]),([7,3],[3,7]),([3,8],[3,8]),([9,3],[9]),([10],[10]),([11,10],[10,11]),([12,10],[10,12]),([13,10,10],[10,13]),([14,10],[10,14]),([10,15],[10,15]),([16,14],[16]),([17],[17]),([18,17],[17,18]),([19,17],[17,19]),([17],[17]),([21,17],[17,21]),([22,17],[17,22]),([20,23,17,17],[17,20,23]),([24,17],[17,24]),([17,25],[17,25])])
def line_Request.B2:List Nat:=[0,1,3,7,15,31,63,127,255,511,1023,2047,4095,8191,16383,32767,65535,131071,262143,524287,1048575,262143,2359295,6553599,16777215,33554431,67108863]
theorem line_Request.tab2:rtab .any (opsOf Tryz.f76 2)=line_Request.T2:=by kernel_rfl
theorem line_Request.bits2:waitsOk line_Request.T2.2 line_Request.B2=true:=by kernel_rfl
def line_Request.T11:Bool × List (List Nat × List Nat):=(true,[([],[]),([0],[0]),([1],[1]),([],[]),([3],[3]),([4],[4]),([],[]),([2,5,6],[2,5,6]),([7,0,1,2,3,4,5,6,7],[7]),([8,0,1,2,3,4,5,6,7,8],[])])
def line_Request.B11:List Nat:=[0,1,3,0,8,24,0,127,255,511]
theorem line_Request.tab11:rtab .any (opsOf Tryz.f76 11)=line_Request.T11:=by kernel_rfl
theorem line_Request.bits11:waitsOk line_Request.T11.2 line_Request.B11=true:=by kernel_rfl
set_option maxHeartbeats 8000000 in
set_option maxRecDepth 100000 in
theorem line_Request.calls (k:Nat) (a0:ByteArray) (r1:ByteArray) (r2:ByteArray) (r3:Int) (r4:List (S36)) (r5:List Int) (r6:Int) (w:World) (h:line_Request.f k a0=some (r1,r2,r3,r4,r5,r6)) :
 Calls Tryz.prog 76 #[.string a0] w fun e w' => ∃ v3_ v4_:Value,e = .returned (.tuple #[.agg #[.string r1,.string r2,.int .i64 r3,v3_,v4_],.int .i64 r6])∧Kd.R k36 36 w' w.heap.size (fun _=>True) v3_ r4∧Kd.R (Kd.int .u8) 5 w' w.heap.size (fun _=>True) v4_ r5∧Below w.heap.size w w' := by
 have hu26:=Tryz.underlying26
 have HB:=Aside0.mk (Below.refl w.heap.size w)
 unfold line_Request.f at h
 have H:=h
 clear h
 replace H:=Option.bind_eq_some_iff.mp H
 obtain ⟨t45,A20,H⟩:=H
 try dsimp only at H
 have A2:=Aside0.mk A20
 clear A20
 have HC3:=Aside0.mk H
 clear H
 go_enter Tryz.func76,Tryz.ntmps76
 go_upto_region 2 with (first|((with_reducible refine gate_dst (N:=2) rfl ?_);(try (refine gate_guard zb38 ?_;dsimp only));refine box_event rfl (N:=2) rfl (cs:=#[.string (⟨#[]⟩:ByteArray),.string (⟨#[]⟩:ByteArray),.int .i64 0,.slice none 0 0,.slice none 0 0]) (t:=26) zS ?_;intro gb44 hg w4 hbox hb;have GW44:=zG hg zb0;have GE44:=GW44;have BK44:=Aside0.mk hbox;replace HB:=Aside0.mk (below_step zb0 hb);clear hb hbox hg)|((with_reducible refine gate_callee (f:=116) rfl ?_);refine goesL_ (some 8) rfl rfl Tryz.func116 zb5 rfl #[.string a0,.string (⟨#[32]⟩:ByteArray)] rfl zb1 ?_;(with_reducible refine (strings_Split.calls k a0 (⟨#[32]⟩:ByteArray) t45 _ A2.out).mono ?_);rintro e w5 ⟨v66,rfl,ho0,hb⟩;refine ⟨_,rfl,?_⟩;have HO51:=Aside0.mk (Kd.R_lower ho0 (below_size zb16));replace BK44:=Aside0.mk (blk_below (g:=gb44) (o:=.cells #[.string (⟨#[]⟩:ByteArray),.string (⟨#[]⟩:ByteArray),.int .i64 0,.slice none 0 0,.slice none 0 0] 26 (0,0)) zb48 hb);replace HB:=Aside0.mk (below_step zb16 hb);try clear hb ho0))
 (try simp only [Act.put,zqA,zqB,zqC])
 go_cut [35] (fun v35 wc => ∃ (kq:Nat) (x35_2:Bool),v35 = .bool x35_2∧Aside0 (line_Request.j0 kq t45 x35_2=some (r1,r2,r3,r4,r5,r6))∧Aside0 (kq ≤ k)∧Aside0 (Kd.R Kd.string 9 wc w.heap.size (fun _=>True) v66 t45)∧Aside0 (wc.heap[gb44]? = some (.cells #[.string (⟨#[]⟩:ByteArray),.string (⟨#[]⟩:ByteArray),.int .i64 0,(.slice none 0 0),(.slice none 0 0)] 26 (0,0)))∧Aside0 (Below w.heap.size w wc))
 case first =>
  have H:=HC3.out
  clear HC3
  by_cases c6:(t45.length:Int)=3;rotate_left
  ·rw [if_neg c6] at H
   have c6b0:=beq_eq_false_iff_ne.mpr c6
   have c6b1:=bne_iff_ne.mpr c6
   (first|rw [c6b0]|(simp only [i64_w,i32_w];rw [c6b0])|rw [c6b1]|skip)
   have H' := Aside0.mk H
   clear H
   try go_wp2
   replace HO51:=Aside0.mk (Kd.R_drew HO51.out)
   replace BK44:=Aside0.mk (blk_drew BK44.out)
   replace HB:=Aside0.mk (below_drew1 HB.out)
   obtain ⟨Ao20,co20,eo20⟩:=Kd.R_slice HO51.out
   (first|subst eo20|(injection eo20 with f1_ f2_ f3_;have f4_:=f1_.symm;have f5_:=f3_.symm;clear f1_ f2_ f3_;subst f4_;subst f5_))
   refine start_ (n:=27) (S:=fun w' => True) (ds:=[]) (zl 27 0) zb5 rfl rfl trivial (fun hHeld=>?_);refine with_tabW line_Request.tab2 line_Request.bits2 (fun HT_ HW_=>?_)
   generalize w5.drew=w19 at HO51 BK44 HB hHeld ⊢
   refine zpu 0 (N:=some 9) (zl 27 1) HT_.out rfl rfl ?_
   refine zpu 1 (N:=some 10) (zl 27 3) HT_.out rfl rfl ?_
   refine zpu 2 (N:=some 11) (zl 27 7) HT_.out rfl rfl ?_
   refine zpu 3 (N:=some 12) (zl 27 15) HT_.out rfl rfl ?_
   refine pure_ (i:=4) (N:=some 13) (v:=undef) (a' := ?_) (zl 27 31) rfl rfl (any_of HT_.out zb5) (fun _ _ _ h=>h) (Or.inr ⟨zb38,rfl⟩) ?_ ?_
   rotate_left
   ·simp only [Act.put,zqA,zqB,zqC,i64_w,i32_w];rfl
   refine pure_ (i:=5) (N:=some 14) (v:=undef) (a' := ?_) (zl 27 63) rfl rfl (any_of HT_.out zb5) (fun _ _ _ h=>h) (Or.inr ⟨zb38,rfl⟩) ?_ ?_
   rotate_left
   ·simp only [Act.put,zqA,zqB,zqC,i64_w,i32_w];rfl
   refine pure_ (i:=6) (N:=some 15) (v:=undef) (a' := ?_) (zl 27 127) rfl rfl (any_of HT_.out zb5) (fun _ _ _ h=>h) (Or.inr ⟨zb38,rfl⟩) ?_ ?_
   rotate_left
   ·simp only [Act.put,zqA,zqB,zqC,i64_w,i32_w];rfl
   refine pure_ (i:=7) (N:=some 16) (v:=undef) (a' := ?_) (zl 27 255) rfl rfl (any_of HT_.out zb5) (fun _ _ _ h=>h) (Or.inr ⟨zb38,rfl⟩) ?_ ?_
   rotate_left
   ·simp only [Act.put,zqA,zqB,zqC,i64_w,i32_w];rfl
   refine pure_ (i:=8) (N:=some 17) (v:=undef) (a' := ?_) (zl 27 511) rfl rfl (any_of HT_.out zb5) (fun _ _ _ h=>h) (Or.inr ⟨zb38,rfl⟩) ?_ ?_
   rotate_left
   ·simp only [Act.put,zqA,zqB,zqC,i64_w,i32_w];rfl
   refine zpu 9 (N:=some 18) (zl 27 1023) HT_.out rfl rfl ?_
   refine zpu 10 (N:=some 19) (zl 27 2047) HT_.out rfl rfl ?_
   refine pure_ (i:=11) (N:=some 20) (v:=undef) (a' := ?_) (zl 27 4095) rfl rfl (any_of HT_.out zb5) (fun _ _ _ h=>h) (Or.inr ⟨zb38,rfl⟩) ?_ ?_
   rotate_left
   ·simp only [Act.put,zqA,zqB,zqC,i64_w,i32_w];rfl
   refine pure_ (i:=12) (N:=some 21) (v:=undef) (a' := ?_) (zl 27 8191) rfl rfl (any_of HT_.out zb5) (fun _ _ _ h=>h) (Or.inr ⟨zb38,rfl⟩) ?_ ?_
   rotate_left
   ·simp only [Act.put,zqA,zqB,zqC,i64_w,i32_w];rfl
   refine pure_ (i:=13) (N:=some 22) (v:=undef) (a' := ?_) (zl 27 16383) rfl rfl (any_of HT_.out zb5) (fun _ _ _ h=>h) (Or.inr ⟨zb38,rfl⟩) ?_ ?_
   rotate_left
   ·simp only [Act.put,zqA,zqB,zqC,i64_w,i32_w];rfl
   refine pure_ (i:=14) (N:=some 23) (v:=undef) (a' := ?_) (zl 27 32767) rfl rfl (any_of HT_.out zb5) (fun _ _ _ h=>h) (Or.inr ⟨zb38,rfl⟩) ?_ ?_
   rotate_left
   ·simp only [Act.put,zqA,zqB,zqC,i64_w,i32_w];rfl
   refine pure_ (i:=15) (N:=some 24) (v:=undef) (a' := ?_) (zl 27 65535) rfl rfl (any_of HT_.out zb5) (fun _ _ _ h=>h) (Or.inr ⟨zb38,rfl⟩) ?_ ?_
   rotate_left
   ·simp only [Act.put,zqA,zqB,zqC,i64_w,i32_w];rfl
   refine zpu 16 (N:=some 25) (zl 27 131071) HT_.out rfl rfl ?_
   refine zpu 17 (N:=some 26) (zl 27 262143) HT_.out rfl rfl ?_
   refine pure_ (i:=18) (N:=some 27) (v:=undef) (a' := ?_) (zl 27 524287) rfl rfl (any_of HT_.out zb5) (fun _ _ _ h=>h) (Or.inr ⟨zb38,rfl⟩) ?_ ?_
   rotate_left
   ·simp only [Act.put,zqA,zqB,zqC,i64_w,i32_w];rfl
   refine pure_ (i:=19) (N:=some 28) (v:=undef) (a' := ?_) (zl 27 1048575) rfl rfl (any_of HT_.out zb5) (fun _ _ _ h=>h) (Or.inr ⟨zb38,rfl⟩) ?_ ?_
   rotate_left
   ·simp only [Act.put,zqA,zqB,zqC,i64_w,i32_w];rfl
   refine pure_ (i:=20) (N:=some 29) (v:=undef) (a' := ?_) (zl 27 2097151) rfl rfl (any_of HT_.out zb5) (fun _ _ _ h=>h) (Or.inr ⟨zb38,rfl⟩) ?_ ?_
   rotate_left
   ·simp only [Act.put,zqA,zqB,zqC,i64_w,i32_w];rfl
   refine pure_ (i:=21) (N:=some 30) (v:=undef) (a' := ?_) (zl 27 4194303) rfl rfl (any_of HT_.out zb5) (fun _ _ _ h=>h) (Or.inr ⟨zb38,rfl⟩) ?_ ?_
   rotate_left
   ·simp only [Act.put,zqA,zqB,zqC,i64_w,i32_w];rfl
   refine pure_ (i:=22) (N:=some 31) (v:=undef) (a' := ?_) (zl 27 8388607) rfl rfl (any_of HT_.out zb5) (fun _ _ _ h=>h) (Or.inr ⟨zb38,rfl⟩) ?_ ?_
   rotate_left
   ·simp only [Act.put,zqA,zqB,zqC,i64_w,i32_w];rfl
   refine pure_ (i:=23) (N:=some 32) (v:=undef) (a' := ?_) (zl 27 16777215) rfl rfl (any_of HT_.out zb5) (fun _ _ _ h=>h) (Or.inr ⟨zb38,rfl⟩) ?_ ?_
   rotate_left
   ·simp only [Act.put,zqA,zqB,zqC,i64_w,i32_w];rfl
   refine pure_ (i:=24) (N:=some 33) (v:=undef) (a' := ?_) (zl 27 33554431) rfl rfl (any_of HT_.out zb5) (fun _ _ _ h=>h) (Or.inr ⟨zb38,rfl⟩) ?_ ?_
   rotate_left
   ·simp only [Act.put,zqA,zqB,zqC,i64_w,i32_w];rfl
   refine pure_ (i:=25) (N:=some 34) (v:=undef) (a' := ?_) (zl 27 67108863) rfl rfl (any_of HT_.out zb5) (fun _ _ _ h=>h) (Or.inr ⟨zb38,rfl⟩) ?_ ?_
   rotate_left
   ·simp only [Act.put,zqA,zqB,zqC,i64_w,i32_w];rfl
   refine zpu 26 (N:=some 35) (zl 27 134217727) HT_.out rfl rfl ?_
   refine done_ (done_of HT_.out zb5) ?_
   try go_wp2
   go_meet
   case rel=>exact ⟨_,(true),zb6,H',⟨zb59⟩,⟨zb19⟩,⟨zb48⟩,⟨zb16⟩⟩
  rw [if_pos c6] at H
  have c6b0:=beq_iff_eq.mpr c6
  have c6b1:=bne_eq_false_iff_eq.mpr c6
  clear c6
  (first|rw [c6b0]|(simp only [i64_w,i32_w];rw [c6b0])|rw [c6b1]|skip)
  by_cases c7:0 < (t45.length:Int)
  ·rw [if_pos c7] at H
   have c7b0:=decide_eq_true c7
   have c7b1:decide (0 < t45.length)=true:=decide_eq_true zb14
   clear c7
   by_cases c8:((rdOf ByteArray.empty t45 0).size:Int) > 20
   ·rw [if_pos c8] at H
    have c8b0:decide (20 < ((rdOf ByteArray.empty t45 0).size:Int))=true:=decide_eq_true c8
    have c8b1:decide (20 < (rdOf ByteArray.empty t45 0).size)=true:=decide_eq_true zb14
    clear c8
    have H' := Aside0.mk H
    clear H
    try go_wp2
    replace HO51:=Aside0.mk (Kd.R_drew HO51.out)
    replace BK44:=Aside0.mk (blk_drew BK44.out)
    replace HB:=Aside0.mk (below_drew1 HB.out)
    obtain ⟨Ao10,co10,eo10⟩:=Kd.R_slice HO51.out
    (first|subst eo10|(injection eo10 with f1_ f2_ f3_;have f4_:=f1_.symm;have f5_:=f3_.symm;clear f1_ f2_ f3_;subst f4_;subst f5_))
    have p47:0 ≤ (0:Int):=zb14
    have q47:0 < (t45.length:Int):=of_decide_eq_true zb4
    obtain ⟨ad47,e47,hx47_0⟩:=Kd.at_string (Kd.R_reads' HO51.out).2.2 0 p47 q47
    cases e47
    have qi47:(0 < t45.length)=True:=eq_true zb14
    (try rw [show ((0:Int)).toNat=0 from rfl] at hx47_0)
    (try rw [Addr.add_zero'] at hx47_0)
    replace p47:=eq_true p47
    replace q47:=eq_true q47
    refine start_ (n:=27) (S:=fun w' => w'.cell? ad47=some (.string (rdOf ByteArray.empty t45 0))) (ds:=[]) (zl 27 0) zb5 rfl rfl (hx47_0) (fun hHeld=>?_);refine with_tabW line_Request.tab2 line_Request.bits2 (fun HT_ HW_=>?_)
    generalize w5.drew=w9 at HO51 BK44 HB hx47_0 hHeld ⊢
    refine zpu 0 (N:=some 9) (zl 27 1) HT_.out rfl rfl ?_
    refine zpu 1 (N:=some 10) (zl 27 3) HT_.out rfl rfl ?_
    refine zpu 2 (N:=some 11) (zl 27 7) HT_.out rfl rfl ?_
    refine zpu 3 (N:=some 12) (zl 27 15) HT_.out rfl rfl ?_
    refine zpu 4 (N:=some 13) (zl 27 31) HT_.out rfl rfl ?_
    refine zpu 5 (N:=some 14) (zl 27 63) HT_.out rfl rfl ?_
    refine take_ (i:=6) (N:=some 15) (v:=?_) (a' := ?_) (zl 27 127) rfl rfl (take_ofW HT_.out HW_.out zb5) (fun _ _ _ h=>h) (Or.inl ⟨zb38,?_⟩) hHeld ?_ ?_
    rotate_left
    ·intro w' s0
     go_simp
     with_reducible rfl
    rotate_left
    ·simp only [Act.put,zqA,zqB,zqC,i64_w,i32_w];rfl
    refine zpu 7 (N:=some 16) (zl 27 255) HT_.out rfl rfl ?_
    refine zpu 8 (N:=some 17) (zl 27 511) HT_.out rfl rfl ?_
    refine zpu 9 (N:=some 18) (zl 27 1023) HT_.out rfl rfl ?_
    refine zpu 10 (N:=some 19) (zl 27 2047) HT_.out rfl rfl ?_
    refine pure_ (i:=11) (N:=some 20) (v:=undef) (a' := ?_) (zl 27 4095) rfl rfl (any_of HT_.out zb5) (fun _ _ _ h=>h) (Or.inr ⟨zb38,rfl⟩) ?_ ?_
    rotate_left
    ·simp only [Act.put,zqA,zqB,zqC,i64_w,i32_w];rfl
    refine pure_ (i:=12) (N:=some 21) (v:=undef) (a' := ?_) (zl 27 8191) rfl rfl (any_of HT_.out zb5) (fun _ _ _ h=>h) (Or.inr ⟨zb38,rfl⟩) ?_ ?_
    rotate_left
    ·simp only [Act.put,zqA,zqB,zqC,i64_w,i32_w];rfl
    refine pure_ (i:=13) (N:=some 22) (v:=undef) (a' := ?_) (zl 27 16383) rfl rfl (any_of HT_.out zb5) (fun _ _ _ h=>h) (Or.inr ⟨zb38,rfl⟩) ?_ ?_
    rotate_left
    ·simp only [Act.put,zqA,zqB,zqC,i64_w,i32_w];rfl
    refine pure_ (i:=14) (N:=some 23) (v:=undef) (a' := ?_) (zl 27 32767) rfl rfl (any_of HT_.out zb5) (fun _ _ _ h=>h) (Or.inr ⟨zb38,rfl⟩) ?_ ?_
    rotate_left
    ·simp only [Act.put,zqA,zqB,zqC,i64_w,i32_w];rfl
    refine pure_ (i:=15) (N:=some 24) (v:=undef) (a' := ?_) (zl 27 65535) rfl rfl (any_of HT_.out zb5) (fun _ _ _ h=>h) (Or.inr ⟨zb38,rfl⟩) ?_ ?_
    rotate_left
    ·simp only [Act.put,zqA,zqB,zqC,i64_w,i32_w];rfl
    refine zpu 16 (N:=some 25) (zl 27 131071) HT_.out rfl rfl ?_
    refine zpu 17 (N:=some 26) (zl 27 262143) HT_.out rfl rfl ?_
    refine pure_ (i:=18) (N:=some 27) (v:=undef) (a' := ?_) (zl 27 524287) rfl rfl (any_of HT_.out zb5) (fun _ _ _ h=>h) (Or.inr ⟨zb38,rfl⟩) ?_ ?_
    rotate_left
    ·simp only [Act.put,zqA,zqB,zqC,i64_w,i32_w];rfl
    refine pure_ (i:=19) (N:=some 28) (v:=undef) (a' := ?_) (zl 27 1048575) rfl rfl (any_of HT_.out zb5) (fun _ _ _ h=>h) (Or.inr ⟨zb38,rfl⟩) ?_ ?_
    rotate_left
    ·simp only [Act.put,zqA,zqB,zqC,i64_w,i32_w];rfl
    refine pure_ (i:=20) (N:=some 29) (v:=undef) (a' := ?_) (zl 27 2097151) rfl rfl (any_of HT_.out zb5) (fun _ _ _ h=>h) (Or.inr ⟨zb38,rfl⟩) ?_ ?_
    rotate_left
    ·simp only [Act.put,zqA,zqB,zqC,i64_w,i32_w];rfl
    refine pure_ (i:=21) (N:=some 30) (v:=undef) (a' := ?_) (zl 27 4194303) rfl rfl (any_of HT_.out zb5) (fun _ _ _ h=>h) (Or.inr ⟨zb38,rfl⟩) ?_ ?_
    rotate_left
    ·simp only [Act.put,zqA,zqB,zqC,i64_w,i32_w];rfl
    refine pure_ (i:=22) (N:=some 31) (v:=undef) (a' := ?_) (zl 27 8388607) rfl rfl (any_of HT_.out zb5) (fun _ _ _ h=>h) (Or.inr ⟨zb38,rfl⟩) ?_ ?_
    rotate_left
    ·simp only [Act.put,zqA,zqB,zqC,i64_w,i32_w];rfl
    refine pure_ (i:=23) (N:=some 32) (v:=undef) (a' := ?_) (zl 27 16777215) rfl rfl (any_of HT_.out zb5) (fun _ _ _ h=>h) (Or.inr ⟨zb38,rfl⟩) ?_ ?_
    rotate_left
    ·simp only [Act.put,zqA,zqB,zqC,i64_w,i32_w];rfl
    refine pure_ (i:=24) (N:=some 33) (v:=undef) (a' := ?_) (zl 27 33554431) rfl rfl (any_of HT_.out zb5) (fun _ _ _ h=>h) (Or.inr ⟨zb38,rfl⟩) ?_ ?_
    rotate_left
    ·simp only [Act.put,zqA,zqB,zqC,i64_w,i32_w];rfl
    refine pure_ (i:=25) (N:=some 34) (v:=undef) (a' := ?_) (zl 27 67108863) rfl rfl (any_of HT_.out zb5) (fun _ _ _ h=>h) (Or.inr ⟨zb38,rfl⟩) ?_ ?_
    rotate_left
    ·simp only [Act.put,zqA,zqB,zqC,i64_w,i32_w];rfl
    refine zpu 26 (N:=some 35) (zl 27 134217727) HT_.out rfl rfl ?_
    refine done_ (done_of HT_.out zb5) ?_
    try go_wp2
    go_meet
    case rel=>exact ⟨_,(true),zb6,H',⟨zb59⟩,⟨zb19⟩,⟨zb48⟩,⟨zb16⟩⟩
   rw [if_neg c8] at H
   have c8b0:decide (20 < ((rdOf ByteArray.empty t45 0).size:Int))=false:=decide_eq_false c8
   have c8b1:decide (20 < (rdOf ByteArray.empty t45 0).size)=false:=decide_eq_false zb14
   clear c8
   replace H:=Option.bind_eq_some_iff.mp H
   obtain ⟨t58,A61,H⟩:=H
   try dsimp only at H
   have A11:=Aside0.mk A61
   clear A61
   by_cases c12:t58=true;rotate_left
   ·replace c12:=Bool.eq_false_iff.mpr c12
    subst c12
    rw [if_neg (show ¬ (false=true) by decide)] at H
    have H' := Aside0.mk H
    clear H
    try go_wp2
    replace HO51:=Aside0.mk (Kd.R_drew HO51.out)
    replace BK44:=Aside0.mk (blk_drew BK44.out)
    replace HB:=Aside0.mk (below_drew1 HB.out)
    obtain ⟨Ao18,co18,eo18⟩:=Kd.R_slice HO51.out
    (first|subst eo18|(injection eo18 with f1_ f2_ f3_;have f4_:=f1_.symm;have f5_:=f3_.symm;clear f1_ f2_ f3_;subst f4_;subst f5_))
    have p47:0 ≤ (0:Int):=zb14
    have q47:0 < (t45.length:Int):=of_decide_eq_true zb4
    obtain ⟨ad47,e47,hx47_0⟩:=Kd.at_string (Kd.R_reads' HO51.out).2.2 0 p47 q47
    cases e47
    have qi47:(0 < t45.length)=True:=eq_true zb14
    (try rw [show ((0:Int)).toNat=0 from rfl] at hx47_0)
    (try rw [Addr.add_zero'] at hx47_0)
    replace p47:=eq_true p47
    replace q47:=eq_true q47
    have p50:0 ≤ (0:Int):=zb14
    have q50:0 < (t45.length:Int):=of_decide_eq_true zb4
    obtain ⟨ad50,e50,hx50_0⟩:=Kd.at_string (Kd.R_reads' HO51.out).2.2 0 p50 q50
    obtain rfl:ad47=ad50:=(by injection e50)
    have qi50:(0 < t45.length)=True:=eq_true zb14
    (try rw [show ((0:Int)).toNat=0 from rfl] at hx50_0)
    (try rw [Addr.add_zero'] at hx50_0)
    replace p50:=eq_true p50
    replace q50:=eq_true q50
    refine start_ (n:=27) (S:=fun w' => w'.cell? ad47=some (.string (rdOf ByteArray.empty t45 0))∧w'.cell? ad47=some (.string (rdOf ByteArray.empty t45 0))) (ds:=[]) (zl 27 0) zb5 rfl rfl ⟨hx47_0,hx50_0⟩ (fun hHeld=>?_);refine with_tabW line_Request.tab2 line_Request.bits2 (fun HT_ HW_=>?_)
    generalize w5.drew=w17 at HO51 BK44 HB hx47_0 hx50_0 hHeld ⊢
    refine zpu 0 (N:=some 9) (zl 27 1) HT_.out rfl rfl ?_
    refine zpu 1 (N:=some 10) (zl 27 3) HT_.out rfl rfl ?_
    refine zpu 2 (N:=some 11) (zl 27 7) HT_.out rfl rfl ?_
    refine zpu 3 (N:=some 12) (zl 27 15) HT_.out rfl rfl ?_
    refine zpu 4 (N:=some 13) (zl 27 31) HT_.out rfl rfl ?_
    refine zpu 5 (N:=some 14) (zl 27 63) HT_.out rfl rfl ?_
    refine take_ (i:=6) (N:=some 15) (v:=?_) (a' := ?_) (zl 27 127) rfl rfl (take_ofW HT_.out HW_.out zb5) (fun _ _ _ h=>h) (Or.inl ⟨zb38,?_⟩) hHeld ?_ ?_
    rotate_left
    ·rintro w' ⟨s0,s1⟩;go_simp;with_reducible rfl
    rotate_left
    ·simp only [Act.put,zqA,zqB,zqC,i64_w,i32_w];rfl
    refine zpu 7 (N:=some 16) (zl 27 255) HT_.out rfl rfl ?_
    refine zpu 8 (N:=some 17) (zl 27 511) HT_.out rfl rfl ?_
    refine zpu 9 (N:=some 18) (zl 27 1023) HT_.out rfl rfl ?_
    refine zpu 10 (N:=some 19) (zl 27 2047) HT_.out rfl rfl ?_
    refine zpu 11 (N:=some 20) (zl 27 4095) HT_.out rfl rfl ?_
    refine zpu 12 (N:=some 21) (zl 27 8191) HT_.out rfl rfl ?_
    refine take_ (i:=13) (N:=some 22) (v:=?_) (a' := ?_) (zl 27 16383) rfl rfl (take_ofW HT_.out HW_.out zb5) (fun _ _ _ h=>h) (Or.inl ⟨zb38,?_⟩) hHeld ?_ ?_
    rotate_left
    ·rintro w' ⟨s0,s1⟩;go_simp;with_reducible rfl
    rotate_left
    ·simp only [Act.put,zqA,zqB,zqC,i64_w,i32_w];rfl
    refine one_ (i:=14) (N:=some 23) (zl 27 32767) rfl rfl (one_of HT_.out zb5) zb58 (fun K hK=>?_)
    refine goes_ Tryz.func117 zb5 rfl #[.string (rdOf ByteArray.empty t45 0)] zb38 rfl rfl zb1 ?_
    with_reducible refine (sign_Token.calls (rdOf ByteArray.empty t45 0) false _ A11.out).mono ?_
    rintro e w' ⟨rfl,⟨nd,rfl⟩⟩
    refine ⟨_,rfl,?_⟩
    refine hK.out _ _ ⟨hHeld.1,hHeld.2⟩ (fun hHeld=>?_)
    clear hK K
    refine norm_ (a' := ?_) ?_ ?_
    rotate_left
    ·show Act.put _ (some 23) _=_
     simp only [Act.put,zqA,zqB,zqC,i64_w,i32_w]
     rfl
    refine zpu 15 (N:=some 24) (zl 27 65535) HT_.out rfl rfl ?_
    refine zpu 16 (N:=some 25) (zl 27 131071) HT_.out rfl rfl ?_
    refine zpu 17 (N:=some 26) (zl 27 262143) HT_.out rfl rfl ?_
    refine pure_ (i:=18) (N:=some 27) (v:=undef) (a' := ?_) (zl 27 524287) rfl rfl (any_of HT_.out zb5) (fun _ _ _ h=>h) (Or.inr ⟨zb38,rfl⟩) ?_ ?_
    rotate_left
    ·simp only [Act.put,zqA,zqB,zqC,i64_w,i32_w];rfl
    refine pure_ (i:=19) (N:=some 28) (v:=undef) (a' := ?_) (zl 27 1048575) rfl rfl (any_of HT_.out zb5) (fun _ _ _ h=>h) (Or.inr ⟨zb38,rfl⟩) ?_ ?_
    rotate_left
    ·simp only [Act.put,zqA,zqB,zqC,i64_w,i32_w];rfl
    refine pure_ (i:=20) (N:=some 29) (v:=undef) (a' := ?_) (zl 27 2097151) rfl rfl (any_of HT_.out zb5) (fun _ _ _ h=>h) (Or.inr ⟨zb38,rfl⟩) ?_ ?_
    rotate_left
    ·simp only [Act.put,zqA,zqB,zqC,i64_w,i32_w];rfl
    refine pure_ (i:=21) (N:=some 30) (v:=undef) (a' := ?_) (zl 27 4194303) rfl rfl (any_of HT_.out zb5) (fun _ _ _ h=>h) (Or.inr ⟨zb38,rfl⟩) ?_ ?_
    rotate_left
    ·simp only [Act.put,zqA,zqB,zqC,i64_w,i32_w];rfl
    refine pure_ (i:=22) (N:=some 31) (v:=undef) (a' := ?_) (zl 27 8388607) rfl rfl (any_of HT_.out zb5) (fun _ _ _ h=>h) (Or.inr ⟨zb38,rfl⟩) ?_ ?_
    rotate_left
    ·simp only [Act.put,zqA,zqB,zqC,i64_w,i32_w];rfl
    refine pure_ (i:=23) (N:=some 32) (v:=undef) (a' := ?_) (zl 27 16777215) rfl rfl (any_of HT_.out zb5) (fun _ _ _ h=>h) (Or.inr ⟨zb38,rfl⟩) ?_ ?_
    rotate_left
    ·simp only [Act.put,zqA,zqB,zqC,i64_w,i32_w];rfl
    refine pure_ (i:=24) (N:=some 33) (v:=undef) (a' := ?_) (zl 27 33554431) rfl rfl (any_of HT_.out zb5) (fun _ _ _ h=>h) (Or.inr ⟨zb38,rfl⟩) ?_ ?_
    rotate_left
    ·simp only [Act.put,zqA,zqB,zqC,i64_w,i32_w];rfl
    refine pure_ (i:=25) (N:=some 34) (v:=undef) (a' := ?_) (zl 27 67108863) rfl rfl (any_of HT_.out zb5) (fun _ _ _ h=>h) (Or.inr ⟨zb38,rfl⟩) ?_ ?_
    rotate_left
    ·simp only [Act.put,zqA,zqB,zqC,i64_w,i32_w];rfl
    refine zpu 26 (N:=some 35) (zl 27 134217727) HT_.out rfl rfl ?_
    refine done_ (done_of HT_.out zb5) ?_
    try go_wp2
    go_meet
    case rel=>exact ⟨_,(true),zb6,H',⟨zb59⟩,⟨zb19⟩,⟨zb48⟩,⟨zb16⟩⟩
   subst c12
   rw [if_pos rfl] at H
   by_cases c13:1 < (t45.length:Int)
   ·rw [if_pos c13] at H
    have c13b0:=decide_eq_true c13
    have c13b1:decide (1 < t45.length)=true:=decide_eq_true zb14
    clear c13
    replace H:=Option.bind_eq_some_iff.mp H
    obtain ⟨t57,A62,H⟩:=H
    try dsimp only at H
    have A14:=Aside0.mk A62
    clear A62
    have H' := Aside0.mk H
    clear H
    try go_wp2
    replace HO51:=Aside0.mk (Kd.R_drew HO51.out)
    replace BK44:=Aside0.mk (blk_drew BK44.out)
    replace HB:=Aside0.mk (below_drew1 HB.out)
    obtain ⟨Ao16,co16,eo16⟩:=Kd.R_slice HO51.out
    (first|subst eo16|(injection eo16 with f1_ f2_ f3_;have f4_:=f1_.symm;have f5_:=f3_.symm;clear f1_ f2_ f3_;subst f4_;subst f5_))
    have p47:0 ≤ (0:Int):=zb14
    have q47:0 < (t45.length:Int):=of_decide_eq_true zb4
    obtain ⟨ad47,e47,hx47_0⟩:=Kd.at_string (Kd.R_reads' HO51.out).2.2 0 p47 q47
    cases e47
    have qi47:(0 < t45.length)=True:=eq_true zb14
    (try rw [show ((0:Int)).toNat=0 from rfl] at hx47_0)
    (try rw [Addr.add_zero'] at hx47_0)
    replace p47:=eq_true p47
    replace q47:=eq_true q47
    have p50:0 ≤ (0:Int):=zb14
    have q50:0 < (t45.length:Int):=of_decide_eq_true zb4
    obtain ⟨ad50,e50,hx50_0⟩:=Kd.at_string (Kd.R_reads' HO51.out).2.2 0 p50 q50
    obtain rfl:ad47=ad50:=(by injection e50)
    have qi50:(0 < t45.length)=True:=eq_true zb14
    (try rw [show ((0:Int)).toNat=0 from rfl] at hx50_0)
    (try rw [Addr.add_zero'] at hx50_0)
    replace p50:=eq_true p50
    replace q50:=eq_true q50
    have p52:0 ≤ (0:Int):=zb14
    have q52:0 < (t45.length:Int):=of_decide_eq_true zb4
    obtain ⟨ad52,e52,hx52_0⟩:=Kd.at_string (Kd.R_reads' HO51.out).2.2 0 p52 q52
    obtain rfl:ad47=ad52:=(by injection e52)
    have qi52:(0 < t45.length)=True:=eq_true zb14
    (try rw [show ((0:Int)).toNat=0 from rfl] at hx52_0)
    (try rw [Addr.add_zero'] at hx52_0)
    replace p52:=eq_true p52
    replace q52:=eq_true q52
    have p53:0 ≤ (1:Int):=zb14
    have q53:1 < (t45.length:Int):=of_decide_eq_true zb4
    obtain ⟨ad53,e53,hx53_0⟩:=Kd.at_string (Kd.R_reads' HO51.out).2.2 1 p53 q53
    obtain rfl:ad47=ad53:=(by injection e53)
    (try simp only [show (1:Int).toNat=1 from rfl,Nat.reduceMul,Nat.reduceEqDiff,Go.Addr.add,↓reduceIte] at hx53_0)
    have qi53:(1 < t45.length)=True:=eq_true zb14
    (try rw [show ((1:Int)).toNat=1 from rfl] at hx53_0)
    replace p53:=eq_true p53
    replace q53:=eq_true q53
    refine start_ (n:=27) (S:=fun w' => w'.cell? ad47=some (.string (rdOf ByteArray.empty t45 0))∧w'.cell? ad47=some (.string (rdOf ByteArray.empty t45 0))∧w'.cell? ad47=some (.string (rdOf ByteArray.empty t45 0))∧w'.cell? ⟨ad47.block,ad47.off + 1,none⟩=some (.string (rdOf ByteArray.empty t45 1))) (ds:=[]) (zl 27 0) zb5 rfl rfl ⟨hx47_0,hx50_0,hx52_0,hx53_0⟩ (fun hHeld=>?_);refine with_tabW line_Request.tab2 line_Request.bits2 (fun HT_ HW_=>?_)
    generalize w5.drew=w15 at HO51 BK44 HB hx47_0 hx50_0 hx52_0 hx53_0 hHeld ⊢
    refine zpu 0 (N:=some 9) (zl 27 1) HT_.out rfl rfl ?_
    refine zpu 1 (N:=some 10) (zl 27 3) HT_.out rfl rfl ?_
    refine zpu 2 (N:=some 11) (zl 27 7) HT_.out rfl rfl ?_
    refine zpu 3 (N:=some 12) (zl 27 15) HT_.out rfl rfl ?_
    refine zpu 4 (N:=some 13) (zl 27 31) HT_.out rfl rfl ?_
    refine zpu 5 (N:=some 14) (zl 27 63) HT_.out rfl rfl ?_
    refine take_ (i:=6) (N:=some 15) (v:=?_) (a' := ?_) (zl 27 127) rfl rfl (take_ofW HT_.out HW_.out zb5) (fun _ _ _ h=>h) (Or.inl ⟨zb38,?_⟩) hHeld ?_ ?_
    rotate_left
    ·rintro w' ⟨s0,s1,s2,s3⟩;go_simp;with_reducible rfl
    rotate_left
    ·simp only [Act.put,zqA,zqB,zqC,i64_w,i32_w];rfl
    refine zpu 7 (N:=some 16) (zl 27 255) HT_.out rfl rfl ?_
    refine zpu 8 (N:=some 17) (zl 27 511) HT_.out rfl rfl ?_
    refine zpu 9 (N:=some 18) (zl 27 1023) HT_.out rfl rfl ?_
    refine zpu 10 (N:=some 19) (zl 27 2047) HT_.out rfl rfl ?_
    refine zpu 11 (N:=some 20) (zl 27 4095) HT_.out rfl rfl ?_
    refine zpu 12 (N:=some 21) (zl 27 8191) HT_.out rfl rfl ?_
    refine take_ (i:=13) (N:=some 22) (v:=?_) (a' := ?_) (zl 27 16383) rfl rfl (take_ofW HT_.out HW_.out zb5) (fun _ _ _ h=>h) (Or.inl ⟨zb38,?_⟩) hHeld ?_ ?_
    rotate_left
    ·rintro w' ⟨s0,s1,s2,s3⟩;go_simp;with_reducible rfl
    rotate_left
    ·simp only [Act.put,zqA,zqB,zqC,i64_w,i32_w];rfl
    refine one_ (i:=14) (N:=some 23) (zl 27 32767) rfl rfl (one_of HT_.out zb5) zb58 (fun K hK=>?_)
    refine goes_ Tryz.func117 zb5 rfl #[.string (rdOf ByteArray.empty t45 0)] zb38 rfl rfl zb1 ?_
    with_reducible refine (sign_Token.calls (rdOf ByteArray.empty t45 0) true _ A11.out).mono ?_
    rintro e w' ⟨rfl,⟨nd,rfl⟩⟩
    refine ⟨_,rfl,?_⟩
    refine hK.out _ _ ⟨hHeld.1,hHeld.2.1,hHeld.2.2.1,hHeld.2.2.2⟩ (fun hHeld=>?_)
    clear hK K
    refine norm_ (a' := ?_) ?_ ?_
    rotate_left
    ·show Act.put _ (some 23) _=_
     simp only [Act.put,zqA,zqB,zqC,i64_w,i32_w]
     rfl
    refine zpu 15 (N:=some 24) (zl 27 65535) HT_.out rfl rfl ?_
    refine zpu 16 (N:=some 25) (zl 27 131071) HT_.out rfl rfl ?_
    refine zpu 17 (N:=some 26) (zl 27 262143) HT_.out rfl rfl ?_
    refine zpu 18 (N:=some 27) (zl 27 524287) HT_.out rfl rfl ?_
    refine zpu 19 (N:=some 28) (zl 27 1048575) HT_.out rfl rfl ?_
    refine zpu 21 (N:=some 30) (zl 27 3145727) HT_.out rfl rfl ?_
    refine zpu 22 (N:=some 31) (zl 27 7340031) HT_.out rfl rfl ?_
    refine take_ (i:=20) (N:=some 29) (v:=?_) (a' := ?_) (zl 27 8388607) rfl rfl (take_ofW HT_.out HW_.out zb5) (fun _ _ _ h=>h) (Or.inl ⟨zb38,?_⟩) hHeld ?_ ?_
    rotate_left
    ·rintro w' ⟨s0,s1,s2,s3⟩;go_simp;with_reducible rfl
    rotate_left
    ·simp only [Act.put,zqA,zqB,zqC,i64_w,i32_w];rfl
    refine take_ (i:=23) (N:=some 32) (v:=?_) (a' := ?_) (zl 27 16777215) rfl rfl (take_ofW HT_.out HW_.out zb5) (fun _ _ _ h=>h) (Or.inl ⟨zb38,?_⟩) hHeld ?_ ?_
    rotate_left
    ·rintro w' ⟨s0,s1,s2,s3⟩;go_simp;with_reducible rfl
    rotate_left
    ·simp only [Act.put,zqA,zqB,zqC,i64_w,i32_w];rfl
    refine one_ (i:=24) (N:=some 33) (zl 27 33554431) rfl rfl (one_of HT_.out zb5) zb58 (fun K hK=>?_)
    refine goes_ Tryz.func118 zb5 rfl #[.string (rdOf ByteArray.empty t45 0),.string (rdOf ByteArray.empty t45 1)] zb38 rfl rfl zb1 ?_
    with_reducible refine (line_target.calls (rdOf ByteArray.empty t45 0) (rdOf ByteArray.empty t45 1) t57 _ A14.out).mono ?_
    rintro e w' ⟨rfl,⟨nd,rfl⟩⟩
    refine ⟨_,rfl,?_⟩
    refine hK.out _ _ ⟨hHeld.1,hHeld.2.1,hHeld.2.2.1,hHeld.2.2.2⟩ (fun hHeld=>?_)
    clear hK K
    refine norm_ (a' := ?_) ?_ ?_
    rotate_left
    ·show Act.put _ (some 33) _=_
     simp only [Act.put,zqA,zqB,zqC,i64_w,i32_w]
     rfl
    refine zpu 25 (N:=some 34) (zl 27 67108863) HT_.out rfl rfl ?_
    refine zpu 26 (N:=some 35) (zl 27 134217727) HT_.out rfl rfl ?_
    refine done_ (done_of HT_.out zb5) ?_
    try go_wp2
    go_meet
    case rel=>exact ⟨_,(!t57),zb6,H',⟨zb59⟩,⟨zb19⟩,⟨zb48⟩,⟨zb16⟩⟩
   ·rw [if_neg c13] at H
    exact absurd H zb36
  ·rw [if_neg c7] at H
   exact absurd H zb36
 case rest =>
  clear HC3
  try clear c1
  try clear p1
  try clear q1
  try clear hx1
  try clear qi1
  try clear p2
  try clear c6
  try clear c6b0
  try clear c6b1
  try clear c7
  try clear c11
  try clear c12
  try clear c13
  try clear p15
  try clear q15
  try clear hx15
  try clear qi15
  try clear hx47_0
  try clear hx50_0
  try clear p47
  try clear p50
  try clear q47
  try clear q50
  obtain ⟨kq,x35_2,rfl,HA,HJ2,HO_4,BK44,HB⟩:=hcut
  cases kq with
  | zero=>exact absurd HA.out (by simp [line_Request.j0])
  | succ kj2 =>
   have H:=HA.out
   clear HA
   simp only [line_Request.j0] at H
   by_cases c21:x35_2=true
   ·subst c21
    rw [if_pos rfl] at H
    simp only [Option.some.injEq,Prod.mk.injEq] at H
    obtain ⟨rfl,rfl,rfl,rfl,rfl,rfl⟩:=H
    obtain ⟨hcz22_0,hcz22_1,hcz22_2,hcz22_3,hcz22_4,hfz22_0,hfz22_1,hfz22_2,hfz22_3,hfz22_4⟩:=zq5 BK44.out
    go_wp2
    refine bodyPost_ret (results_ct rfl _ _ gb44 26 #[.string (⟨#[]⟩:ByteArray),.string (⟨#[]⟩:ByteArray),.int .i64 0,.slice none 0 0,.slice none 0 0] (0,0) _ rfl zb3 Tryz.underlying26 rfl zb5) rfl ?_
    exact ⟨_,_,zb2,zb8,zb8,zb16⟩
   replace c21:=Bool.eq_false_iff.mpr c21
   subst c21
   rw [if_neg (show ¬ (false=true) by decide)] at H
   by_cases c23:2 < (t45.length:Int);rotate_left
   ·rw [if_neg c23] at H
    exact absurd H zb36
   rw [if_pos c23] at H
   have c23b0:=decide_eq_true c23
   have c23b1:decide (2 < t45.length)=true:=decide_eq_true zb14
   clear c23
   replace H:=Option.bind_eq_some_iff.mp H
   obtain ⟨⟨t56,t59⟩,A63,H⟩:=H
   try dsimp only at H
   have A24:=Aside0.mk A63
   clear A63
   by_cases c25:1 < (t45.length:Int)
   ·rw [if_pos c25] at H
    have c25b0:=decide_eq_true c25
    have c25b1:decide (1 < t45.length)=true:=decide_eq_true zb14
    clear c25
    by_cases c26:((rdOf ByteArray.empty t45 1).size:Int) > 512
    ·rw [if_pos c26] at H
     have c26b0:decide (512 < ((rdOf ByteArray.empty t45 1).size:Int))=true:=decide_eq_true c26
     have c26b1:decide (512 < (rdOf ByteArray.empty t45 1).size)=true:=decide_eq_true zb14
     clear c26
     simp only [Option.some.injEq,Prod.mk.injEq] at H
     obtain ⟨rfl,rfl,rfl,rfl,rfl,rfl⟩:=H
     obtain ⟨Ao27,co27,eo27⟩:=Kd.R_slice HO_4.out
     subst eo27
     have p46:0 ≤ (2:Int):=zb14
     have q46:2 < (t45.length:Int):=of_decide_eq_true zb4
     obtain ⟨ad46,e46,hx46_0⟩:=Kd.at_string (Kd.R_reads' HO_4.out).2.2 2 p46 q46
     cases e46
     (try simp only [show (2:Int).toNat=2 from rfl,Nat.reduceMul,Nat.reduceEqDiff,Go.Addr.add,↓reduceIte] at hx46_0)
     have qi46:(2 < t45.length)=True:=eq_true zb14
     (try rw [show ((2:Int)).toNat=2 from rfl] at hx46_0)
     replace p46:=eq_true p46
     replace q46:=eq_true q46
     go_wp2_with (first|((with_reducible refine gate_callee (f:=111) rfl ?_);refine goesL_ (some 41) rfl rfl Tryz.func111 zb5 rfl #[.string (rdOf ByteArray.empty t45 2)] rfl zb1 ?_;(with_reducible refine (line_minor.calls (rdOf ByteArray.empty t45 2) t56 t59 _ A24.out).mono ?_);rintro e w' ⟨rfl,⟨nd,rfl⟩⟩;(try clear A24);refine ⟨_,rfl,?_⟩;(try (rw [drewN_self wc];generalize hq_:World.drewN wc _=wc;have n0_:Aside0 (Kd.R Kd.string 9 wc w.heap.size (fun _=>True) (.slice (some ad46) t45.length co27) t45):=⟨zb37⟩;have n1_:Aside0 (wc.heap[gb44]? = some (.cells #[.string (⟨#[]⟩:ByteArray),.string (⟨#[]⟩:ByteArray),.int .i64 0,.slice none 0 0,.slice none 0 0] 26 (0,0))):=⟨zb29⟩;have n2_:Aside0 (Below w.heap.size w wc):=⟨zb22⟩;clear HO_4 BK44 HB hq_;have HO_4:=n0_;have BK44:=n1_;have HB:=n2_;clear n0_ n1_ n2_));have p48:0 ≤ (1:Int):=zb14;have q48:1 < (t45.length:Int):=of_decide_eq_true zb4;obtain ⟨ad48,e48,hx48_0⟩:=Kd.at_string (Kd.R_reads' HO_4.out).2.2 1 p48 q48;obtain rfl:ad46=ad48:=(by injection e48);(try simp only [show (1:Int).toNat=1 from rfl,Nat.reduceMul,Nat.reduceEqDiff,Go.Addr.add,↓reduceIte] at hx48_0);have qi48:(1 < t45.length)=True:=eq_true zb14;(try rw [show ((1:Int)).toNat=1 from rfl] at hx48_0);replace p48:=eq_true p48;replace q48:=eq_true q48;obtain ⟨hcz28_0,hcz28_1,hcz28_2,hcz28_3,hcz28_4,hfz28_0,hfz28_1,hfz28_2,hfz28_3,hfz28_4⟩:=zq5 BK44.out))
     refine bodyPost_ret (results_ct rfl _ _ gb44 26 #[.string (⟨#[]⟩:ByteArray),.string (⟨#[]⟩:ByteArray),.int .i64 0,.slice none 0 0,.slice none 0 0] (0,0) _ rfl zb3 Tryz.underlying26 rfl zb5) rfl ?_
     exact ⟨_,_,zb2,zb8,zb8,zb16⟩
    rw [if_neg c26] at H
    have c26b0:decide (512 < ((rdOf ByteArray.empty t45 1).size:Int))=false:=decide_eq_false c26
    have c26b1:decide (512 < (rdOf ByteArray.empty t45 1).size)=false:=decide_eq_false zb14
    clear c26
    replace H:=Option.bind_eq_some_iff.mp H
    obtain ⟨t60,A65,H⟩:=H
    try dsimp only at H
    have A29:=Aside0.mk A65
    clear A65
    by_cases c30:t60=true;rotate_left
    ·replace c30:=Bool.eq_false_iff.mpr c30
     subst c30
     rw [if_neg (show ¬ (false=true) by decide)] at H
     simp only [Option.some.injEq,Prod.mk.injEq] at H
     obtain ⟨rfl,rfl,rfl,rfl,rfl,rfl⟩:=H
     obtain ⟨Ao42,co42,eo42⟩:=Kd.R_slice HO_4.out
     subst eo42
     have p46:0 ≤ (2:Int):=zb14
     have q46:2 < (t45.length:Int):=of_decide_eq_true zb4
     obtain ⟨ad46,e46,hx46_0⟩:=Kd.at_string (Kd.R_reads' HO_4.out).2.2 2 p46 q46
     cases e46
     (try simp only [show (2:Int).toNat=2 from rfl,Nat.reduceMul,Nat.reduceEqDiff,Go.Addr.add,↓reduceIte] at hx46_0)
     have qi46:(2 < t45.length)=True:=eq_true zb14
     (try rw [show ((2:Int)).toNat=2 from rfl] at hx46_0)
     replace p46:=eq_true p46
     replace q46:=eq_true q46
     go_wp2_with (first|((with_reducible refine gate_callee (f:=111) rfl ?_);refine goesL_ (some 41) rfl rfl Tryz.func111 zb5 rfl #[.string (rdOf ByteArray.empty t45 2)] rfl zb1 ?_;(with_reducible refine (line_minor.calls (rdOf ByteArray.empty t45 2) t56 t59 _ A24.out).mono ?_);rintro e w' ⟨rfl,⟨nd,rfl⟩⟩;(try clear A24);refine ⟨_,rfl,?_⟩;(try (rw [drewN_self wc];generalize hq_:World.drewN wc _=wc;have n0_:Aside0 (Kd.R Kd.string 9 wc w.heap.size (fun _=>True) (.slice (some ad46) t45.length co42) t45):=⟨zb37⟩;have n1_:Aside0 (wc.heap[gb44]? = some (.cells #[.string (⟨#[]⟩:ByteArray),.string (⟨#[]⟩:ByteArray),.int .i64 0,.slice none 0 0,.slice none 0 0] 26 (0,0))):=⟨zb29⟩;have n2_:Aside0 (Below w.heap.size w wc):=⟨zb22⟩;clear HO_4 BK44 HB hq_;have HO_4:=n0_;have BK44:=n1_;have HB:=n2_;clear n0_ n1_ n2_));have p48:0 ≤ (1:Int):=zb14;have q48:1 < (t45.length:Int):=of_decide_eq_true zb4;obtain ⟨ad48,e48,hx48_0⟩:=Kd.at_string (Kd.R_reads' HO_4.out).2.2 1 p48 q48;obtain rfl:ad46=ad48:=(by injection e48);(try simp only [show (1:Int).toNat=1 from rfl,Nat.reduceMul,Nat.reduceEqDiff,Go.Addr.add,↓reduceIte] at hx48_0);have qi48:(1 < t45.length)=True:=eq_true zb14;(try rw [show ((1:Int)).toNat=1 from rfl] at hx48_0);replace p48:=eq_true p48;replace q48:=eq_true q48;have p49:0 ≤ (2:Int):=zb14;have q49:2 < (t45.length:Int):=of_decide_eq_true zb4;obtain ⟨ad49,e49,hx49_0⟩:=Kd.at_string (Kd.R_reads' HO_4.out).2.2 2 p49 q49;obtain rfl:ad46=ad49:=(by injection e49);(try simp only [show (2:Int).toNat=2 from rfl,Nat.reduceMul,Nat.reduceEqDiff,Go.Addr.add,↓reduceIte] at hx49_0);have qi49:(2 < t45.length)=True:=eq_true zb14;(try rw [show ((2:Int)).toNat=2 from rfl] at hx49_0);replace p49:=eq_true p49;replace q49:=eq_true q49)|((with_reducible refine gate_callee (f:=119) rfl ?_);refine goesL_ (some 55) rfl rfl Tryz.func119 zb5 rfl #[.string (rdOf ByteArray.empty t45 2)] rfl zb1 ?_;(with_reducible refine (line_numbered.calls (rdOf ByteArray.empty t45 2) false _ A29.out).mono ?_);rintro e w' ⟨rfl,⟨nd,rfl⟩⟩;(try clear A29);refine ⟨_,rfl,?_⟩;(try (rw [drewN_self wc];generalize hq_:World.drewN wc _=wc;have n0_:Aside0 (Kd.R Kd.string 9 wc w.heap.size (fun _=>True) (.slice (some ad46) t45.length co42) t45):=⟨zb37⟩;have n1_:Aside0 (wc.heap[gb44]? = some (.cells #[.string (⟨#[]⟩:ByteArray),.string (⟨#[]⟩:ByteArray),.int .i64 0,.slice none 0 0,.slice none 0 0] 26 (0,0))):=⟨zb29⟩;have n2_:Aside0 (Below w.heap.size w wc):=⟨zb22⟩;clear HO_4 BK44 HB hq_;have HO_4:=n0_;have BK44:=n1_;have HB:=n2_;clear n0_ n1_ n2_));obtain ⟨hcz43_0,hcz43_1,hcz43_2,hcz43_3,hcz43_4,hfz43_0,hfz43_1,hfz43_2,hfz43_3,hfz43_4⟩:=zq5 BK44.out))
     refine bodyPost_ret (results_ct rfl _ _ gb44 26 #[.string (⟨#[]⟩:ByteArray),.string (⟨#[]⟩:ByteArray),.int .i64 0,.slice none 0 0,.slice none 0 0] (0,0) _ rfl zb3 Tryz.underlying26 rfl zb5) rfl ?_
     exact ⟨_,_,zb2,zb8,zb8,zb16⟩
    subst c30
    rw [if_pos rfl] at H
    by_cases c31:t59=true
    ·subst c31
     rw [if_pos rfl] at H
     by_cases c32:0 < (t45.length:Int);rotate_left
     ·rw [if_neg c32] at H
      exact absurd H zb36
     rw [if_pos c32] at H
     have c32b0:=decide_eq_true c32
     have c32b1:decide (0 < t45.length)=true:=decide_eq_true zb14
     clear c32
     simp only [Option.some.injEq,Prod.mk.injEq] at H
     obtain ⟨rfl,rfl,rfl,rfl,rfl,rfl⟩:=H
     obtain ⟨Ao33,co33,eo33⟩:=Kd.R_slice HO_4.out
     subst eo33
     have p46:0 ≤ (2:Int):=zb14
     have q46:2 < (t45.length:Int):=of_decide_eq_true zb4
     obtain ⟨ad46,e46,hx46_0⟩:=Kd.at_string (Kd.R_reads' HO_4.out).2.2 2 p46 q46
     cases e46
     (try simp only [show (2:Int).toNat=2 from rfl,Nat.reduceMul,Nat.reduceEqDiff,Go.Addr.add,↓reduceIte] at hx46_0)
     have qi46:(2 < t45.length)=True:=eq_true zb14
     (try rw [show ((2:Int)).toNat=2 from rfl] at hx46_0)
     replace p46:=eq_true p46
     replace q46:=eq_true q46
     try go_wp2_with (first|((with_reducible refine gate_callee (f:=111) rfl ?_);refine goesL_ (some 41) rfl rfl Tryz.func111 zb5 rfl #[.string (rdOf ByteArray.empty t45 2)] rfl zb1 ?_;(with_reducible refine (line_minor.calls (rdOf ByteArray.empty t45 2) t56 true _ A24.out).mono ?_);rintro e w' ⟨rfl,⟨nd,rfl⟩⟩;(try clear A24);refine ⟨_,rfl,?_⟩;(try (rw [drewN_self wc];generalize hq_:World.drewN wc _=wc;have n0_:Aside0 (Kd.R Kd.string 9 wc w.heap.size (fun _=>True) (.slice (some ad46) t45.length co33) t45):=⟨zb37⟩;have n1_:Aside0 (wc.heap[gb44]? = some (.cells #[.string (⟨#[]⟩:ByteArray),.string (⟨#[]⟩:ByteArray),.int .i64 0,.slice none 0 0,.slice none 0 0] 26 (0,0))):=⟨zb29⟩;have n2_:Aside0 (Below w.heap.size w wc):=⟨zb22⟩;clear HO_4 BK44 HB hq_;have HO_4:=n0_;have BK44:=n1_;have HB:=n2_;clear n0_ n1_ n2_));have p48:0 ≤ (1:Int):=zb14;have q48:1 < (t45.length:Int):=of_decide_eq_true zb4;obtain ⟨ad48,e48,hx48_0⟩:=Kd.at_string (Kd.R_reads' HO_4.out).2.2 1 p48 q48;obtain rfl:ad46=ad48:=(by injection e48);(try simp only [show (1:Int).toNat=1 from rfl,Nat.reduceMul,Nat.reduceEqDiff,Go.Addr.add,↓reduceIte] at hx48_0);have qi48:(1 < t45.length)=True:=eq_true zb14;(try rw [show ((1:Int)).toNat=1 from rfl] at hx48_0);replace p48:=eq_true p48;replace q48:=eq_true q48;have p49:0 ≤ (2:Int):=zb14;have q49:2 < (t45.length:Int):=of_decide_eq_true zb4;obtain ⟨ad49,e49,hx49_0⟩:=Kd.at_string (Kd.R_reads' HO_4.out).2.2 2 p49 q49;obtain rfl:ad46=ad49:=(by injection e49);(try simp only [show (2:Int).toNat=2 from rfl,Nat.reduceMul,Nat.reduceEqDiff,Go.Addr.add,↓reduceIte] at hx49_0);have qi49:(2 < t45.length)=True:=eq_true zb14;(try rw [show ((2:Int)).toNat=2 from rfl] at hx49_0);replace p49:=eq_true p49;replace q49:=eq_true q49)|((with_reducible refine gate_callee (f:=119) rfl ?_);refine goesL_ (some 55) rfl rfl Tryz.func119 zb5 rfl #[.string (rdOf ByteArray.empty t45 2)] rfl zb1 ?_;(with_reducible refine (line_numbered.calls (rdOf ByteArray.empty t45 2) true _ A29.out).mono ?_);rintro e w' ⟨rfl,⟨nd,rfl⟩⟩;(try clear A29);refine ⟨_,rfl,?_⟩;(try (rw [drewN_self wc];generalize hq_:World.drewN wc _=wc;have n0_:Aside0 (Kd.R Kd.string 9 wc w.heap.size (fun _=>True) (.slice (some ad46) t45.length co33) t45):=⟨zb37⟩;have n1_:Aside0 (wc.heap[gb44]? = some (.cells #[.string (⟨#[]⟩:ByteArray),.string (⟨#[]⟩:ByteArray),.int .i64 0,.slice none 0 0,.slice none 0 0] 26 (0,0))):=⟨zb29⟩;have n2_:Aside0 (Below w.heap.size w wc):=⟨zb22⟩;clear HO_4 BK44 HB hq_;have HO_4:=n0_;have BK44:=n1_;have HB:=n2_;clear n0_ n1_ n2_))))
     replace HO_4:=Aside0.mk (Kd.R_drew HO_4.out)
     replace BK44:=Aside0.mk (blk_drew BK44.out)
     replace HB:=Aside0.mk (below_drew1 HB.out)
     have p54:0 ≤ (0:Int):=zb14
     have q54:0 < (t45.length:Int):=of_decide_eq_true zb4
     obtain ⟨ad54,e54,hx54_0⟩:=Kd.at_string (Kd.R_reads' HO_4.out).2.2 0 p54 q54
     obtain rfl:ad46=ad54:=(by injection e54)
     have qi54:(0 < t45.length)=True:=eq_true zb14
     (try rw [show ((0:Int)).toNat=0 from rfl] at hx54_0)
     (try rw [Addr.add_zero'] at hx54_0)
     replace p54:=eq_true p54
     replace q54:=eq_true q54
     have p55:0 ≤ (1:Int):=zb14
     have q55:1 < (t45.length:Int):=of_decide_eq_true zb4
     obtain ⟨ad55,e55,hx55_0⟩:=Kd.at_string (Kd.R_reads' HO_4.out).2.2 1 p55 q55
     obtain rfl:ad46=ad55:=(by injection e55)
     (try simp only [show (1:Int).toNat=1 from rfl,Nat.reduceMul,Nat.reduceEqDiff,Go.Addr.add,↓reduceIte] at hx55_0)
     have qi55:(1 < t45.length)=True:=eq_true zb14
     (try rw [show ((1:Int)).toNat=1 from rfl] at hx55_0)
     replace p55:=eq_true p55
     replace q55:=eq_true q55
     refine start_ (n:=10) (S:=fun w' => w'.cell? ad46=some (.string (rdOf ByteArray.empty t45 0))∧w'.cell? ⟨ad46.block,ad46.off + 1,none⟩=some (.string (rdOf ByteArray.empty t45 1))) (ds:=[]) (zl 10 0) zb5 rfl rfl ⟨hx54_0,hx55_0⟩ (fun hHeld=>?_);refine with_tabW line_Request.tab11 line_Request.bits11 (fun HT_ HW_=>?_)
     generalize wc.drew=w34 at HO_4 BK44 HB hx54_0 hx55_0 hHeld ⊢
     refine zpu 0 (N:=some 62) (zl 10 1) HT_.out rfl rfl ?_
     refine zpu 1 (N:=some 63) (zl 10 3) HT_.out rfl rfl ?_
     refine zpu 3 (N:=some 65) (zl 10 11) HT_.out rfl rfl ?_
     refine zpu 4 (N:=some 66) (zl 10 27) HT_.out rfl rfl ?_
     refine zpu 6 (N:=some 68) (zl 10 91) HT_.out rfl rfl ?_
     refine take_ (i:=2) (N:=some 64) (v:=?_) (a' := ?_) (zl 10 95) rfl rfl (take_ofW HT_.out HW_.out zb5) (fun _ _ _ h=>h) (Or.inl ⟨zb38,?_⟩) hHeld ?_ ?_
     rotate_left
     ·rintro w' ⟨s0,s1⟩;go_simp;with_reducible rfl
     rotate_left
     ·simp only [Act.put,zqA,zqB,zqC,i64_w,i32_w];rfl
     refine take_ (i:=5) (N:=some 67) (v:=?_) (a' := ?_) (zl 10 127) rfl rfl (take_ofW HT_.out HW_.out zb5) (fun _ _ _ h=>h) (Or.inl ⟨zb38,?_⟩) hHeld ?_ ?_
     rotate_left
     ·rintro w' ⟨s0,s1⟩;go_simp;with_reducible rfl
     rotate_left
     ·simp only [Act.put,zqA,zqB,zqC,i64_w,i32_w];rfl
     refine zpu 7 (N:=some 69) (zl 10 255) HT_.out rfl rfl ?_
     refine one_ (i:=8) (N:=none) (zl 10 511) rfl rfl (one_of HT_.out zb5) zb58 (fun K hK=>?_)
     have hs35:w34.cell? ⟨gb44,0,none⟩=some (.string (⟨#[]⟩:ByteArray)):=(blk_cell BK44.out 0).trans rfl
     have hfs35:=blk_frozen BK44.out 0
     have hs36:w34.cell? ⟨gb44,1,none⟩=some (.string (⟨#[]⟩:ByteArray)):=(blk_cell BK44.out 1).trans rfl
     have hfs36:=blk_frozen BK44.out 1
     have hs37:w34.cell? ⟨gb44,2,none⟩=some (.int .i64 0):=(blk_cell BK44.out 2).trans rfl
     have hfs37:=blk_frozen BK44.out 2
     have hs38:w34.cell? ⟨gb44,3,none⟩=some (.slice none 0 0):=(blk_cell BK44.out 3).trans rfl
     have hfs38:=blk_frozen BK44.out 3
     have hs39:w34.cell? ⟨gb44,4,none⟩=some (.slice none 0 0):=(blk_cell BK44.out 4).trans rfl
     have hfs39:=blk_frozen BK44.out 4
     refine skip_ (w1:=?_) zb38 rfl ?_ ?_
     rotate_left
     ·go_simp
      rfl
     refine hK.out _ _ ⟨((cell_far (p:=⟨gb44,_,none⟩) zb7 _).trans (((cell_far (p:=⟨gb44,_,none⟩) zb7 _).trans (((cell_far (p:=⟨gb44,_,none⟩) zb7 _).trans (((cell_far (p:=⟨gb44,_,none⟩) zb7 _).trans (((cell_far (p:=⟨gb44,_,none⟩) zb7 _).trans (hHeld.1)))))))))),((cell_far (p:=⟨gb44,_,none⟩) zb7 _).trans (((cell_far (p:=⟨gb44,_,none⟩) zb7 _).trans (((cell_far (p:=⟨gb44,_,none⟩) zb7 _).trans (((cell_far (p:=⟨gb44,_,none⟩) zb7 _).trans (((cell_far (p:=⟨gb44,_,none⟩) zb7 _).trans (hHeld.2))))))))))⟩ (fun hHeld=>?_)
     clear hK K
     refine zpu 9 (N:=some 3) (zl 10 1023) HT_.out rfl rfl ?_
     refine done_ (done_of HT_.out zb5) ?_
     try go_wp2
     refine bodyPost_ret (results_ct rfl _ _ gb44 26 #[.string (rdOf ByteArray.empty t45 0),.string (rdOf ByteArray.empty t45 1),.int .i64 t56,.slice none 0 0,.slice none 0 0] (0,0) _ rfl (by (with_reducible repeat (first|refine blk_drewN ?_ _|refine blk_drew ?_|refine blk_alloc ?_ _));refine blk_put (cs:=#[.string (rdOf ByteArray.empty t45 0),.string (rdOf ByteArray.empty t45 1),.int .i64 t56,.slice none 0 0,.slice none 0 0]) ?_ 4 _ rfl;(with_reducible repeat (first|refine blk_drewN ?_ _|refine blk_drew ?_|refine blk_alloc ?_ _));refine blk_put (cs:=#[.string (rdOf ByteArray.empty t45 0),.string (rdOf ByteArray.empty t45 1),.int .i64 t56,.slice none 0 0,.slice none 0 0]) ?_ 3 _ rfl;(with_reducible repeat (first|refine blk_drewN ?_ _|refine blk_drew ?_|refine blk_alloc ?_ _));refine blk_put (cs:=#[.string (rdOf ByteArray.empty t45 0),.string (rdOf ByteArray.empty t45 1),.int .i64 0,.slice none 0 0,.slice none 0 0]) ?_ 2 _ rfl;(with_reducible repeat (first|refine blk_drewN ?_ _|refine blk_drew ?_|refine blk_alloc ?_ _));refine blk_put (cs:=#[.string (rdOf ByteArray.empty t45 0),.string (⟨#[]⟩:ByteArray),.int .i64 0,.slice none 0 0,.slice none 0 0]) ?_ 1 _ rfl;(with_reducible repeat (first|refine blk_drewN ?_ _|refine blk_drew ?_|refine blk_alloc ?_ _));refine blk_put (cs:=#[.string (⟨#[]⟩:ByteArray),.string (⟨#[]⟩:ByteArray),.int .i64 0,.slice none 0 0,.slice none 0 0]) ?_ 0 _ rfl;(with_reducible repeat (first|refine blk_drewN ?_ _|refine blk_drew ?_|refine blk_alloc ?_ _));exact BK44.out) Tryz.underlying26 rfl zb5) rfl ?_
     exact ⟨_,_,zb2,zb8,zb8,zb16⟩
    ·replace c31:=Bool.eq_false_iff.mpr c31
     subst c31
     rw [if_neg (show ¬ (false=true) by decide)] at H
     simp only [Option.some.injEq,Prod.mk.injEq] at H
     obtain ⟨rfl,rfl,rfl,rfl,rfl,rfl⟩:=H
     obtain ⟨Ao40,co40,eo40⟩:=Kd.R_slice HO_4.out
     subst eo40
     have p46:0 ≤ (2:Int):=zb14
     have q46:2 < (t45.length:Int):=of_decide_eq_true zb4
     obtain ⟨ad46,e46,hx46_0⟩:=Kd.at_string (Kd.R_reads' HO_4.out).2.2 2 p46 q46
     cases e46
     (try simp only [show (2:Int).toNat=2 from rfl,Nat.reduceMul,Nat.reduceEqDiff,Go.Addr.add,↓reduceIte] at hx46_0)
     have qi46:(2 < t45.length)=True:=eq_true zb14
     (try rw [show ((2:Int)).toNat=2 from rfl] at hx46_0)
     replace p46:=eq_true p46
     replace q46:=eq_true q46
     go_wp2_with (first|((with_reducible refine gate_callee (f:=111) rfl ?_);refine goesL_ (some 41) rfl rfl Tryz.func111 zb5 rfl #[.string (rdOf ByteArray.empty t45 2)] rfl zb1 ?_;(with_reducible refine (line_minor.calls (rdOf ByteArray.empty t45 2) t56 false _ A24.out).mono ?_);rintro e w' ⟨rfl,⟨nd,rfl⟩⟩;(try clear A24);refine ⟨_,rfl,?_⟩;(try (rw [drewN_self wc];generalize hq_:World.drewN wc _=wc;have n0_:Aside0 (Kd.R Kd.string 9 wc w.heap.size (fun _=>True) (.slice (some ad46) t45.length co40) t45):=⟨zb37⟩;have n1_:Aside0 (wc.heap[gb44]? = some (.cells #[.string (⟨#[]⟩:ByteArray),.string (⟨#[]⟩:ByteArray),.int .i64 0,.slice none 0 0,.slice none 0 0] 26 (0,0))):=⟨zb29⟩;have n2_:Aside0 (Below w.heap.size w wc):=⟨zb22⟩;clear HO_4 BK44 HB hq_;have HO_4:=n0_;have BK44:=n1_;have HB:=n2_;clear n0_ n1_ n2_));have p48:0 ≤ (1:Int):=zb14;have q48:1 < (t45.length:Int):=of_decide_eq_true zb4;obtain ⟨ad48,e48,hx48_0⟩:=Kd.at_string (Kd.R_reads' HO_4.out).2.2 1 p48 q48;obtain rfl:ad46=ad48:=(by injection e48);(try simp only [show (1:Int).toNat=1 from rfl,Nat.reduceMul,Nat.reduceEqDiff,Go.Addr.add,↓reduceIte] at hx48_0);have qi48:(1 < t45.length)=True:=eq_true zb14;(try rw [show ((1:Int)).toNat=1 from rfl] at hx48_0);replace p48:=eq_true p48;replace q48:=eq_true q48;have p49:0 ≤ (2:Int):=zb14;have q49:2 < (t45.length:Int):=of_decide_eq_true zb4;obtain ⟨ad49,e49,hx49_0⟩:=Kd.at_string (Kd.R_reads' HO_4.out).2.2 2 p49 q49;obtain rfl:ad46=ad49:=(by injection e49);(try simp only [show (2:Int).toNat=2 from rfl,Nat.reduceMul,Nat.reduceEqDiff,Go.Addr.add,↓reduceIte] at hx49_0);have qi49:(2 < t45.length)=True:=eq_true zb14;(try rw [show ((2:Int)).toNat=2 from rfl] at hx49_0);replace p49:=eq_true p49;replace q49:=eq_true q49)|((with_reducible refine gate_callee (f:=119) rfl ?_);refine goesL_ (some 55) rfl rfl Tryz.func119 zb5 rfl #[.string (rdOf ByteArray.empty t45 2)] rfl zb1 ?_;(with_reducible refine (line_numbered.calls (rdOf ByteArray.empty t45 2) true _ A29.out).mono ?_);rintro e w' ⟨rfl,⟨nd,rfl⟩⟩;(try clear A29);refine ⟨_,rfl,?_⟩;(try (rw [drewN_self wc];generalize hq_:World.drewN wc _=wc;have n0_:Aside0 (Kd.R Kd.string 9 wc w.heap.size (fun _=>True) (.slice (some ad46) t45.length co40) t45):=⟨zb37⟩;have n1_:Aside0 (wc.heap[gb44]? = some (.cells #[.string (⟨#[]⟩:ByteArray),.string (⟨#[]⟩:ByteArray),.int .i64 0,.slice none 0 0,.slice none 0 0] 26 (0,0))):=⟨zb29⟩;have n2_:Aside0 (Below w.heap.size w wc):=⟨zb22⟩;clear HO_4 BK44 HB hq_;have HO_4:=n0_;have BK44:=n1_;have HB:=n2_;clear n0_ n1_ n2_));obtain ⟨hcz41_0,hcz41_1,hcz41_2,hcz41_3,hcz41_4,hfz41_0,hfz41_1,hfz41_2,hfz41_3,hfz41_4⟩:=zq5 BK44.out))
     refine bodyPost_ret (results_ct rfl _ _ gb44 26 #[.string (⟨#[]⟩:ByteArray),.string (⟨#[]⟩:ByteArray),.int .i64 0,.slice none 0 0,.slice none 0 0] (0,0) _ rfl zb3 Tryz.underlying26 rfl zb5) rfl ?_
     exact ⟨_,_,zb2,zb8,zb8,zb16⟩
   ·rw [if_neg c25] at H
    exact absurd H zb36
/-- What the request's first line tells: its status. -/
def reqFst (k:Nat) (s:ByteArray):Option Int:=(line_Request.f k s).bind fun x=>some x.2.2.2.2.2
/-- What its block holds: nothing,or the words of the line that was read last. -/
def ReqVal (x:Option ByteArray) (cs:Array Value):Prop:=match x with
 | none=>cs=#[.string ⟨#[]⟩,.string ⟨#[]⟩,.int .i64 0,.slice none 0 0,.slice none 0 0]
 | some s => ∃ (k:Nat) (r1 r2:ByteArray) (r3:Int) (r4:List (S36)) (r5:List Int) (r6:Int),line_Request.f k s=some (r1,r2,r3,r4,r5,r6)∧cs=#[.string r1,.string r2,.int .i64 r3,.slice none 0 0,.slice none 0 0]
theorem ReqVal.form {x:Option ByteArray} {cs:Array Value} (h:ReqVal x cs) : ∃ (m t:ByteArray) (mi:Int),cs=#[.string m,.string t,.int .i64 mi,.slice none 0 0,.slice none 0 0]:=by
 cases x with
 | none=>exact ⟨_,_,_,h⟩
 | some s=>obtain ⟨_,m,t,mi,_,_,_,_,h⟩:=h;exact ⟨m,t,mi,h⟩
theorem opKeep {W w1:World} (G:Nat) (o:Obj) (hb:Below W.heap.size W w1):KeepBut W (w1.alloc o) G none:=keep_alloc ⟨hb.size,fun i hi _ _=>hb.block i hi⟩ o
theorem opSet {w w1:World} {g:Nat} (h:KeepBut w w1 g none) (j:Nat) (u:Value):KeepBut w (w1.setCell ⟨g,j,none⟩ u) g none :=
 ⟨by simpa [World.setCell] using h.1,fun i hi hg hr=>(Below.heap_setCell w1 ⟨g,j,none⟩ u i hg).trans (h.2 i hi hg hr)⟩
set_option maxHeartbeats 4000000 in
set_option maxRecDepth 100000 in
theorem http_open_1.callsOf (G:Nat):FirstOf 75 #[.pointer (some ⟨G,0,none⟩)] reqFst G 26 ReqVal:=by
 intro k W x s c hB h
 unfold reqFst at h
 obtain ⟨⟨r1,r2,r3,r4,r5,r6⟩,hs,h⟩:=Option.bind_eq_some_iff.1 h
 simp only [Option.some.injEq] at h
 subst h
 obtain ⟨cs,hv,hcs⟩:=hB
 obtain ⟨m0,t0,mi0,rfl⟩:=hv.form
 have hu:=Tryz.underlying26
 have HS:=Aside0.mk hs
 have HCS:=Aside0.mk hcs
 clear hs hcs hv
 show Calls Tryz.prog 75 #[.string s,.pointer (some ⟨G,0,none⟩)] W _
 go_enter Tryz.func75,Tryz.ntmps75
 go_wp2_with (go_at_call 76;refine (line_Request.calls k s r1 r2 r3 r4 r5 r6 W HS.out).mono ?_;rintro E w1 ⟨v3,v4,rfl,h3,h4,hb⟩;obtain ⟨A3,c3,rfl⟩:=Kd.R_slice h3;obtain ⟨A4,c4,rfl⟩:=Kd.R_slice h4;have HB:=Aside0.mk hb;have BG:=Aside0.mk (blk_alloc (blk_below HCS.out hb) (.cells #[.string r1,.string r2,.int .i64 r3,.slice A3 r4.length c3,.slice A4 r5.length c4] 26 (0,0)));have hne1 : ¬ (G=w1.heap.size):=Nat.ne_of_lt (blk_lt (blk_below HCS.out hb));have hne2 : ¬ (w1.heap.size=G):=fun e=>hne1 e.symm;have f0:=blk_frozen BG.out 0;have q0:(w1.alloc (.cells #[.string r1,.string r2,.int .i64 r3,.slice A3 r4.length c3,.slice A4 r5.length c4] 26 (0,0))).cell? ⟨G,0,none⟩=some (.string m0):=(blk_cell BG.out 0).trans rfl;have f1:=blk_frozen BG.out 1;have q1:(w1.alloc (.cells #[.string r1,.string r2,.int .i64 r3,.slice A3 r4.length c3,.slice A4 r5.length c4] 26 (0,0))).cell? ⟨G,1,none⟩=some (.string t0):=(blk_cell BG.out 1).trans rfl;have f2:=blk_frozen BG.out 2;have q2:(w1.alloc (.cells #[.string r1,.string r2,.int .i64 r3,.slice A3 r4.length c3,.slice A4 r5.length c4] 26 (0,0))).cell? ⟨G,2,none⟩=some (.int .i64 mi0):=(blk_cell BG.out 2).trans rfl;clear hb h3 h4)
 go_region_held3 (fun w' => w'.cell? ⟨w1.heap.size,0,none⟩=some (.string r1)∧w'.cell? ⟨w1.heap.size,1,none⟩=some (.string r2)∧w'.cell? ⟨w1.heap.size,2,none⟩=some (.int .i64 r3)) (go_keep) (fail)
 go_wp2
 go_ret
 refine ⟨rfl,⟨_,⟨k,r1,r2,r3,r4,r5,r6,HS.out,rfl⟩,blk_drew (blk_put (blk_put (blk_put BG.out 0 _ rfl) 1 _ rfl) 2 _ rfl)⟩,?_,keep_drewN (opSet (opSet (opSet (opKeep G _ HB.out) 0 _) 1 _) 2 _) 1⟩
 refine below_drew1 ?_
 exact (((hbase (Nat.le_of_lt (blk_lt HCS.out)) (below_alloc HB.out _)).setCell (Nat.le_refl _) _).setCell (Nat.le_refl _) _).setCell (Nat.le_refl _) _
def http_open.f (k:Nat) (l0:List Int):Option (ByteArray × ByteArray × Int × List (S36) × List Int × Int × Int × Bool × Int) :=
 (http_head.f reqFst k l0).bind fun h=>if h.2.1=0 then some (⟨#[]⟩,⟨#[]⟩,0,[],[],0,0,false,h.2.2.1) else (h.2.2.2).bind fun s=>(line_Request.f k s).bind fun x=>(http_hosts.f k x.1 x.2.1 x.2.2.1 h.1 []).bind fun g =>
  if g=true then ((frame_Request.f k h.1 x.2.2.1).bind fun y=>some (x.1,x.2.1,x.2.2.1,h.1,[],h.2.1,y.1,y.2.1,y.2.2)) else some (⟨#[]⟩,⟨#[]⟩,0,[],[],0,0,false,400)
/-- What it hands back. -/
def OpenPost (w:World) (r1 r2:ByteArray) (r3:Int) (r4:List (S36)) (r5:List Int) (r6 r7:Int) (r8:Bool) (r9:Int) (e:Ending) (w' : World):Prop := ∃ v4_ v5_:Value,e = .returned (.tuple #[.agg #[.string r1,.string r2,.int .i64 r3,v4_,v5_],.int .i64 r6,.int .i64 r7,.bool r8,.int .i64 r9])∧Kd.R k36 36 w' w.heap.size (fun _=>True) v4_ r4∧Kd.R (Kd.int .u8) 5 w' w.heap.size (fun _=>True) v5_ r5∧Below w.heap.size w w'
theorem lrDet {k k' : Nat} {s:ByteArray} {a b:ByteArray × ByteArray × Int × List (S36) × List Int × Int} (h:line_Request.f k s=some a) (h' : line_Request.f k' s=some b):a=b:=by
 have lup : ∀ {n:Nat} {r},line_Request.f n s=some r → ∀ d,line_Request.f (n + d) s=some r:=by
  intro n r h d
  induction d with
  | zero=>exact h
  | succ d ih=>exact line_Request.mono s _ _ ih
 have h1:=lup h k'
 have h2:=lup h' k
 rw [Nat.add_comm] at h2
 exact Option.some.inj (h1.symm.trans h2)
theorem open_none {w w' : World} {r9:Int} (hb:Below w.heap.size w w'):OpenPost w ⟨#[]⟩ ⟨#[]⟩ 0 [] [] 0 0 false r9 (.returned (.tuple #[.agg #[.string (⟨#[]⟩:ByteArray),.string (⟨#[]⟩:ByteArray),.int .i64 0,.slice none 0 0,.slice none 0 0],.int .i64 0,.int .i64 0,.bool false,.int .i64 r9])) w' := ⟨_,_,rfl,Kd.R_nil _ _ _ _ _,Kd.R_nil _ _ _ _ _,hb⟩
theorem opPut5 {w W:World} {R:Nat} (h:Below w.heap.size w W) (hR:w.heap.size ≤ R) (a b c d e:Value):Below w.heap.size w (((((W.setCell ⟨R,0,none⟩ a).setCell ⟨R,1,none⟩ b).setCell ⟨R,2,none⟩ c).setCell ⟨R,3,none⟩ d).setCell ⟨R,4,none⟩ e) :=
 ((((h.setCell hR a).setCell hR b).setCell hR c).setCell hR d).setCell hR e
theorem opBlk5 {W:World} {R t:Nat} {x0 x1 x2 x3 x4:Value} (h:W.heap[R]? = some (.cells #[x0,x1,x2,x3,x4] t (0,0))) (a b c d e:Value):(((((W.setCell ⟨R,0,none⟩ a).setCell ⟨R,1,none⟩ b).setCell ⟨R,2,none⟩ c).setCell ⟨R,3,none⟩ d).setCell ⟨R,4,none⟩ e).heap[R]? = some (.cells #[a,b,c,d,e] t (0,0)) :=
 blk_put (blk_put (blk_put (blk_put (blk_put h 0 _ rfl) 1 _ rfl) 2 _ rfl) 3 _ rfl) 4 _ rfl
theorem opR5 {α:Type} {dd:Kd α} {ty base R:Nat} {W:World} {v:Value} {xs:List α} (h:dd.R ty W base (fun k=>k ≠ R) v xs) (a b c d e:Value):dd.R ty (((((W.setCell ⟨R,0,none⟩ a).setCell ⟨R,1,none⟩ b).setCell ⟨R,2,none⟩ c).setCell ⟨R,3,none⟩ d).setCell ⟨R,4,none⟩ e) base (fun k=>k ≠ R) v xs :=
 Kd.R_far (Kd.R_far (Kd.R_far (Kd.R_far (Kd.R_far h (fun _ hk=>hk) a) (fun _ hk=>hk) b) (fun _ hk=>hk) c) (fun _ hk=>hk) d) (fun _ hk=>hk) e
set_option maxHeartbeats 8000000 in
set_option maxRecDepth 100000 in
theorem http_open.calls (k:Nat) (A0:Option Addr) (c0:Nat) (l0:List Int) (r1 r2:ByteArray) (r3:Int) (r4:List (S36)) (r5:List Int) (r6:Int) (r7:Int) (r8:Bool) (r9:Int) (w:World) (hr0:Kd.C (Kd.int .u8) w A0 l0.length l0) (hc0:l0.length ≤ c0) (h:http_open.f k l0=some (r1,r2,r3,r4,r5,r6,r7,r8,r9)) :
 Calls Tryz.prog 44 #[.slice A0 l0.length c0] w fun e w' => ∃ v3_ v4_:Value,e = .returned (.tuple #[.agg #[.string r1,.string r2,.int .i64 r3,v3_,v4_],.int .i64 r6,.int .i64 r7,.bool r8,.int .i64 r9])∧Kd.R k36 36 w' w.heap.size (fun _=>True) v3_ r4∧Kd.R (Kd.int .u8) 5 w' w.heap.size (fun _=>True) v4_ r5∧Below w.heap.size w w' := by
 show Calls _ _ _ _ (OpenPost w r1 r2 r3 r4 r5 r6 r7 r8 r9)
 unfold http_open.f at h
 obtain ⟨⟨h1,h2,h3,h4⟩,hh,h'⟩:=Option.bind_eq_some_iff.1 h
 clear h
 have h:=h'
 clear h'
 simp only at h
 have hu:=Tryz.underlying26
 have HC:=Aside0.mk hr0
 have HCC:=Aside0.mk hc0
 have HH:=Aside0.mk hh
 have eg : ∀ args w,(callFunc 75 args).run Tryz.prog w = .ok (.enter 75 args) w:=enters_of Tryz.func75 zb5 rfl
 have EG:=Aside0.mk eg
 clear hr0 hc0 hh eg
 by_cases b0:h2=0
 ·rw [if_pos b0] at h
  simp only [Option.some.injEq,Prod.mk.injEq] at h
  obtain ⟨rfl,rfl,rfl,rfl,rfl,rfl,rfl,rfl,rfl⟩:=h
  subst b0
  go_enter Tryz.func44,Tryz.ntmps44
  go_wp2_with (first
   | ((with_reducible refine gate_dst (N:=2) rfl ?_);refine box_event ?hg (N:=2) ?hd (cs:=#[.string (⟨#[]⟩:ByteArray),.string (⟨#[]⟩:ByteArray),.int .i64 0,.slice none 0 0,.slice none 0 0]) (t:=26) ?hr ?_;(case hd=>rfl);(case hg=>rfl);(case hr=>first|(go_simp;done)|(go_simp;rfl));intro R hR w5 hBR hb5;have BR:=Aside0.mk hBR;have LR:=Aside0.mk hb5;have ER:=Aside0.mk hR;clear hBR hb5 hR)
   | (go_at_call 67;refine (http_head.callsOf reqFst 75 #[.pointer (some ⟨R,0,none⟩)] EG.out R 26 ReqVal w k A0 c0 l0 h1 _ _ _ w5 HC.out HCC.out (Nat.le_of_eq ER.out.symm) ⟨_,rfl,BR.out⟩ LR.out (http_open_1.callsOf R) HH.out).mono ?_;rintro E w7 ⟨v0,rfl,hS⟩;obtain ⟨Af,cf,rfl⟩:=Kd.R_slice hS.2.2;have HS:=Aside0.mk hS;obtain ⟨cs,hv,hBG⟩:=hS.1;obtain ⟨m0,t0,mi0,rfl⟩:=hv.form;have BR7:=Aside0.mk hBG;obtain ⟨q0,q1,q2,q3,q4,f0,f1,f2,f3,f4⟩:=zq5 (x3:=.slice none 0 0) (x4:=.slice none 0 0) BR7.out;clear hv hBG;clear hS))
  refine bodyPost_ret (results_list (rs:=[.cell 2 26,.tmp 3,.tmp 4,.tmp 5,.tmp 6]) rfl zb36 (.cell R 26 #[.string (⟨#[]⟩:ByteArray),.string (⟨#[]⟩:ByteArray),.int .i64 0,.slice none 0 0,.slice none 0 0] (0,0) _ rfl (opBlk5 (blk_put BR7.out 3 _ rfl) _ _ _ _ _) hu rfl zb5 (.tmp (.tmp (.tmp (.tmp .nil)))))) rfl ?_
  exact open_none (opPut5 (HS.out.2.1.setCell (p:=⟨R,3,none⟩) (Nat.le_of_eq ER.out.symm) _) (Nat.le_of_eq ER.out.symm) _ _ _ _ _)
 rw [if_neg b0] at h
 have d2:(h2 == 0)=false:=beq_eq_false_iff_ne.2 b0
 clear b0
 obtain ⟨s,e4,h'⟩:=Option.bind_eq_some_iff.1 h
 subst e4
 clear h
 obtain ⟨⟨x1,x2,x3,x4,x5,x6⟩,hx,h⟩:=Option.bind_eq_some_iff.1 h'
 clear h'
 obtain ⟨g,ho,h'⟩:=Option.bind_eq_some_iff.1 h
 clear h
 simp only at h'
 have h:=h'
 clear h'
 have HX:=Aside0.mk hx
 have HO:=Aside0.mk ho
 clear hx ho
 cases g
 ·rw [if_neg zb36] at h
  simp only [Option.some.injEq,Prod.mk.injEq] at h
  obtain ⟨rfl,rfl,rfl,rfl,rfl,rfl,rfl,rfl,rfl⟩:=h
  go_enter Tryz.func44,Tryz.ntmps44
  go_wp2_with (first
   | ((with_reducible refine gate_dst (N:=2) rfl ?_);refine box_event ?hg (N:=2) ?hd (cs:=#[.string (⟨#[]⟩:ByteArray),.string (⟨#[]⟩:ByteArray),.int .i64 0,.slice none 0 0,.slice none 0 0]) (t:=26) ?hr ?_;(case hd=>rfl);(case hg=>rfl);(case hr=>first|(go_simp;done)|(go_simp;rfl));intro R hR w5 hBR hb5;have BR:=Aside0.mk hBR;have LR:=Aside0.mk hb5;have ER:=Aside0.mk hR;clear hBR hb5 hR)
   | (go_at_call 67;refine (http_head.callsOf reqFst 75 #[.pointer (some ⟨R,0,none⟩)] EG.out R 26 ReqVal w k A0 c0 l0 h1 _ _ _ w5 HC.out HCC.out (Nat.le_of_eq ER.out.symm) ⟨_,rfl,BR.out⟩ LR.out (http_open_1.callsOf R) HH.out).mono ?_;rintro E w7 ⟨v0,rfl,hS⟩;obtain ⟨Af,cf,rfl⟩:=Kd.R_slice hS.2.2;have HS:=Aside0.mk hS;obtain ⟨cs,⟨k2,s1,s2,s3,s4,s5,s6,hst,rfl⟩,hBG⟩:=hS.1;have e:=lrDet HX.out hst;simp only [Prod.mk.injEq] at e;obtain ⟨rfl,rfl,rfl,rfl,rfl,rfl⟩:=e;have BR7:=Aside0.mk hBG;obtain ⟨q0,q1,q2,q3,q4,f0,f1,f2,f3,f4⟩:=zq5 (x3:=.slice none 0 0) (x4:=.slice none 0 0) BR7.out;clear hst hBG;clear hS)
   | (go_at_call 77;refine (http_hosts.calls k x1 x2 x3 Af cf h1 none 0 [] _ _ (Kd.R_reads' (Kd.R_far (p:=⟨R,3,none⟩) HS.out.2.2 (fun q hq=>hq) _)).2.2 (Kd.R_reads' HS.out.2.2).2.1 ⟨rfl,zb36,fun h=>absurd h (Nat.lt_irrefl 0)⟩ (Nat.zero_le _) HO.out).mono ?_;rintro E w9 ⟨rfl,hb9⟩;have S9:=Aside0.mk (Kd.R_below (Kd.R_far (p:=⟨R,3,none⟩) HS.out.2.2 (fun q hq=>hq) (.slice Af h1.length cf)) hb9);have BR9:=Aside0.mk (blk_below (blk_put BR7.out 3 _ rfl) hb9);have L9:=Aside0.mk ((HS.out.2.1.setCell (p:=⟨R,3,none⟩) (Nat.le_of_eq ER.out.symm) (.slice Af h1.length cf)).trans (hbase (by simpa [World.setCell] using HS.out.2.1.size) hb9));obtain ⟨q0,q1,q2,q3,q4,f0,f1,f2,f3,f4⟩:=zq5 (x3:=.slice Af h1.length cf) (x4:=.slice none 0 0) BR9.out;clear hb9))
  refine bodyPost_ret (results_list (rs:=[.cell 2 26,.tmp 3,.tmp 4,.tmp 5,.tmp 6]) rfl zb36 (.cell R 26 #[.string (⟨#[]⟩:ByteArray),.string (⟨#[]⟩:ByteArray),.int .i64 0,.slice none 0 0,.slice none 0 0] (0,0) _ rfl (opBlk5 BR9.out _ _ _ _ _) hu rfl zb5 (.tmp (.tmp (.tmp (.tmp .nil)))))) rfl ?_
  exact open_none (opPut5 L9.out (Nat.le_of_eq ER.out.symm) _ _ _ _ _)
 rw [if_pos rfl] at h
 obtain ⟨⟨y1,y2,y3⟩,hy,h'⟩:=Option.bind_eq_some_iff.1 h
 clear h
 simp only [Option.some.injEq,Prod.mk.injEq] at h'
 obtain ⟨rfl,rfl,rfl,rfl,rfl,rfl,rfl,rfl,rfl⟩:=h'
 have HY:=Aside0.mk hy
 clear hy
 go_enter Tryz.func44,Tryz.ntmps44
 go_wp2_with (first
  | ((with_reducible refine gate_dst (N:=2) rfl ?_);refine box_event ?hg (N:=2) ?hd (cs:=#[.string (⟨#[]⟩:ByteArray),.string (⟨#[]⟩:ByteArray),.int .i64 0,.slice none 0 0,.slice none 0 0]) (t:=26) ?hr ?_;(case hd=>rfl);(case hg=>rfl);(case hr=>first|(go_simp;done)|(go_simp;rfl));intro R hR w5 hBR hb5;have BR:=Aside0.mk hBR;have LR:=Aside0.mk hb5;have ER:=Aside0.mk hR;clear hBR hb5 hR)
  | (go_at_call 67;refine (http_head.callsOf reqFst 75 #[.pointer (some ⟨R,0,none⟩)] EG.out R 26 ReqVal w k A0 c0 l0 h1 _ _ _ w5 HC.out HCC.out (Nat.le_of_eq ER.out.symm) ⟨_,rfl,BR.out⟩ LR.out (http_open_1.callsOf R) HH.out).mono ?_;rintro E w7 ⟨v0,rfl,hS⟩;obtain ⟨Af,cf,rfl⟩:=Kd.R_slice hS.2.2;have HS:=Aside0.mk hS;obtain ⟨cs,⟨k2,s1,s2,s3,s4,s5,s6,hst,rfl⟩,hBG⟩:=hS.1;have e:=lrDet HX.out hst;simp only [Prod.mk.injEq] at e;obtain ⟨rfl,rfl,rfl,rfl,rfl,rfl⟩:=e;have BR7:=Aside0.mk hBG;obtain ⟨q0,q1,q2,q3,q4,f0,f1,f2,f3,f4⟩:=zq5 (x3:=.slice none 0 0) (x4:=.slice none 0 0) BR7.out;clear hst hBG;clear hS)
  | (go_at_call 77;refine (http_hosts.calls k x1 x2 x3 Af cf h1 none 0 [] _ _ (Kd.R_reads' (Kd.R_far (p:=⟨R,3,none⟩) HS.out.2.2 (fun q hq=>hq) _)).2.2 (Kd.R_reads' HS.out.2.2).2.1 ⟨rfl,zb36,fun h=>absurd h (Nat.lt_irrefl 0)⟩ (Nat.zero_le _) HO.out).mono ?_;rintro E w9 ⟨rfl,hb9⟩;have S9:=Aside0.mk (Kd.R_below (Kd.R_far (p:=⟨R,3,none⟩) HS.out.2.2 (fun q hq=>hq) (.slice Af h1.length cf)) hb9);have BR9:=Aside0.mk (blk_below (blk_put BR7.out 3 _ rfl) hb9);have L9:=Aside0.mk ((HS.out.2.1.setCell (p:=⟨R,3,none⟩) (Nat.le_of_eq ER.out.symm) (.slice Af h1.length cf)).trans (hbase (by simpa [World.setCell] using HS.out.2.1.size) hb9));obtain ⟨q0,q1,q2,q3,q4,f0,f1,f2,f3,f4⟩:=zq5 (x3:=.slice Af h1.length cf) (x4:=.slice none 0 0) BR9.out;clear hb9)
  | (go_at_call 78;refine (frame_Request.calls k Af cf h1 x3 y1 y2 y3 w9 (Kd.R_reads' S9.out).2.2 (Kd.R_reads' S9.out).2.1 HY.out).mono ?_;rintro E w10 ⟨rfl,hb10⟩;have S10:=Aside0.mk (Kd.R_below S9.out hb10);have BR10:=Aside0.mk (blk_below BR9.out hb10);have L10:=Aside0.mk (L9.out.trans (hbase L9.out.size hb10));obtain ⟨q0,q1,q2,q3,q4,f0,f1,f2,f3,f4⟩:=zq5 (x3:=.slice Af h1.length cf) (x4:=.slice none 0 0) BR10.out;clear hb10))
 refine bodyPost_ret (results_list (rs:=[.cell 2 26,.tmp 3,.tmp 4,.tmp 5,.tmp 6]) rfl zb36 (.cell R 26 #[.string x1,.string x2,.int .i64 x3,.slice Af h1.length cf,.slice none 0 0] (0,0) _ rfl (opBlk5 BR10.out _ _ _ _ _) hu rfl zb5 (.tmp (.tmp (.tmp (.tmp .nil)))))) rfl ?_
 exact ⟨_,_,rfl,Kd.R_mono (opR5 S10.out _ _ _ _ _) (fun _ _=>trivial),Kd.R_nil _ _ _ _ _,opPut5 L10.out (Nat.le_of_eq ER.out.symm) _ _ _ _ _⟩
def http_Request.j0:Nat → List Int → Int → Int → Bool → Int → Bool → ByteArray → ByteArray → Int → List (S36) → List Int → Option (ByteArray × ByteArray × Int × (List (S36)) × List Int × Int × Int)
 | 0,_,_,_,_,_,_,_,_,_,_,_=>none
 | k + 1,x0,x6,x7,x8,x9,x25,x271000,x271001,x271002,x271003,x271004=>if x25=true then (some ((⟨#[]⟩:ByteArray),(⟨#[]⟩:ByteArray),0,([]:List (S36)),([]:List Int),0,x9)) else (if 0 ≤ x6 then (if x6 ≤ (x0.length:Int) then ((http_body.f k (x0.drop (x6:Int).toNat) x7 x8).bind fun bt272=>(if bt272.2.1 < 0 then (some ((⟨#[]⟩:ByteArray),(⟨#[]⟩:ByteArray),0,([]:List (S36)),([]:List Int),0,bt272.2.2)) else (some (x271000,x271001,x271002,x271003,bt272.1,wrap64 (x6 + bt272.2.1),0)))) else (none)) else (none))
def http_Request.f (k:Nat) (l0:List Int):Option (ByteArray × ByteArray × Int × (List (S36)) × List Int × Int × Int):=(http_open.f k l0).bind fun bt257=>(if bt257.2.2.2.2.2.1=0 then (http_Request.j0 k l0 bt257.2.2.2.2.2.1 bt257.2.2.2.2.2.2.1 bt257.2.2.2.2.2.2.2.1 bt257.2.2.2.2.2.2.2.2 true bt257.1 bt257.2.1 bt257.2.2.1 bt257.2.2.2.1 bt257.2.2.2.2.1) else (http_Request.j0 k l0 bt257.2.2.2.2.2.1 bt257.2.2.2.2.2.2.1 bt257.2.2.2.2.2.2.2.1 bt257.2.2.2.2.2.2.2.2 (bt257.2.2.2.2.2.2.2.2 != 0) bt257.1 bt257.2.1 bt257.2.2.1 bt257.2.2.2.1 bt257.2.2.2.2.1))
set_option maxHeartbeats 8000000 in
set_option maxRecDepth 100000 in
theorem http_Request.calls (k:Nat) (A0:Option Addr) (c0:Nat) (l0:List Int) (r1:ByteArray) (r2:ByteArray) (r3:Int) (r4:List (S36)) (r5:List Int) (r6:Int) (r7:Int) (w:World) (hr0:Kd.C (Kd.int .u8) w A0 l0.length l0) (hc0:l0.length ≤ c0) (h:http_Request.f k l0=some (r1,r2,r3,r4,r5,r6,r7)) :
 Calls Tryz.prog 12 #[.slice A0 l0.length c0] w fun e w' => ∃ v3_ v4_:Value,e = .returned (.tuple #[.agg #[.string r1,.string r2,.int .i64 r3,v3_,v4_],.int .i64 r6,.int .i64 r7])∧Kd.R k36 36 w' w.heap.size (fun _=>True) v3_ r4∧Kd.R (Kd.int .u8) 5 w' w.heap.size (fun _=>True) v4_ r5∧Below w.heap.size w w' := by
 have hu26:=Tryz.underlying26
 have HR0:=Aside0.mk hr0
 have HC0:=Aside0.mk hc0
 clear hr0 hc0
 have HB:=Aside0.mk (Below.refl w.heap.size w)
 unfold http_Request.f at h
 have H:=h
 clear h
 replace H:=Option.bind_eq_some_iff.mp H
 obtain ⟨⟨t31,t34,t35,t37,t40,t33,t42,t43,t46⟩,A20,H⟩:=H
 try dsimp only at H
 have A2:=Aside0.mk A20
 clear A20
 have HC3:=Aside0.mk H
 clear H
 go_enter Tryz.func12,Tryz.ntmps12
 go_upto_region 2 with (first|((with_reducible refine gate_dst (N:=2) rfl ?_);refine box_event rfl (N:=2) rfl (cs:=#[.string (⟨#[]⟩:ByteArray),.string (⟨#[]⟩:ByteArray),.int .i64 0,.slice none 0 0,.slice none 0 0]) (t:=26) zS ?_;intro gb29 hg w4 hbox hb;have GW29:=zG hg zb0;have GE29:=GW29;have BK29:=Aside0.mk hbox;replace HB:=Aside0.mk (below_step zb0 hb);clear hb hbox hg)|((with_reducible refine gate_callee (f:=44) rfl ?_);refine goesL_ (some 14) rfl rfl Tryz.func44 zb5 rfl #[.slice A0 l0.length c0] rfl zb1 ?_;(with_reducible refine (http_open.calls k _ _ l0 t31 t34 t35 t37 t40 t33 t42 t43 t46 _ ?side1 ?side2 A2.out).mono ?_);(case side1=>exact zb45);(case side2=>exact HC0.out);rintro e w5 ⟨v57,v58,rfl,ho0,ho1,hb⟩;refine ⟨_,rfl,?_⟩;have HO49:=Aside0.mk (Kd.R_lower ho0 (below_size zb40));have HO50:=Aside0.mk (Kd.R_lower ho1 (below_size zb40));replace BK29:=Aside0.mk (blk_below (g:=gb29) (o:=.cells #[.string (⟨#[]⟩:ByteArray),.string (⟨#[]⟩:ByteArray),.int .i64 0,.slice none 0 0,.slice none 0 0] 26 (0,0)) zb42 hb);replace HB:=Aside0.mk (below_step zb40 hb);try clear hb ho0 ho1)|((with_reducible refine gate_dst (N:=5) rfl ?_);refine box_event rfl (N:=5) rfl (cs:=#[.string (⟨#[]⟩:ByteArray),.string (⟨#[]⟩:ByteArray),.int .i64 0,.slice none 0 0,.slice none 0 0]) (t:=26) zS ?_;intro gb30 hg w6 hbox hb;replace HO49:=Aside0.mk (Kd.R_below (by (with_reducible repeat (first|apply Kd.R_alloc|apply Kd.R_drewN|apply Kd.R_drew));exact HO49.out) hb);replace HO50:=Aside0.mk (Kd.R_below zb35 hb);have BK30:=Aside0.mk (hbox);have GW30:=zG hg zb40;have GE30:=GW30;replace HB:=Aside0.mk (below_step zb40 hb);have NB29_270:=Aside0.mk ((by rw [hg];exact Nat.ne_of_lt (blk_lt (g:=gb29) (o:=.cells #[.string (⟨#[]⟩:ByteArray),.string (⟨#[]⟩:ByteArray),.int .i64 0,.slice none 0 0,.slice none 0 0] 26 (0,0)) zb42):gb29 ≠ gb30));have NB30_256:=Aside0.mk ((by rw [hg];exact Nat.ne_of_gt (blk_lt (g:=gb29) (o:=.cells #[.string (⟨#[]⟩:ByteArray),.string (⟨#[]⟩:ByteArray),.int .i64 0,.slice none 0 0,.slice none 0 0] 26 (0,0)) zb42):gb30 ≠ gb29));replace BK29:=Aside0.mk (blk_below (g:=gb29) (o:=.cells #[.string (⟨#[]⟩:ByteArray),.string (⟨#[]⟩:ByteArray),.int .i64 0,.slice none 0 0,.slice none 0 0] 26 (0,0)) zb42 hb);clear hb hbox hg;have hnb7:=NB30_256.out;have hnc7:=NB29_270.out;obtain ⟨hcz8_0,hcz8_1,hcz8_2,hcz8_3,hcz8_4,hfz8_0,hfz8_1,hfz8_2,hfz8_3,hfz8_4⟩:=zq5 BK30.out;obtain ⟨Ao9,co9,eo9⟩:=Kd.R_slice HO49.out;subst eo9;obtain ⟨Ao10,co10,eo10⟩:=Kd.R_slice HO50.out;subst eo10))
 (try simp only [Act.put,zqA,zqB,zqC])
 go_cut [25] (fun v25 wc => ∃ (kq:Nat) (x25_2:Bool),v25 = .bool x25_2∧Aside0 (http_Request.j0 kq l0 t33 t42 t43 t46 x25_2 t31 t34 t35 t37 t40=some (r1,r2,r3,r4,r5,r6,r7))∧Aside0 (kq ≤ k)∧Aside0 (Kd.R k36 36 wc w.heap.size (fun _=>True) (.slice Ao9 t37.length co9) t37)∧Aside0 (Kd.R (Kd.int .u8) 5 wc w.heap.size (fun _=>True) (.slice Ao10 t40.length co10) t40)∧Aside0 (wc.heap[gb29]? = some (.cells #[.string (⟨#[]⟩:ByteArray),.string (⟨#[]⟩:ByteArray),.int .i64 0,(.slice none 0 0),(.slice none 0 0)] 26 (0,0)))∧Aside0 (wc.heap[gb30]? = some (.cells #[.string t31,.string t34,.int .i64 t35,(.slice Ao9 t37.length co9),(.slice Ao10 t40.length co10)] 26 (0,0)))∧Aside0 (Below w.heap.size w wc))
 case first =>
  have H:=HC3.out
  clear HC3
  by_cases c11:t33=0;rotate_left
  ·rw [if_neg c11] at H
   have c11b0:=beq_eq_false_iff_ne.mpr c11
   have c11b1:=bne_iff_ne.mpr c11
   (first|rw [c11b0]|(simp only [i64_w,i32_w];rw [c11b0])|rw [c11b1]|skip)
   have H' := Aside0.mk H
   clear H
   go_wp2
   go_meet
   case rel=>exact ⟨_,((t46 != 0)),zb6,H',⟨zb59⟩,⟨zb26⟩,⟨zb27⟩,⟨zb18⟩,⟨zb11⟩,⟨zb17⟩⟩
  rw [if_pos c11] at H
  have c11b0:=beq_iff_eq.mpr c11
  have c11b1:=bne_eq_false_iff_eq.mpr c11
  clear c11
  (first|rw [c11b0]|(simp only [i64_w,i32_w];rw [c11b0])|rw [c11b1]|skip)
  have H' := Aside0.mk H
  clear H
  go_wp2
  go_meet
  case rel=>exact ⟨_,(true),zb6,H',⟨zb59⟩,⟨zb26⟩,⟨zb27⟩,⟨zb18⟩,⟨zb11⟩,⟨zb17⟩⟩
 case rest =>
  clear HC3
  try clear c1
  try clear p2
  try clear c4
  try clear c7
  try clear c11
  try clear c11b0
  try clear c11b1
  try clear hcz8_0
  try clear hcz8_1
  try clear hcz8_2
  try clear hcz8_3
  try clear hcz8_4
  try clear hfz8_0
  try clear hfz8_1
  try clear hfz8_2
  try clear hfz8_3
  try clear hfz8_4
  obtain ⟨kq,x25_2,rfl,HA,HJ2,HO_39,HO_38,BK29,BK30,HB⟩:=hcut
  cases kq with
  | zero=>exact absurd HA.out (by simp [http_Request.j0])
  | succ kj2 =>
   have H:=HA.out
   clear HA
   simp only [http_Request.j0] at H
   by_cases c12:x25_2=true
   ·subst c12
    rw [if_pos rfl] at H
    simp only [Option.some.injEq,Prod.mk.injEq] at H
    obtain ⟨rfl,rfl,rfl,rfl,rfl,rfl,rfl⟩:=H
    have hnb13:=NB29_270.out
    have hnc13:=NB30_256.out
    obtain ⟨hcz14_0,hcz14_1,hcz14_2,hcz14_3,hcz14_4,hfz14_0,hfz14_1,hfz14_2,hfz14_3,hfz14_4⟩:=zq5 BK29.out
    go_wp2
    refine bodyPost_ret (results_ctt rfl _ _ gb29 26 #[.string (⟨#[]⟩:ByteArray),.string (⟨#[]⟩:ByteArray),.int .i64 0,.slice none 0 0,.slice none 0 0] (0,0) _ rfl zb10 Tryz.underlying26 rfl zb5) rfl ?_
    exact ⟨_,_,zb2,zb8,zb8,zb17⟩
   replace c12:=Bool.eq_false_iff.mpr c12
   subst c12
   rw [if_neg (show ¬ (false=true) by decide)] at H
   by_cases c15:0 ≤ t33;rotate_left
   ·rw [if_neg c15] at H
    exact absurd H zb36
   rw [if_pos c15] at H
   have c15b0:=eq_true c15
   have c15b1:=decide_eq_true c15
   clear c15
   by_cases c16:t33 ≤ (l0.length:Int)
   ·rw [if_pos c16] at H
    have c16b0:=eq_true c16
    have c16b1:=decide_eq_true c16
    clear c16
    replace H:=Option.bind_eq_some_iff.mp H
    obtain ⟨⟨t41,t48,t53⟩,A55,H⟩:=H
    try dsimp only at H
    have A17:=Aside0.mk A55
    clear A55
    by_cases c18:t48 < 0
    ·rw [if_pos c18] at H
     have c18b0:=decide_eq_true c18
     clear c18
     simp only [Option.some.injEq,Prod.mk.injEq] at H
     obtain ⟨rfl,rfl,rfl,rfl,rfl,rfl,rfl⟩:=H
     obtain ⟨i51,hi51,_,hsz19,_⟩:=info_parts info5
     obtain ⟨A19,hcut19,hA19,hC19⟩:=print_drop_of (P:=Tryz.prog) (Value.int .u8) 0 22 5 .i64 Tryz.underlying22 hi51 hsz19 A0 c0 l0 t33 (of_decide_eq_true zb4) (of_decide_eq_true zb4) HC0.out
     have HR47:=Aside0.mk (Kd.C_of_reads (h1:=fun _=>rfl) (hA19 _ (Kd.reads_of_C HR0.out)))
     have HC47:=Aside0.mk hC19
     clear hA19 hC19 hi51 hsz19
     go_wp2_with (first|((with_reducible refine gate_callee (f:=45) rfl ?_);refine goesL_ (some 34) rfl rfl Tryz.func45 zb5 rfl #[.slice A19 (l0.drop (t33:Int).toNat).length (c0 - t33.toNat),.int .i64 t42,.bool t43] rfl zb50 ?_;(with_reducible refine (http_body.calls kj2 _ _ (l0.drop (t33:Int).toNat) t42 t43 t41 t48 t53 _ ?side1 ?side2 A17.out).mono ?_);(case side1=>exact zb65);(case side2=>exact HC47.out);rintro e w20 ⟨v56,rfl,ho0,hb⟩;(try clear A17);refine ⟨_,rfl,?_⟩;replace HO_39:=Aside0.mk (Kd.R_below (by (with_reducible repeat (first|apply Kd.R_alloc|apply Kd.R_drewN|apply Kd.R_drew));exact HO_39.out) hb);have HO54:=Aside0.mk (Kd.R_lower (Kd.R_new' ho0 (Kd.R_lt zb54)) (below_size zb17));replace HO_38:=Aside0.mk (Kd.R_elder' zb54 (Kd.R_base ho0) hb);replace BK29:=Aside0.mk (blk_below (g:=gb29) (o:=.cells #[.string (⟨#[]⟩:ByteArray),.string (⟨#[]⟩:ByteArray),.int .i64 0,.slice none 0 0,.slice none 0 0] 26 (0,0)) zb42 hb);replace BK30:=Aside0.mk (blk_below (g:=gb30) (o:=.cells #[.string t31,.string t34,.int .i64 t35,.slice Ao9 t37.length co9,.slice Ao10 t40.length co10] 26 (0,0)) zb73 hb);replace HB:=Aside0.mk (below_step zb17 hb);try clear hb ho0;have hnb21:=NB29_270.out;have hnc21:=NB30_256.out;obtain ⟨hcz22_0,hcz22_1,hcz22_2,hcz22_3,hcz22_4,hfz22_0,hfz22_1,hfz22_2,hfz22_3,hfz22_4⟩:=zq5 BK29.out))
     refine bodyPost_ret (results_ctt rfl _ _ gb29 26 #[.string (⟨#[]⟩:ByteArray),.string (⟨#[]⟩:ByteArray),.int .i64 0,.slice none 0 0,.slice none 0 0] (0,0) _ rfl zb10 Tryz.underlying26 rfl zb5) rfl ?_
     exact ⟨_,_,zb2,zb8,zb8,zb17⟩
    rw [if_neg c18] at H
    have c18b0:=decide_eq_false c18
    clear c18
    simp only [Option.some.injEq,Prod.mk.injEq] at H
    obtain ⟨rfl,rfl,rfl,rfl,rfl,rfl,rfl⟩:=H
    obtain ⟨i52,hi52,_,hsz23,_⟩:=info_parts info5
    obtain ⟨A23,hcut23,hA23,hC23⟩:=print_drop_of (P:=Tryz.prog) (Value.int .u8) 0 22 5 .i64 Tryz.underlying22 hi52 hsz23 A0 c0 l0 t33 (of_decide_eq_true zb4) (of_decide_eq_true zb4) HC0.out
    have HR47:=Aside0.mk (Kd.C_of_reads (h1:=fun _=>rfl) (hA23 _ (Kd.reads_of_C HR0.out)))
    have HC47:=Aside0.mk hC23
    clear hA23 hC23 hi52 hsz23
    go_wp2_with (first|((with_reducible refine gate_callee (f:=45) rfl ?_);refine goesL_ (some 34) rfl rfl Tryz.func45 zb5 rfl #[.slice A23 (l0.drop (t33:Int).toNat).length (c0 - t33.toNat),.int .i64 t42,.bool t43] rfl zb50 ?_;(with_reducible refine (http_body.calls kj2 _ _ (l0.drop (t33:Int).toNat) t42 t43 t41 t48 t53 _ ?side1 ?side2 A17.out).mono ?_);(case side1=>exact zb65);(case side2=>exact HC47.out);rintro e w24 ⟨v56,rfl,ho0,hb⟩;(try clear A17);refine ⟨_,rfl,?_⟩;replace HO_39:=Aside0.mk (Kd.R_below (by (with_reducible repeat (first|apply Kd.R_alloc|apply Kd.R_drewN|apply Kd.R_drew));exact HO_39.out) hb);have HO54:=Aside0.mk (Kd.R_lower (Kd.R_new' ho0 (Kd.R_lt zb54)) (below_size zb17));replace HO_38:=Aside0.mk (Kd.R_elder' zb54 (Kd.R_base ho0) hb);replace BK29:=Aside0.mk (blk_below (g:=gb29) (o:=.cells #[.string (⟨#[]⟩:ByteArray),.string (⟨#[]⟩:ByteArray),.int .i64 0,.slice none 0 0,.slice none 0 0] 26 (0,0)) zb42 hb);replace BK30:=Aside0.mk (blk_below (g:=gb30) (o:=.cells #[.string t31,.string t34,.int .i64 t35,.slice Ao9 t37.length co9,.slice Ao10 t40.length co10] 26 (0,0)) zb73 hb);replace HB:=Aside0.mk (below_step zb17 hb);try clear hb ho0;obtain ⟨Ao25,co25,eo25⟩:=Kd.R_slice HO54.out;subst eo25;have hnb26:=NB30_256.out;have hnc26:=NB29_270.out;obtain ⟨hcz27_0,hcz27_1,hcz27_2,hcz27_3,hcz27_4,hfz27_0,hfz27_1,hfz27_2,hfz27_3,hfz27_4⟩:=zq5 BK30.out;obtain ⟨hcz28_0,hcz28_1,hcz28_2,hcz28_3,hcz28_4,hfz28_0,hfz28_1,hfz28_2,hfz28_3,hfz28_4⟩:=zq5 BK29.out))
    refine bodyPost_ret (results_ctt rfl _ _ gb29 26 #[.string t31,.string t34,.int .i64 t35,.slice Ao9 t37.length co9,.slice Ao25 t41.length co25] (0,0) _ rfl (by (with_reducible repeat (first|refine blk_drewN ?_ _|refine blk_drew ?_|refine blk_alloc ?_ _));refine blk_put (cs:=#[.string t31,.string t34,.int .i64 t35,.slice Ao9 t37.length co9,.slice none 0 0]) ?_ 4 _ rfl;(with_reducible repeat (first|refine blk_drewN ?_ _|refine blk_drew ?_|refine blk_alloc ?_ _));refine blk_put (cs:=#[.string t31,.string t34,.int .i64 t35,.slice none 0 0,.slice none 0 0]) ?_ 3 _ rfl;(with_reducible repeat (first|refine blk_drewN ?_ _|refine blk_drew ?_|refine blk_alloc ?_ _));refine blk_put (cs:=#[.string t31,.string t34,.int .i64 0,.slice none 0 0,.slice none 0 0]) ?_ 2 _ rfl;(with_reducible repeat (first|refine blk_drewN ?_ _|refine blk_drew ?_|refine blk_alloc ?_ _));refine blk_put (cs:=#[.string t31,.string (⟨#[]⟩:ByteArray),.int .i64 0,.slice none 0 0,.slice none 0 0]) ?_ 1 _ rfl;(with_reducible repeat (first|refine blk_drewN ?_ _|refine blk_drew ?_|refine blk_alloc ?_ _));refine blk_put (cs:=#[.string (⟨#[]⟩:ByteArray),.string (⟨#[]⟩:ByteArray),.int .i64 0,.slice none 0 0,.slice none 0 0]) ?_ 0 _ rfl;(with_reducible repeat (first|refine blk_drewN ?_ _|refine blk_drew ?_|refine blk_alloc ?_ _));refine blk_far ?_ NB29_270.out _;(with_reducible repeat (first|refine blk_drewN ?_ _|refine blk_drew ?_|refine blk_alloc ?_ _));exact BK29.out) Tryz.underlying26 rfl zb5) rfl ?_
    exact ⟨_,_,zb2,by (with_reducible repeat (first|apply Kd.R_alloc|apply Kd.R_drewN|apply Kd.R_drew));exact Kd.R_mono (Kd.R_far (p:=⟨gb29,4,none⟩) (Kd.R_far (p:=⟨gb29,3,none⟩) (Kd.R_far (p:=⟨gb29,2,none⟩) (Kd.R_far (p:=⟨gb29,1,none⟩) (Kd.R_far (p:=⟨gb29,0,none⟩) (Kd.R_far (p:=⟨gb30,4,none⟩) (Kd.R_types (Kd.R_types HO_39.out BK30.out (by decide)) BK29.out (by decide)) (fun _ hk=>hk.1.2) (.slice Ao25 t41.length co25)) (fun _ hk=>hk.2) (.string t31)) (fun _ hk=>hk.2) (.string t34)) (fun _ hk=>hk.2) (.int .i64 t35)) (fun _ hk=>hk.2) (.slice Ao9 t37.length co9)) (fun _ hk=>hk.2) (.slice Ao25 t41.length co25)) (fun _ hk=>trivial),by (with_reducible repeat (first|apply Kd.R_alloc|apply Kd.R_drewN|apply Kd.R_drew));exact Kd.R_mono (Kd.R_far (p:=⟨gb29,4,none⟩) (Kd.R_far (p:=⟨gb29,3,none⟩) (Kd.R_far (p:=⟨gb29,2,none⟩) (Kd.R_far (p:=⟨gb29,1,none⟩) (Kd.R_far (p:=⟨gb29,0,none⟩) (Kd.R_far (p:=⟨gb30,4,none⟩) (Kd.R_types (Kd.R_types HO54.out BK30.out (by decide)) BK29.out (by decide)) (fun _ hk=>hk.1.2) (.slice Ao25 t41.length co25)) (fun _ hk=>hk.2) (.string t31)) (fun _ hk=>hk.2) (.string t34)) (fun _ hk=>hk.2) (.int .i64 t35)) (fun _ hk=>hk.2) (.slice Ao9 t37.length co9)) (fun _ hk=>hk.2) (.slice Ao25 t41.length co25)) (fun _ hk=>trivial),zb17⟩
   ·rw [if_neg c16] at H
    exact absurd H zb36
def field_Line.f (a0_0:ByteArray) (a0_1:ByteArray):Option (ByteArray):=if a0_0.size + 2 ≤ 9223372036854775807 then (if (a0_0 ++ (⟨#[58,32]⟩:ByteArray)).size + a0_1.size ≤ 9223372036854775807 then (if ((a0_0 ++ (⟨#[58,32]⟩:ByteArray)) ++ a0_1).size + 2 ≤ 9223372036854775807 then (some (((a0_0 ++ (⟨#[58,32]⟩:ByteArray)) ++ a0_1) ++ (⟨#[13,10]⟩:ByteArray))) else (none)) else (none)) else (none)
set_option maxHeartbeats 8000000 in
set_option maxRecDepth 100000 in
theorem field_Line.calls (a0_0:ByteArray) (a0_1:ByteArray) (r:ByteArray) (w:World) (h:field_Line.f a0_0 a0_1=some r) :
 Calls Tryz.prog 94 #[.agg #[.string a0_0,.string a0_1]] w fun e w' => e = .returned (.string r)∧Below w.heap.size w w' := by
 have hu36:=Tryz.underlying36
 have HB:=Aside0.mk (Below.refl w.heap.size w)
 unfold field_Line.f at h
 have H:=h
 clear h
 by_cases c2:a0_0.size + 2 ≤ 9223372036854775807;rotate_left
 ·rw [if_neg c2] at H
  exact absurd H zb36
 rw [if_pos c2] at H
 have c2b0:=eq_true c2
 have c2b1:=decide_eq_true c2
 try have c2b2:(9223372036854775807 < a0_0.size + 2)=False:=eq_false (Nat.not_lt.2 c2)
 by_cases c3:(a0_0 ++ (⟨#[58,32]⟩:ByteArray)).size + a0_1.size ≤ 9223372036854775807
 ·rw [if_pos c3] at H
  have c3b0:=eq_true c3
  have c3b1:=decide_eq_true c3
  try have c3b2:(9223372036854775807 < (a0_0 ++ (⟨#[58,32]⟩:ByteArray)).size + a0_1.size)=False:=eq_false (Nat.not_lt.2 c3)
  try (have c3b3:=c3b0;simp only [ByteArray.size_append] at c3b3;have c3b4:=c3b2;simp only [ByteArray.size_append] at c3b4)
  try have c3b5:(9223372036854775807 < a0_0.size + 2 + a0_1.size)=False:=eq_false (by have q_:=c3;simp only [ByteArray.size_append] at q_;have e0_:(⟨#[58,32]⟩:ByteArray).size=2:=rfl;omega)
  try have c3b6:(a0_0.size + 2 + a0_1.size ≤ 9223372036854775807)=True:=eq_true (by have q_:=c3;simp only [ByteArray.size_append] at q_;have e0_:(⟨#[58,32]⟩:ByteArray).size=2:=rfl;omega)
  by_cases c4:((a0_0 ++ (⟨#[58,32]⟩:ByteArray)) ++ a0_1).size + 2 ≤ 9223372036854775807;rotate_left
  ·rw [if_neg c4] at H
   exact absurd H zb36
  rw [if_pos c4] at H
  have c4b0:=eq_true c4
  have c4b1:=decide_eq_true c4
  try have c4b2:(9223372036854775807 < ((a0_0 ++ (⟨#[58,32]⟩:ByteArray)) ++ a0_1).size + 2)=False:=eq_false (Nat.not_lt.2 c4)
  try (have c4b3:=c4b0;simp only [ByteArray.size_append] at c4b3;have c4b4:=c4b2;simp only [ByteArray.size_append] at c4b4)
  try have c4b5:(9223372036854775807 < a0_0.size + 2 + a0_1.size + 2)=False:=eq_false (by have q_:=c4;simp only [ByteArray.size_append] at q_;have e0_:(⟨#[58,32]⟩:ByteArray).size=2:=rfl;omega)
  try have c4b6:(a0_0.size + 2 + a0_1.size + 2 ≤ 9223372036854775807)=True:=eq_true (by have q_:=c4;simp only [ByteArray.size_append] at q_;have e0_:(⟨#[58,32]⟩:ByteArray).size=2:=rfl;omega)
  obtain rfl:=Option.some.inj H
  go_enter Tryz.func94,Tryz.ntmps94
  go_wp2_with (first|((with_reducible refine gate_dst (N:=1) rfl ?_);refine box_event rfl (N:=1) rfl (cs:=#[.string a0_0,.string a0_1]) (t:=36) zS ?_;intro gb305 hg w5 hbox hb;have GW305:=zG hg zb0;have GE305:=GW305;have BK305:=Aside0.mk hbox;replace HB:=Aside0.mk (below_step zb0 hb);clear hb hbox hg;obtain ⟨hcz6_0,hcz6_1,hfz6_0,hfz6_1⟩:=zq2 BK305.out))
  go_ret
  exact ⟨zb2,by repeat (first|(with_reducible first|exact HB.out|apply below_alloc|apply pw_below_drewN|apply below_drew1|refine below_set ?_ GE305.out)|exact HB.out)⟩
 ·rw [if_neg c3] at H
  exact absurd H zb36
/-- A slice of bytes that this call made,whatever stands behind its row: its cells can be written. -/
def BufM (w:World) (base:Nat) (v:Value) (xs:List Int):Prop := ∃ g cap,v = .slice (some ⟨g,0,none⟩) xs.length cap∧base ≤ g∧xs.length ≤ cap∧(∀ j u,xs[j]? = some u → w.cell? ⟨g,j,none⟩=some (.int .u8 u))∧(∀ j,j < cap → (w.cell? ⟨g,j,none⟩).isSome=true∧w.frozen? ⟨g,j,none⟩=false)
theorem BufM.form {w:World} {base:Nat} {v:Value} {xs:List Int} (h:BufM w base v xs) : ∃ A c,v = .slice A xs.length c:=by obtain ⟨g,cap,rfl,_⟩:=h;exact ⟨_,_,rfl⟩
theorem BufM.lower {w:World} {base b:Nat} {v:Value} {xs:List Int} (h:BufM w base v xs) (hb:b ≤ base):BufM w b v xs:=by obtain ⟨g,cap,e,hg,r⟩:=h;exact ⟨g,cap,e,Nat.le_trans hb hg,r⟩
theorem BufM.lt {w:World} {g j:Nat} (h:(w.cell? ⟨g,j,none⟩).isSome=true):g < w.heap.size:=by
 obtain ⟨u,hu⟩:=Option.isSome_iff_exists.1 h
 exact World.block_lt_of_cell? w _ hu
theorem BufM.below {w w1:World} {base:Nat} {v:Value} {xs:List Int} (h:BufM w base v xs) (hb:Below w.heap.size w w1):BufM w1 base v xs:=by
 obtain ⟨g,cap,e,hg,hc,h1,h2⟩:=h
 have hs : ∀ j,j < cap → w1.heap[g]? = w.heap[g]?:=fun j hj=>hb.block g (BufM.lt (h2 j hj).1)
 refine ⟨g,cap,e,hg,hc,fun j u hj=>?_,fun j hj=>?_⟩
 ·have hl:j < xs.length:=(List.getElem?_eq_some_iff.1 hj).1
  rw [World.cell?_of_block (a:=⟨g,j,none⟩) (hs j (by omega))]
  exact h1 j u hj
 rw [World.cell?_of_block (a:=⟨g,j,none⟩) (hs j hj),World.frozen?_of_block (a:=⟨g,j,none⟩) (hs j hj)]
 exact h2 j hj
theorem BufM.reads {w:World} {base:Nat} {v:Value} {xs:List Int} (h:BufM w base v xs) (hl:xs.length ≤ 9223372036854775807) : ∃ A c,v = .slice A xs.length c∧xs.length ≤ c∧Kd.C (Kd.int .u8) w A xs.length xs:=by
 obtain ⟨g,cap,e,hg,hc,h1,h2⟩:=h
 refine ⟨_,cap,e,hc,Kd.C_of_reads (h1:=fun _=>rfl) (d:=0) ⟨rfl,hl,fun _=>⟨_,rfl,fun j hj=>?_⟩⟩⟩
 have hadd:(⟨g,0,none⟩:Addr).add j=⟨g,j,none⟩:=by unfold Addr.add;split <;> simp_all
 rw [hadd,List.getD_eq_getElem?_getD,List.getElem?_eq_getElem (by omega)]
 exact h1 j _ (List.getElem?_eq_getElem (by omega))
theorem BufM.reads' {w:World} {base n c:Nat} {A:Option Addr} {xs:List Int} (h:BufM w base (.slice A n c) xs) (hl:xs.length ≤ 9223372036854775807):n=xs.length∧xs.length ≤ c∧Kd.C (Kd.int .u8) w A xs.length xs:=by
 obtain ⟨A',c',e,hc,hC⟩:=h.reads hl
 injection e with e1 e2 e3
 subst e1 e2 e3
 exact ⟨rfl,hc,hC⟩
/-- A slice of bytes that a call made out of a text: it is read,and stays. -/
def Kd.B (w:World) (base:Nat) (ok:Nat → Prop) (v:Value) (xs:List Int):Prop:=(∀ k,v.ownBlock=some k → ok k)∧BufM w base v xs∧0 < xs.length∧xs.length ≤ 9223372036854775807
theorem hbase2 {w w1:World} {b g:Nat} (hg:b ≤ g) (h:Below g w w1):Below b w w1:=⟨h.os,h.tape,h.output,h.size,fun i hi=>h.block i (Nat.lt_of_lt_of_le hi hg)⟩
theorem below_cells {a:World} {B g:Nat} (hg:B ≤ g) : ∀ (vs:List Value) (o:Nat) (w:World),Below B a w → Below B a (w.setCells g o vs)
 | [],_,_,h=>h
 | v :: r,o,w,h=>below_cells hg r (o + 1) (w.setCell ⟨g,o,none⟩ v) (h.setCell hg v)
theorem ints_cells (w:World) (g:Nat) (xs:List Int) (h1 : ∀ j u,xs[j]? = some u → w.cell? ⟨g,j,none⟩=some (.int .u8 u)) : ∀ j u,(xs.map (Value.int .u8))[j]? = some u → w.cell? ((⟨g,0,none⟩:Addr).add j)=some u:=by
 intro j u hj
 have hadd:(⟨g,0,none⟩:Addr).add j=⟨g,j,none⟩:=by unfold Addr.add;split <;> simp_all
 rw [List.getElem?_map] at hj
 obtain ⟨x,hx,rfl⟩:=Option.map_eq_some_iff.1 hj
 rw [hadd]
 exact h1 j x hx
/-- 'append' onto it,of a string's bytes or of a slice's. -/
theorem run_bufM {P:Program} (w:World) (base:Nat) (t tx ty e:TypeId) (i:TypeInfo) (ht:P.underlying t=some (.slice e)) (hi:P.info? e=some i) (hz:i.zero=some (.int .u8 0)) (hs1:i.size=1) (hb1:i.bytes=1)
 (v x:Value) (xs ys:List Int) (h:BufM w base v xs) (hs:Src P 1 tx x ys.length (ys.map (Value.int .u8)) w) (hn:xs.length + ys.length ≤ 140737488355328) (hbase:base ≤ w.heap.size) :
 ∃ v' w',(Builtin.append_ #[t,tx] ty #[v,x]).run P w = .ok v' w' ∧ BufM w' base v' (xs ++ ys)∧Below base w w' := by
 obtain ⟨g,cap,rfl,hg,hc,h1,h2⟩:=h
 have hs' : Src P i.size tx x ys.length (ys.map (Value.int .u8)) w:=by rw [hs1];exact hs
 by_cases hroom:xs.length + ys.length ≤ cap;rotate_left
 ·have hold:=run_firstCells_some (P:=P) w.drew 1 xs.length ⟨g,0,none⟩ xs.length cap (xs.map (Value.int .u8)) (by simp) (by intro j u hj;have:=ints_cells w g xs h1 j u hj;simpa using this)
  have hr:=run_append_grow_src (P:=P) w t tx ty e i (.int .u8 0) ht hi hz (some ⟨g,0,none⟩) xs.length cap (xs.map (Value.int .u8)) (by rw [hs1];exact hold) x ys.length (ys.map (Value.int .u8)) hs' (by omega) (by omega) (by rw [hb1];exact growslice_fits (by omega) (by omega))
  have hge:=grownCap_ge w (xs.length + ys.length) cap e
  have hnb : ∀ ob,(w.drew.alloc ob).heap[w.heap.size]? = some ob:=fun ob=>blk_new w.drew ob
  refine ⟨_,_,hr,⟨w.heap.size,_,by rw [List.length_append],hbase,by rw [List.length_append];exact hge,fun j u hj=>?_,fun j hj=>?_⟩,(below_drew (Below.refl _ _)).alloc hbase _⟩
  ·rw [blk_cell (hnb _) j,Array.getElem?_append_left (by simp;have:=(List.getElem?_eq_some_iff.1 hj).1;simp at this;omega)]
   simp only [List.getElem?_toArray]
   rw [← List.map_append,List.getElem?_map,hj]
   rfl
  refine ⟨?_,blk_frozen (hnb _) j⟩
  have hz1:(Value.int IntKind.u8 0).cells.size=1:=rfl
  rw [blk_cell (hnb _) j,Array.getElem?_eq_getElem (by simp only [Array.size_append,List.size_toArray,size_zeroCells,hz1,List.length_append,List.length_map];omega)]
  rfl
 have hr:=run_append_room_src (P:=P) w t tx ty e i ht hi g 0 xs.length cap x ys.length (ys.map (Value.int .u8)) hs' hroom
  (fun j hj=>by rw [hs1];simp only [List.length_map] at hj;exact (h2 (0 + xs.length * 1 + j) (by omega)).1) (fun j hj=>by rw [hs1];simp only [List.length_map] at hj;exact (h2 (0 + xs.length * 1 + j) (by omega)).2)
 rw [hs1,show 0 + xs.length * 1=xs.length by omega] at hr
 refine ⟨_,_,hr,⟨g,cap,by rw [List.length_append],hg,by rw [List.length_append];exact hroom,fun j u hj=>?_,fun j hj=>?_⟩,below_cells hg _ _ _ (Below.refl _ _)⟩
 ·by_cases hl:j < xs.length
  ·rw [List.getElem?_append_left hl] at hj
   rw [World.cell?_setCells_out g _ _ w ⟨g,j,none⟩ (fun _ _=>.inl hl)]
   exact h1 j u hj
  ·rw [List.getElem?_append_right (by omega)] at hj
   obtain ⟨hl2,e2⟩:=List.getElem?_eq_some_iff.1 hj
   have:=World.cell?_setCells_in g (ys.map (Value.int .u8)) xs.length w (fun q hq=>by simp only [List.length_map] at hq;exact (h2 _ (by omega)).1) (j - xs.length) (by simpa using hl2)
   rw [show xs.length + (j - xs.length)=j by omega] at this
   rw [this,List.getElem_map,e2]
 ·exact ⟨World.isSome_setCells g _ _ w _ (h2 j hj).1,by rw [World.frozen?_setCells];exact (h2 j hj).2⟩
theorem wp_bufM {P:Program} {ops:Array Oper} {rest:List Oper} {o:Oper} {a:Act} {Q:Exit → Act → World → Prop} {w:World} (hgd:o.guard=none) (sl x:Operand) (t tx:TypeId) (ho:o.op = .call { callee:=.builtin .append,args:=#[sl,x],argTypes:=#[t,tx] })
 (base:Nat) (e:TypeId) (i:TypeInfo) (ht:P.underlying t=some (.slice e)) (hi:P.info? e=some i) (hz:i.zero=some (.int .u8 0)) (hs1:i.size=1) (hb1:i.bytes=1) (v xv:Value) (xs ys:List Int) (hsl:a.eval sl=v) (hx:a.eval x=xv)
 (h:BufM w base v xs) (hs:Src P 1 tx xv ys.length (ys.map (Value.int .u8)) w) (hn:xs.length + ys.length ≤ 140737488355328) (hbase:base ≤ w.heap.size)
 (K : ∀ v' w',BufM w' base v' (xs ++ ys) → Below base w w' → wpList P ops Q rest (a.put o.dst v') w'):wpList P ops Q (o :: rest) a w:=by
 refine wpList_plain hgd fun K' hK=>?_
 obtain ⟨v',w',hr,h2,h3⟩:=run_bufM (P:=P) w base t tx o.type e i ht hi hz hs1 hb1 v xv xs ys h hs hn hbase
 unfold Oper.wp execOp
 simp only [ho,resolve,invoke,builtin,Sem.run_bind,Sem.run_pure,Result.andThen_ok,List.map_toArray,List.map_cons,List.map_nil,hsl,hx,hr]
 exact hK _ _ (K v' w' h2 h3)
theorem bufM_len (s:ByteArray):(bytesOf s).length=s.size:=by
 unfold bytesOf
 rw [List.length_map,Array.length_toList]
 rfl
theorem src_bytes {P:Program} (w:World) {tx:TypeId} (hk:P.underlying tx=some .string) (s:ByteArray):Src P 1 tx (.string s) (bytesOf s).length ((bytesOf s).map (Value.int .u8)) w:=by
 have h:=Src.ofString (P:=P) w hk s
 have e:(bytesOf s).map (Value.int .u8)=byteCells s:=by unfold bytesOf byteCells;rw [List.map_map];rfl
 rw [e,bufM_len]
 exact h
theorem src_ints {P:Program} {w:World} {tx e' : TypeId} (hk:P.underlying tx=some (.slice e')) {A:Option Addr} {c:Nat} {l:List Int} (h:Kd.C (Kd.int .u8) w A l.length l):Src P 1 tx (.slice A l.length c) l.length (l.map (Value.int .u8)) w:=by
 cases l with
 | nil=>cases A with
  | none=>exact Src.ofNil w hk c
  | some ad=>exact Src.ofSlice w hk ad 0 c [] rfl (fun j u hj=>by simp at hj) (fun u hu=>by cases hu)
 | cons x r =>
  obtain ⟨ad,rfl,hc⟩:=(Kd.reads_of_C (d:=0) h).2.2 (by simp)
  refine Src.ofSlice w hk ad _ c _ (by simp) (fun j u hj=>?_) (fun u hu=>by obtain ⟨_,_,rfl⟩:=List.mem_map.1 hu;rfl)
  rw [List.getElem?_map] at hj
  obtain ⟨y,hy,rfl⟩:=Option.map_eq_some_iff.1 hj
  obtain ⟨hl,e2⟩:=List.getElem?_eq_some_iff.1 hy
  have:=hc j hl
  rw [List.getD_eq_getElem?_getD,List.getElem?_eq_getElem hl,e2] at this
  exact this
theorem bufM_conv (w:World) (e:TypeId) (s:ByteArray):BufM (Lib.bytesWorld w e s) w.heap.size (.slice (some ⟨w.heap.size,0,none⟩) s.size (grownCap w s.size 0 e)) (bytesOf s):=by
 have hge:=grownCap_ge w s.size 0 e
 have hsz:(Lib.bytesCells w e s).size=grownCap w s.size 0 e:=by
  have h1:s.data.size=s.size:=rfl
  simp only [Lib.bytesCells,Array.size_append,Array.size_map,Array.size_replicate,h1];omega
 refine ⟨w.heap.size,_,by rw [bufM_len],Nat.le_refl _,by rw [bufM_len];exact hge,fun j u hj=>?_,fun j hj=>⟨?_,?_⟩⟩
 ·have hl:j < s.size:=by have:=(List.getElem?_eq_some_iff.1 hj).1;rw [bufM_len] at this;exact this
  rw [Lib.bytesWorld_cell w e s j hl]
  unfold bytesOf at hj
  rw [List.getElem?_map] at hj
  obtain ⟨y,hy,rfl⟩:=Option.map_eq_some_iff.1 hj
  rw [List.getD_eq_getElem?_getD,hy]
  rfl
 ·simp only [World.cell?,Lib.bytesWorld_at_new]
  rw [Array.getElem?_eq_getElem (by rw [hsz];exact hj)]
  rfl
 simp only [World.frozen?,Lib.bytesWorld_at_new,Bool.and_eq_false_iff,decide_eq_false_iff_not]
 left
 rw [hsz]
 omega
def http_write.l:Nat → List (S36) → List Int → Int → List Int → Option (List Int)
 | 0,_,_,_,_=>none
 | k + 1,fs,b,i,out=>if i < (fs.length:Int) then (if 0 ≤ i then ((field_Line.f (rd_T36 fs i).f0 (rd_T36 fs i).f1).bind fun s=>if out.length + s.size ≤ 140737488355328 then http_write.l k fs b (wrap64 (i + 1)) (out ++ bytesOf s) else none) else none) else (if out.length + 2 + b.length ≤ 140737488355328 then some ((out ++ [13,10]) ++ b) else none)
def http_write.f (k:Nat) (a0:ByteArray) (l1:List (S36)) (l2:List Int):Option (List Int):=http_write.l k l1 l2 0 (bytesOf a0)
set_option maxHeartbeats 8000000 in
set_option maxRecDepth 100000 in
theorem http_write.callsB (k:Nat) (a0:ByteArray) (A1:Option Addr) (c1:Nat) (l1:List (S36)) (A2:Option Addr) (c2:Nat) (l2:List Int) (r:List Int) (w:World) (hr1:Kd.C k36 w A1 l1.length l1) (hc1:l1.length ≤ c1) (hr2:Kd.C (Kd.int .u8) w A2 l2.length l2) (hc2:l2.length ≤ c2) (h:http_write.f k a0 l1 l2=some r) :
 Calls Tryz.prog 54 #[.string a0,.slice A1 l1.length c1,.slice A2 l2.length c2] w fun e w' => ∃ v,e = .returned v∧BufM w' w.heap.size v r∧Below w.heap.size w w' := by
 have hu:=Tryz.underlying36
 have hconv : ∀ W:World,(convert 9 22 (.string a0)).run Tryz.prog W = .ok (.slice (some ⟨W.heap.size,0,none⟩) a0.size (grownCap W a0.size 0 5)) (Lib.bytesWorld W 5 a0):=fun W=>Lib.run_convert_string_bytes W _ _ _ a0 Tryz.underlying9 Tryz.underlying22 Tryz.underlying5
 obtain ⟨i0,hi0,hz0,hsz0,hby0⟩:=info_parts info5
 have HI:=Aside0.mk (And.intro hi0 (And.intro hz0 (And.intro hsz0 hby0)))
 have HR1:=Aside0.mk hr1
 have HR2:=Aside0.mk hr2
 have H' := Aside0.mk (show http_write.l k l1 l2 0 (bytesOf a0)=some r from h)
 clear hr1 hc1 hr2 hc2 h hi0 hz0 hsz0 hby0
 go_enter Tryz.func54,Tryz.ntmps54
 go_wp2
 go_loopg [7,14] k (fun kq v7 v14 w' => ∃ (i:Int) (out:List Int),v14 = .int .i64 i∧Aside0 (http_write.l kq l1 l2 i out=some r)∧Aside0 (BufM w' w.heap.size v7 out)∧Aside0 (Below w.heap.size w w'))
 case atStart=>exact ⟨0,bytesOf a0,rfl,H',⟨bufM_conv w _ a0⟩,⟨bytes_below (Below.refl _ _) (Nat.le_refl _) _ _⟩⟩
 case round =>
  clear H'
  obtain ⟨i,out,rfl,HA,BU,HB⟩:=hrel
  cases gk with
  | zero=>exact absurd HA.out (by simp [http_write.l])
  | succ k =>
   have h:=HA.out
   clear HA
   simp only [http_write.l] at h
   obtain ⟨Ab,cb,eb⟩:=BU.out.form
   subst eb
   by_cases b0:i < (l1.length:Int);rotate_left
   ·rw [if_neg b0] at h
    have d0:decide (i < (l1.length:Int))=false:=decide_eq_false b0
    replace b0:=eq_false b0
    by_cases b2:out.length + 2 + l2.length ≤ 140737488355328;rotate_left
    ·rw [if_neg b2] at h
     cases h
    rw [if_pos b2] at h
    simp only [Option.some.injEq] at h
    subst h
    have LM:=Aside0.mk b2
    clear b2
    go_wp2_with (first
     | ((with_reducible refine gate_builtin (b:=.append) (xs:=#[.tmp 23,.const (.string ⟨#[13,10]⟩)]) rfl ?_);at_builtin;refine wp_bufM rfl (.tmp 23) (.const (.string ⟨#[13,10]⟩)) 22 9 rfl w.heap.size 5 i0 Tryz.underlying22 HI.out.1 HI.out.2.1 HI.out.2.2.1 HI.out.2.2.2 _ (.string ⟨#[13,10]⟩) out [13,10] rfl rfl BU.out (src_bytes _ Tryz.underlying9 ⟨#[13,10]⟩) (by have z:=LM.out;simp only [List.length_cons,List.length_nil];omega) HB.out.size ?_;intro v3 w3 hB3 hb3;obtain ⟨y3,hy3⟩ : ∃ y,y=out ++ [13,10]:=⟨_,rfl⟩;rw [← hy3] at hB3;have HY:=Aside0.mk hy3;obtain ⟨A3,c3,e3⟩:=hB3.form;subst e3;clear hy3;have B3:=Aside0.mk hB3;have L3:=Aside0.mk (HB.out.trans hb3);clear hB3 hb3)
     | ((with_reducible refine gate_builtin (b:=.append) (xs:=#[.tmp 24,.tmp 25]) rfl ?_);at_builtin;refine wp_bufM rfl (.tmp 24) (.tmp 25) 22 22 rfl w.heap.size 5 i0 Tryz.underlying22 HI.out.1 HI.out.2.1 HI.out.2.2.1 HI.out.2.2.2 _ (.slice A2 l2.length c2) y3 l2 rfl rfl B3.out (src_ints Tryz.underlying22 (Kd.C_below HR2.out L3.out)) (by have z:=LM.out;rw [HY.out];simp only [List.length_append,List.length_cons,List.length_nil];omega) L3.out.size ?_;intro v4 w4 hB4 hb4;have B4:=Aside0.mk hB4;have L4:=Aside0.mk (L3.out.trans hb4);clear hB4 hb4))
    go_ret
    exact ⟨_,rfl,by rw [← HY.out];exact B4.out,L4.out⟩
   rw [if_pos b0] at h
   by_cases b1:0 ≤ i
   ·rw [if_pos b1] at h
    obtain ⟨s,hl,h'⟩:=Option.bind_eq_some_iff.1 h
    clear h
    by_cases b2:out.length + s.size ≤ 140737488355328
    ·rw [if_pos b2] at h'
     have H2:=Aside0.mk h'
     have HL:=Aside0.mk hl
     have LM:=Aside0.mk b2
     clear h' hl b2
     obtain ⟨ad,e1,hx0,hx1⟩:=at_T36 HR1.out i b1 b0
     cases e1
     replace hx0:=(HB.out.cell (World.block_lt_of_cell? w _ hx0)).trans hx0
     replace hx1:=(HB.out.cell (World.block_lt_of_cell? w _ hx1)).trans hx1
     have d0:decide (i < (l1.length:Int))=true:=decide_eq_true b0
     replace b0:=eq_true b0
     replace b1:=eq_true b1
     go_wp2_with (first
      | (go_at_call 94;refine (field_Line.calls _ _ s _ HL.out).mono ?_;rintro E w2 ⟨rfl,hb2⟩;have B2:=Aside0.mk ((BU.out.below (below_alloc (Below.refl _ _) _)).below hb2);have L2:=Aside0.mk ((below_alloc HB.out _).trans (hbase2 (below_alloc HB.out _).size hb2));clear hb2)
      | ((with_reducible refine gate_builtin (b:=.append) (xs:=#[.tmp 18,.tmp 20]) rfl ?_);at_builtin;refine wp_bufM rfl (.tmp 18) (.tmp 20) 22 9 rfl w.heap.size 5 i0 Tryz.underlying22 HI.out.1 HI.out.2.1 HI.out.2.2.1 HI.out.2.2.2 _ (.string s) out (bytesOf s) rfl rfl B2.out (src_bytes _ Tryz.underlying9 s) (by rw [bufM_len];exact LM.out) L2.out.size ?_;intro v3 w3 hB3 hb3;have B3:=Aside0.mk hB3;have L3:=Aside0.mk (L2.out.trans hb3);clear hB3 hb3))
     go_roundg k
     case rel=>exact ⟨wrap64 (i + 1),out ++ bytesOf s,zb53,H2,B3,L3⟩
     case measure=>exact Nat.lt_succ_self k
    ·rw [if_neg b2] at h'
     cases h'
   ·rw [if_neg b1] at h
    cases h
def http_Host.l0:Nat → List ByteArray → Int → Int → Option (ByteArray)
 | 0,_,_,_=>none
 | k + 1,x9,x10,x11=>if x11 < x10 then (if 0 ≤ x11 then (if x11 < (x9.length:Int) then ((line_Host.f (rdOf ByteArray.empty x9 x11)).bind fun bt303=>(some bt303.1)) else (none)) else (none)) else (some (⟨#[]⟩:ByteArray))
def http_Host.f (k:Nat) (a0_0:ByteArray) (a0_1:ByteArray) (a0_2:Int) (l0_3:List (S36)) (l0_4:List Int):Option (ByteArray):=(field_Get.f k l0_3 (⟨#[72,111,115,116]⟩:ByteArray)).bind fun t299=>(http_Host.l0 k t299 (t299.length:Int) 0)
set_option maxHeartbeats 8000000 in
set_option maxRecDepth 100000 in
theorem http_Host.calls (k:Nat) (a0_0:ByteArray) (a0_1:ByteArray) (a0_2:Int) (A0_3:Option Addr) (c0_3:Nat) (l0_3:List (S36)) (A0_4:Option Addr) (c0_4:Nat) (l0_4:List Int) (r:ByteArray) (w:World) (hr0_3:Kd.C k36 w A0_3 l0_3.length l0_3) (hc0_3:l0_3.length ≤ c0_3) (hr0_4:Kd.C (Kd.int .u8) w A0_4 l0_4.length l0_4) (hc0_4:l0_4.length ≤ c0_4) (h:http_Host.f k a0_0 a0_1 a0_2 l0_3 l0_4=some r) :
 Calls Tryz.prog 19 #[.agg #[.string a0_0,.string a0_1,.int .i64 a0_2,.slice A0_3 l0_3.length c0_3,.slice A0_4 l0_4.length c0_4]] w fun e w' => e = .returned (.string r)∧Below w.heap.size w w' := by
 have hu26:=Tryz.underlying26
 have HR0_3:=Aside0.mk hr0_3
 have HC0_3:=Aside0.mk hc0_3
 clear hr0_3 hc0_3
 have HR0_4:=Aside0.mk hr0_4
 have HC0_4:=Aside0.mk hc0_4
 clear hr0_4 hc0_4
 have HB:=Aside0.mk (Below.refl w.heap.size w)
 unfold http_Host.f at h
 have H:=h
 clear h
 replace H:=Option.bind_eq_some_iff.mp H
 obtain ⟨t299,A20,H⟩:=H
 try dsimp only at H
 have A2:=Aside0.mk A20
 clear A20
 have H' := Aside0.mk H
 clear H
 go_enter Tryz.func19,Tryz.ntmps19
 go_wp2_with (first|((with_reducible refine gate_dst (N:=1) rfl ?_);refine box_event rfl (N:=1) rfl (cs:=#[.string a0_0,.string a0_1,.int .i64 a0_2,.slice A0_3 l0_3.length c0_3,.slice A0_4 l0_4.length c0_4]) (t:=26) zS ?_;intro gb298 hg w3 hbox hb;have GW298:=zG hg zb0;have GE298:=GW298;have BK298:=Aside0.mk hbox;replace HB:=Aside0.mk (below_step zb0 hb);clear hb hbox hg;obtain ⟨hcz4_0,hcz4_1,hcz4_2,hcz4_3,hcz4_4,hfz4_0,hfz4_1,hfz4_2,hfz4_3,hfz4_4⟩:=zq5 BK298.out)|((with_reducible refine gate_callee (f:=50) rfl ?_);refine goesL_ (some 9) rfl rfl Tryz.func50 zb5 rfl #[.slice A0_3 l0_3.length c0_3,.string (⟨#[72,111,115,116]⟩:ByteArray)] rfl zb1 ?_;(with_reducible refine (field_Get.calls k _ _ l0_3 (⟨#[72,111,115,116]⟩:ByteArray) t299 _ ?side1 ?side2 A2.out).mono ?_);(case side1=>exact zb44);(case side2=>exact HC0_3.out);rintro e w5 ⟨v300,rfl,ho0,hb⟩;(try clear A2);refine ⟨_,rfl,?_⟩;have HO301:=Aside0.mk (Kd.R_lower ho0 (below_size zb32));replace BK298:=Aside0.mk (blk_below (g:=gb298) (o:=.cells #[.string a0_0,.string a0_1,.int .i64 a0_2,.slice A0_3 l0_3.length c0_3,.slice A0_4 l0_4.length c0_4] 26 (0,0)) zb60 hb);replace HB:=Aside0.mk (below_step zb32 hb);try clear hb ho0;obtain ⟨Ao6,co6,eo6⟩:=Kd.R_slice HO301.out;subst eo6))
 go_loopg [11] k (fun kq v11 w' => ∃ (x11_1:Int),v11 = .int .i64 x11_1∧Aside0 (http_Host.l0 kq t299 (t299.length:Int) x11_1=some r)∧Aside0 (kq ≤ k)∧Aside0 (Kd.R Kd.string 9 w' w.heap.size (fun _=>True) (.slice Ao6 t299.length co6) t299)∧Aside0 (w'.heap[gb298]? = some (.cells #[.string a0_0,.string a0_1,.int .i64 a0_2,(.slice A0_3 l0_3.length c0_3),(.slice A0_4 l0_4.length c0_4)] 26 (0,0)))∧Aside0 (Below w.heap.size w w'))
 case atStart=>exact ⟨(0),zb6,H',⟨Nat.le_refl _⟩,⟨by (with_reducible repeat (first|apply Kd.R_alloc|apply Kd.R_drewN|apply Kd.R_drew));exact HO301.out⟩,⟨zb60⟩,⟨zb32⟩⟩
 case round =>
  clear H'
  try clear c1
  try clear p2
  try clear c5
  try clear hcz4_0
  try clear hcz4_1
  try clear hcz4_2
  try clear hcz4_3
  try clear hcz4_4
  try clear hfz4_0
  try clear hfz4_1
  try clear hfz4_2
  try clear hfz4_3
  try clear hfz4_4
  obtain ⟨x11_1,rfl,HA,HK1,HO_9,BK298,HB⟩:=hrel
  cases gk with
  | zero=>exact absurd HA.out (by simp [http_Host.l0])
  | succ k1 =>
   have H:=HA.out
   clear HA
   simp only [http_Host.l0] at H
   by_cases c7:x11_1 < (t299.length:Int);rotate_left
   ·rw [if_neg c7] at H
    have c7b0:=decide_eq_false c7
    clear c7
    obtain rfl:=Option.some.inj H
    go_wp2
    go_ret
    exact ⟨zb2,zb32⟩
   rw [if_pos c7] at H
   have c7b0:=decide_eq_true c7
   clear c7
   by_cases c8:0 ≤ x11_1
   ·rw [if_pos c8] at H
    have c8b0:=decide_eq_true c8
    clear c8
    by_cases c9:x11_1 < (t299.length:Int)
    ·rw [if_pos c9] at H
     have c9b0:=decide_eq_true c9
     clear c9
     replace H:=Option.bind_eq_some_iff.mp H
     obtain ⟨⟨t303,t304⟩,A100,H⟩:=H
     try dsimp only at H
     have A10:=Aside0.mk A100
     clear A100
     obtain rfl:=Option.some.inj H
     have p302:0 ≤ (x11_1:Int):=of_decide_eq_true zb4
     have q302:x11_1 < (t299.length:Int):=of_decide_eq_true zb4
     obtain ⟨ad302,e302,hx302_0⟩:=Kd.at_string (Kd.R_reads' HO_9.out).2.2 x11_1 p302 q302
     cases e302
     replace p302:=eq_true p302
     replace q302:=eq_true q302
     go_wp2_with (first|((with_reducible refine gate_callee (f:=51) rfl ?_);refine goesL_ (some 17) rfl rfl Tryz.func51 zb5 rfl #[.string (rdOf ByteArray.empty t299 x11_1)] rfl zb1 ?_;(with_reducible refine (line_Host.calls (rdOf ByteArray.empty t299 x11_1) t303 t304 _ A10.out).mono ?_);rintro e w11 ⟨rfl,hb⟩;(try clear A10);refine ⟨_,rfl,?_⟩;replace HO_9:=Aside0.mk (Kd.R_below (by (with_reducible repeat (first|apply Kd.R_alloc|apply Kd.R_drewN|apply Kd.R_drew));exact HO_9.out) hb);replace BK298:=Aside0.mk (blk_below (g:=gb298) (o:=.cells #[.string a0_0,.string a0_1,.int .i64 a0_2,.slice A0_3 l0_3.length c0_3,.slice A0_4 l0_4.length c0_4] 26 (0,0)) zb60 hb);replace HB:=Aside0.mk (below_step zb32 hb);(try clear hb)))
     go_ret
     exact ⟨zb2,zb32⟩
    ·rw [if_neg c9] at H
     exact absurd H zb36
   ·rw [if_neg c8] at H
    exact absurd H zb36
/-- The place of the first that a test takes,from a place on: -1: none. -/
def idxO {α:Type} (q:α → Option Bool):List α → Int → Option Int
 | [],_=>some (-1)
 | x :: r,i=>(q x).bind fun b=>if b=true then some i else idxO q r (i + 1)
/-- Does a test take one of them? -/
def anyO {α:Type} (q:α → Option Bool):List α → Option Bool
 | []=>some false
 | x :: r=>(q x).bind fun b=>if b=true then some true else anyO q r
theorem idxO_any {α:Type} (q:α → Option Bool) : ∀ (xs:List α) (i:Int) (b:Bool),0 ≤ i → anyO q xs=some b → ∃ j,idxO q xs i=some j∧decide (0 ≤ j)=b
 | [],i,b,_,h=>⟨-1,rfl,by simp only [anyO,Option.some.injEq] at h;rw [← h];rfl⟩
 | x :: r,i,b,hi,h=>by
  simp only [anyO] at h
  obtain ⟨c,hc,h⟩:=Option.bind_eq_some_iff.1 h
  simp only [idxO,hc,Option.bind_some]
  cases c
  ·simp only [Bool.false_eq_true,if_false] at h ⊢
   exact idxO_any q r (i + 1) b (by omega) h
  simp only [if_true,Option.some.injEq] at h ⊢
  exact ⟨i,rfl,by rw [← h];exact decide_eq_true hi⟩
theorem sl_base {w w1:World} {b g:Nat} (hg:b ≤ g) (h:Below g w w1):Below b w w1:=⟨h.os,h.tape,h.output,h.size,fun i hi=>h.block i (Nat.lt_of_lt_of_le hi hg)⟩
/-- What is asked of a test that is handed over: its answer,in every later world. -/
def TestOf (g:Nat) (lb:Array Value) (enc:ByteArray → Value) (q:ByteArray → Option Bool) (w:World):Prop :=
 ∀ (W:World) (x:ByteArray) (b:Bool),Below w.heap.size w W → q x=some b → Calls Tryz.prog g (#[enc x] ++ lb) W fun e w' => e = .returned (.bool b)∧Below W.heap.size W w'
set_option maxHeartbeats 4000000 in
set_option maxRecDepth 100000 in
theorem slices_IndexFunc_string_string.callsOf (q:ByteArray → Option Bool) (g:Nat) (lb:Array Value) (eg : ∀ args w,(callFunc g args).run Tryz.prog w = .ok (.enter g args) w) (A0:Option Addr) (c0:Nat) (l0:List ByteArray) (r:Int) (w:World) (hr0:Kd.C Kd.string w A0 l0.length l0) (hc0:l0.length ≤ c0)
 (hq:TestOf g lb Value.string q w) (h:idxO q l0 0=some r) :
 Calls Tryz.prog 135 #[.slice A0 l0.length c0,.func (.func g) #[] lb] w fun e w' => e = .returned (.int .i64 r)∧Below w.heap.size w w' := by
 have HR:=Aside0.mk hr0
 have HQ:=Aside0.mk hq
 have H0:=Aside0.mk (show idxO q (l0.drop (0:Int).toNat) 0=some r from h)
 have HM:=Aside0.mk (show l0.length ≤ 9223372036854775807 from hr0.2.1)
 clear hr0 hq h
 go_enter Tryz.func135,Tryz.ntmps135
 go_wp2
 go_loopg [5,8] l0.length (fun kq _ v8 wr => ∃ (x8:Int),v8 = .int .i64 x8∧Aside0 (0 ≤ x8∧x8 ≤ l0.length∧(l0.length:Int) - x8 ≤ kq)∧Aside0 (Below w.heap.size w wr)∧Aside0 (idxO q (l0.drop x8.toNat) x8=some r))
 case atStart=>exact ⟨0,rfl,⟨zb14⟩,⟨Below.refl _ w⟩,H0⟩
 case round =>
  obtain ⟨x8,rfl,HX,BW,HH⟩:=hrel
  clear H0
  by_cases c4:x8 < (l0.length:Int);rotate_left
  ·have c4b0:=decide_eq_false c4
   have hx:=HH.out
   rw [List.drop_of_length_le (by have:=HX.out;omega),idxO] at hx
   injection hx with hx
   clear c4
   go_wp2
   go_ret
   subst hx
   exact ⟨zb53,BW.out⟩
  have c4b0:=decide_eq_true c4
  have hx:=HH.out
  have hlt:x8.toNat < l0.length:=by have:=HX.out;omega
  rw [List.drop_eq_getElem_cons hlt,idxO] at hx
  obtain ⟨b,hb,hx⟩:=Option.bind_eq_some_iff.1 hx
  have hrd:rdOf ByteArray.empty l0 x8=l0[x8.toNat]:=by simp [rdOf,List.getD_eq_getElem?_getD,List.getElem?_eq_getElem hlt]
  have hcall:=HQ.out wr l0[x8.toNat] b BW.out hb
  rw [← hrd] at hcall
  obtain ⟨ad,he,hcell⟩:=Kd.at_string HR.out x8 HX.out.1 c4
  replace hcell:=(BW.out.cell (World.block_lt_of_cell? w _ hcell)).trans hcell
  obtain ⟨y,hy⟩ : ∃ y,rdOf ByteArray.empty l0 x8=y:=⟨_,rfl⟩
  rw [hy] at hcall hcell
  have HCALL:=Aside0.mk hcall
  have HN:=Aside0.mk hx
  have p8:(0 ≤ x8)=True:=eq_true HX.out.1
  have q8:(x8 < (l0.length:Int))=True:=eq_true c4
  clear hx hb hrd HH hy hcall c4
  subst he
  cases b with
  | true =>
   go_wp2_with (go_at_fn g;refine HCALL.out.mono ?_;rintro e w' ⟨rfl,hb'⟩)
   go_ret
   have hx:=HN.out
   simp only [if_true,Option.some.injEq] at hx
   subst hx
   exact ⟨zb53,BW.out.trans (sl_base (Below.size BW.out) hb')⟩
  | false =>
   go_wp2_with (go_at_fn g;refine HCALL.out.mono ?_;rintro e w' ⟨rfl,hb'⟩)
   go_roundg (gk - 1)
   case measure=>have:=HX.out;have:=of_eq_true q8;omega
   case rel =>
    have hx:=HN.out
    simp only [Bool.false_eq_true,if_false] at hx
    have hx8:=HX.out
    have hq8:=of_eq_true q8
    have hw:wrap64 (x8 + 1)=x8 + 1:=by have:=HM.out;unfold wrap64;omega
    refine ⟨wrap64 (x8 + 1),rfl,⟨by rw [hw];omega⟩,⟨BW.out.trans (sl_base (Below.size BW.out) hb')⟩,⟨?_⟩⟩
    rw [hw,show (x8 + 1).toNat=x8.toNat + 1 by omega]
    exact hx
set_option maxHeartbeats 4000000 in
set_option maxRecDepth 100000 in
theorem field_Has_1.callsOf (B:Nat) (part:ByteArray) (w:World) (hc:w.cell? ⟨B,0,none⟩=some (.string part)):TestOf 88 #[.pointer (some ⟨B,0,none⟩)] Value.string (fun p=>sign_Same.f p part) w:=fun W x b hb h=>by
 have hB:B < w.heap.size:=World.block_lt_of_cell? w _ hc
 have hcell:W.cell? ⟨B,0,none⟩=some (.string part):=(hb.cell (p:=⟨B,0,none⟩) hB).trans hc
 have HS:=Aside0.mk h
 clear hc h hb
 show Calls Tryz.prog 88 #[.string x,.pointer (some ⟨B,0,none⟩)] W _
 go_enter Tryz.func88,Tryz.ntmps88
 go_wp2_with (go_at_call 89;refine (sign_Same.calls x part b W HS.out).mono ?_;rintro e w' ⟨rfl,hb'⟩)
 go_ret
 exact ⟨rfl,hb'⟩
set_option maxHeartbeats 4000000 in
set_option maxRecDepth 100000 in
theorem slices_ContainsFunc_string_string.callsOf (q:ByteArray → Option Bool) (g:Nat) (lb:Array Value) (eg : ∀ args w,(callFunc g args).run Tryz.prog w = .ok (.enter g args) w) (A0:Option Addr) (c0:Nat) (l0:List ByteArray) (r:Bool) (w:World) (hr0:Kd.C Kd.string w A0 l0.length l0) (hc0:l0.length ≤ c0)
 (hq:TestOf g lb Value.string q w) (h:anyO q l0=some r) :
 Calls Tryz.prog 86 #[.slice A0 l0.length c0,.func (.func g) #[] lb] w fun e w' => e = .returned (.bool r)∧Below w.heap.size w w' := by
 obtain ⟨j,hj,hb⟩:=idxO_any q l0 0 r zb14 h
 have HC:=Aside0.mk (slices_IndexFunc_string_string.callsOf q g lb eg A0 c0 l0 j w hr0 hc0 hq hj)
 have HBB:=Aside0.mk hb
 clear hb hj h hq hr0 hc0 eg
 go_enter Tryz.func86,Tryz.ntmps86
 go_wp2_with (go_at_call 135;refine HC.out.mono ?_;rintro e w' ⟨rfl,hb'⟩)
 go_ret
 have e:=HBB.out
 subst e
 exact ⟨zb53,hb'⟩
def field_Has.f (k:Nat) (l0:List (S36)) (a1 a2:ByteArray):Option Bool:=(field_List.f k l0 a1).bind fun l=>anyO (fun p=>sign_Same.f p a2) l
set_option maxHeartbeats 4000000 in
set_option maxRecDepth 100000 in
theorem field_Has.calls (k:Nat) (A0:Option Addr) (c0:Nat) (l0:List (S36)) (a1:ByteArray) (a2:ByteArray) (r:Bool) (w:World) (hr0:Kd.C k36 w A0 l0.length l0) (hc0:l0.length ≤ c0) (h:field_Has.f k l0 a1 a2=some r) :
 Calls Tryz.prog 48 #[.slice A0 l0.length c0,.string a1,.string a2] w fun e w' => e = .returned (.bool r)∧Below w.heap.size w w' := by
 unfold field_Has.f at h
 obtain ⟨l,hl,h⟩:=Option.bind_eq_some_iff.1 h
 have HR:=Aside0.mk hr0
 have HC:=Aside0.mk hc0
 have HL:=Aside0.mk hl
 have HA:=Aside0.mk h
 have eg : ∀ args w,(callFunc 88 args).run Tryz.prog w = .ok (.enter 88 args) w:=enters_of Tryz.func88 zb5 rfl
 have EG:=Aside0.mk eg
 clear hr0 hc0 hl h eg
 have hcell:(w.alloc (.cells #[.string a2] 9)).cell? ⟨w.heap.size,0,none⟩=some (.string a2):=(blk_cell (blk_new w _) 0).trans rfl
 go_enter Tryz.func48,Tryz.ntmps48
 go_wp2_with (first
  | (go_at_call 87;refine (field_List.calls k A0 c0 l0 a1 l _ (Kd.C_alloc HR.out _) HC.out HL.out).mono ?_;rintro e w1 ⟨v,rfl,hR,hb⟩;obtain ⟨A1,c1,rfl,hc1,hC1⟩:=Kd.R_reads hR;have HC1:=Aside0.mk hC1;have HB1:=Aside0.mk hb;have hcell1:=pw_cell_below hb hcell;clear hR hC1 hb)
  | (go_at_call 86;refine (slices_ContainsFunc_string_string.callsOf (fun p=>sign_Same.f p a2) 88 #[.pointer (some ⟨w.heap.size,0,none⟩)] EG.out A1 c1 l r _ HC1.out hc1 (field_Has_1.callsOf w.heap.size a2 _ hcell1) HA.out).mono ?_;rintro e w2 ⟨rfl,hb2⟩))
 go_ret
 exact ⟨rfl,((Below.refl _ w).alloc (Nat.le_refl _) _).trans (sl_base zb36 (HB1.out.trans (sl_base HB1.out.size hb2)))⟩
def http_Waits.f (k:Nat) (l0:List Int):Option (Bool):=(http_open.f k l0).bind fun bt277=>(if bt277.2.2.2.2.2.1=0 then (some false) else (if bt277.2.2.2.2.2.2.2.2=0 then (if bt277.2.2.1=0 then (some false) else ((field_Has.f k bt277.2.2.2.1 (⟨#[69,120,112,101,99,116]⟩:ByteArray) (⟨#[49,48,48,45,99,111,110,116,105,110,117,101]⟩:ByteArray)).bind fun t291=>(if t291=true then (if 0 ≤ bt277.2.2.2.2.2.1 then (if bt277.2.2.2.2.2.1 ≤ (l0.length:Int) then ((http_body.f k (l0.drop (bt277.2.2.2.2.2.1:Int).toNat) bt277.2.2.2.2.2.2.1 bt277.2.2.2.2.2.2.2.1).bind fun bt293=>(if bt293.2.1 < 0 then (some (bt293.2.2 == 0)) else (some false))) else (none)) else (none)) else (some false)))) else (some false)))
set_option maxHeartbeats 8000000 in
set_option maxRecDepth 100000 in
theorem http_Waits.calls (k:Nat) (A0:Option Addr) (c0:Nat) (l0:List Int) (r:Bool) (w:World) (hr0:Kd.C (Kd.int .u8) w A0 l0.length l0) (hc0:l0.length ≤ c0) (h:http_Waits.f k l0=some r) :
 Calls Tryz.prog 17 #[.slice A0 l0.length c0] w fun e w' => e = .returned (.bool r)∧Below w.heap.size w w' := by
 have hu26:=Tryz.underlying26
 have HR0:=Aside0.mk hr0
 have HC0:=Aside0.mk hc0
 clear hr0 hc0
 have HB:=Aside0.mk (Below.refl w.heap.size w)
 unfold http_Waits.f at h
 have H:=h
 clear h
 replace H:=Option.bind_eq_some_iff.mp H
 obtain ⟨⟨t52,t56,t54,t55,t57,t53,t59,t60,t61⟩,A20,H⟩:=H
 try dsimp only at H
 have A2:=Aside0.mk A20
 clear A20
 by_cases c3:t53=0
 ·rw [if_pos c3] at H
  have c3b0:=beq_iff_eq.mpr c3
  have c3b1:=bne_eq_false_iff_eq.mpr c3
  clear c3
  obtain rfl:=Option.some.inj H
  go_enter Tryz.func17,Tryz.ntmps17
  go_wp2_with (first|((with_reducible refine gate_callee (f:=44) rfl ?_);refine goesL_ (some 12) rfl rfl Tryz.func44 zb5 rfl #[.slice A0 l0.length c0] rfl zb1 ?_;(with_reducible refine (http_open.calls k _ _ l0 t52 t56 t54 t55 t57 t53 t59 t60 t61 _ ?side1 ?side2 A2.out).mono ?_);(case side1=>exact zb12);(case side2=>exact HC0.out);rintro e w4 ⟨v66,v67,rfl,ho0,ho1,hb⟩;(try clear A2);refine ⟨_,rfl,?_⟩;have HO50:=Aside0.mk (Kd.R_lower ho0 (below_size zb0));have HO51:=Aside0.mk (Kd.R_lower ho1 (below_size zb0));replace HB:=Aside0.mk (below_step zb0 hb);try clear hb ho0 ho1)|((with_reducible refine gate_dst (N:=3) rfl ?_);refine box_event rfl (N:=3) rfl (cs:=#[.string (⟨#[]⟩:ByteArray),.string (⟨#[]⟩:ByteArray),.int .i64 0,.slice none 0 0,.slice none 0 0]) (t:=26) zS ?_;intro gb49 hg w5 hbox hb;replace HO50:=Aside0.mk (Kd.R_below zb35 hb);replace HO51:=Aside0.mk (Kd.R_below zb19 hb);have BK49:=Aside0.mk (hbox);have GW49:=zG hg zb0;have GE49:=GW49;replace HB:=Aside0.mk (below_step zb0 hb);clear hb hbox hg;obtain ⟨hcz6_0,hcz6_1,hcz6_2,hcz6_3,hcz6_4,hfz6_0,hfz6_1,hfz6_2,hfz6_3,hfz6_4⟩:=zq5 BK49.out;obtain ⟨Ao7,co7,eo7⟩:=Kd.R_slice HO50.out;subst eo7;obtain ⟨Ao8,co8,eo8⟩:=Kd.R_slice HO51.out;subst eo8))
  go_ret
  exact ⟨zb2,zb13⟩
 rw [if_neg c3] at H
 have c3b0:=beq_eq_false_iff_ne.mpr c3
 have c3b1:=bne_iff_ne.mpr c3
 by_cases c9:t61=0;rotate_left
 ·rw [if_neg c9] at H
  have c9b0:=beq_eq_false_iff_ne.mpr c9
  have c9b1:=bne_iff_ne.mpr c9
  obtain rfl:=Option.some.inj H
  go_enter Tryz.func17,Tryz.ntmps17
  go_wp2_with (first|((with_reducible refine gate_callee (f:=44) rfl ?_);refine goesL_ (some 12) rfl rfl Tryz.func44 zb5 rfl #[.slice A0 l0.length c0] rfl zb1 ?_;(with_reducible refine (http_open.calls k _ _ l0 t52 t56 t54 t55 t57 t53 t59 t60 t61 _ ?side1 ?side2 A2.out).mono ?_);(case side1=>exact zb12);(case side2=>exact HC0.out);rintro e w44 ⟨v66,v67,rfl,ho0,ho1,hb⟩;(try clear A2);refine ⟨_,rfl,?_⟩;have HO50:=Aside0.mk (Kd.R_lower ho0 (below_size zb0));have HO51:=Aside0.mk (Kd.R_lower ho1 (below_size zb0));replace HB:=Aside0.mk (below_step zb0 hb);try clear hb ho0 ho1)|((with_reducible refine gate_dst (N:=3) rfl ?_);refine box_event rfl (N:=3) rfl (cs:=#[.string (⟨#[]⟩:ByteArray),.string (⟨#[]⟩:ByteArray),.int .i64 0,.slice none 0 0,.slice none 0 0]) (t:=26) zS ?_;intro gb49 hg w45 hbox hb;replace HO50:=Aside0.mk (Kd.R_below zb35 hb);replace HO51:=Aside0.mk (Kd.R_below zb19 hb);have BK49:=Aside0.mk (hbox);have GW49:=zG hg zb0;have GE49:=GW49;replace HB:=Aside0.mk (below_step zb0 hb);clear hb hbox hg;obtain ⟨hcz46_0,hcz46_1,hcz46_2,hcz46_3,hcz46_4,hfz46_0,hfz46_1,hfz46_2,hfz46_3,hfz46_4⟩:=zq5 BK49.out;obtain ⟨Ao47,co47,eo47⟩:=Kd.R_slice HO50.out;subst eo47;obtain ⟨Ao48,co48,eo48⟩:=Kd.R_slice HO51.out;subst eo48))
  go_ret
  exact ⟨zb2,zb13⟩
 rw [if_pos c9] at H
 have c9b0:=beq_iff_eq.mpr c9
 have c9b1:=bne_eq_false_iff_eq.mpr c9
 clear c9
 by_cases c10:t54=0
 ·rw [if_pos c10] at H
  have c10b0:=beq_iff_eq.mpr c10
  have c10b1:=bne_eq_false_iff_eq.mpr c10
  clear c10
  obtain rfl:=Option.some.inj H
  go_enter Tryz.func17,Tryz.ntmps17
  go_wp2_with (first|((with_reducible refine gate_callee (f:=44) rfl ?_);refine goesL_ (some 12) rfl rfl Tryz.func44 zb5 rfl #[.slice A0 l0.length c0] rfl zb1 ?_;(with_reducible refine (http_open.calls k _ _ l0 t52 t56 t54 t55 t57 t53 t59 t60 t61 _ ?side1 ?side2 A2.out).mono ?_);(case side1=>exact zb12);(case side2=>exact HC0.out);rintro e w11 ⟨v66,v67,rfl,ho0,ho1,hb⟩;(try clear A2);refine ⟨_,rfl,?_⟩;have HO50:=Aside0.mk (Kd.R_lower ho0 (below_size zb0));have HO51:=Aside0.mk (Kd.R_lower ho1 (below_size zb0));replace HB:=Aside0.mk (below_step zb0 hb);try clear hb ho0 ho1)|((with_reducible refine gate_dst (N:=3) rfl ?_);refine box_event rfl (N:=3) rfl (cs:=#[.string (⟨#[]⟩:ByteArray),.string (⟨#[]⟩:ByteArray),.int .i64 0,.slice none 0 0,.slice none 0 0]) (t:=26) zS ?_;intro gb49 hg w12 hbox hb;replace HO50:=Aside0.mk (Kd.R_below zb35 hb);replace HO51:=Aside0.mk (Kd.R_below zb19 hb);have BK49:=Aside0.mk (hbox);have GW49:=zG hg zb0;have GE49:=GW49;replace HB:=Aside0.mk (below_step zb0 hb);clear hb hbox hg;obtain ⟨hcz13_0,hcz13_1,hcz13_2,hcz13_3,hcz13_4,hfz13_0,hfz13_1,hfz13_2,hfz13_3,hfz13_4⟩:=zq5 BK49.out;obtain ⟨Ao14,co14,eo14⟩:=Kd.R_slice HO50.out;subst eo14;obtain ⟨Ao15,co15,eo15⟩:=Kd.R_slice HO51.out;subst eo15))
  go_ret
  exact ⟨zb2,zb13⟩
 rw [if_neg c10] at H
 have c10b0:=beq_eq_false_iff_ne.mpr c10
 have c10b1:=bne_iff_ne.mpr c10
 replace H:=Option.bind_eq_some_iff.mp H
 obtain ⟨t63,A71,H⟩:=H
 try dsimp only at H
 have A16:=Aside0.mk A71
 clear A71
 by_cases c17:t63=true
 ·subst c17
  rw [if_pos rfl] at H
  by_cases c18:0 ≤ t53;rotate_left
  ·rw [if_neg c18] at H
   exact absurd H zb36
  rw [if_pos c18] at H
  have c18b0:=eq_true c18
  have c18b1:=decide_eq_true c18
  clear c18
  by_cases c19:t53 ≤ (l0.length:Int)
  ·rw [if_pos c19] at H
   have c19b0:=eq_true c19
   have c19b1:=decide_eq_true c19
   clear c19
   replace H:=Option.bind_eq_some_iff.mp H
   obtain ⟨⟨t58,t65,t70⟩,A72,H⟩:=H
   try dsimp only at H
   have A20:=Aside0.mk A72
   clear A72
   by_cases c21:t65 < 0
   ·rw [if_pos c21] at H
    have c21b0:=decide_eq_true c21
    clear c21
    obtain rfl:=Option.some.inj H
    go_enter Tryz.func17,Tryz.ntmps17
    go_wp2_with (first|((with_reducible refine gate_callee (f:=44) rfl ?_);refine goesL_ (some 12) rfl rfl Tryz.func44 zb5 rfl #[.slice A0 l0.length c0] rfl zb1 ?_;(with_reducible refine (http_open.calls k _ _ l0 t52 t56 t54 t55 t57 t53 t59 t60 t61 _ ?side1 ?side2 A2.out).mono ?_);(case side1=>exact zb12);(case side2=>exact HC0.out);rintro e w22 ⟨v66,v67,rfl,ho0,ho1,hb⟩;(try clear A2);refine ⟨_,rfl,?_⟩;have HO50:=Aside0.mk (Kd.R_lower ho0 (below_size zb0));have HO51:=Aside0.mk (Kd.R_lower ho1 (below_size zb0));replace HB:=Aside0.mk (below_step zb0 hb);try clear hb ho0 ho1)|((with_reducible refine gate_dst (N:=3) rfl ?_);refine box_event rfl (N:=3) rfl (cs:=#[.string (⟨#[]⟩:ByteArray),.string (⟨#[]⟩:ByteArray),.int .i64 0,.slice none 0 0,.slice none 0 0]) (t:=26) zS ?_;intro gb49 hg w23 hbox hb;replace HO50:=Aside0.mk (Kd.R_below zb35 hb);replace HO51:=Aside0.mk (Kd.R_below zb19 hb);have BK49:=Aside0.mk (hbox);have GW49:=zG hg zb0;have GE49:=GW49;replace HB:=Aside0.mk (below_step zb0 hb);clear hb hbox hg;obtain ⟨hcz24_0,hcz24_1,hcz24_2,hcz24_3,hcz24_4,hfz24_0,hfz24_1,hfz24_2,hfz24_3,hfz24_4⟩:=zq5 BK49.out;obtain ⟨Ao25,co25,eo25⟩:=Kd.R_slice HO50.out;subst eo25;obtain ⟨Ao26,co26,eo26⟩:=Kd.R_slice HO51.out;subst eo26)|(go_at_call 48;(with_reducible refine (field_Has.calls k _ _ t55 (⟨#[69,120,112,101,99,116]⟩:ByteArray) (⟨#[49,48,48,45,99,111,110,116,105,110,117,101]⟩:ByteArray) true _ ?side1 ?side2 A16.out).mono ?_);(case side1=>refine (Kd.R_reads' (e:=36) (base:=w.heap.size) (ok:=fun k_=>True) (n:=t55.length) (c:=co25) ?_).2.2;exact zb23);(case side2=>exact (Kd.R_reads' HO50.out).2.1);rintro e w27 ⟨rfl,hb⟩;(try clear A16);replace HO50:=Aside0.mk (Kd.R_below zb23 hb);replace HO51:=Aside0.mk (Kd.R_below (by (with_reducible repeat (first|apply Kd.R_alloc|apply Kd.R_drewN|apply Kd.R_drew));exact (Kd.R_mono (Kd.R_far (p:=⟨gb49,4,none⟩) (Kd.R_far (p:=⟨gb49,3,none⟩) (Kd.R_far (p:=⟨gb49,2,none⟩) (Kd.R_far (p:=⟨gb49,1,none⟩) (Kd.R_far (p:=⟨gb49,0,none⟩) (Kd.R_types HO51.out BK49.out (by decide)) (fun _ hk=>hk.2) (.string t52)) (fun _ hk=>hk.2) (.string t56)) (fun _ hk=>hk.2) (.int .i64 t54)) (fun _ hk=>hk.2) (.slice Ao25 t55.length co25)) (fun _ hk=>hk.2) (.slice Ao26 t57.length co26)) (fun _ h_=>h_.1))) hb);replace BK49:=Aside0.mk (blk_below (g:=gb49) (o:=.cells #[.string t52,.string t56,.int .i64 t54,.slice Ao25 t55.length co25,.slice Ao26 t57.length co26] 26 (0,0)) (by (with_reducible repeat (first|refine blk_drewN ?_ _|refine blk_drew ?_|refine blk_alloc ?_ _));refine blk_put (cs:=#[.string t52,.string t56,.int .i64 t54,.slice Ao25 t55.length co25,.slice none 0 0]) ?_ 4 _ rfl;(with_reducible repeat (first|refine blk_drewN ?_ _|refine blk_drew ?_|refine blk_alloc ?_ _));refine blk_put (cs:=#[.string t52,.string t56,.int .i64 t54,.slice none 0 0,.slice none 0 0]) ?_ 3 _ rfl;(with_reducible repeat (first|refine blk_drewN ?_ _|refine blk_drew ?_|refine blk_alloc ?_ _));refine blk_put (cs:=#[.string t52,.string t56,.int .i64 0,.slice none 0 0,.slice none 0 0]) ?_ 2 _ rfl;(with_reducible repeat (first|refine blk_drewN ?_ _|refine blk_drew ?_|refine blk_alloc ?_ _));refine blk_put (cs:=#[.string t52,.string (⟨#[]⟩:ByteArray),.int .i64 0,.slice none 0 0,.slice none 0 0]) ?_ 1 _ rfl;(with_reducible repeat (first|refine blk_drewN ?_ _|refine blk_drew ?_|refine blk_alloc ?_ _));refine blk_put (cs:=#[.string (⟨#[]⟩:ByteArray),.string (⟨#[]⟩:ByteArray),.int .i64 0,.slice none 0 0,.slice none 0 0]) ?_ 0 _ rfl;(with_reducible repeat (first|refine blk_drewN ?_ _|refine blk_drew ?_|refine blk_alloc ?_ _));exact BK49.out) hb);replace HB:=Aside0.mk (below_step zb13 hb);(try clear hb);obtain ⟨i68,hi68,_,hsz28,_⟩:=info_parts info5;obtain ⟨A28,hcut28,hA28,hC28⟩:=print_drop_of (P:=Tryz.prog) (Value.int .u8) 0 22 5 .i64 Tryz.underlying22 hi68 hsz28 A0 c0 l0 t53 (of_decide_eq_true zb4) (of_decide_eq_true zb4) HC0.out;have HR62:=Aside0.mk (Kd.C_of_reads (h1:=fun _=>rfl) (hA28 _ (Kd.reads_of_C HR0.out)));have HC62:=Aside0.mk hC28;clear hA28 hC28 hi68 hsz28)|((with_reducible refine gate_callee (f:=45) rfl ?_);refine goesL_ (some 41) rfl rfl Tryz.func45 zb5 rfl #[.slice A28 (l0.drop (t53:Int).toNat).length (c0 - t53.toNat),.int .i64 t59,.bool t60] rfl zb51 ?_;(with_reducible refine (http_body.calls k _ _ (l0.drop (t53:Int).toNat) t59 t60 t58 t65 t70 _ ?side1 ?side2 A20.out).mono ?_);(case side1=>exact zb66);(case side2=>exact HC62.out);rintro e w29 ⟨v73,rfl,ho0,hb⟩;(try clear A20);refine ⟨_,rfl,?_⟩;replace HO50:=Aside0.mk (Kd.R_below zb35 hb);have HO74:=Aside0.mk (Kd.R_lower (Kd.R_new' ho0 (Kd.R_lt zb19)) (below_size zb13));replace HO51:=Aside0.mk (Kd.R_elder' zb19 (Kd.R_base ho0) hb);replace BK49:=Aside0.mk (blk_below (g:=gb49) (o:=.cells #[.string t52,.string t56,.int .i64 t54,.slice Ao25 t55.length co25,.slice Ao26 t57.length co26] 26 (0,0)) zb74 hb);replace HB:=Aside0.mk (below_step zb13 hb);try clear hb ho0))
    go_ret
    exact ⟨zb2,zb13⟩
   rw [if_neg c21] at H
   have c21b0:=decide_eq_false c21
   clear c21
   obtain rfl:=Option.some.inj H
   go_enter Tryz.func17,Tryz.ntmps17
   go_wp2_with (first|((with_reducible refine gate_callee (f:=44) rfl ?_);refine goesL_ (some 12) rfl rfl Tryz.func44 zb5 rfl #[.slice A0 l0.length c0] rfl zb1 ?_;(with_reducible refine (http_open.calls k _ _ l0 t52 t56 t54 t55 t57 t53 t59 t60 t61 _ ?side1 ?side2 A2.out).mono ?_);(case side1=>exact zb12);(case side2=>exact HC0.out);rintro e w30 ⟨v66,v67,rfl,ho0,ho1,hb⟩;(try clear A2);refine ⟨_,rfl,?_⟩;have HO50:=Aside0.mk (Kd.R_lower ho0 (below_size zb0));have HO51:=Aside0.mk (Kd.R_lower ho1 (below_size zb0));replace HB:=Aside0.mk (below_step zb0 hb);try clear hb ho0 ho1)|((with_reducible refine gate_dst (N:=3) rfl ?_);refine box_event rfl (N:=3) rfl (cs:=#[.string (⟨#[]⟩:ByteArray),.string (⟨#[]⟩:ByteArray),.int .i64 0,.slice none 0 0,.slice none 0 0]) (t:=26) zS ?_;intro gb49 hg w31 hbox hb;replace HO50:=Aside0.mk (Kd.R_below zb35 hb);replace HO51:=Aside0.mk (Kd.R_below zb19 hb);have BK49:=Aside0.mk (hbox);have GW49:=zG hg zb0;have GE49:=GW49;replace HB:=Aside0.mk (below_step zb0 hb);clear hb hbox hg;obtain ⟨hcz32_0,hcz32_1,hcz32_2,hcz32_3,hcz32_4,hfz32_0,hfz32_1,hfz32_2,hfz32_3,hfz32_4⟩:=zq5 BK49.out;obtain ⟨Ao33,co33,eo33⟩:=Kd.R_slice HO50.out;subst eo33;obtain ⟨Ao34,co34,eo34⟩:=Kd.R_slice HO51.out;subst eo34)|(go_at_call 48;(with_reducible refine (field_Has.calls k _ _ t55 (⟨#[69,120,112,101,99,116]⟩:ByteArray) (⟨#[49,48,48,45,99,111,110,116,105,110,117,101]⟩:ByteArray) true _ ?side1 ?side2 A16.out).mono ?_);(case side1=>refine (Kd.R_reads' (e:=36) (base:=w.heap.size) (ok:=fun k_=>True) (n:=t55.length) (c:=co33) ?_).2.2;exact zb24);(case side2=>exact (Kd.R_reads' HO50.out).2.1);rintro e w35 ⟨rfl,hb⟩;(try clear A16);replace HO50:=Aside0.mk (Kd.R_below zb24 hb);replace HO51:=Aside0.mk (Kd.R_below (by (with_reducible repeat (first|apply Kd.R_alloc|apply Kd.R_drewN|apply Kd.R_drew));exact (Kd.R_mono (Kd.R_far (p:=⟨gb49,4,none⟩) (Kd.R_far (p:=⟨gb49,3,none⟩) (Kd.R_far (p:=⟨gb49,2,none⟩) (Kd.R_far (p:=⟨gb49,1,none⟩) (Kd.R_far (p:=⟨gb49,0,none⟩) (Kd.R_types HO51.out BK49.out (by decide)) (fun _ hk=>hk.2) (.string t52)) (fun _ hk=>hk.2) (.string t56)) (fun _ hk=>hk.2) (.int .i64 t54)) (fun _ hk=>hk.2) (.slice Ao33 t55.length co33)) (fun _ hk=>hk.2) (.slice Ao34 t57.length co34)) (fun _ h_=>h_.1))) hb);replace BK49:=Aside0.mk (blk_below (g:=gb49) (o:=.cells #[.string t52,.string t56,.int .i64 t54,.slice Ao33 t55.length co33,.slice Ao34 t57.length co34] 26 (0,0)) (by (with_reducible repeat (first|refine blk_drewN ?_ _|refine blk_drew ?_|refine blk_alloc ?_ _));refine blk_put (cs:=#[.string t52,.string t56,.int .i64 t54,.slice Ao33 t55.length co33,.slice none 0 0]) ?_ 4 _ rfl;(with_reducible repeat (first|refine blk_drewN ?_ _|refine blk_drew ?_|refine blk_alloc ?_ _));refine blk_put (cs:=#[.string t52,.string t56,.int .i64 t54,.slice none 0 0,.slice none 0 0]) ?_ 3 _ rfl;(with_reducible repeat (first|refine blk_drewN ?_ _|refine blk_drew ?_|refine blk_alloc ?_ _));refine blk_put (cs:=#[.string t52,.string t56,.int .i64 0,.slice none 0 0,.slice none 0 0]) ?_ 2 _ rfl;(with_reducible repeat (first|refine blk_drewN ?_ _|refine blk_drew ?_|refine blk_alloc ?_ _));refine blk_put (cs:=#[.string t52,.string (⟨#[]⟩:ByteArray),.int .i64 0,.slice none 0 0,.slice none 0 0]) ?_ 1 _ rfl;(with_reducible repeat (first|refine blk_drewN ?_ _|refine blk_drew ?_|refine blk_alloc ?_ _));refine blk_put (cs:=#[.string (⟨#[]⟩:ByteArray),.string (⟨#[]⟩:ByteArray),.int .i64 0,.slice none 0 0,.slice none 0 0]) ?_ 0 _ rfl;(with_reducible repeat (first|refine blk_drewN ?_ _|refine blk_drew ?_|refine blk_alloc ?_ _));exact BK49.out) hb);replace HB:=Aside0.mk (below_step zb13 hb);(try clear hb);obtain ⟨i69,hi69,_,hsz36,_⟩:=info_parts info5;obtain ⟨A36,hcut36,hA36,hC36⟩:=print_drop_of (P:=Tryz.prog) (Value.int .u8) 0 22 5 .i64 Tryz.underlying22 hi69 hsz36 A0 c0 l0 t53 (of_decide_eq_true zb4) (of_decide_eq_true zb4) HC0.out;have HR62:=Aside0.mk (Kd.C_of_reads (h1:=fun _=>rfl) (hA36 _ (Kd.reads_of_C HR0.out)));have HC62:=Aside0.mk hC36;clear hA36 hC36 hi69 hsz36)|((with_reducible refine gate_callee (f:=45) rfl ?_);refine goesL_ (some 41) rfl rfl Tryz.func45 zb5 rfl #[.slice A36 (l0.drop (t53:Int).toNat).length (c0 - t53.toNat),.int .i64 t59,.bool t60] rfl zb51 ?_;(with_reducible refine (http_body.calls k _ _ (l0.drop (t53:Int).toNat) t59 t60 t58 t65 t70 _ ?side1 ?side2 A20.out).mono ?_);(case side1=>exact zb66);(case side2=>exact HC62.out);rintro e w37 ⟨v73,rfl,ho0,hb⟩;(try clear A20);refine ⟨_,rfl,?_⟩;replace HO50:=Aside0.mk (Kd.R_below zb35 hb);have HO74:=Aside0.mk (Kd.R_lower (Kd.R_new' ho0 (Kd.R_lt zb19)) (below_size zb13));replace HO51:=Aside0.mk (Kd.R_elder' zb19 (Kd.R_base ho0) hb);replace BK49:=Aside0.mk (blk_below (g:=gb49) (o:=.cells #[.string t52,.string t56,.int .i64 t54,.slice Ao33 t55.length co33,.slice Ao34 t57.length co34] 26 (0,0)) zb74 hb);replace HB:=Aside0.mk (below_step zb13 hb);try clear hb ho0))
   go_ret
   exact ⟨zb2,zb13⟩
  ·rw [if_neg c19] at H
   exact absurd H zb36
 ·replace c17:=Bool.eq_false_iff.mpr c17
  subst c17
  rw [if_neg (show ¬ (false=true) by decide)] at H
  obtain rfl:=Option.some.inj H
  go_enter Tryz.func17,Tryz.ntmps17
  go_wp2_with (first|((with_reducible refine gate_callee (f:=44) rfl ?_);refine goesL_ (some 12) rfl rfl Tryz.func44 zb5 rfl #[.slice A0 l0.length c0] rfl zb1 ?_;(with_reducible refine (http_open.calls k _ _ l0 t52 t56 t54 t55 t57 t53 t59 t60 t61 _ ?side1 ?side2 A2.out).mono ?_);(case side1=>exact zb12);(case side2=>exact HC0.out);rintro e w38 ⟨v66,v67,rfl,ho0,ho1,hb⟩;(try clear A2);refine ⟨_,rfl,?_⟩;have HO50:=Aside0.mk (Kd.R_lower ho0 (below_size zb0));have HO51:=Aside0.mk (Kd.R_lower ho1 (below_size zb0));replace HB:=Aside0.mk (below_step zb0 hb);try clear hb ho0 ho1)|((with_reducible refine gate_dst (N:=3) rfl ?_);refine box_event rfl (N:=3) rfl (cs:=#[.string (⟨#[]⟩:ByteArray),.string (⟨#[]⟩:ByteArray),.int .i64 0,.slice none 0 0,.slice none 0 0]) (t:=26) zS ?_;intro gb49 hg w39 hbox hb;replace HO50:=Aside0.mk (Kd.R_below zb35 hb);replace HO51:=Aside0.mk (Kd.R_below zb19 hb);have BK49:=Aside0.mk (hbox);have GW49:=zG hg zb0;have GE49:=GW49;replace HB:=Aside0.mk (below_step zb0 hb);clear hb hbox hg;obtain ⟨hcz40_0,hcz40_1,hcz40_2,hcz40_3,hcz40_4,hfz40_0,hfz40_1,hfz40_2,hfz40_3,hfz40_4⟩:=zq5 BK49.out;obtain ⟨Ao41,co41,eo41⟩:=Kd.R_slice HO50.out;subst eo41;obtain ⟨Ao42,co42,eo42⟩:=Kd.R_slice HO51.out;subst eo42)|(go_at_call 48;(with_reducible refine (field_Has.calls k _ _ t55 (⟨#[69,120,112,101,99,116]⟩:ByteArray) (⟨#[49,48,48,45,99,111,110,116,105,110,117,101]⟩:ByteArray) false _ ?side1 ?side2 A16.out).mono ?_);(case side1=>refine (Kd.R_reads' (e:=36) (base:=w.heap.size) (ok:=fun k_=>True) (n:=t55.length) (c:=co41) ?_).2.2;exact zb25);(case side2=>exact (Kd.R_reads' HO50.out).2.1);rintro e w43 ⟨rfl,hb⟩;(try clear A16);replace HO50:=Aside0.mk (Kd.R_below zb25 hb);replace HO51:=Aside0.mk (Kd.R_below (by (with_reducible repeat (first|apply Kd.R_alloc|apply Kd.R_drewN|apply Kd.R_drew));exact (Kd.R_mono (Kd.R_far (p:=⟨gb49,4,none⟩) (Kd.R_far (p:=⟨gb49,3,none⟩) (Kd.R_far (p:=⟨gb49,2,none⟩) (Kd.R_far (p:=⟨gb49,1,none⟩) (Kd.R_far (p:=⟨gb49,0,none⟩) (Kd.R_types HO51.out BK49.out (by decide)) (fun _ hk=>hk.2) (.string t52)) (fun _ hk=>hk.2) (.string t56)) (fun _ hk=>hk.2) (.int .i64 t54)) (fun _ hk=>hk.2) (.slice Ao41 t55.length co41)) (fun _ hk=>hk.2) (.slice Ao42 t57.length co42)) (fun _ h_=>h_.1))) hb);replace BK49:=Aside0.mk (blk_below (g:=gb49) (o:=.cells #[.string t52,.string t56,.int .i64 t54,.slice Ao41 t55.length co41,.slice Ao42 t57.length co42] 26 (0,0)) (by (with_reducible repeat (first|refine blk_drewN ?_ _|refine blk_drew ?_|refine blk_alloc ?_ _));refine blk_put (cs:=#[.string t52,.string t56,.int .i64 t54,.slice Ao41 t55.length co41,.slice none 0 0]) ?_ 4 _ rfl;(with_reducible repeat (first|refine blk_drewN ?_ _|refine blk_drew ?_|refine blk_alloc ?_ _));refine blk_put (cs:=#[.string t52,.string t56,.int .i64 t54,.slice none 0 0,.slice none 0 0]) ?_ 3 _ rfl;(with_reducible repeat (first|refine blk_drewN ?_ _|refine blk_drew ?_|refine blk_alloc ?_ _));refine blk_put (cs:=#[.string t52,.string t56,.int .i64 0,.slice none 0 0,.slice none 0 0]) ?_ 2 _ rfl;(with_reducible repeat (first|refine blk_drewN ?_ _|refine blk_drew ?_|refine blk_alloc ?_ _));refine blk_put (cs:=#[.string t52,.string (⟨#[]⟩:ByteArray),.int .i64 0,.slice none 0 0,.slice none 0 0]) ?_ 1 _ rfl;(with_reducible repeat (first|refine blk_drewN ?_ _|refine blk_drew ?_|refine blk_alloc ?_ _));refine blk_put (cs:=#[.string (⟨#[]⟩:ByteArray),.string (⟨#[]⟩:ByteArray),.int .i64 0,.slice none 0 0,.slice none 0 0]) ?_ 0 _ rfl;(with_reducible repeat (first|refine blk_drewN ?_ _|refine blk_drew ?_|refine blk_alloc ?_ _));exact BK49.out) hb);replace HB:=Aside0.mk (below_step zb13 hb);(try clear hb)))
  go_ret
  exact ⟨zb2,zb13⟩
theorem tz64_16 (w:World) (ht:Tabs w):Calls Tryz.prog 207 #[.int .u64 16] w fun e w' => e = .returned (.int .i64 4)∧Drawn0 w w' := by
 have hc:w.cell? ⟨5,15,none⟩=some (.int .u8 4):=ht.2.cell globalDeBruijn64 15 (by decide)
 have hb:Go.bits .and .u64 16 18446744073709551600=16:=by decide +kernel
 have hw1:IntKind.u64.wrap (-16)=18446744073709551600:=by decide +kernel
 have hw2:IntKind.u64.wrap (16 * 285870213051353865)=4573923408821661840:=by decide +kernel
 have hw3:IntKind.u64.wrap 4573923408821661840=4573923408821661840:=by decide +kernel
 have hw4:(4573923408821661840:Int) / 288230376151711744=15:=by decide +kernel
 clear ht
 go_enter Tryz.func207,Tryz.ntmps207
 go_wp2
 go_ret
 exact ⟨rfl,by repeat (first|exact Drawn0.refl _|apply Drawn0.step)⟩
theorem tz_16 (w:World) (ht:Tabs w):Calls Tryz.prog 197 #[.int .u64 16] w fun e w' => e = .returned (.int .i64 4)∧Drawn0 w w' := by
 go_enter Tryz.func197,Tryz.ntmps197
 go_wp2_with (go_at_call 207;(with_reducible refine (tz64_16 _ ht).mono ?_);rintro e w' ⟨rfl,⟨nd,rfl⟩⟩)
 go_ret
 exact ⟨rfl,by repeat (first|exact Drawn0.refl _|apply Drawn0.step)⟩
def strconv_isPowerOfTwo.f (a0:Int):Option (Bool):=some ((Go.bits .and .i64 a0 (wrap64 (a0 - 1))) == 0)
set_option maxHeartbeats 8000000 in
set_option maxRecDepth 100000 in
theorem strconv_isPowerOfTwo.calls (a0:Int) (r:Bool) (w:World) (h:strconv_isPowerOfTwo.f a0=some r) :
 Calls Tryz.prog 196 #[.int .i64 a0] w fun e w' => e = .returned (.bool r)∧Drawn0 w w' := by
 unfold strconv_isPowerOfTwo.f at h
 have H:=h
 clear h
 obtain rfl:=Option.some.inj H
 go_enter Tryz.func196,Tryz.ntmps196
 go_wp2
 go_ret
 exact ⟨zb6,zb9⟩
/-- A digit of the base 16. -/
def hexd (d:Nat):Int:=if d < 10 then 48 + d else 87 + d
/-- The digits of the base 16. -/
def hexD (u:Nat):List Int:=if h:u < 16 then [hexd u] else hexD (u / 16) ++ [hexd (u % 16)]
termination_by u
decreasing_by omega
theorem hexD_small (u:Nat) (h:u < 16):hexD u=[hexd u]:=by rw [hexD,dif_pos h]
theorem hexD_big (u:Nat) (h:16 ≤ u):hexD u=hexD (u / 16) ++ [hexd (u % 16)]:=by rw [hexD,dif_neg (by omega)]
/-- The last cells of the array of 65. -/
def Row65 (w:World) (g:Nat) (suf:List Int):Prop := ∃ cs,w.heap[g]? = some (.cells cs 193 (0,0))∧cs.size=65∧cs.toList.drop (65 - suf.length)=nums .u8 suf
theorem Row65.cell {w:World} {g:Nat} {suf:List Int} (h:Row65 w g suf) (j:Nat) (hj:j < 65) : ∃ v,w.cell? ⟨g,j,none⟩=some v:=by
 obtain ⟨cs,hb,hs,_⟩:=h
 rw [cell_of_row _ _ _ _ _ _ hb]
 exact ⟨_,Array.getElem?_eq_getElem (by omega)⟩
theorem Row65.free {w:World} {g:Nat} {suf:List Int} (h:Row65 w g suf) (j:Nat):w.frozen? ⟨g,j,none⟩=false:=by
 obtain ⟨cs,hb,_,_⟩:=h
 simp [World.frozen?,hb]
theorem Row65.set {w:World} {g:Nat} {suf:List Int} (h:Row65 w g suf) (hl:suf.length < 65) (v:Int):Row65 (w.setCell ⟨g,64 - suf.length,none⟩ (.int .u8 v)) g (v :: suf):=by
 obtain ⟨cs,hb,hs,hd⟩:=h
 refine ⟨cs.setIfInBounds (64 - suf.length) (.int .u8 v),by simp [World.setCell,Array.getElem?_modify,hb],by simpa using hs,?_⟩
 have hlen:cs.toList.length=65:=by rw [Array.length_toList];exact hs
 rw [Array.toList_setIfInBounds,List.length_cons,show 65 - (suf.length + 1)=64 - suf.length by omega,List.drop_set,if_neg (by omega),Nat.sub_self,List.drop_eq_getElem_cons (by omega),List.set_cons_zero,show 64 - suf.length + 1=65 - suf.length by omega,hd]
 rfl
theorem Row65.reads {w:World} {g:Nat} {suf:List Int} (h:Row65 w g suf) (hl:suf.length ≤ 65):ReadsInt w .u8 (some ⟨g,65 - suf.length,none⟩) suf.length suf:=by
 obtain ⟨cs,hb,hs,hd⟩:=h
 refine ⟨rfl,by omega,fun _=>⟨_,rfl,fun j hj=>?_⟩⟩
 have ha:(⟨g,65 - suf.length,none⟩:Addr).add j=⟨g,65 - suf.length + j,none⟩:=by
  unfold Addr.add;split <;> simp_all
 rw [ha,cell_of_row _ _ _ _ _ _ hb]
 have h1:(cs.toList.drop (65 - suf.length))[j]? = (nums .u8 suf)[j]?:=by rw [hd]
 rw [List.getElem?_drop] at h1
 rw [← Array.getElem?_toList,h1]
 simp [nums,List.getD_eq_getElem?_getD,List.getElem?_eq_getElem hj]
theorem pow_step (u l:Nat) (hl:l ≤ 15) (h:u < 16 ^ (16 - l)) (hu:16 ≤ u):l ≤ 14∧u / 16 < 16 ^ (16 - (l + 1)):=by
 have h14:l ≤ 14:=by
  rcases Nat.lt_or_ge l 15 with h1|h1
  ·omega
  obtain rfl:l=15:=by omega
  simp at h
  omega
 refine ⟨h14,?_⟩
 have e:16 ^ (16 - l)=16 ^ (16 - (l + 1)) * 16:=by rw [← Nat.pow_succ];congr 1;omega
 rw [e] at h
 exact (Nat.div_lt_iff_lt_mul (by decide)).2 h
theorem hexd_at (d:Int) (h0:0 ≤ d) (h1:d < 16):bt (⟨#[48,49,50,51,52,53,54,55,56,57,97,98,99,100,101,102,103,104,105,106,107,108,109,110,111,112,113,114,115,116,117,118,119,120,121,122]⟩:ByteArray) d=hexd d.toNat:=by
 obtain ⟨n,rfl⟩:=Int.eq_ofNat_of_zero_le h0
 have h : ∀ m:Fin 16,bt (⟨#[48,49,50,51,52,53,54,55,56,57,97,98,99,100,101,102,103,104,105,106,107,108,109,110,111,112,113,114,115,116,117,118,119,120,121,122]⟩:ByteArray) (m.val:Int)=hexd m.val:=by decide +kernel
 exact h ⟨n,by omega⟩
set_option maxHeartbeats 8000000 in
set_option maxRecDepth 100000 in
theorem formatBits_16 (n:Nat) (hn:n < 18446744073709551616) (w:World) (ht:Tabs w) :
 Calls Tryz.prog 180 #[.slice none 0 0,.int .u64 n,.int .i64 16,.bool false,.bool false] w fun e w' => e = .returned (.tuple #[.slice none 0 0,.string (strOfNums (hexD n))])∧Below w.heap.size w w' := by
 have HT:=Aside0.mk ht
 clear ht
 have HB:=Aside0.mk (Below.refl w.heap.size w)
 have HN:=Aside0.mk hn
 clear hn
 go_enter Tryz.func180,Tryz.ntmps180
 go_wp2_with (first
  | (go_at_call 196;(with_reducible refine (strconv_isPowerOfTwo.calls 16 true _ (by decide +kernel)).mono ?_);rintro e w1 ⟨rfl,⟨nd,rfl⟩⟩)
  | (go_at_call 197;(with_reducible refine (tz_16 _ ?ht).mono ?_);(case ht=>exact HT.out.below (by repeat (first|exact HB.out|apply below_alloc|apply pw_below_drewN)));rintro e w2 ⟨rfl,⟨nd2,rfl⟩⟩))
 go_loopw [1,13] (fun v1 v13 wr => ∃ (u i:Int) (suf:List Int),v1 = .int .u64 u∧v13 = .int .i64 i∧Aside0 (0 ≤ u∧i=65 - suf.length∧suf.length ≤ 15∧u.toNat < 16 ^ (16 - suf.length))∧Aside0 (hexD n=hexD u.toNat ++ suf)∧Aside0 (Row65 wr w.heap.size suf)∧Aside0 (Below w.heap.size w wr)) (fun v1 _ _=>(intOf v1).toNat)
 case atStart =>
  refine ⟨n,65,[],rfl,rfl,⟨by omega,by simp,by simp,by have:=HN.out;simpa using this⟩,⟨by simp⟩,⟨⟨Tryz.zeroCells193,?_,by kernel_rfl,by kernel_rfl⟩⟩,⟨by repeat (first|exact HB.out|apply below_alloc|apply pw_below_drewN)⟩⟩
  show (w.heap.push _)[w.heap.size]? = _
  simp
 case round =>
  obtain ⟨u,i,suf,rfl,rfl,HU,HE,HR,HB2⟩:=hrel
  clear HB
  have hu0:0 ≤ u:=HU.out.1
  have hi0:1 ≤ i:=by have:=HU.out;omega
  have hi1:i ≤ 65:=by have:=HU.out;omega
  have hu1:u ≤ 18446744073709551615:=by
   have h1:=HU.out.2.2.2
   have h2:16 ^ (16 - suf.length) ≤ 16 ^ 16:=Nat.pow_le_pow_right (by decide) (by omega)
   have h3:(16:Nat) ^ 16=18446744073709551616:=by decide
   omega
  have hj:i - 1=((64 - suf.length:Nat):Int):=by have:=HU.out;omega
  obtain ⟨cv,hc⟩:=HR.out.cell (64 - suf.length) (by omega)
  have hf:=HR.out.free (64 - suf.length)
  have hjt:i.toNat - 1=64 - suf.length:=by omega
  rw [← hjt] at hc hf
  by_cases hb:16 ≤ u
  ·have hb1:decide (16 ≤ u)=true:=decide_eq_true hb
   have hb2:decide (u ≥ 16)=true:=decide_eq_true hb
   obtain ⟨D,hD⟩ : ∃ D,Go.bits .and .u64 u 15=D:=⟨_,rfl⟩
   have hDm:D=u % 16:=by rw [← hD];exact bits_mask .u64 64 (by decide) (by intro x h0 h1;simp [IntKind.wrap,IntKind.bits,IntKind.signed];omega) 4 (by decide) u hu0 (by omega)
   have hD0:0 ≤ D:=by omega
   have hD1:D < 16:=by omega
   have hx:=bt_at (⟨#[48,49,50,51,52,53,54,55,56,57,97,98,99,100,101,102,103,104,105,106,107,108,109,110,111,112,113,114,115,116,117,118,119,120,121,122]⟩:ByteArray) D
   have HD:=Aside0.mk hDm
   have HX:=hexd_at D hD0 hD1
   have HX' := Aside0.mk HX
   have HJ:=Aside0.mk (And.intro hj hjt)
   have HB' := Aside0.mk hb
   clear HX hDm hj hjt hb
   go_wp2
   refine ⟨⟨u / 16,i - 1,hexd D.toNat :: suf,rfl,rfl,?_,⟨?_⟩,⟨?_⟩,⟨HB2.out.setCell (Nat.le_refl _) _⟩⟩,?_⟩
   ·obtain ⟨h14,hp⟩:=pow_step u.toNat suf.length HU.out.2.2.1 HU.out.2.2.2 (by have:=HB'.out;omega)
    have hq:(u / 16).toNat=u.toNat / 16:=by omega
    exact ⟨by omega,by have:=HU.out;rw [List.length_cons];omega,by rw [List.length_cons];omega,by rw [hq,List.length_cons];exact hp⟩
   ·rw [HE.out,hexD_big u.toNat (by have:=HB'.out;omega),show (u / 16).toNat=u.toNat / 16 by omega,show D.toNat=u.toNat % 16 by have:=HD.out;omega,List.append_assoc]
    rfl
   ·rw [HJ.out.2,HX'.out]
    exact HR.out.set (by have:=HU.out;omega) _
   have:=HB'.out
   simp only [intOf]
   omega
  have hb1:decide (16 ≤ u)=false:=decide_eq_false hb
  have hb2:decide (u ≥ 16)=false:=decide_eq_false hb
  have hu2:u < 16:=by omega
  have hx:=bt_at (⟨#[48,49,50,51,52,53,54,55,56,57,97,98,99,100,101,102,103,104,105,106,107,108,109,110,111,112,113,114,115,116,117,118,119,120,121,122]⟩:ByteArray) u
  have HX' := Aside0.mk (hexd_at u hu0 hu2)
  have HJ:=Aside0.mk (And.intro hj hjt)
  have HB' := Aside0.mk hb
  have hal:Tryz.prog.arrayLen 193=65:=by simp [Program.arrayLen,Tryz.underlying193]
  have hsl : ∀ W,(Instr.sliceAt 193 (.pointer (some ⟨w.heap.size,0,none⟩)) (some (.int .i64 (i - 1))) none none).run Tryz.prog W = .ok (.slice (some ⟨w.heap.size,64 - suf.length,none⟩) (suf.length + 1) (suf.length + 1)) W:=by
   intro W
   have hl65:64 - suf.length + (suf.length + 1)=65:=by have:=HU.out;omega
   rw [hj,run_sliceAt_array_l W 193 ⟨w.heap.size,0,none⟩ (by simp [Program.arrayLen,Program.elem,Tryz.underlying193]) .i64 _ (by omega) (by rw [hal];omega),hal,Int.toNat_natCast]
   have he:Tryz.prog.elem 193=5:=by simp [Program.elem,Tryz.underlying193]
   rw [he,(show (sizeOf 5).run Tryz.prog W = .ok 1 W by kernel_rfl)]
   show Result.ok (slicedAt ⟨w.heap.size,0,none⟩ (64 - suf.length) 65 65 1) W=_
   unfold slicedAt
   rw [if_neg (by omega),Nat.mul_one,add_plain,show 65 - (64 - suf.length)=suf.length + 1 by omega]
  have hR2:=(HR.out.set (by have:=HU.out;omega) (bt (⟨#[48,49,50,51,52,53,54,55,56,57,97,98,99,100,101,102,103,104,105,106,107,108,109,110,111,112,113,114,115,116,117,118,119,120,121,122]⟩:ByteArray) u)).reads (by rw [List.length_cons];have:=HU.out;omega)
  rw [List.length_cons,show 65 - (suf.length + 1)=64 - suf.length by omega,← hjt] at hR2
  have hcv:=string_of_reads (P:=Tryz.prog) (src:=22) (dst:=9) (c:=suf.length + 1) Tryz.underlying22 Tryz.underlying5 Tryz.underlying9 hR2
  rw [hjt] at hcv
  rw [← hjt] at hsl hcv
  have HE2:=Aside0.mk (show strOfNums (bt (⟨#[48,49,50,51,52,53,54,55,56,57,97,98,99,100,101,102,103,104,105,106,107,108,109,110,111,112,113,114,115,116,117,118,119,120,121,122]⟩:ByteArray) u :: suf)=strOfNums (hexD n) by rw [HE.out,hexD_small u.toNat (by omega),HX'.out];rfl)
  have q3:(u < 36)=True:=eq_true (by omega)
  have q4:(36 ≤ u)=False:=eq_false (by omega)
  clear hj hjt hb hR2 hal hu2
  go_wp2
  go_ret2
  exact ⟨by first|rfl|(rw [HE2.out];rfl),HB2.out.setCell (Nat.le_refl _) _⟩
/-- At the base 10,and of a number from 0 on at the base 16. -/
def strconv_FormatInt_145.f (a0 a1:Int):Option ByteArray :=
 if a1=10 then (if -9223372036854775808 ≤ a0∧a0 ≤ 9223372036854775807 then some ⟨(Lib.itoa a0).toArray⟩ else none)
 else if a1=16 then (if 0 ≤ a0∧a0 ≤ 9223372036854775807 then some (strOfNums (hexD a0.toNat)) else none)
 else none
theorem below_grow {w:World} (k:Nat) (os:Array Obj):Below w.heap.size w (Go.Sort.grow (w.drewN k) os) :=
 ⟨rfl,rfl,rfl,by simp [Go.Sort.grow],fun b hb=>by simp only [Go.Sort.grow];rw [Array.getElem?_append_left (by simpa using hb)];rfl⟩
set_option maxHeartbeats 4000000 in
theorem formatInt_16 (a0:Int) (h0:0 ≤ a0) (h1:a0 ≤ 9223372036854775807) (w:World) (ht:Tabs w) :
 Calls Tryz.prog 145 #[.int .i64 a0,.int .i64 16] w fun e w' => e = .returned (.string (strOfNums (hexD a0.toNat)))∧Below w.heap.size w w' := by
 have HT:=Aside0.mk ht
 clear ht
 have hw:IntKind.u64.wrap a0=a0:=by simp [IntKind.wrap,IntKind.bits,IntKind.signed];omega
 have HF:=Aside0.mk (formatBits_16 a0.toNat (by omega))
 have hn:((a0.toNat:Nat):Int)=a0:=by omega
 rw [hn] at HF
 clear hn
 have hneg:decide (a0 < 0)=false:=decide_eq_false (by omega)
 go_enter Tryz.func145,Tryz.ntmps145
 go_wp2_with (go_at_call 180;(with_reducible refine (HF.out _ HT.out).mono ?_);rintro e w1 ⟨rfl,hb⟩)
 go_ret
 exact ⟨rfl,hb⟩
theorem strconv_FormatInt_145.calls (a0 a1:Int) (r:ByteArray) (w:World) (h:strconv_FormatInt_145.f a0 a1=some r) (ht:Tabs w) :
 Calls Tryz.prog 145 #[.int .i64 a0,.int .i64 a1] w fun e w' => e = .returned (.string r)∧Below w.heap.size w w' := by
 unfold strconv_FormatInt_145.f at h
 split at h
 ·rename_i h10
  subst h10
  split at h
  ·rename_i hr
   obtain rfl:=Option.some.inj h
   refine (Tryz.internal_strconv_FormatInt_10 a0 hr.1 hr.2 w ht.1).mono ?_
   rintro e w' ⟨rfl,k,os,rfl⟩
   exact ⟨rfl,below_grow k os⟩
  cases h
 split at h
 ·rename_i h16
  subst h16
  split at h
  ·rename_i hr
   obtain rfl:=Option.some.inj h
   exact formatInt_16 a0 hr.1 hr.2 w ht
  cases h
 cases h
def strconv_FormatInt_93.f (a0:Int) (a1:Int):Option (ByteArray):=(strconv_FormatInt_145.f a0 a1).bind fun t324=>(some t324)
set_option maxHeartbeats 8000000 in
set_option maxRecDepth 100000 in
theorem strconv_FormatInt_93.calls (a0:Int) (a1:Int) (r:ByteArray) (w:World) (h:strconv_FormatInt_93.f a0 a1=some r) (ht:Tabs w) :
 Calls Tryz.prog 93 #[.int .i64 a0,.int .i64 a1] w fun e w' => e = .returned (.string r)∧Below w.heap.size w w' := by
 have HTB:=Aside0.mk ht
 clear ht
 have HB:=Aside0.mk (Below.refl w.heap.size w)
 unfold strconv_FormatInt_93.f at h
 have H:=h
 clear h
 replace H:=Option.bind_eq_some_iff.mp H
 obtain ⟨t324,A30,H⟩:=H
 try dsimp only at H
 have A3:=Aside0.mk A30
 clear A30
 obtain rfl:=Option.some.inj H
 go_enter Tryz.func93,Tryz.ntmps93
 go_wp2_with (first|((with_reducible refine gate_callee (f:=145) rfl ?_);refine goesL_ (some 7) rfl rfl Tryz.func145 zb5 rfl #[.int .i64 a0,.int .i64 a1] rfl zb1 ?_;(with_reducible refine (strconv_FormatInt_145.calls a0 a1 t324 _ A3.out ?hT).mono ?_);(case hT=>exact HTB.out.below zb0);rintro e w4 ⟨rfl,hb⟩;(try clear A3);refine ⟨_,rfl,?_⟩;replace HB:=Aside0.mk (below_step zb0 hb);(try clear hb)))
 go_ret
 exact ⟨zb2,zb0⟩
def sign_Text.f (a0:Int):Option (ByteArray):=(strconv_FormatInt_93.f a0 10).bind fun t325=>(some t325)
set_option maxHeartbeats 8000000 in
set_option maxRecDepth 100000 in
theorem sign_Text.calls (a0:Int) (r:ByteArray) (w:World) (h:sign_Text.f a0=some r) (ht:Tabs w) :
 Calls Tryz.prog 95 #[.int .i64 a0] w fun e w' => e = .returned (.string r)∧Below w.heap.size w w' := by
 have HTB:=Aside0.mk ht
 clear ht
 have HB:=Aside0.mk (Below.refl w.heap.size w)
 unfold sign_Text.f at h
 have H:=h
 clear h
 replace H:=Option.bind_eq_some_iff.mp H
 obtain ⟨t325,A20,H⟩:=H
 try dsimp only at H
 have A2:=Aside0.mk A20
 clear A20
 obtain rfl:=Option.some.inj H
 go_enter Tryz.func95,Tryz.ntmps95
 go_wp2_with (first|((with_reducible refine gate_callee (f:=93) rfl ?_);refine goesL_ (some 4) rfl rfl Tryz.func93 zb5 rfl #[.int .i64 a0,.int .i64 10] rfl zb1 ?_;(with_reducible refine (strconv_FormatInt_93.calls a0 10 t325 _ A2.out ?hT).mono ?_);(case hT=>exact HTB.out.below zb0);rintro e w3 ⟨rfl,hb⟩;(try clear A2);refine ⟨_,rfl,?_⟩;replace HB:=Aside0.mk (below_step zb0 hb);(try clear hb)))
 go_ret
 exact ⟨zb2,zb0⟩
def line_RequestLine.f (a0_0:ByteArray) (a0_1:ByteArray) (a0_2:Int) (l0_3:List (S36)) (l0_4:List Int):Option (ByteArray):=if a0_0.size + 1 ≤ 9223372036854775807 then (if (a0_0 ++ (⟨#[32]⟩:ByteArray)).size + a0_1.size ≤ 9223372036854775807 then (if ((a0_0 ++ (⟨#[32]⟩:ByteArray)) ++ a0_1).size + 8 ≤ 9223372036854775807 then ((sign_Text.f a0_2).bind fun t327=>(if (((a0_0 ++ (⟨#[32]⟩:ByteArray)) ++ a0_1) ++ (⟨#[32,72,84,84,80,47,49,46]⟩:ByteArray)).size + t327.size ≤ 9223372036854775807 then (if ((((a0_0 ++ (⟨#[32]⟩:ByteArray)) ++ a0_1) ++ (⟨#[32,72,84,84,80,47,49,46]⟩:ByteArray)) ++ t327).size + 2 ≤ 9223372036854775807 then (some (((((a0_0 ++ (⟨#[32]⟩:ByteArray)) ++ a0_1) ++ (⟨#[32,72,84,84,80,47,49,46]⟩:ByteArray)) ++ t327) ++ (⟨#[13,10]⟩:ByteArray))) else (none)) else (none))) else (none)) else (none)) else (none)
def line_RequestLine.T1:Bool × List (List Nat × List Nat):=(true,[([],[]),([0],[0]),([1],[1]),([],[]),([3],[3]),([2,4],[2,4]),([5],[5]),([],[]),([7],[7]),([8],[8]),([6,9],[6,9]),([10],[10]),([11,9,0,1,2,3,4,5,6,7,8,9,10,11],[11])])
def line_RequestLine.B1:List Nat:=[0,1,3,0,8,31,63,0,128,384,1023,2047,4095]
theorem line_RequestLine.tab1:rtab .any (opsOf Tryz.f55 1)=line_RequestLine.T1:=by kernel_rfl
theorem line_RequestLine.bits1:waitsOk line_RequestLine.T1.2 line_RequestLine.B1=true:=by kernel_rfl
set_option maxHeartbeats 8000000 in
set_option maxRecDepth 100000 in
theorem line_RequestLine.calls (a0_0:ByteArray) (a0_1:ByteArray) (a0_2:Int) (A0_3:Option Addr) (c0_3:Nat) (l0_3:List (S36)) (A0_4:Option Addr) (c0_4:Nat) (l0_4:List Int) (r:ByteArray) (w:World) (hr0_3:Kd.C k36 w A0_3 l0_3.length l0_3) (hc0_3:l0_3.length ≤ c0_3) (hr0_4:Kd.C (Kd.int .u8) w A0_4 l0_4.length l0_4) (hc0_4:l0_4.length ≤ c0_4) (h:line_RequestLine.f a0_0 a0_1 a0_2 l0_3 l0_4=some r) (ht:Tabs w) :
 Calls Tryz.prog 55 #[.agg #[.string a0_0,.string a0_1,.int .i64 a0_2,.slice A0_3 l0_3.length c0_3,.slice A0_4 l0_4.length c0_4]] w fun e w' => e = .returned (.string r)∧Below w.heap.size w w' := by
 have HTB:=Aside0.mk ht
 clear ht
 have hu26:=Tryz.underlying26
 have HR0_3:=Aside0.mk hr0_3
 have HC0_3:=Aside0.mk hc0_3
 clear hr0_3 hc0_3
 have HR0_4:=Aside0.mk hr0_4
 have HC0_4:=Aside0.mk hc0_4
 clear hr0_4 hc0_4
 have HB:=Aside0.mk (Below.refl w.heap.size w)
 unfold line_RequestLine.f at h
 have H:=h
 clear h
 by_cases c2:a0_0.size + 1 ≤ 9223372036854775807;rotate_left
 ·rw [if_neg c2] at H
  exact absurd H zb36
 rw [if_pos c2] at H
 have c2b0:=eq_true c2
 have c2b1:=decide_eq_true c2
 try have c2b2:(9223372036854775807 < a0_0.size + 1)=False:=eq_false (Nat.not_lt.2 c2)
 by_cases c3:(a0_0 ++ (⟨#[32]⟩:ByteArray)).size + a0_1.size ≤ 9223372036854775807
 ·rw [if_pos c3] at H
  have c3b0:=eq_true c3
  have c3b1:=decide_eq_true c3
  try have c3b2:(9223372036854775807 < (a0_0 ++ (⟨#[32]⟩:ByteArray)).size + a0_1.size)=False:=eq_false (Nat.not_lt.2 c3)
  try (have c3b3:=c3b0;simp only [ByteArray.size_append] at c3b3;have c3b4:=c3b2;simp only [ByteArray.size_append] at c3b4)
  try have c3b5:(9223372036854775807 < a0_0.size + 1 + a0_1.size)=False:=eq_false (by have q_:=c3;simp only [ByteArray.size_append] at q_;have e0_:(⟨#[32]⟩:ByteArray).size=1:=rfl;omega)
  try have c3b6:(a0_0.size + 1 + a0_1.size ≤ 9223372036854775807)=True:=eq_true (by have q_:=c3;simp only [ByteArray.size_append] at q_;have e0_:(⟨#[32]⟩:ByteArray).size=1:=rfl;omega)
  by_cases c4:((a0_0 ++ (⟨#[32]⟩:ByteArray)) ++ a0_1).size + 8 ≤ 9223372036854775807;rotate_left
  ·rw [if_neg c4] at H
   exact absurd H zb36
  rw [if_pos c4] at H
  have c4b0:=eq_true c4
  have c4b1:=decide_eq_true c4
  try have c4b2:(9223372036854775807 < ((a0_0 ++ (⟨#[32]⟩:ByteArray)) ++ a0_1).size + 8)=False:=eq_false (Nat.not_lt.2 c4)
  try (have c4b3:=c4b0;simp only [ByteArray.size_append] at c4b3;have c4b4:=c4b2;simp only [ByteArray.size_append] at c4b4)
  try have c4b5:(9223372036854775807 < a0_0.size + 1 + a0_1.size + 8)=False:=eq_false (by have q_:=c4;simp only [ByteArray.size_append] at q_;have e0_:(⟨#[32]⟩:ByteArray).size=1:=rfl;omega)
  try have c4b6:(a0_0.size + 1 + a0_1.size + 8 ≤ 9223372036854775807)=True:=eq_true (by have q_:=c4;simp only [ByteArray.size_append] at q_;have e0_:(⟨#[32]⟩:ByteArray).size=1:=rfl;omega)
  replace H:=Option.bind_eq_some_iff.mp H
  obtain ⟨t327,A50,H⟩:=H
  try dsimp only at H
  have A5:=Aside0.mk A50
  clear A50
  by_cases c6:(((a0_0 ++ (⟨#[32]⟩:ByteArray)) ++ a0_1) ++ (⟨#[32,72,84,84,80,47,49,46]⟩:ByteArray)).size + t327.size ≤ 9223372036854775807
  ·rw [if_pos c6] at H
   have c6b0:=eq_true c6
   have c6b1:=decide_eq_true c6
   try have c6b2:(9223372036854775807 < (((a0_0 ++ (⟨#[32]⟩:ByteArray)) ++ a0_1) ++ (⟨#[32,72,84,84,80,47,49,46]⟩:ByteArray)).size + t327.size)=False:=eq_false (Nat.not_lt.2 c6)
   try (have c6b3:=c6b0;simp only [ByteArray.size_append] at c6b3;have c6b4:=c6b2;simp only [ByteArray.size_append] at c6b4)
   try have c6b5:(9223372036854775807 < a0_0.size + 1 + a0_1.size + 8 + t327.size)=False:=eq_false zb62
   try have c6b6:(a0_0.size + 1 + a0_1.size + 8 + t327.size ≤ 9223372036854775807)=True:=eq_true zb62
   by_cases c7:((((a0_0 ++ (⟨#[32]⟩:ByteArray)) ++ a0_1) ++ (⟨#[32,72,84,84,80,47,49,46]⟩:ByteArray)) ++ t327).size + 2 ≤ 9223372036854775807;rotate_left
   ·rw [if_neg c7] at H
    exact absurd H zb36
   rw [if_pos c7] at H
   have c7b0:=eq_true c7
   have c7b1:=decide_eq_true c7
   try have c7b2:(9223372036854775807 < ((((a0_0 ++ (⟨#[32]⟩:ByteArray)) ++ a0_1) ++ (⟨#[32,72,84,84,80,47,49,46]⟩:ByteArray)) ++ t327).size + 2)=False:=eq_false (Nat.not_lt.2 c7)
   try (have c7b3:=c7b0;simp only [ByteArray.size_append] at c7b3;have c7b4:=c7b2;simp only [ByteArray.size_append] at c7b4)
   try have c7b5:(9223372036854775807 < a0_0.size + 1 + a0_1.size + 8 + t327.size + 2)=False:=eq_false zb63
   try have c7b6:(a0_0.size + 1 + a0_1.size + 8 + t327.size + 2 ≤ 9223372036854775807)=True:=eq_true zb63
   obtain rfl:=Option.some.inj H
   go_enter Tryz.func55,Tryz.ntmps55
   try go_wp2_with (first|((with_reducible refine gate_dst (N:=1) rfl ?_);refine box_event rfl (N:=1) rfl (cs:=#[.string a0_0,.string a0_1,.int .i64 a0_2,.slice A0_3 l0_3.length c0_3,.slice A0_4 l0_4.length c0_4]) (t:=26) zS ?_;intro gb326 hg w8 hbox hb;have GW326:=zG hg zb0;have GE326:=GW326;have BK326:=Aside0.mk hbox;replace HB:=Aside0.mk (below_step zb0 hb);clear hb hbox hg))
   replace BK326:=Aside0.mk (blk_drew BK326.out)
   replace HB:=Aside0.mk (below_drew1 HB.out)
   refine start_ (n:=13) (S:=fun w' => w'.cell? ⟨gb326,0,none⟩=some (.string a0_0)∧w'.cell? ⟨gb326,1,none⟩=some (.string a0_1)∧w'.cell? ⟨gb326,2,none⟩=some (.int .i64 a0_2)∧w'.cell? ⟨gb326,3,none⟩=some (.slice A0_3 l0_3.length c0_3)∧w'.cell? ⟨gb326,4,none⟩=some (.slice A0_4 l0_4.length c0_4)) (ds:=[]) (zl 13 0) zb5 rfl rfl ⟨(blk_cell BK326.out 0).trans rfl,(blk_cell BK326.out 1).trans rfl,(blk_cell BK326.out 2).trans rfl,(blk_cell BK326.out 3).trans rfl,(blk_cell BK326.out 4).trans rfl⟩ (fun hHeld=>?_);refine with_tabW line_RequestLine.tab1 line_RequestLine.bits1 (fun HT_ HW_=>?_)
   generalize w8.drew=w9 at BK326 HB hHeld ⊢
   refine zpu 0 (N:=some 3) (zl 13 1) HT_.out rfl rfl ?_
   refine zpu 3 (N:=some 6) (zl 13 9) HT_.out rfl rfl ?_
   refine zpu 7 (N:=some 10) (zl 13 137) HT_.out rfl rfl ?_
   refine take_ (i:=1) (N:=some 4) (v:=?_) (a' := ?_) (zl 13 139) rfl rfl (take_ofW HT_.out HW_.out zb5) (fun _ _ _ h=>h) (Or.inl ⟨zb38,?_⟩) hHeld ?_ ?_
   rotate_left
   ·rintro w' ⟨s0,s1,s2,s3,s4⟩;go_simp;with_reducible rfl
   rotate_left
   ·simp only [Act.put,zqA,zqB,zqC,i64_w,i32_w];rfl
   refine zpu 2 (N:=some 5) (zl 13 143) HT_.out rfl rfl ?_
   refine take_ (i:=4) (N:=some 7) (v:=?_) (a' := ?_) (zl 13 159) rfl rfl (take_ofW HT_.out HW_.out zb5) (fun _ _ _ h=>h) (Or.inl ⟨zb38,?_⟩) hHeld ?_ ?_
   rotate_left
   ·rintro w' ⟨s0,s1,s2,s3,s4⟩;go_simp;with_reducible rfl
   rotate_left
   ·simp only [Act.put,zqA,zqB,zqC,i64_w,i32_w];rfl
   refine zpu 5 (N:=some 8) (zl 13 191) HT_.out rfl rfl ?_
   refine zpu 6 (N:=some 9) (zl 13 255) HT_.out rfl rfl ?_
   refine take_ (i:=8) (N:=some 11) (v:=?_) (a' := ?_) (zl 13 511) rfl rfl (take_ofW HT_.out HW_.out zb5) (fun _ _ _ h=>h) (Or.inl ⟨zb38,?_⟩) hHeld ?_ ?_
   rotate_left
   ·rintro w' ⟨s0,s1,s2,s3,s4⟩;go_simp;with_reducible rfl
   rotate_left
   ·simp only [Act.put,zqA,zqB,zqC,i64_w,i32_w];rfl
   refine one_ (i:=9) (N:=some 12) (zl 13 1023) rfl rfl (one_of HT_.out zb5) zb58 (fun K hK=>?_)
   refine goes_ Tryz.func95 zb5 rfl #[.int .i64 a0_2] zb38 rfl rfl zb1 ?_
   with_reducible refine (sign_Text.calls a0_2 t327 _ A5.out ?hT).mono ?_;(case hT=>exact HTB.out.below zb52)
   rintro e w10 ⟨rfl,hb⟩
   refine ⟨_,rfl,?_⟩
   replace BK326:=Aside0.mk (blk_below (g:=gb326) (o:=.cells #[.string a0_0,.string a0_1,.int .i64 a0_2,.slice A0_3 l0_3.length c0_3,.slice A0_4 l0_4.length c0_4] 26 (0,0)) (by (with_reducible repeat (first|refine blk_drewN ?_ _|refine blk_drew ?_|refine blk_alloc ?_ _));exact BK326.out) hb)
   replace HB:=Aside0.mk (below_step zb52 hb)
   (try clear hb)
   (try clear hb2)
   (try clear hk)
   (try clear hi)
   refine hK.out _ _ ⟨(blk_cell BK326.out 0).trans rfl,(blk_cell BK326.out 1).trans rfl,(blk_cell BK326.out 2).trans rfl,(blk_cell BK326.out 3).trans rfl,(blk_cell BK326.out 4).trans rfl⟩ (fun hHeld=>?_)
   clear hK K
   refine norm_ (a' := ?_) ?_ ?_
   rotate_left
   ·show Act.put _ (some 12) _=_
    simp only [Act.put,zqA,zqB,zqC,i64_w,i32_w]
    rfl
   refine zpu 10 (N:=some 13) (zl 13 2047) HT_.out rfl rfl ?_
   refine zpu 11 (N:=some 14) (zl 13 4095) HT_.out rfl rfl ?_
   refine zpu 12 (N:=some 2) (zl 13 8191) HT_.out rfl rfl ?_
   refine done_ (done_of HT_.out zb5) ?_
   try go_wp2
   go_ret
   exact ⟨zb2,zb52⟩
  ·rw [if_neg c6] at H
   exact absurd H zb36
 ·rw [if_neg c3] at H
  exact absurd H zb36
def http_WriteRequest.f (k:Nat) (a0:ByteArray) (a1:ByteArray) (a2:Int) (l3:List (S36)) (l4:List Int):Option (List Int):=(line_RequestLine.f a0 a1 a2 l3 l4).bind fun s=>http_write.f k s l3 l4
set_option maxHeartbeats 8000000 in
set_option maxRecDepth 100000 in
theorem http_WriteRequest.callsB (k:Nat) (a0:ByteArray) (a1:ByteArray) (a2:Int) (A3:Option Addr) (c3:Nat) (l3:List (S36)) (A4:Option Addr) (c4:Nat) (l4:List Int) (r:List Int) (w:World) (hr3:Kd.C k36 w A3 l3.length l3) (hc3:l3.length ≤ c3) (hr4:Kd.C (Kd.int .u8) w A4 l4.length l4) (hc4:l4.length ≤ c4) (h:http_WriteRequest.f k a0 a1 a2 l3 l4=some r) (ht:Tabs w) :
 Calls Tryz.prog 24 #[.agg #[.string a0,.string a1,.int .i64 a2,.slice A3 l3.length c3,.slice A4 l4.length c4]] w fun e w' => ∃ v,e = .returned v∧BufM w' w.heap.size v r∧Below w.heap.size w w' := by
 have hu:=Tryz.underlying26
 unfold http_WriteRequest.f at h
 obtain ⟨s,hs,h'⟩:=Option.bind_eq_some_iff.1 h
 have HS:=Aside0.mk hs
 have HW:=Aside0.mk h'
 have R3:=Aside0.mk hr3
 have R4:=Aside0.mk hr4
 have C3:=Aside0.mk hc3
 have C4:=Aside0.mk hc4
 have HT:=Aside0.mk ht
 clear h hs h' hr3 hr4 hc3 hc4 ht
 go_enter Tryz.func24,Tryz.ntmps24
 go_wp2_with (first
  | ((with_reducible refine gate_dst (N:=1) rfl ?_);refine box_event ?hg (N:=1) ?hd (cs:=#[.string a0,.string a1,.int .i64 a2,.slice A3 l3.length c3,.slice A4 l4.length c4]) (t:=26) ?hr ?_;(case hd=>rfl);(case hg=>rfl);(case hr=>first|(go_simp;done)|(go_simp;rfl));intro X hX w5 hBX hb5;have BX:=Aside0.mk hBX;have L5:=Aside0.mk hb5;have EX:=Aside0.mk hX;have q0:w5.cell? ⟨X,0,none⟩=some (.string a0):=(blk_cell BX.out 0).trans rfl;have q1:w5.cell? ⟨X,1,none⟩=some (.string a1):=(blk_cell BX.out 1).trans rfl;have q2:w5.cell? ⟨X,2,none⟩=some (.int .i64 a2):=(blk_cell BX.out 2).trans rfl;have q3:w5.cell? ⟨X,3,none⟩=some (.slice A3 l3.length c3):=(blk_cell BX.out 3).trans rfl;have q4:w5.cell? ⟨X,4,none⟩=some (.slice A4 l4.length c4):=(blk_cell BX.out 4).trans rfl;clear hBX hb5 hX))
 go_region_held3 (fun w' => w'.cell? ⟨X,0,none⟩=some (.string a0)∧w'.cell? ⟨X,1,none⟩=some (.string a1)∧w'.cell? ⟨X,2,none⟩=some (.int .i64 a2)∧w'.cell? ⟨X,3,none⟩=some (.slice A3 l3.length c3)∧w'.cell? ⟨X,4,none⟩=some (.slice A4 l4.length c4)) (go_keep)
  (first
   | (go_at_call 55;refine (line_RequestLine.calls a0 a1 a2 A3 c3 l3 A4 c4 l4 s _ (Kd.C_drew (Kd.C_below R3.out L5.out)) C3.out (Kd.C_drew (Kd.C_below R4.out L5.out)) C4.out HS.out (Tabs.below HT.out (below_drew1 L5.out))).mono ?_;rintro E w6 ⟨rfl,hb6⟩;have BX6:=Aside0.mk (blk_below (blk_drew BX.out) hb6);have L6:=Aside0.mk ((below_drew1 L5.out).trans (hbase2 (below_drew1 L5.out).size hb6));have q0:w6.cell? ⟨X,0,none⟩=some (.string a0):=(blk_cell BX6.out 0).trans rfl;have q1:w6.cell? ⟨X,1,none⟩=some (.string a1):=(blk_cell BX6.out 1).trans rfl;have q2:w6.cell? ⟨X,2,none⟩=some (.int .i64 a2):=(blk_cell BX6.out 2).trans rfl;have q3:w6.cell? ⟨X,3,none⟩=some (.slice A3 l3.length c3):=(blk_cell BX6.out 3).trans rfl;have q4:w6.cell? ⟨X,4,none⟩=some (.slice A4 l4.length c4):=(blk_cell BX6.out 4).trans rfl;clear hb6)
   | (go_at_call 54;refine (http_write.callsB k s A3 c3 l3 A4 c4 l4 r _ (Kd.C_below R3.out L6.out) C3.out (Kd.C_below R4.out L6.out) C4.out HW.out).mono ?_;rintro E w7 ⟨v7,rfl,hB7,hb7⟩;obtain ⟨A7,c7,e7⟩:=hB7.form;subst e7;have B7:=Aside0.mk hB7;have L7:=Aside0.mk hb7;have BX7:=Aside0.mk (blk_below BX6.out hb7);have q0:w7.cell? ⟨X,0,none⟩=some (.string a0):=(blk_cell BX7.out 0).trans rfl;have q1:w7.cell? ⟨X,1,none⟩=some (.string a1):=(blk_cell BX7.out 1).trans rfl;have q2:w7.cell? ⟨X,2,none⟩=some (.int .i64 a2):=(blk_cell BX7.out 2).trans rfl;have q3:w7.cell? ⟨X,3,none⟩=some (.slice A3 l3.length c3):=(blk_cell BX7.out 3).trans rfl;have q4:w7.cell? ⟨X,4,none⟩=some (.slice A4 l4.length c4):=(blk_cell BX7.out 4).trans rfl;clear hB7 hb7))
 go_wp2
 go_ret
 exact ⟨_,rfl,BufM.lower B7.out L6.out.size,L6.out.trans (hbase2 L6.out.size L7.out)⟩
end Go.Proofs.YtagffbblalldiaaGreatDoor.P
