/- Each function below answers as its Lean twin says; plain lemmas; a row where its theorem stands. No further condition. (Laid by this repo's pack.py out of its texts and of the print's words.) -/
import Derived.Test.YtfjeinnemimjoaaGreatDoorZ3c7c2eb9
namespace Go.Proofs.YtfjeinnemimjoaaGreatDoor.P
open Go.RowKit Go.Proofs.YtfjeinnemimjoaaGreatDoorW.PrintWords Go.Proofs.YtfjeinnemimjoaaGreatDoorW.PrintLast Go.Proofs.YtfjeinnemimjoaaGreatDoorW.PrintMore
attribute [local go_sem] max2_int min2_int max_two min_two max_three min_three max_four min_four
set_option linter.unusedVariables false
set_option linter.unusedSimpArgs false
def tollbarref01_SameBytes.l0:Nat → List Int → List Int → Int → Option (Bool)
 | 0,_,_,_=>none
 | k + 1,x0,x1,x5=>if x5 < (x0.length:Int) then (if 0 ≤ x5 then (if x5 < (x1.length:Int) then (if (rd x0 x5)=(rd x1 x5) then (tollbarref01_SameBytes.l0 k x0 x1 (wrap64 (x5 + 1))) else (some false)) else (none)) else (none)) else (some true)
def tollbarref01_SameBytes.f (k:Nat) (l0:List Int) (l1:List Int):Option (Bool):=if (l0.length:Int)=(l1.length:Int) then (tollbarref01_SameBytes.l0 k l0 l1 0) else (some false)
set_option maxHeartbeats 8000000 in
set_option maxRecDepth 100000 in
theorem tollbarref01_SameBytes.calls (k:Nat) (A0:Option Addr) (c0:Nat) (l0:List Int) (A1:Option Addr) (c1:Nat) (l1:List Int) (r:Bool) (w:World) (hr0:Kd.C (Kd.int .u8) w A0 l0.length l0) (hc0:l0.length ≤ c0) (hr1:Kd.C (Kd.int .u8) w A1 l1.length l1) (hc1:l1.length ≤ c1) (h:tollbarref01_SameBytes.f k l0 l1=some r) :
 Calls Tryz.prog 35 #[.slice A0 l0.length c0,.slice A1 l1.length c1] w fun e w' => e = .returned (.bool r)∧Drawn0 w w' := by
 have HR0:=Aside0.mk hr0
 have HC0:=Aside0.mk hc0
 clear hr0 hc0
 have HR1:=Aside0.mk hr1
 have HC1:=Aside0.mk hc1
 clear hr1 hc1
 unfold tollbarref01_SameBytes.f at h
 have H:=h
 clear h
 by_cases c3:(l0.length:Int)=(l1.length:Int);rotate_left
 ·rw [if_neg c3] at H
  have c3b0:=beq_eq_false_iff_ne.mpr c3
  have c3b1:=bne_iff_ne.mpr c3
  have c3b2:(l0.length == l1.length)=false:=by first|simpa using c3|(simp at c3 ⊢;omega)
  obtain rfl:=Option.some.inj H
  go_enter Tryz.func35,Tryz.ntmps35
  go_wp2
  repeat (go_quiet (fail);try go_wp2)
  go_ret
  exact ⟨zb5,zb7⟩
 rw [if_pos c3] at H
 have c3b0:=beq_iff_eq.mpr c3
 have c3b1:=bne_eq_false_iff_eq.mpr c3
 have c3b2:(l0.length == l1.length)=true:=by first|simpa using c3|(simp at c3 ⊢;omega)
 clear c3
 have H' := Aside0.mk H
 clear H
 go_enter Tryz.func35,Tryz.ntmps35
 go_wp2
 repeat (go_quiet (fail);try go_wp2)
 go_loopg [5] k (fun kq v5 w' => ∃ (x5_1:Int),v5 = .int .i64 x5_1∧Aside0 (tollbarref01_SameBytes.l0 kq l0 l1 x5_1=some r)∧Aside0 (kq ≤ k)∧Drawn0 w w')
 case atStart=>exact ⟨(0),zb5,H',⟨Nat.le_refl _⟩,zb7⟩
 case round =>
  clear H'
  try clear c1
  try clear p2
  try clear c3
  try clear c3b0
  try clear c3b1
  try clear c3b2
  obtain ⟨x5_1,rfl,HA,HK1,⟨m1,rfl⟩⟩:=hrel
  cases gk with
  | zero=>exact absurd HA.out (by simp [tollbarref01_SameBytes.l0])
  | succ k1 =>
   have H:=HA.out
   clear HA
   simp only [tollbarref01_SameBytes.l0] at H
   by_cases c4:x5_1 < (l0.length:Int)
   ·rw [if_pos c4] at H
    have c4b0:=decide_eq_true c4
    clear c4
    by_cases c5:0 ≤ x5_1
    ·rw [if_pos c5] at H
     have c5b0:=decide_eq_true c5
     clear c5
     by_cases c6:x5_1 < (l1.length:Int);rotate_left
     ·rw [if_neg c6] at H
      exact absurd H zb29
     rw [if_pos c6] at H
     have c6b0:=decide_eq_true c6
     clear c6
     by_cases c7:(rd l0 x5_1)=(rd l1 x5_1);rotate_left
     ·rw [if_neg c7] at H
      have c7b0:=beq_eq_false_iff_ne.mpr c7
      have c7b1:=bne_iff_ne.mpr c7
      obtain rfl:=Option.some.inj H
      have p340:0 ≤ (x5_1:Int):=of_decide_eq_true zb2
      have q340:x5_1 < (l0.length:Int):=of_decide_eq_true zb2
      obtain ⟨ad340,e340,hx340_0⟩:=Kd.at_int HR0.out x5_1 p340 q340
      cases e340
      replace p340:=eq_true p340
      replace q340:=eq_true q340
      have p341:0 ≤ (x5_1:Int):=of_decide_eq_true zb2
      have q341:x5_1 < (l1.length:Int):=of_decide_eq_true zb2
      obtain ⟨ad341,e341,hx341_0⟩:=Kd.at_int HR1.out x5_1 p341 q341
      cases e341
      replace p341:=eq_true p341
      replace q341:=eq_true q341
      go_wp2
      repeat (go_quiet (fail);try go_wp2)
      go_ret
      exact ⟨zb5,zb7⟩
     rw [if_pos c7] at H
     have c7b0:=beq_iff_eq.mpr c7
     have c7b1:=bne_eq_false_iff_eq.mpr c7
     clear c7
     have H' := Aside0.mk H
     clear H
     have p340:0 ≤ (x5_1:Int):=of_decide_eq_true zb2
     have q340:x5_1 < (l0.length:Int):=of_decide_eq_true zb2
     obtain ⟨ad340,e340,hx340_0⟩:=Kd.at_int HR0.out x5_1 p340 q340
     cases e340
     replace p340:=eq_true p340
     replace q340:=eq_true q340
     have p341:0 ≤ (x5_1:Int):=of_decide_eq_true zb2
     have q341:x5_1 < (l1.length:Int):=of_decide_eq_true zb2
     obtain ⟨ad341,e341,hx341_0⟩:=Kd.at_int HR1.out x5_1 p341 q341
     cases e341
     replace p341:=eq_true p341
     replace q341:=eq_true q341
     go_wp2
     repeat (go_quiet (fail);try go_wp2)
     go_roundg k1
     case measure=>have:=HK1.out;omega
     case rel=>exact ⟨(wrap64 (x5_1 + 1)),zb5,H',⟨zb72⟩,zb7⟩
    ·rw [if_neg c5] at H
     exact absurd H zb29
   ·rw [if_neg c4] at H
    have c4b0:=decide_eq_false c4
    clear c4
    obtain rfl:=Option.some.inj H
    go_wp2
    repeat (go_quiet (fail);try go_wp2)
    go_ret
    exact ⟨zb5,zb7⟩
def tollbarref02_blank.f (a0:Int):Option (Bool):=if a0=32 then (some true) else (some (a0 == 9))
set_option maxHeartbeats 8000000 in
set_option maxRecDepth 100000 in
theorem tollbarref02_blank.calls (a0:Int) (r:Bool) (w:World) (h:tollbarref02_blank.f a0=some r) :
 Calls Tryz.prog 70 #[.int .u8 a0] w fun e w' => e = .returned (.bool r)∧Drawn0 w w' := by
 unfold tollbarref02_blank.f at h
 have H:=h
 clear h
 by_cases c2:a0=32;rotate_left
 ·rw [if_neg c2] at H
  have c2b0:=beq_eq_false_iff_ne.mpr c2
  have c2b1:=bne_iff_ne.mpr c2
  obtain rfl:=Option.some.inj H
  go_enter Tryz.func70,Tryz.ntmps70
  go_wp2
  go_ret
  exact ⟨zb5,zb7⟩
 rw [if_pos c2] at H
 have c2b0:=beq_iff_eq.mpr c2
 have c2b1:=bne_eq_false_iff_eq.mpr c2
 clear c2
 obtain rfl:=Option.some.inj H
 go_enter Tryz.func70,Tryz.ntmps70
 go_wp2
 go_ret
 exact ⟨zb5,zb7⟩
mutual
def tollbarref02_Trim.j1:Nat → ByteArray → Option (ByteArray)
 | 0,_=>none
 | k + 1,x0=>tollbarref02_Trim.l1 k x0
def tollbarref02_Trim.l1:Nat → ByteArray → Option (ByteArray)
 | 0,_=>none
 | k + 1,x0=>if (x0.size:Int) > 0 then (if 0 ≤ (wrap64 ((x0.size:Int) - 1)) then (if (wrap64 ((x0.size:Int) - 1)) < (x0.size:Int) then ((tollbarref02_blank.f (bt x0 (wrap64 ((x0.size:Int) - 1)))).bind fun t370=>(if t370=true then (if (wrap64 ((x0.size:Int) - 1)) ≤ (x0.size:Int) then (tollbarref02_Trim.l1 k (x0.extract 0 ((wrap64 ((x0.size:Int) - 1)):Int).toNat)) else (none)) else (some x0))) else (none)) else (none)) else (some x0)
def tollbarref02_Trim.l0:Nat → ByteArray → Option (ByteArray)
 | 0,_=>none
 | k + 1,x0=>if (x0.size:Int) > 0 then (if 0 < (x0.size:Int) then ((tollbarref02_blank.f (bt x0 0)).bind fun t369=>(if t369=true then (if 1 ≤ (x0.size:Int) then (tollbarref02_Trim.l0 k (x0.extract 1 x0.size)) else (none)) else (tollbarref02_Trim.j1 k x0))) else (none)) else (tollbarref02_Trim.j1 k x0)
end
def tollbarref02_Trim.f (k:Nat) (a0:ByteArray):Option (ByteArray):=tollbarref02_Trim.l0 k a0
set_option maxHeartbeats 8000000 in
set_option maxRecDepth 100000 in
theorem tollbarref02_Trim.calls (k:Nat) (a0:ByteArray) (r:ByteArray) (w:World) (h:tollbarref02_Trim.f k a0=some r) :
 Calls Tryz.prog 32 #[.string a0] w fun e w' => e = .returned (.string r)∧Drawn0 w w' := by
 unfold tollbarref02_Trim.f at h
 have H:=h
 clear h
 have HC2:=Aside0.mk H
 clear H
 go_enter Tryz.func32,Tryz.ntmps32
 go_upto_block 0 with (fail)
 go_cut [0] (fun v0 wc => ∃ (kq:Nat) (x0_1:ByteArray),v0 = .string x0_1∧Aside0 (tollbarref02_Trim.j1 kq x0_1=some r)∧Aside0 (kq ≤ k)∧Drawn0 w wc)
 case first =>
  have H:=HC2.out
  clear HC2
  have H' := Aside0.mk H
  clear H
  go_wp2
  go_loopg [0] k (fun kq v0 w' => ∃ (x0_1:ByteArray),v0 = .string x0_1∧Aside0 (tollbarref02_Trim.l0 kq x0_1=some r)∧Aside0 (kq ≤ k)∧Drawn0 w w')
  case atStart=>exact ⟨(a0),zb5,H',⟨Nat.le_refl _⟩,zb7⟩
  case round =>
   clear H'
   try clear p2
   obtain ⟨x0_1,rfl,HA,HK1,⟨m1,rfl⟩⟩:=hrel
   cases gk with
   | zero=>exact absurd HA.out (by simp [tollbarref02_Trim.l0])
   | succ k1 =>
    have H:=HA.out
    clear HA
    simp only [tollbarref02_Trim.l0] at H
    by_cases c3:(x0_1.size:Int) > 0;rotate_left
    ·rw [if_neg c3] at H
     have c3b0:decide (0 < (x0_1.size:Int))=false:=decide_eq_false c3
     have c3b1:decide (0 < x0_1.size)=false:=decide_eq_false zb14
     clear c3
     (first|rw [c3b0]|(simp only [i64_w,i32_w];rw [c3b0])|rw [c3b1]|skip)
     have H' := Aside0.mk H
     clear H
     go_wp2
     go_meet
     case rel=>exact ⟨_,(x0_1),zb5,H',⟨zb57⟩,zb7⟩
    rw [if_pos c3] at H
    have c3b0:decide (0 < (x0_1.size:Int))=true:=decide_eq_true c3
    have c3b1:decide (0 < x0_1.size)=true:=decide_eq_true zb14
    clear c3
    (first|rw [c3b0]|(simp only [i64_w,i32_w];rw [c3b0])|rw [c3b1]|skip)
    by_cases c4:0 < (x0_1.size:Int)
    ·rw [if_pos c4] at H
     have c4b0:=decide_eq_true c4
     have c4b1:decide (0 < x0_1.size)=true:=decide_eq_true zb14
     clear c4
     replace H:=Option.bind_eq_some_iff.mp H
     obtain ⟨t369,A60,H⟩:=H
     try dsimp only at H
     have A6:=Aside0.mk A60
     clear A60
     by_cases c7:t369=true;rotate_left
     ·replace c7:=Bool.eq_false_iff.mpr c7
      subst c7
      rw [if_neg (show ¬ (false=true) by decide)] at H
      have H' := Aside0.mk H
      clear H
      have p5:0 ≤ (0:Int):=zb14
      have q5:0 < x0_1.size:=(by have:(0:Int) < (x0_1.size:Int):=of_decide_eq_true (by first|(with_reducible assumption)|assumption);omega)
      have hx5 : ∀ h:0 < x0_1.size,((x0_1[0]'h).toNat:Int)=bt x0_1 0:=bt_at x0_1 0
      clear p5
      have qi5:(0 < (x0_1.size:Int))=True:=eq_true (of_decide_eq_true zb2)
      replace q5:=eq_true q5
      go_wp2_with (first|(go_at_call 70;(with_reducible refine (tollbarref02_blank.calls (bt x0_1 0) false _ A6.out).mono ?_);rintro e w' ⟨rfl,⟨nd,rfl⟩⟩;(try clear A6)))
      go_meet
      case rel=>exact ⟨_,(x0_1),zb5,H',⟨zb57⟩,zb7⟩
     subst c7
     rw [if_pos rfl] at H
     by_cases c8:1 ≤ (x0_1.size:Int)
     ·rw [if_pos c8] at H
      have c8b0:=eq_true c8
      have c8b1:=decide_eq_true c8
      clear c8
      have H' := Aside0.mk H
      clear H
      have p5:0 ≤ (0:Int):=zb14
      have q5:0 < x0_1.size:=(by have:(0:Int) < (x0_1.size:Int):=of_decide_eq_true (by first|(with_reducible assumption)|assumption);omega)
      have hx5 : ∀ h:0 < x0_1.size,((x0_1[0]'h).toNat:Int)=bt x0_1 0:=bt_at x0_1 0
      clear p5
      have qi5:(0 < (x0_1.size:Int))=True:=eq_true (of_decide_eq_true zb2)
      replace q5:=eq_true q5
      go_wp2_with (first|(go_at_call 70;(with_reducible refine (tollbarref02_blank.calls (bt x0_1 0) true _ A6.out).mono ?_);rintro e w' ⟨rfl,⟨nd,rfl⟩⟩;(try clear A6)))
      go_roundg k1
      case measure=>have:=HK1.out;omega
      case rel=>exact ⟨(x0_1.extract 1 x0_1.size),zb5,H',⟨zb72⟩,zb7⟩
     ·rw [if_neg c8] at H
      exact absurd H zb29
    ·rw [if_neg c4] at H
     exact absurd H zb29
 case rest =>
  clear HC2
  try clear p2
  try clear c3
  try clear c3b0
  try clear c3b1
  try clear c4
  try clear c4b0
  try clear c4b1
  try clear p5
  try clear q5
  try clear hx5
  try clear qi5
  try clear c7
  try clear c8
  try clear c8b0
  try clear c8b1
  try clear p2
  try clear p5
  try clear q5
  obtain ⟨kq,x0_1,rfl,HA,HJ1,⟨mc1,rfl⟩⟩:=hcut
  cases kq with
  | zero=>exact absurd HA.out (by simp [tollbarref02_Trim.j1])
  | succ kj1 =>
   have H:=HA.out
   clear HA
   simp only [tollbarref02_Trim.j1] at H
   have H' := Aside0.mk H
   clear H
   go_wp2
   go_loopg [0] kj1 (fun kq v0 w' => ∃ (x0_2:ByteArray),v0 = .string x0_2∧Aside0 (tollbarref02_Trim.l1 kq x0_2=some r)∧Aside0 (kq ≤ kj1)∧Drawn0 w w')
   case atStart=>exact ⟨(x0_1),zb5,H',⟨Nat.le_refl _⟩,zb7⟩
   case round =>
    clear H'
    try clear c1
    try clear p2
    try clear c3
    try clear c3b0
    try clear c3b1
    try clear c4
    try clear c4b0
    try clear c4b1
    try clear p5
    try clear q5
    try clear hx5
    try clear qi5
    try clear c7
    try clear c8
    try clear c8b0
    try clear c8b1
    try clear p2
    try clear p5
    try clear q5
    obtain ⟨x0_2,rfl,HA,HK2,⟨m2,rfl⟩⟩:=hrel
    cases gk with
    | zero=>exact absurd HA.out (by simp [tollbarref02_Trim.l1])
    | succ k2 =>
     have H:=HA.out
     clear HA
     simp only [tollbarref02_Trim.l1] at H
     by_cases c9:(x0_2.size:Int) > 0;rotate_left
     ·rw [if_neg c9] at H
      have c9b0:decide (0 < (x0_2.size:Int))=false:=decide_eq_false c9
      have c9b1:decide (0 < x0_2.size)=false:=decide_eq_false zb14
      clear c9
      obtain rfl:=Option.some.inj H
      go_wp2
      go_ret
      exact ⟨zb5,zb7⟩
     rw [if_pos c9] at H
     have c9b0:decide (0 < (x0_2.size:Int))=true:=decide_eq_true c9
     have c9b1:decide (0 < x0_2.size)=true:=decide_eq_true zb14
     clear c9
     obtain ⟨ji10,hji10⟩ : ∃ j_:Int,(wrap64 ((x0_2.size:Int) - 1))=j_:=⟨_,rfl⟩
     replace H:(if 0 ≤ (ji10) then (if (ji10) < (x0_2.size:Int) then ((tollbarref02_blank.f (bt x0_2 (ji10))).bind fun t370=>(if t370=true then (if (ji10) ≤ (x0_2.size:Int) then (tollbarref02_Trim.l1 k2 (x0_2.extract 0 ((ji10):Int).toNat)) else (none)) else (some x0_2))) else (none)) else (none))=some r:=by first|(rw [hji10] at H;exact H)|(simp only [hji10] at H ⊢;exact H)
     have hji10w:(IntKind.i64.wrap ((x0_2.size:Int) - 1))=ji10:=(i64_w _).trans hji10
     by_cases c11:0 ≤ (ji10)
     ·rw [if_pos c11] at H
      have c11b0:=decide_eq_true c11
      clear c11
      by_cases c12:(ji10) < (x0_2.size:Int)
      ·rw [if_pos c12] at H
       have c12b0:=decide_eq_true c12
       clear c12
       replace H:=Option.bind_eq_some_iff.mp H
       obtain ⟨t370,A140,H⟩:=H
       try dsimp only at H
       have A14:=Aside0.mk A140
       clear A140
       by_cases c15:t370=true;rotate_left
       ·replace c15:=Bool.eq_false_iff.mpr c15
        subst c15
        rw [if_neg (show ¬ (false=true) by decide)] at H
        obtain rfl:=Option.some.inj H
        have p13:0 ≤ ((ji10):Int):=of_decide_eq_true zb2
        have q13:(ji10) < (x0_2.size:Int):=of_decide_eq_true zb2
        have hx13:=bt_at x0_2 (ji10)
        replace p13:=eq_true p13
        replace q13:=eq_true q13
        go_wp2_with (first|(go_at_call 70;(with_reducible refine (tollbarref02_blank.calls (bt x0_2 (ji10)) false _ A14.out).mono ?_);rintro e w' ⟨rfl,⟨nd,rfl⟩⟩;(try clear A14)))
        go_ret
        exact ⟨zb70,zb7⟩
       subst c15
       rw [if_pos rfl] at H
       have c16b0:=eq_true (of_decide_eq_true zb2:0 ≤ (ji10))
       by_cases c17:(ji10) ≤ (x0_2.size:Int)
       ·rw [if_pos c17] at H
        have c17b0:=eq_true c17
        have c17b1:=decide_eq_true c17
        clear c17
        have H' := Aside0.mk H
        clear H
        have p13:0 ≤ ((ji10):Int):=of_decide_eq_true zb2
        have q13:(ji10) < (x0_2.size:Int):=of_decide_eq_true zb2
        have hx13:=bt_at x0_2 (ji10)
        replace p13:=eq_true p13
        replace q13:=eq_true q13
        go_wp2_with (first|(go_at_call 70;(with_reducible refine (tollbarref02_blank.calls (bt x0_2 (ji10)) true _ A14.out).mono ?_);rintro e w' ⟨rfl,⟨nd,rfl⟩⟩;(try clear A14)))
        go_roundg k2
        case measure=>have:=HJ1.out;have:=HK2.out;omega
        case rel=>exact ⟨(x0_2.extract 0 ((ji10):Int).toNat),zb70,H',⟨by have:=HJ1.out;have:=HK2.out;omega⟩,zb7⟩
       ·rw [if_neg c17] at H
        exact absurd H zb29
      ·rw [if_neg c12] at H
       exact absurd H zb29
     ·rw [if_neg c11] at H
      exact absurd H zb29
def tollbarref02_Value.l0:Nat → ByteArray → Int → Option (Bool)
 | 0,_,_=>none
 | k + 1,x0,x3=>if x3 < (x0.size:Int) then (if 0 ≤ x3 then (if (bt x0 x3) < 32 then (if (bt x0 x3)=9 then (if (bt x0 x3)=127 then (some false) else (tollbarref02_Value.l0 k x0 (wrap64 (x3 + 1)))) else (some false)) else (if (bt x0 x3)=127 then (some false) else (tollbarref02_Value.l0 k x0 (wrap64 (x3 + 1))))) else (none)) else (some true)
def tollbarref02_Value.f (k:Nat) (a0:ByteArray):Option (Bool):=tollbarref02_Value.l0 k a0 0
set_option maxHeartbeats 8000000 in
set_option maxRecDepth 100000 in
theorem tollbarref02_Value.calls (k:Nat) (a0:ByteArray) (r:Bool) (w:World) (h:tollbarref02_Value.f k a0=some r) :
 Calls Tryz.prog 33 #[.string a0] w fun e w' => e = .returned (.bool r)∧Drawn0 w w' := by
 unfold tollbarref02_Value.f at h
 have H:=h
 clear h
 have H' := Aside0.mk H
 clear H
 go_enter Tryz.func33,Tryz.ntmps33
 go_wp2
 go_loopg [3] k (fun kq v3 w' => ∃ (x3_1:Int),v3 = .int .i64 x3_1∧Aside0 (tollbarref02_Value.l0 kq a0 x3_1=some r)∧Aside0 (kq ≤ k)∧Drawn0 w w')
 case atStart=>exact ⟨(0),zb5,H',⟨Nat.le_refl _⟩,zb7⟩
 case round =>
  clear H'
  obtain ⟨x3_1,rfl,HA,HK1,⟨m1,rfl⟩⟩:=hrel
  cases gk with
  | zero=>exact absurd HA.out (by simp [tollbarref02_Value.l0])
  | succ k1 =>
   have H:=HA.out
   clear HA
   simp only [tollbarref02_Value.l0] at H
   by_cases c2:x3_1 < (a0.size:Int);rotate_left
   ·rw [if_neg c2] at H
    have c2b0:=decide_eq_false c2
    clear c2
    obtain rfl:=Option.some.inj H
    go_wp2
    go_ret
    exact ⟨zb5,zb7⟩
   rw [if_pos c2] at H
   have c2b0:=decide_eq_true c2
   clear c2
   by_cases c3:0 ≤ x3_1
   ·rw [if_pos c3] at H
    have c3b0:=decide_eq_true c3
    clear c3
    by_cases c5:(bt a0 x3_1) < 32;rotate_left
    ·rw [if_neg c5] at H
     have c5b0:=decide_eq_false c5
     clear c5
     by_cases c11:(bt a0 x3_1)=127
     ·rw [if_pos c11] at H
      have c11b0:=beq_iff_eq.mpr c11
      have c11b1:=bne_eq_false_iff_eq.mpr c11
      clear c11
      obtain rfl:=Option.some.inj H
      have p4:0 ≤ (x3_1:Int):=of_decide_eq_true zb2
      have q4:x3_1 < (a0.size:Int):=of_decide_eq_true zb2
      have hx4:=bt_at a0 x3_1
      replace p4:=eq_true p4
      replace q4:=eq_true q4
      have p10:0 ≤ (x3_1:Int):=of_decide_eq_true zb2
      have q10:x3_1 < (a0.size:Int):=of_decide_eq_true zb2
      have hx10:=bt_at a0 x3_1
      replace p10:=eq_true p10
      replace q10:=eq_true q10
      go_wp2
      go_ret
      exact ⟨zb5,zb7⟩
     rw [if_neg c11] at H
     have c11b0:=beq_eq_false_iff_ne.mpr c11
     have c11b1:=bne_iff_ne.mpr c11
     have H' := Aside0.mk H
     clear H
     have p4:0 ≤ (x3_1:Int):=of_decide_eq_true zb2
     have q4:x3_1 < (a0.size:Int):=of_decide_eq_true zb2
     have hx4:=bt_at a0 x3_1
     replace p4:=eq_true p4
     replace q4:=eq_true q4
     have p10:0 ≤ (x3_1:Int):=of_decide_eq_true zb2
     have q10:x3_1 < (a0.size:Int):=of_decide_eq_true zb2
     have hx10:=bt_at a0 x3_1
     replace p10:=eq_true p10
     replace q10:=eq_true q10
     go_wp2
     go_roundg k1
     case measure=>have:=HK1.out;omega
     case rel=>exact ⟨(wrap64 (x3_1 + 1)),zb5,H',⟨zb72⟩,zb7⟩
    rw [if_pos c5] at H
    have c5b0:=decide_eq_true c5
    clear c5
    by_cases c7:(bt a0 x3_1)=9
    ·rw [if_pos c7] at H
     have c7b0:=beq_iff_eq.mpr c7
     have c7b1:=bne_eq_false_iff_eq.mpr c7
     clear c7
     by_cases c9:(bt a0 x3_1)=127
     ·rw [if_pos c9] at H
      have c9b0:=beq_iff_eq.mpr c9
      have c9b1:=bne_eq_false_iff_eq.mpr c9
      clear c9
      obtain rfl:=Option.some.inj H
      have p4:0 ≤ (x3_1:Int):=of_decide_eq_true zb2
      have q4:x3_1 < (a0.size:Int):=of_decide_eq_true zb2
      have hx4:=bt_at a0 x3_1
      replace p4:=eq_true p4
      replace q4:=eq_true q4
      have p6:0 ≤ (x3_1:Int):=of_decide_eq_true zb2
      have q6:x3_1 < (a0.size:Int):=of_decide_eq_true zb2
      have hx6:=bt_at a0 x3_1
      replace p6:=eq_true p6
      replace q6:=eq_true q6
      have p8:0 ≤ (x3_1:Int):=of_decide_eq_true zb2
      have q8:x3_1 < (a0.size:Int):=of_decide_eq_true zb2
      have hx8:=bt_at a0 x3_1
      replace p8:=eq_true p8
      replace q8:=eq_true q8
      go_wp2
      go_ret
      exact ⟨zb5,zb7⟩
     ·rw [if_neg c9] at H
      have c9b0:=beq_eq_false_iff_ne.mpr c9
      have c9b1:=bne_iff_ne.mpr c9
      have H' := Aside0.mk H
      clear H
      have p4:0 ≤ (x3_1:Int):=of_decide_eq_true zb2
      have q4:x3_1 < (a0.size:Int):=of_decide_eq_true zb2
      have hx4:=bt_at a0 x3_1
      replace p4:=eq_true p4
      replace q4:=eq_true q4
      have p6:0 ≤ (x3_1:Int):=of_decide_eq_true zb2
      have q6:x3_1 < (a0.size:Int):=of_decide_eq_true zb2
      have hx6:=bt_at a0 x3_1
      replace p6:=eq_true p6
      replace q6:=eq_true q6
      have p8:0 ≤ (x3_1:Int):=of_decide_eq_true zb2
      have q8:x3_1 < (a0.size:Int):=of_decide_eq_true zb2
      have hx8:=bt_at a0 x3_1
      replace p8:=eq_true p8
      replace q8:=eq_true q8
      go_wp2
      go_roundg k1
      case measure=>have:=HK1.out;omega
      case rel=>exact ⟨(wrap64 (x3_1 + 1)),zb5,H',⟨zb72⟩,zb7⟩
    ·rw [if_neg c7] at H
     have c7b0:=beq_eq_false_iff_ne.mpr c7
     have c7b1:=bne_iff_ne.mpr c7
     obtain rfl:=Option.some.inj H
     have p4:0 ≤ (x3_1:Int):=of_decide_eq_true zb2
     have q4:x3_1 < (a0.size:Int):=of_decide_eq_true zb2
     have hx4:=bt_at a0 x3_1
     replace p4:=eq_true p4
     replace q4:=eq_true q4
     have p6:0 ≤ (x3_1:Int):=of_decide_eq_true zb2
     have q6:x3_1 < (a0.size:Int):=of_decide_eq_true zb2
     have hx6:=bt_at a0 x3_1
     replace p6:=eq_true p6
     replace q6:=eq_true q6
     go_wp2
     go_ret
     exact ⟨zb5,zb7⟩
   ·rw [if_neg c3] at H
    exact absurd H zb29
def tollbarref02_Digit.f (a0:Int):Option (Bool):=if a0 ≥ 48 then (some (decide (a0 ≤ 57))) else (some false)
end Go.Proofs.YtfjeinnemimjoaaGreatDoor.P
