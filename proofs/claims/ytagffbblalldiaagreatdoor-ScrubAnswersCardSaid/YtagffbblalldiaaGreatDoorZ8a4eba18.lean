/- Each function below answers as its Lean twin says; plain lemmas; a row where its theorem stands. No further condition. (Laid by this repo's pack.py out of its texts and of the print's words.) -/
import Derived.Test.YtagffbblalldiaaGreatDoorZe19cbdcb
namespace Go.Proofs.YtagffbblalldiaaGreatDoor.P
open Go.RowKit Go.Proofs.YtagffbblalldiaaGreatDoorW.PrintWords Go.Proofs.YtagffbblalldiaaGreatDoorW.PrintLast Go.Proofs.YtagffbblalldiaaGreatDoorW.PrintMore
attribute [local go_sem] max2_int min2_int max_two min_two max_three min_three max_four min_four
set_option linter.unusedVariables false
set_option linter.unusedSimpArgs false
def tollbarref04_Same.l0:Nat → List (S36) → List (S36) → Int → Option (Bool)
 | 0,_,_,_=>none
 | k + 1,x0,x1,x5=>if x5 < (x0.length:Int) then (if 0 ≤ x5 then (if x5 < (x1.length:Int) then (if ((rd_T36 x0 x5).f0).toList=((rd_T36 x1 x5).f0).toList then (if ((rd_T36 x0 x5).f1).toList=((rd_T36 x1 x5).f1).toList then (tollbarref04_Same.l0 k x0 x1 (wrap64 (x5 + 1))) else (some false)) else (some false)) else (none)) else (none)) else (some true)
def tollbarref04_Same.f (k:Nat) (l0:List (S36)) (l1:List (S36)):Option (Bool):=if (l0.length:Int)=(l1.length:Int) then (tollbarref04_Same.l0 k l0 l1 0) else (some false)
set_option maxHeartbeats 8000000 in
set_option maxRecDepth 100000 in
theorem tollbarref04_Same.calls (k:Nat) (A0:Option Addr) (c0:Nat) (l0:List (S36)) (A1:Option Addr) (c1:Nat) (l1:List (S36)) (r:Bool) (w:World) (hr0:Kd.C k36 w A0 l0.length l0) (hc0:l0.length ≤ c0) (hr1:Kd.C k36 w A1 l1.length l1) (hc1:l1.length ≤ c1) (h:tollbarref04_Same.f k l0 l1=some r) :
 Calls Tryz.prog 26 #[.slice A0 l0.length c0,.slice A1 l1.length c1] w fun e w' => e = .returned (.bool r)∧Drawn0 w w' := by
 have HR0:=Aside0.mk hr0
 have HC0:=Aside0.mk hc0
 clear hr0 hc0
 have HR1:=Aside0.mk hr1
 have HC1:=Aside0.mk hc1
 clear hr1 hc1
 unfold tollbarref04_Same.f at h
 have H:=h
 clear h
 by_cases c3:(l0.length:Int)=(l1.length:Int);rotate_left
 ·rw [if_neg c3] at H
  have c3b0:=beq_eq_false_iff_ne.mpr c3
  have c3b1:=bne_iff_ne.mpr c3
  have c3b2:(l0.length == l1.length)=false:=by first|simpa using c3|(simp at c3 ⊢;omega)
  obtain rfl:=Option.some.inj H
  go_enter Tryz.func26,Tryz.ntmps26
  go_wp2
  repeat (go_quiet (fail);try go_wp2)
  go_ret
  exact ⟨zb8,zb13⟩
 rw [if_pos c3] at H
 have c3b0:=beq_iff_eq.mpr c3
 have c3b1:=bne_eq_false_iff_eq.mpr c3
 have c3b2:(l0.length == l1.length)=true:=by first|simpa using c3|(simp at c3 ⊢;omega)
 clear c3
 have H' := Aside0.mk H
 clear H
 go_enter Tryz.func26,Tryz.ntmps26
 go_wp2
 repeat (go_quiet (fail);try go_wp2)
 go_loopg [5] k (fun kq v5 w' => ∃ (x5_1:Int),v5 = .int .i64 x5_1∧Aside0 (tollbarref04_Same.l0 kq l0 l1 x5_1=some r)∧Aside0 (kq ≤ k)∧Drawn0 w w')
 case atStart=>exact ⟨(0),zb8,H',⟨Nat.le_refl _⟩,zb13⟩
 case round =>
  clear H'
  try clear c1
  try clear c2
  try clear p2
  try clear c3
  try clear c3b0
  try clear c3b1
  try clear c3b2
  obtain ⟨x5_1,rfl,HA,HK1,⟨m1,rfl⟩⟩:=hrel
  cases gk with
  | zero=>exact absurd HA.out (by simp [tollbarref04_Same.l0])
  | succ k1 =>
   have H:=HA.out
   clear HA
   simp only [tollbarref04_Same.l0] at H
   by_cases c4:x5_1 < (l0.length:Int)
   ·rw [if_pos c4] at H
    have c4b0:=decide_eq_true c4
    clear c4
    by_cases c5:0 ≤ x5_1
    ·rw [if_pos c5] at H
     have c5b0:=decide_eq_true c5
     clear c5
     by_cases c6:x5_1 < (l1.length:Int);rotate_left
     ·rw [if_neg c6] at H
      exact absurd H zb55
     rw [if_pos c6] at H
     have c6b0:=decide_eq_true c6
     clear c6
     by_cases c7:((rd_T36 l0 x5_1).f0).toList=((rd_T36 l1 x5_1).f0).toList;rotate_left
     ·rw [if_neg c7] at H
      have c7b0:=beq_eq_false_iff_ne.mpr c7
      have c7b1:=bne_iff_ne.mpr c7
      obtain rfl:=Option.some.inj H
      have p564:0 ≤ (x5_1:Int):=of_decide_eq_true zb10
      have q564:x5_1 < (l0.length:Int):=of_decide_eq_true zb10
      obtain ⟨ad564,e564,hx564_0,hx564_1⟩:=at_T36 HR0.out x5_1 p564 q564
      cases e564
      replace p564:=eq_true p564
      replace q564:=eq_true q564
      have p565:0 ≤ (x5_1:Int):=of_decide_eq_true zb10
      have q565:x5_1 < (l1.length:Int):=of_decide_eq_true zb10
      obtain ⟨ad565,e565,hx565_0,hx565_1⟩:=at_T36 HR1.out x5_1 p565 q565
      cases e565
      replace p565:=eq_true p565
      replace q565:=eq_true q565
      go_wp2
      repeat (go_quiet (fail);try go_wp2)
      go_ret
      exact ⟨zb8,zb13⟩
     rw [if_pos c7] at H
     have c7b0:=beq_iff_eq.mpr c7
     have c7b1:=bne_eq_false_iff_eq.mpr c7
     clear c7
     by_cases c8:((rd_T36 l0 x5_1).f1).toList=((rd_T36 l1 x5_1).f1).toList;rotate_left
     ·rw [if_neg c8] at H
      have c8b0:=beq_eq_false_iff_ne.mpr c8
      have c8b1:=bne_iff_ne.mpr c8
      obtain rfl:=Option.some.inj H
      have p564:0 ≤ (x5_1:Int):=of_decide_eq_true zb10
      have q564:x5_1 < (l0.length:Int):=of_decide_eq_true zb10
      obtain ⟨ad564,e564,hx564_0,hx564_1⟩:=at_T36 HR0.out x5_1 p564 q564
      cases e564
      replace p564:=eq_true p564
      replace q564:=eq_true q564
      have p565:0 ≤ (x5_1:Int):=of_decide_eq_true zb10
      have q565:x5_1 < (l1.length:Int):=of_decide_eq_true zb10
      obtain ⟨ad565,e565,hx565_0,hx565_1⟩:=at_T36 HR1.out x5_1 p565 q565
      cases e565
      replace p565:=eq_true p565
      replace q565:=eq_true q565
      have p566:0 ≤ (x5_1:Int):=of_decide_eq_true zb10
      have q566:x5_1 < (l0.length:Int):=of_decide_eq_true zb10
      obtain ⟨ad566,e566,hx566_0,hx566_1⟩:=at_T36 HR0.out x5_1 p566 q566
      obtain rfl:ad564=ad566:=(by injection e566)
      replace p566:=eq_true p566
      replace q566:=eq_true q566
      have p567:0 ≤ (x5_1:Int):=of_decide_eq_true zb10
      have q567:x5_1 < (l1.length:Int):=of_decide_eq_true zb10
      obtain ⟨ad567,e567,hx567_0,hx567_1⟩:=at_T36 HR1.out x5_1 p567 q567
      obtain rfl:ad565=ad567:=(by injection e567)
      replace p567:=eq_true p567
      replace q567:=eq_true q567
      go_wp2
      repeat (go_quiet (fail);try go_wp2)
      go_ret
      exact ⟨zb8,zb13⟩
     rw [if_pos c8] at H
     have c8b0:=beq_iff_eq.mpr c8
     have c8b1:=bne_eq_false_iff_eq.mpr c8
     clear c8
     have H' := Aside0.mk H
     clear H
     have p564:0 ≤ (x5_1:Int):=of_decide_eq_true zb10
     have q564:x5_1 < (l0.length:Int):=of_decide_eq_true zb10
     obtain ⟨ad564,e564,hx564_0,hx564_1⟩:=at_T36 HR0.out x5_1 p564 q564
     cases e564
     replace p564:=eq_true p564
     replace q564:=eq_true q564
     have p565:0 ≤ (x5_1:Int):=of_decide_eq_true zb10
     have q565:x5_1 < (l1.length:Int):=of_decide_eq_true zb10
     obtain ⟨ad565,e565,hx565_0,hx565_1⟩:=at_T36 HR1.out x5_1 p565 q565
     cases e565
     replace p565:=eq_true p565
     replace q565:=eq_true q565
     have p566:0 ≤ (x5_1:Int):=of_decide_eq_true zb10
     have q566:x5_1 < (l0.length:Int):=of_decide_eq_true zb10
     obtain ⟨ad566,e566,hx566_0,hx566_1⟩:=at_T36 HR0.out x5_1 p566 q566
     obtain rfl:ad564=ad566:=(by injection e566)
     replace p566:=eq_true p566
     replace q566:=eq_true q566
     have p567:0 ≤ (x5_1:Int):=of_decide_eq_true zb10
     have q567:x5_1 < (l1.length:Int):=of_decide_eq_true zb10
     obtain ⟨ad567,e567,hx567_0,hx567_1⟩:=at_T36 HR1.out x5_1 p567 q567
     obtain rfl:ad565=ad567:=(by injection e567)
     replace p567:=eq_true p567
     replace q567:=eq_true q567
     go_wp2
     repeat (go_quiet (fail);try go_wp2)
     go_roundg k1
     case measure=>have:=HK1.out;omega
     case rel=>exact ⟨(wrap64 (x5_1 + 1)),zb8,H',⟨zb97⟩,zb13⟩
    ·rw [if_neg c5] at H
     exact absurd H zb55
   ·rw [if_neg c4] at H
    have c4b0:=decide_eq_false c4
    clear c4
    obtain rfl:=Option.some.inj H
    go_wp2
    repeat (go_quiet (fail);try go_wp2)
    go_ret
    exact ⟨zb8,zb13⟩
def tollbarref01_SameBytes.l0:Nat → List Int → List Int → Int → Option (Bool)
 | 0,_,_,_=>none
 | k + 1,x0,x1,x5=>if x5 < (x0.length:Int) then (if 0 ≤ x5 then (if x5 < (x1.length:Int) then (if (rd x0 x5)=(rd x1 x5) then (tollbarref01_SameBytes.l0 k x0 x1 (wrap64 (x5 + 1))) else (some false)) else (none)) else (none)) else (some true)
def tollbarref01_SameBytes.f (k:Nat) (l0:List Int) (l1:List Int):Option (Bool):=if (l0.length:Int)=(l1.length:Int) then (tollbarref01_SameBytes.l0 k l0 l1 0) else (some false)
set_option maxHeartbeats 8000000 in
set_option maxRecDepth 100000 in
theorem tollbarref01_SameBytes.calls (k:Nat) (A0:Option Addr) (c0:Nat) (l0:List Int) (A1:Option Addr) (c1:Nat) (l1:List Int) (r:Bool) (w:World) (hr0:Kd.C (Kd.int .u8) w A0 l0.length l0) (hc0:l0.length ≤ c0) (hr1:Kd.C (Kd.int .u8) w A1 l1.length l1) (hc1:l1.length ≤ c1) (h:tollbarref01_SameBytes.f k l0 l1=some r) :
 Calls Tryz.prog 25 #[.slice A0 l0.length c0,.slice A1 l1.length c1] w fun e w' => e = .returned (.bool r)∧Drawn0 w w' := by
 have HR0:=Aside0.mk hr0
 have HC0:=Aside0.mk hc0
 clear hr0 hc0
 have HR1:=Aside0.mk hr1
 have HC1:=Aside0.mk hc1
 clear hr1 hc1
 unfold tollbarref01_SameBytes.f at h
 have H:=h
 clear h
 by_cases c3:(l0.length:Int)=(l1.length:Int);rotate_left
 ·rw [if_neg c3] at H
  have c3b0:=beq_eq_false_iff_ne.mpr c3
  have c3b1:=bne_iff_ne.mpr c3
  have c3b2:(l0.length == l1.length)=false:=by first|simpa using c3|(simp at c3 ⊢;omega)
  obtain rfl:=Option.some.inj H
  go_enter Tryz.func25,Tryz.ntmps25
  go_wp2
  repeat (go_quiet (fail);try go_wp2)
  go_ret
  exact ⟨zb8,zb13⟩
 rw [if_pos c3] at H
 have c3b0:=beq_iff_eq.mpr c3
 have c3b1:=bne_eq_false_iff_eq.mpr c3
 have c3b2:(l0.length == l1.length)=true:=by first|simpa using c3|(simp at c3 ⊢;omega)
 clear c3
 have H' := Aside0.mk H
 clear H
 go_enter Tryz.func25,Tryz.ntmps25
 go_wp2
 repeat (go_quiet (fail);try go_wp2)
 go_loopg [5] k (fun kq v5 w' => ∃ (x5_1:Int),v5 = .int .i64 x5_1∧Aside0 (tollbarref01_SameBytes.l0 kq l0 l1 x5_1=some r)∧Aside0 (kq ≤ k)∧Drawn0 w w')
 case atStart=>exact ⟨(0),zb8,H',⟨Nat.le_refl _⟩,zb13⟩
 case round =>
  clear H'
  try clear c1
  try clear c2
  try clear p2
  try clear c3
  try clear c3b0
  try clear c3b1
  try clear c3b2
  obtain ⟨x5_1,rfl,HA,HK1,⟨m1,rfl⟩⟩:=hrel
  cases gk with
  | zero=>exact absurd HA.out (by simp [tollbarref01_SameBytes.l0])
  | succ k1 =>
   have H:=HA.out
   clear HA
   simp only [tollbarref01_SameBytes.l0] at H
   by_cases c4:x5_1 < (l0.length:Int)
   ·rw [if_pos c4] at H
    have c4b0:=decide_eq_true c4
    clear c4
    by_cases c5:0 ≤ x5_1
    ·rw [if_pos c5] at H
     have c5b0:=decide_eq_true c5
     clear c5
     by_cases c6:x5_1 < (l1.length:Int);rotate_left
     ·rw [if_neg c6] at H
      exact absurd H zb55
     rw [if_pos c6] at H
     have c6b0:=decide_eq_true c6
     clear c6
     by_cases c7:(rd l0 x5_1)=(rd l1 x5_1);rotate_left
     ·rw [if_neg c7] at H
      have c7b0:=beq_eq_false_iff_ne.mpr c7
      have c7b1:=bne_iff_ne.mpr c7
      obtain rfl:=Option.some.inj H
      have p328:0 ≤ (x5_1:Int):=of_decide_eq_true zb10
      have q328:x5_1 < (l0.length:Int):=of_decide_eq_true zb10
      obtain ⟨ad328,e328,hx328_0⟩:=Kd.at_int HR0.out x5_1 p328 q328
      cases e328
      replace p328:=eq_true p328
      replace q328:=eq_true q328
      have p329:0 ≤ (x5_1:Int):=of_decide_eq_true zb10
      have q329:x5_1 < (l1.length:Int):=of_decide_eq_true zb10
      obtain ⟨ad329,e329,hx329_0⟩:=Kd.at_int HR1.out x5_1 p329 q329
      cases e329
      replace p329:=eq_true p329
      replace q329:=eq_true q329
      go_wp2
      repeat (go_quiet (fail);try go_wp2)
      go_ret
      exact ⟨zb8,zb13⟩
     rw [if_pos c7] at H
     have c7b0:=beq_iff_eq.mpr c7
     have c7b1:=bne_eq_false_iff_eq.mpr c7
     clear c7
     have H' := Aside0.mk H
     clear H
     have p328:0 ≤ (x5_1:Int):=of_decide_eq_true zb10
     have q328:x5_1 < (l0.length:Int):=of_decide_eq_true zb10
     obtain ⟨ad328,e328,hx328_0⟩:=Kd.at_int HR0.out x5_1 p328 q328
     cases e328
     replace p328:=eq_true p328
     replace q328:=eq_true q328
     have p329:0 ≤ (x5_1:Int):=of_decide_eq_true zb10
     have q329:x5_1 < (l1.length:Int):=of_decide_eq_true zb10
     obtain ⟨ad329,e329,hx329_0⟩:=Kd.at_int HR1.out x5_1 p329 q329
     cases e329
     replace p329:=eq_true p329
     replace q329:=eq_true q329
     go_wp2
     repeat (go_quiet (fail);try go_wp2)
     go_roundg k1
     case measure=>have:=HK1.out;omega
     case rel=>exact ⟨(wrap64 (x5_1 + 1)),zb8,H',⟨zb97⟩,zb13⟩
    ·rw [if_neg c5] at H
     exact absurd H zb55
   ·rw [if_neg c4] at H
    have c4b0:=decide_eq_false c4
    clear c4
    obtain rfl:=Option.some.inj H
    go_wp2
    repeat (go_quiet (fail);try go_wp2)
    go_ret
    exact ⟨zb8,zb13⟩
end Go.Proofs.YtagffbblalldiaaGreatDoor.P
