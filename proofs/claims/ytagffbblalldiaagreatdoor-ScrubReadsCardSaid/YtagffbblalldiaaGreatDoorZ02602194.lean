/- Each function below answers as its Lean twin says; plain lemmas; a row where its theorem stands. No further condition. (Laid by this repo's pack.py out of its texts and of the print's words.) -/
import Derived.Test.YtagffbblalldiaaGreatDoorZ3d8491c0
namespace Go.Proofs.YtagffbblalldiaaGreatDoor.P
open Go.RowKit Go.Proofs.YtagffbblalldiaaGreatDoorW.PrintWords Go.Proofs.YtagffbblalldiaaGreatDoorW.PrintLast Go.Proofs.YtagffbblalldiaaGreatDoorW.PrintMore
attribute [local go_sem] max2_int min2_int max_two min_two max_three min_three max_four min_four
set_option linter.unusedVariables false
set_option linter.unusedSimpArgs false
def tollbarref04_Same.l0:Nat → List (S36) → List (S36) → Int → Option (Bool)
 | 0,_,_,_=>none
 | k + 1,x0,x1,x5=>if x5 < (x0.length:Int) then (if 0 ≤ x5 then (if x5 < (x1.length:Int) then (if ((rd_T36 x0 x5).f0).toList=((rd_T36 x1 x5).f0).toList then (if ((rd_T36 x0 x5).f1).toList=((rd_T36 x1 x5).f1).toList then (tollbarref04_Same.l0 k x0 x1 (wrap64 (x5 + 1))) else (some false)) else (some false)) else (none)) else (none)) else (some true)
def tollbarref04_Same.f (k:Nat) (l0:List (S36)) (l1:List (S36)):Option (Bool):=if (l0.length:Int)=(l1.length:Int) then (tollbarref04_Same.l0 k l0 l1 0) else (some false)
set_option maxHeartbeats 8000000 in
set_option maxRecDepth 100000 in
theorem tollbarref04_Same.calls (k:Nat) (A0:Option Addr) (c0:Nat) (l0:List (S36)) (A1:Option Addr) (c1:Nat) (l1:List (S36)) (r:Bool) (w:World) (hr0:Kd.C k36 w A0 l0.length l0) (hc0:l0.length ≤ c0) (hr1:Kd.C k36 w A1 l1.length l1) (hc1:l1.length ≤ c1) (h:tollbarref04_Same.f k l0 l1=some r) :
 Calls Tryz.prog 26 #[.slice A0 l0.length c0,.slice A1 l1.length c1] w fun e w' => e = .returned (.bool r)∧Drawn0 w w' := by
 have HR0:=Aside0.mk hr0
 have HC0:=Aside0.mk hc0
 clear hr0 hc0
 have HR1:=Aside0.mk hr1
 have HC1:=Aside0.mk hc1
 clear hr1 hc1
 unfold tollbarref04_Same.f at h
 have H:=h
 clear h
 by_cases c3:(l0.length:Int)=(l1.length:Int);rotate_left
 ·rw [if_neg c3] at H
  have c3b0:=beq_eq_false_iff_ne.mpr c3
  have c3b1:=bne_iff_ne.mpr c3
  have c3b2:(l0.length == l1.length)=false:=by first|simpa using c3|(simp at c3 ⊢;omega)
  obtain rfl:=Option.some.inj H
  go_enter Tryz.func26,Tryz.ntmps26
  go_wp2
  repeat (go_quiet (fail);try go_wp2)
  go_ret
  exact ⟨zb5,zb9⟩
 rw [if_pos c3] at H
 have c3b0:=beq_iff_eq.mpr c3
 have c3b1:=bne_eq_false_iff_eq.mpr c3
 have c3b2:(l0.length == l1.length)=true:=by first|simpa using c3|(simp at c3 ⊢;omega)
 clear c3
 have H' := Aside0.mk H
 clear H
 go_enter Tryz.func26,Tryz.ntmps26
 go_wp2
 repeat (go_quiet (fail);try go_wp2)
 go_loopg [5] k (fun kq v5 w' => ∃ (x5_1:Int),v5 = .int .i64 x5_1∧Aside0 (tollbarref04_Same.l0 kq l0 l1 x5_1=some r)∧Aside0 (kq ≤ k)∧Drawn0 w w')
 case atStart=>exact ⟨(0),zb5,H',⟨Nat.le_refl _⟩,zb9⟩
 case round =>
  clear H'
  try clear c1
  try clear c2
  try clear p2
  try clear c3
  try clear c3b0
  try clear c3b1
  try clear c3b2
  obtain ⟨x5_1,rfl,HA,HK1,⟨m1,rfl⟩⟩:=hrel
  cases gk with
  | zero=>exact absurd HA.out (by simp [tollbarref04_Same.l0])
  | succ k1 =>
   have H:=HA.out
   clear HA
   simp only [tollbarref04_Same.l0] at H
   by_cases c4:x5_1 < (l0.length:Int)
   ·rw [if_pos c4] at H
    have c4b0:=decide_eq_true c4
    clear c4
    by_cases c5:0 ≤ x5_1
    ·rw [if_pos c5] at H
     have c5b0:=decide_eq_true c5
     clear c5
     by_cases c6:x5_1 < (l1.length:Int);rotate_left
     ·rw [if_neg c6] at H
      exact absurd H zb44
     rw [if_pos c6] at H
     have c6b0:=decide_eq_true c6
     clear c6
     by_cases c7:((rd_T36 l0 x5_1).f0).toList=((rd_T36 l1 x5_1).f0).toList;rotate_left
     ·rw [if_neg c7] at H
      have c7b0:=beq_eq_false_iff_ne.mpr c7
      have c7b1:=bne_iff_ne.mpr c7
      obtain rfl:=Option.some.inj H
      have p564:0 ≤ (x5_1:Int):=of_decide_eq_true zb3
      have q564:x5_1 < (l0.length:Int):=of_decide_eq_true zb3
      obtain ⟨ad564,e564,hx564_0,hx564_1⟩:=at_T36 HR0.out x5_1 p564 q564
      cases e564
      replace p564:=eq_true p564
      replace q564:=eq_true q564
      have p565:0 ≤ (x5_1:Int):=of_decide_eq_true zb3
      have q565:x5_1 < (l1.length:Int):=of_decide_eq_true zb3
      obtain ⟨ad565,e565,hx565_0,hx565_1⟩:=at_T36 HR1.out x5_1 p565 q565
      cases e565
      replace p565:=eq_true p565
      replace q565:=eq_true q565
      go_wp2
      repeat (go_quiet (fail);try go_wp2)
      go_ret
      exact ⟨zb5,zb9⟩
     rw [if_pos c7] at H
     have c7b0:=beq_iff_eq.mpr c7
     have c7b1:=bne_eq_false_iff_eq.mpr c7
     clear c7
     by_cases c8:((rd_T36 l0 x5_1).f1).toList=((rd_T36 l1 x5_1).f1).toList;rotate_left
     ·rw [if_neg c8] at H
      have c8b0:=beq_eq_false_iff_ne.mpr c8
      have c8b1:=bne_iff_ne.mpr c8
      obtain rfl:=Option.some.inj H
      have p564:0 ≤ (x5_1:Int):=of_decide_eq_true zb3
      have q564:x5_1 < (l0.length:Int):=of_decide_eq_true zb3
      obtain ⟨ad564,e564,hx564_0,hx564_1⟩:=at_T36 HR0.out x5_1 p564 q564
      cases e564
      replace p564:=eq_true p564
      replace q564:=eq_true q564
      have p565:0 ≤ (x5_1:Int):=of_decide_eq_true zb3
      have q565:x5_1 < (l1.length:Int):=of_decide_eq_true zb3
      obtain ⟨ad565,e565,hx565_0,hx565_1⟩:=at_T36 HR1.out x5_1 p565 q565
      cases e565
      replace p565:=eq_true p565
      replace q565:=eq_true q565
      have p566:0 ≤ (x5_1:Int):=of_decide_eq_true zb3
      have q566:x5_1 < (l0.length:Int):=of_decide_eq_true zb3
      obtain ⟨ad566,e566,hx566_0,hx566_1⟩:=at_T36 HR0.out x5_1 p566 q566
      obtain rfl:ad564=ad566:=(by injection e566)
      replace p566:=eq_true p566
      replace q566:=eq_true q566
      have p567:0 ≤ (x5_1:Int):=of_decide_eq_true zb3
      have q567:x5_1 < (l1.length:Int):=of_decide_eq_true zb3
      obtain ⟨ad567,e567,hx567_0,hx567_1⟩:=at_T36 HR1.out x5_1 p567 q567
      obtain rfl:ad565=ad567:=(by injection e567)
      replace p567:=eq_true p567
      replace q567:=eq_true q567
      go_wp2
      repeat (go_quiet (fail);try go_wp2)
      go_ret
      exact ⟨zb5,zb9⟩
     rw [if_pos c8] at H
     have c8b0:=beq_iff_eq.mpr c8
     have c8b1:=bne_eq_false_iff_eq.mpr c8
     clear c8
     have H' := Aside0.mk H
     clear H
     have p564:0 ≤ (x5_1:Int):=of_decide_eq_true zb3
     have q564:x5_1 < (l0.length:Int):=of_decide_eq_true zb3
     obtain ⟨ad564,e564,hx564_0,hx564_1⟩:=at_T36 HR0.out x5_1 p564 q564
     cases e564
     replace p564:=eq_true p564
     replace q564:=eq_true q564
     have p565:0 ≤ (x5_1:Int):=of_decide_eq_true zb3
     have q565:x5_1 < (l1.length:Int):=of_decide_eq_true zb3
     obtain ⟨ad565,e565,hx565_0,hx565_1⟩:=at_T36 HR1.out x5_1 p565 q565
     cases e565
     replace p565:=eq_true p565
     replace q565:=eq_true q565
     have p566:0 ≤ (x5_1:Int):=of_decide_eq_true zb3
     have q566:x5_1 < (l0.length:Int):=of_decide_eq_true zb3
     obtain ⟨ad566,e566,hx566_0,hx566_1⟩:=at_T36 HR0.out x5_1 p566 q566
     obtain rfl:ad564=ad566:=(by injection e566)
     replace p566:=eq_true p566
     replace q566:=eq_true q566
     have p567:0 ≤ (x5_1:Int):=of_decide_eq_true zb3
     have q567:x5_1 < (l1.length:Int):=of_decide_eq_true zb3
     obtain ⟨ad567,e567,hx567_0,hx567_1⟩:=at_T36 HR1.out x5_1 p567 q567
     obtain rfl:ad565=ad567:=(by injection e567)
     replace p567:=eq_true p567
     replace q567:=eq_true q567
     go_wp2
     repeat (go_quiet (fail);try go_wp2)
     go_roundg k1
     case measure=>have:=HK1.out;omega
     case rel=>exact ⟨(wrap64 (x5_1 + 1)),zb5,H',⟨zb135⟩,zb9⟩
    ·rw [if_neg c5] at H
     exact absurd H zb44
   ·rw [if_neg c4] at H
    have c4b0:=decide_eq_false c4
    clear c4
    obtain rfl:=Option.some.inj H
    go_wp2
    repeat (go_quiet (fail);try go_wp2)
    go_ret
    exact ⟨zb5,zb9⟩
def tollbarref01_SameBytes.l0:Nat → List Int → List Int → Int → Option (Bool)
 | 0,_,_,_=>none
 | k + 1,x0,x1,x5=>if x5 < (x0.length:Int) then (if 0 ≤ x5 then (if x5 < (x1.length:Int) then (if (rd x0 x5)=(rd x1 x5) then (tollbarref01_SameBytes.l0 k x0 x1 (wrap64 (x5 + 1))) else (some false)) else (none)) else (none)) else (some true)
def tollbarref01_SameBytes.f (k:Nat) (l0:List Int) (l1:List Int):Option (Bool):=if (l0.length:Int)=(l1.length:Int) then (tollbarref01_SameBytes.l0 k l0 l1 0) else (some false)
set_option maxHeartbeats 8000000 in
set_option maxRecDepth 100000 in
theorem tollbarref01_SameBytes.calls (k:Nat) (A0:Option Addr) (c0:Nat) (l0:List Int) (A1:Option Addr) (c1:Nat) (l1:List Int) (r:Bool) (w:World) (hr0:Kd.C (Kd.int .u8) w A0 l0.length l0) (hc0:l0.length ≤ c0) (hr1:Kd.C (Kd.int .u8) w A1 l1.length l1) (hc1:l1.length ≤ c1) (h:tollbarref01_SameBytes.f k l0 l1=some r) :
 Calls Tryz.prog 25 #[.slice A0 l0.length c0,.slice A1 l1.length c1] w fun e w' => e = .returned (.bool r)∧Drawn0 w w' := by
 have HR0:=Aside0.mk hr0
 have HC0:=Aside0.mk hc0
 clear hr0 hc0
 have HR1:=Aside0.mk hr1
 have HC1:=Aside0.mk hc1
 clear hr1 hc1
 unfold tollbarref01_SameBytes.f at h
 have H:=h
 clear h
 by_cases c3:(l0.length:Int)=(l1.length:Int);rotate_left
 ·rw [if_neg c3] at H
  have c3b0:=beq_eq_false_iff_ne.mpr c3
  have c3b1:=bne_iff_ne.mpr c3
  have c3b2:(l0.length == l1.length)=false:=by first|simpa using c3|(simp at c3 ⊢;omega)
  obtain rfl:=Option.some.inj H
  go_enter Tryz.func25,Tryz.ntmps25
  go_wp2
  repeat (go_quiet (fail);try go_wp2)
  go_ret
  exact ⟨zb5,zb9⟩
 rw [if_pos c3] at H
 have c3b0:=beq_iff_eq.mpr c3
 have c3b1:=bne_eq_false_iff_eq.mpr c3
 have c3b2:(l0.length == l1.length)=true:=by first|simpa using c3|(simp at c3 ⊢;omega)
 clear c3
 have H' := Aside0.mk H
 clear H
 go_enter Tryz.func25,Tryz.ntmps25
 go_wp2
 repeat (go_quiet (fail);try go_wp2)
 go_loopg [5] k (fun kq v5 w' => ∃ (x5_1:Int),v5 = .int .i64 x5_1∧Aside0 (tollbarref01_SameBytes.l0 kq l0 l1 x5_1=some r)∧Aside0 (kq ≤ k)∧Drawn0 w w')
 case atStart=>exact ⟨(0),zb5,H',⟨Nat.le_refl _⟩,zb9⟩
 case round =>
  clear H'
  try clear c1
  try clear c2
  try clear p2
  try clear c3
  try clear c3b0
  try clear c3b1
  try clear c3b2
  obtain ⟨x5_1,rfl,HA,HK1,⟨m1,rfl⟩⟩:=hrel
  cases gk with
  | zero=>exact absurd HA.out (by simp [tollbarref01_SameBytes.l0])
  | succ k1 =>
   have H:=HA.out
   clear HA
   simp only [tollbarref01_SameBytes.l0] at H
   by_cases c4:x5_1 < (l0.length:Int)
   ·rw [if_pos c4] at H
    have c4b0:=decide_eq_true c4
    clear c4
    by_cases c5:0 ≤ x5_1
    ·rw [if_pos c5] at H
     have c5b0:=decide_eq_true c5
     clear c5
     by_cases c6:x5_1 < (l1.length:Int);rotate_left
     ·rw [if_neg c6] at H
      exact absurd H zb44
     rw [if_pos c6] at H
     have c6b0:=decide_eq_true c6
     clear c6
     by_cases c7:(rd l0 x5_1)=(rd l1 x5_1);rotate_left
     ·rw [if_neg c7] at H
      have c7b0:=beq_eq_false_iff_ne.mpr c7
      have c7b1:=bne_iff_ne.mpr c7
      obtain rfl:=Option.some.inj H
      have p328:0 ≤ (x5_1:Int):=of_decide_eq_true zb3
      have q328:x5_1 < (l0.length:Int):=of_decide_eq_true zb3
      obtain ⟨ad328,e328,hx328_0⟩:=Kd.at_int HR0.out x5_1 p328 q328
      cases e328
      replace p328:=eq_true p328
      replace q328:=eq_true q328
      have p329:0 ≤ (x5_1:Int):=of_decide_eq_true zb3
      have q329:x5_1 < (l1.length:Int):=of_decide_eq_true zb3
      obtain ⟨ad329,e329,hx329_0⟩:=Kd.at_int HR1.out x5_1 p329 q329
      cases e329
      replace p329:=eq_true p329
      replace q329:=eq_true q329
      go_wp2
      repeat (go_quiet (fail);try go_wp2)
      go_ret
      exact ⟨zb5,zb9⟩
     rw [if_pos c7] at H
     have c7b0:=beq_iff_eq.mpr c7
     have c7b1:=bne_eq_false_iff_eq.mpr c7
     clear c7
     have H' := Aside0.mk H
     clear H
     have p328:0 ≤ (x5_1:Int):=of_decide_eq_true zb3
     have q328:x5_1 < (l0.length:Int):=of_decide_eq_true zb3
     obtain ⟨ad328,e328,hx328_0⟩:=Kd.at_int HR0.out x5_1 p328 q328
     cases e328
     replace p328:=eq_true p328
     replace q328:=eq_true q328
     have p329:0 ≤ (x5_1:Int):=of_decide_eq_true zb3
     have q329:x5_1 < (l1.length:Int):=of_decide_eq_true zb3
     obtain ⟨ad329,e329,hx329_0⟩:=Kd.at_int HR1.out x5_1 p329 q329
     cases e329
     replace p329:=eq_true p329
     replace q329:=eq_true q329
     go_wp2
     repeat (go_quiet (fail);try go_wp2)
     go_roundg k1
     case measure=>have:=HK1.out;omega
     case rel=>exact ⟨(wrap64 (x5_1 + 1)),zb5,H',⟨zb135⟩,zb9⟩
    ·rw [if_neg c5] at H
     exact absurd H zb44
   ·rw [if_neg c4] at H
    have c4b0:=decide_eq_false c4
    clear c4
    obtain rfl:=Option.some.inj H
    go_wp2
    repeat (go_quiet (fail);try go_wp2)
    go_ret
    exact ⟨zb5,zb9⟩
def tollbarref08_SameReq.f (k:Nat) (a0_0:ByteArray) (a0_1:ByteArray) (a0_2:Int) (l0_3:List (S36)) (l0_4:List Int) (a1_0:ByteArray) (a1_1:ByteArray) (a1_2:Int) (l1_3:List (S36)) (l1_4:List Int):Option (Bool):=if a0_0.toList=a1_0.toList then (if a0_1.toList=a1_1.toList then (if a0_2=a1_2 then ((tollbarref04_Same.f k l0_3 l1_3).bind fun t570=>(if t570=true then ((tollbarref01_SameBytes.f k l0_4 l1_4).bind fun t571=>(some t571)) else (some false))) else (some false)) else (some false)) else (some false)
set_option maxHeartbeats 8000000 in
set_option maxRecDepth 100000 in
theorem tollbarref08_SameReq.calls (k:Nat) (a0_0:ByteArray) (a0_1:ByteArray) (a0_2:Int) (A0_3:Option Addr) (c0_3:Nat) (l0_3:List (S36)) (A0_4:Option Addr) (c0_4:Nat) (l0_4:List Int) (a1_0:ByteArray) (a1_1:ByteArray) (a1_2:Int) (A1_3:Option Addr) (c1_3:Nat) (l1_3:List (S36)) (A1_4:Option Addr) (c1_4:Nat) (l1_4:List Int) (r:Bool) (w:World) (hr0_3:Kd.C k36 w A0_3 l0_3.length l0_3) (hc0_3:l0_3.length ≤ c0_3) (hr0_4:Kd.C (Kd.int .u8) w A0_4 l0_4.length l0_4) (hc0_4:l0_4.length ≤ c0_4) (hr1_3:Kd.C k36 w A1_3 l1_3.length l1_3) (hc1_3:l1_3.length ≤ c1_3) (hr1_4:Kd.C (Kd.int .u8) w A1_4 l1_4.length l1_4) (hc1_4:l1_4.length ≤ c1_4) (h:tollbarref08_SameReq.f k a0_0 a0_1 a0_2 l0_3 l0_4 a1_0 a1_1 a1_2 l1_3 l1_4=some r) :
 Calls Tryz.prog 16 #[.agg #[.string a0_0,.string a0_1,.int .i64 a0_2,.slice A0_3 l0_3.length c0_3,.slice A0_4 l0_4.length c0_4],.agg #[.string a1_0,.string a1_1,.int .i64 a1_2,.slice A1_3 l1_3.length c1_3,.slice A1_4 l1_4.length c1_4]] w fun e w' => e = .returned (.bool r)∧Below w.heap.size w w' := by
 have hu26:=Tryz.underlying26
 have HR0_3:=Aside0.mk hr0_3
 have HC0_3:=Aside0.mk hc0_3
 clear hr0_3 hc0_3
 have HR0_4:=Aside0.mk hr0_4
 have HC0_4:=Aside0.mk hc0_4
 clear hr0_4 hc0_4
 have HR1_3:=Aside0.mk hr1_3
 have HC1_3:=Aside0.mk hc1_3
 clear hr1_3 hc1_3
 have HR1_4:=Aside0.mk hr1_4
 have HC1_4:=Aside0.mk hc1_4
 clear hr1_4 hc1_4
 have HB:=Aside0.mk (Below.refl w.heap.size w)
 unfold tollbarref08_SameReq.f at h
 have H:=h
 clear h
 by_cases c3:a0_0.toList=a1_0.toList;rotate_left
 ·rw [if_neg c3] at H
  have c3b0:=beq_eq_false_iff_ne.mpr c3
  have c3b1:=bne_iff_ne.mpr c3
  obtain rfl:=Option.some.inj H
  go_enter Tryz.func16,Tryz.ntmps16
  go_wp2_with (first|((with_reducible refine gate_dst (N:=2) rfl ?_);refine box_event rfl (N:=2) rfl (cs:=#[.string a0_0,.string a0_1,.int .i64 a0_2,.slice A0_3 l0_3.length c0_3,.slice A0_4 l0_4.length c0_4]) (t:=26) zS ?_;intro gb34 hg w29 hbox hb;have GW34:=zG hg zb0;have GE34:=GW34;have BK34:=Aside0.mk hbox;replace HB:=Aside0.mk (below_step zb0 hb);clear hb hbox hg)|((with_reducible refine gate_dst (N:=3) rfl ?_);refine box_event rfl (N:=3) rfl (cs:=#[.string a1_0,.string a1_1,.int .i64 a1_2,.slice A1_3 l1_3.length c1_3,.slice A1_4 l1_4.length c1_4]) (t:=26) zS ?_;intro gb35 hg w30 hbox hb;have BK35:=Aside0.mk (hbox);have GW35:=zG hg zb31;have GE35:=GW35;replace HB:=Aside0.mk (below_step zb31 hb);have NB34_569:=Aside0.mk ((by rw [hg];exact Nat.ne_of_lt (blk_lt (g:=gb34) (o:=.cells #[.string a0_0,.string a0_1,.int .i64 a0_2,.slice A0_3 l0_3.length c0_3,.slice A0_4 l0_4.length c0_4] 26 (0,0)) zb26):gb34 ≠ gb35));have NB35_568:=Aside0.mk ((by rw [hg];exact Nat.ne_of_gt (blk_lt (g:=gb34) (o:=.cells #[.string a0_0,.string a0_1,.int .i64 a0_2,.slice A0_3 l0_3.length c0_3,.slice A0_4 l0_4.length c0_4] 26 (0,0)) zb26):gb35 ≠ gb34));replace BK34:=Aside0.mk (blk_below (g:=gb34) (o:=.cells #[.string a0_0,.string a0_1,.int .i64 a0_2,.slice A0_3 l0_3.length c0_3,.slice A0_4 l0_4.length c0_4] 26 (0,0)) zb26 hb);clear hb hbox hg;have hnb31:=NB34_569.out;have hnc31:=NB35_568.out;obtain ⟨hcz32_0,hcz32_1,hcz32_2,hcz32_3,hcz32_4,hfz32_0,hfz32_1,hfz32_2,hfz32_3,hfz32_4⟩:=zq5 BK34.out;obtain ⟨hcz33_0,hcz33_1,hcz33_2,hcz33_3,hcz33_4,hfz33_0,hfz33_1,hfz33_2,hfz33_3,hfz33_4⟩:=zq5 BK35.out))
  go_ret
  exact ⟨zb2,zb41⟩
 rw [if_pos c3] at H
 have c3b0:=beq_iff_eq.mpr c3
 have c3b1:=bne_eq_false_iff_eq.mpr c3
 clear c3
 by_cases c4:a0_1.toList=a1_1.toList
 ·rw [if_pos c4] at H
  have c4b0:=beq_iff_eq.mpr c4
  have c4b1:=bne_eq_false_iff_eq.mpr c4
  clear c4
  by_cases c5:a0_2=a1_2;rotate_left
  ·rw [if_neg c5] at H
   have c5b0:=beq_eq_false_iff_ne.mpr c5
   have c5b1:=bne_iff_ne.mpr c5
   obtain rfl:=Option.some.inj H
   go_enter Tryz.func16,Tryz.ntmps16
   go_wp2_with (first|((with_reducible refine gate_dst (N:=2) rfl ?_);refine box_event rfl (N:=2) rfl (cs:=#[.string a0_0,.string a0_1,.int .i64 a0_2,.slice A0_3 l0_3.length c0_3,.slice A0_4 l0_4.length c0_4]) (t:=26) zS ?_;intro gb34 hg w19 hbox hb;have GW34:=zG hg zb0;have GE34:=GW34;have BK34:=Aside0.mk hbox;replace HB:=Aside0.mk (below_step zb0 hb);clear hb hbox hg)|((with_reducible refine gate_dst (N:=3) rfl ?_);refine box_event rfl (N:=3) rfl (cs:=#[.string a1_0,.string a1_1,.int .i64 a1_2,.slice A1_3 l1_3.length c1_3,.slice A1_4 l1_4.length c1_4]) (t:=26) zS ?_;intro gb35 hg w20 hbox hb;have BK35:=Aside0.mk (hbox);have GW35:=zG hg zb31;have GE35:=GW35;replace HB:=Aside0.mk (below_step zb31 hb);have NB34_569:=Aside0.mk ((by rw [hg];exact Nat.ne_of_lt (blk_lt (g:=gb34) (o:=.cells #[.string a0_0,.string a0_1,.int .i64 a0_2,.slice A0_3 l0_3.length c0_3,.slice A0_4 l0_4.length c0_4] 26 (0,0)) zb26):gb34 ≠ gb35));have NB35_568:=Aside0.mk ((by rw [hg];exact Nat.ne_of_gt (blk_lt (g:=gb34) (o:=.cells #[.string a0_0,.string a0_1,.int .i64 a0_2,.slice A0_3 l0_3.length c0_3,.slice A0_4 l0_4.length c0_4] 26 (0,0)) zb26):gb35 ≠ gb34));replace BK34:=Aside0.mk (blk_below (g:=gb34) (o:=.cells #[.string a0_0,.string a0_1,.int .i64 a0_2,.slice A0_3 l0_3.length c0_3,.slice A0_4 l0_4.length c0_4] 26 (0,0)) zb26 hb);clear hb hbox hg;have hnb21:=NB34_569.out;have hnc21:=NB35_568.out;obtain ⟨hcz22_0,hcz22_1,hcz22_2,hcz22_3,hcz22_4,hfz22_0,hfz22_1,hfz22_2,hfz22_3,hfz22_4⟩:=zq5 BK34.out;obtain ⟨hcz23_0,hcz23_1,hcz23_2,hcz23_3,hcz23_4,hfz23_0,hfz23_1,hfz23_2,hfz23_3,hfz23_4⟩:=zq5 BK35.out))
   go_ret
   exact ⟨zb2,zb41⟩
  rw [if_pos c5] at H
  have c5b0:=beq_iff_eq.mpr c5
  have c5b1:=bne_eq_false_iff_eq.mpr c5
  clear c5
  replace H:=Option.bind_eq_some_iff.mp H
  obtain ⟨t38,A60,H⟩:=H
  try dsimp only at H
  have A6:=Aside0.mk A60
  clear A60
  by_cases c7:t38=true
  ·subst c7
   rw [if_pos rfl] at H
   replace H:=Option.bind_eq_some_iff.mp H
   obtain ⟨t37,A80,H⟩:=H
   try dsimp only at H
   have A8:=Aside0.mk A80
   clear A80
   obtain rfl:=Option.some.inj H
   go_enter Tryz.func16,Tryz.ntmps16
   go_wp2_with (first|((with_reducible refine gate_dst (N:=2) rfl ?_);refine box_event rfl (N:=2) rfl (cs:=#[.string a0_0,.string a0_1,.int .i64 a0_2,.slice A0_3 l0_3.length c0_3,.slice A0_4 l0_4.length c0_4]) (t:=26) zS ?_;intro gb34 hg w9 hbox hb;have GW34:=zG hg zb0;have GE34:=GW34;have BK34:=Aside0.mk hbox;replace HB:=Aside0.mk (below_step zb0 hb);clear hb hbox hg)|((with_reducible refine gate_dst (N:=3) rfl ?_);refine box_event rfl (N:=3) rfl (cs:=#[.string a1_0,.string a1_1,.int .i64 a1_2,.slice A1_3 l1_3.length c1_3,.slice A1_4 l1_4.length c1_4]) (t:=26) zS ?_;intro gb35 hg w10 hbox hb;have BK35:=Aside0.mk (hbox);have GW35:=zG hg zb31;have GE35:=GW35;replace HB:=Aside0.mk (below_step zb31 hb);have NB34_569:=Aside0.mk ((by rw [hg];exact Nat.ne_of_lt (blk_lt (g:=gb34) (o:=.cells #[.string a0_0,.string a0_1,.int .i64 a0_2,.slice A0_3 l0_3.length c0_3,.slice A0_4 l0_4.length c0_4] 26 (0,0)) zb26):gb34 ≠ gb35));have NB35_568:=Aside0.mk ((by rw [hg];exact Nat.ne_of_gt (blk_lt (g:=gb34) (o:=.cells #[.string a0_0,.string a0_1,.int .i64 a0_2,.slice A0_3 l0_3.length c0_3,.slice A0_4 l0_4.length c0_4] 26 (0,0)) zb26):gb35 ≠ gb34));replace BK34:=Aside0.mk (blk_below (g:=gb34) (o:=.cells #[.string a0_0,.string a0_1,.int .i64 a0_2,.slice A0_3 l0_3.length c0_3,.slice A0_4 l0_4.length c0_4] 26 (0,0)) zb26 hb);clear hb hbox hg;have hnb11:=NB34_569.out;have hnc11:=NB35_568.out;obtain ⟨hcz12_0,hcz12_1,hcz12_2,hcz12_3,hcz12_4,hfz12_0,hfz12_1,hfz12_2,hfz12_3,hfz12_4⟩:=zq5 BK34.out;obtain ⟨hcz13_0,hcz13_1,hcz13_2,hcz13_3,hcz13_4,hfz13_0,hfz13_1,hfz13_2,hfz13_3,hfz13_4⟩:=zq5 BK35.out)|(go_at_call 26;(with_reducible refine (tollbarref04_Same.calls k _ _ l0_3 _ _ l1_3 true _ ?side1 ?side2 ?side3 ?side4 A6.out).mono ?_);(case side1=>exact zb35);(case side2=>exact HC0_3.out);(case side3=>exact zb25);(case side4=>exact HC1_3.out);rintro e w' ⟨rfl,⟨nd,rfl⟩⟩;(try clear A6))|(go_at_call 25;(with_reducible refine (tollbarref01_SameBytes.calls k _ _ l0_4 _ _ l1_4 t37 _ ?side1 ?side2 ?side3 ?side4 A8.out).mono ?_);(case side1=>repeat (first|exact (Kd.C_below HR0_4.out zb41)|(with_reducible refine Kd.C_alloc ?_ _)|(with_reducible refine Kd.C_drewN ?_ _)|(with_reducible refine Kd.C_drew ?_)));(case side2=>exact HC0_4.out);(case side3=>repeat (first|exact (Kd.C_below HR1_4.out zb41)|(with_reducible refine Kd.C_alloc ?_ _)|(with_reducible refine Kd.C_drewN ?_ _)|(with_reducible refine Kd.C_drew ?_)));(case side4=>exact HC1_4.out);rintro e w' ⟨rfl,⟨nd,rfl⟩⟩;(try clear A8)))
   go_ret
   exact ⟨zb2,zb41⟩
  ·replace c7:=Bool.eq_false_iff.mpr c7
   subst c7
   rw [if_neg (show ¬ (false=true) by decide)] at H
   obtain rfl:=Option.some.inj H
   go_enter Tryz.func16,Tryz.ntmps16
   go_wp2_with (first|((with_reducible refine gate_dst (N:=2) rfl ?_);refine box_event rfl (N:=2) rfl (cs:=#[.string a0_0,.string a0_1,.int .i64 a0_2,.slice A0_3 l0_3.length c0_3,.slice A0_4 l0_4.length c0_4]) (t:=26) zS ?_;intro gb34 hg w14 hbox hb;have GW34:=zG hg zb0;have GE34:=GW34;have BK34:=Aside0.mk hbox;replace HB:=Aside0.mk (below_step zb0 hb);clear hb hbox hg)|((with_reducible refine gate_dst (N:=3) rfl ?_);refine box_event rfl (N:=3) rfl (cs:=#[.string a1_0,.string a1_1,.int .i64 a1_2,.slice A1_3 l1_3.length c1_3,.slice A1_4 l1_4.length c1_4]) (t:=26) zS ?_;intro gb35 hg w15 hbox hb;have BK35:=Aside0.mk (hbox);have GW35:=zG hg zb31;have GE35:=GW35;replace HB:=Aside0.mk (below_step zb31 hb);have NB34_569:=Aside0.mk ((by rw [hg];exact Nat.ne_of_lt (blk_lt (g:=gb34) (o:=.cells #[.string a0_0,.string a0_1,.int .i64 a0_2,.slice A0_3 l0_3.length c0_3,.slice A0_4 l0_4.length c0_4] 26 (0,0)) zb26):gb34 ≠ gb35));have NB35_568:=Aside0.mk ((by rw [hg];exact Nat.ne_of_gt (blk_lt (g:=gb34) (o:=.cells #[.string a0_0,.string a0_1,.int .i64 a0_2,.slice A0_3 l0_3.length c0_3,.slice A0_4 l0_4.length c0_4] 26 (0,0)) zb26):gb35 ≠ gb34));replace BK34:=Aside0.mk (blk_below (g:=gb34) (o:=.cells #[.string a0_0,.string a0_1,.int .i64 a0_2,.slice A0_3 l0_3.length c0_3,.slice A0_4 l0_4.length c0_4] 26 (0,0)) zb26 hb);clear hb hbox hg;have hnb16:=NB34_569.out;have hnc16:=NB35_568.out;obtain ⟨hcz17_0,hcz17_1,hcz17_2,hcz17_3,hcz17_4,hfz17_0,hfz17_1,hfz17_2,hfz17_3,hfz17_4⟩:=zq5 BK34.out;obtain ⟨hcz18_0,hcz18_1,hcz18_2,hcz18_3,hcz18_4,hfz18_0,hfz18_1,hfz18_2,hfz18_3,hfz18_4⟩:=zq5 BK35.out)|(go_at_call 26;(with_reducible refine (tollbarref04_Same.calls k _ _ l0_3 _ _ l1_3 false _ ?side1 ?side2 ?side3 ?side4 A6.out).mono ?_);(case side1=>exact zb35);(case side2=>exact HC0_3.out);(case side3=>exact zb25);(case side4=>exact HC1_3.out);rintro e w' ⟨rfl,⟨nd,rfl⟩⟩;(try clear A6)))
   go_ret
   exact ⟨zb2,zb41⟩
 ·rw [if_neg c4] at H
  have c4b0:=beq_eq_false_iff_ne.mpr c4
  have c4b1:=bne_iff_ne.mpr c4
  obtain rfl:=Option.some.inj H
  go_enter Tryz.func16,Tryz.ntmps16
  go_wp2_with (first|((with_reducible refine gate_dst (N:=2) rfl ?_);refine box_event rfl (N:=2) rfl (cs:=#[.string a0_0,.string a0_1,.int .i64 a0_2,.slice A0_3 l0_3.length c0_3,.slice A0_4 l0_4.length c0_4]) (t:=26) zS ?_;intro gb34 hg w24 hbox hb;have GW34:=zG hg zb0;have GE34:=GW34;have BK34:=Aside0.mk hbox;replace HB:=Aside0.mk (below_step zb0 hb);clear hb hbox hg)|((with_reducible refine gate_dst (N:=3) rfl ?_);refine box_event rfl (N:=3) rfl (cs:=#[.string a1_0,.string a1_1,.int .i64 a1_2,.slice A1_3 l1_3.length c1_3,.slice A1_4 l1_4.length c1_4]) (t:=26) zS ?_;intro gb35 hg w25 hbox hb;have BK35:=Aside0.mk (hbox);have GW35:=zG hg zb31;have GE35:=GW35;replace HB:=Aside0.mk (below_step zb31 hb);have NB34_569:=Aside0.mk ((by rw [hg];exact Nat.ne_of_lt (blk_lt (g:=gb34) (o:=.cells #[.string a0_0,.string a0_1,.int .i64 a0_2,.slice A0_3 l0_3.length c0_3,.slice A0_4 l0_4.length c0_4] 26 (0,0)) zb26):gb34 ≠ gb35));have NB35_568:=Aside0.mk ((by rw [hg];exact Nat.ne_of_gt (blk_lt (g:=gb34) (o:=.cells #[.string a0_0,.string a0_1,.int .i64 a0_2,.slice A0_3 l0_3.length c0_3,.slice A0_4 l0_4.length c0_4] 26 (0,0)) zb26):gb35 ≠ gb34));replace BK34:=Aside0.mk (blk_below (g:=gb34) (o:=.cells #[.string a0_0,.string a0_1,.int .i64 a0_2,.slice A0_3 l0_3.length c0_3,.slice A0_4 l0_4.length c0_4] 26 (0,0)) zb26 hb);clear hb hbox hg;have hnb26:=NB34_569.out;have hnc26:=NB35_568.out;obtain ⟨hcz27_0,hcz27_1,hcz27_2,hcz27_3,hcz27_4,hfz27_0,hfz27_1,hfz27_2,hfz27_3,hfz27_4⟩:=zq5 BK34.out;obtain ⟨hcz28_0,hcz28_1,hcz28_2,hcz28_3,hcz28_4,hfz28_0,hfz28_1,hfz28_2,hfz28_3,hfz28_4⟩:=zq5 BK35.out))
  go_ret
  exact ⟨zb2,zb41⟩
def tollbarref02_Digit.f (a0:Int):Option (Bool):=if a0 ≥ 48 then (some (decide (a0 ≤ 57))) else (some false)
end Go.Proofs.YtagffbblalldiaaGreatDoor.P
