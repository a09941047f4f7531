/- Each function below answers as its Lean twin says; plain lemmas; a row where its theorem stands. No further condition. (Laid by this repo's pack.py out of its texts and of the print's words.) -/
import Derived.Test.YtagffbblalldiaaGreatDoorZ3d8491c0
import Derived.Test.YtagffbblalldiaaGreatDoorZ819dcbb6
import Derived.Shelf.Strings.SlTrimAscii
import Derived.Shelf.Abstract
import Derived.Deep.RegionHeld3
namespace Go.Proofs.YtagffbblalldiaaGreatDoor.P
open Go.RowKit Go.Proofs.YtagffbblalldiaaGreatDoorW.PrintWords Go.Proofs.YtagffbblalldiaaGreatDoorW.PrintLast Go.Proofs.YtagffbblalldiaaGreatDoorW.PrintMore
attribute [local go_sem] max2_int min2_int max_two min_two max_three min_three max_four min_four
set_option linter.unusedVariables false
set_option linter.unusedSimpArgs false
mutual
def sign_number.l0:Nat → ByteArray → Int → Int → Int → Int → Int → Option (Int × Bool)
 | 0,_,_,_,_,_,_=>none
 | k + 1,x0,x1,x2,x8,x12,x13=>if x13 < x12 then (if 0 ≤ x13 then (if x13 ≤ (wrap64 (x13 + 1)) then (if (wrap64 (x13 + 1)) ≤ (x0.size:Int) then ((sign_Fold.f (x0.extract (x13:Int).toNat ((wrap64 (x13 + 1)):Int).toNat)).bind fun t107=>(if 0 < (t107.size:Int) then ((strings_IndexByte.f (⟨#[48,49,50,51,52,53,54,55,56,57,97,98,99,100,101,102]⟩:ByteArray) (bt t107 0)).bind fun t108=>(if t108 < 0 then (sign_number.j1 k x0 x1 x2 x8 x13 t108 x12 x13 true) else (sign_number.j1 k x0 x1 x2 x8 x13 t108 x12 x13 (decide (t108 ≥ x1))))) else (none))) else (none)) else (none)) else (none)) else (if x0.toList=([]:List UInt8) then (some (0,false)) else (if (x0.size:Int) > x2 then (some (0,false)) else (some (x8,true))))
def sign_number.j1:Nat → ByteArray → Int → Int → Int → Int → Int → Int → Int → Bool → Option (Int × Bool)
 | 0,_,_,_,_,_,_,_,_,_=>none
 | k + 1,x0,x1,x2,x8,x9,x10,x12,x13,x30=>if x30=true then (some (0,false)) else (if x9 < x2 then (sign_number.l0 k x0 x1 x2 (wrap64 ((wrap64 (x8 * x1)) + x10)) x12 (wrap64 (x13 + 1))) else (sign_number.l0 k x0 x1 x2 x8 x12 (wrap64 (x13 + 1))))
end
def sign_number.f (k:Nat) (a0:ByteArray) (a1:Int) (a2:Int):Option (Int × Bool):=sign_number.l0 k a0 a1 a2 0 (a0.size:Int) 0
set_option maxHeartbeats 8000000 in
set_option maxRecDepth 100000 in
theorem sign_number.calls (k:Nat) (a0:ByteArray) (a1:Int) (a2:Int) (r1:Int) (r2:Bool) (w:World) (h:sign_number.f k a0 a1 a2=some (r1,r2)) :
 Calls Tryz.prog 156 #[.string a0,.int .i64 a1,.int .i64 a2] w fun e w' => e = .returned (.tuple #[.int .i64 r1,.bool r2])∧Below w.heap.size w w' := by
 have HB:=Aside0.mk (Below.refl w.heap.size w)
 unfold sign_number.f at h
 have H:=h
 clear h
 have H' := Aside0.mk H
 clear H
 go_enter Tryz.func156,Tryz.ntmps156
 go_wp2
 go_loopg [8,13] k (fun kq v8 v13 w' => ∃ (x8_1:Int) (x13_1:Int),v8 = .int .i64 x8_1∧v13 = .int .i64 x13_1∧Aside0 (sign_number.l0 kq a0 a1 a2 x8_1 (a0.size:Int) x13_1=some (r1,r2))∧Aside0 (kq ≤ k)∧Aside0 (Below w.heap.size w w'))
 case atStart=>exact ⟨(0),(0),zb5,zb5,H',⟨Nat.le_refl _⟩,⟨zb0⟩⟩
 case round =>
  clear H'
  try clear c1
  try clear p2
  obtain ⟨x8_1,x13_1,rfl,rfl,HA,HK1,HB⟩:=hrel
  cases gk with
  | zero=>exact absurd HA.out (by simp [sign_number.l0])
  | succ k1 =>
   have H:=HA.out
   clear HA
   simp only [sign_number.l0] at H
   by_cases c4:x13_1 < (a0.size:Int);rotate_left
   ·rw [if_neg c4] at H
    have c4b0:=decide_eq_false c4
    clear c4
    by_cases c17:a0.toList=([]:List UInt8)
    ·rw [if_pos c17] at H
     have c17b0:=beq_iff_eq.mpr c17
     have c17b1:=bne_eq_false_iff_eq.mpr c17
     clear c17
     simp only [Option.some.injEq,Prod.mk.injEq] at H
     obtain ⟨rfl,rfl⟩:=H
     go_wp2
     go_ret2
     exact ⟨zb2,zb0⟩
    rw [if_neg c17] at H
    have c17b0:=beq_eq_false_iff_ne.mpr c17
    have c17b1:=bne_iff_ne.mpr c17
    by_cases c18:(a0.size:Int) > a2
    ·rw [if_pos c18] at H
     have c18b0:decide (a2 < (a0.size:Int))=true:=decide_eq_true c18
     clear c18
     simp only [Option.some.injEq,Prod.mk.injEq] at H
     obtain ⟨rfl,rfl⟩:=H
     go_wp2
     go_ret2
     exact ⟨zb2,zb0⟩
    rw [if_neg c18] at H
    have c18b0:decide (a2 < (a0.size:Int))=false:=decide_eq_false c18
    clear c18
    simp only [Option.some.injEq,Prod.mk.injEq] at H
    obtain ⟨rfl,rfl⟩:=H
    go_wp2
    go_ret2
    exact ⟨zb2,zb0⟩
   rw [if_pos c4] at H
   have c4b0:=decide_eq_true c4
   clear c4
   by_cases c5:0 ≤ x13_1
   ·rw [if_pos c5] at H
    have c5b0:=eq_true c5
    have c5b1:=decide_eq_true c5
    clear c5
    by_cases c6:x13_1 ≤ (wrap64 (x13_1 + 1))
    ·rw [if_pos c6] at H
     have c6b0:=eq_true c6
     have c6b1:=decide_eq_true c6
     by_cases c7:(wrap64 (x13_1 + 1)) ≤ (a0.size:Int)
     ·rw [if_pos c7] at H
      have c7b0:=eq_true c7
      have c7b1:=decide_eq_true c7
      replace H:=Option.bind_eq_some_iff.mp H
      obtain ⟨t107,A80,H⟩:=H
      try dsimp only at H
      have A8:=Aside0.mk A80
      clear A80
      by_cases c9:0 < (t107.size:Int)
      ·rw [if_pos c9] at H
       have c9b0:=decide_eq_true c9
       have c9b1:decide (0 < t107.size)=true:=decide_eq_true zb17
       clear c9
       replace H:=Option.bind_eq_some_iff.mp H
       obtain ⟨t108,A110,H⟩:=H
       try dsimp only at H
       have A11:=Aside0.mk A110
       clear A110
       have HC12:=Aside0.mk H
       clear H
       go_upto_region 6 with (first|((with_reducible refine gate_callee (f:=64) rfl ?_);refine goesL_ (some 21) rfl rfl Tryz.func64 zb7 rfl #[.string (a0.extract (x13_1:Int).toNat ((wrap64 (x13_1 + 1)):Int).toNat)] rfl zb1 ?_;(with_reducible refine (sign_Fold.calls (a0.extract (x13_1:Int).toNat ((wrap64 (x13_1 + 1)):Int).toNat) t107 _ A8.out).mono ?_);rintro e w13 ⟨rfl,hb⟩;refine ⟨_,rfl,?_⟩;replace HB:=Aside0.mk (below_step zb0 hb);(try clear hb);have p10:0 ≤ (0:Int):=zb17;have q10:0 < t107.size:=(by have:(0:Int) < (t107.size:Int):=of_decide_eq_true (by first|(with_reducible assumption)|assumption);omega);have hx10 : ∀ h:0 < t107.size,((t107[0]'h).toNat:Int)=bt t107 0:=bt_at t107 0;clear p10;have qi10:(0 < (t107.size:Int))=True:=eq_true (of_decide_eq_true zb3);replace q10:=eq_true q10)|((with_reducible refine gate_callee (f:=163) rfl ?_);refine goesL_ (some 23) rfl rfl Tryz.func163 zb7 rfl #[.string (⟨#[48,49,50,51,52,53,54,55,56,57,97,98,99,100,101,102]⟩:ByteArray),.int .u8 (bt t107 0)] rfl zb1 ?_;(with_reducible refine (strings_IndexByte.calls (⟨#[48,49,50,51,52,53,54,55,56,57,97,98,99,100,101,102]⟩:ByteArray) (bt t107 0) t108 _ A11.out).mono ?_);rintro e w' ⟨rfl,⟨nd,rfl⟩⟩;refine ⟨_,rfl,?_⟩))
       (try simp only [Act.put,zqA,zqB,zqC])
       go_cut [30] (fun v30 wc => ∃ (kq:Nat) (x30_11:Bool),v30 = .bool x30_11∧Aside0 (sign_number.j1 kq a0 a1 a2 x8_1 x13_1 t108 (a0.size:Int) x13_1 x30_11=some (r1,r2))∧Aside0 (kq ≤ k1)∧Aside0 (Below w.heap.size w wc))
       case first =>
        have H:=HC12.out
        clear HC12
        by_cases c14:t108 < 0
        ·rw [if_pos c14] at H
         have c14b0:=decide_eq_true c14
         clear c14
         (first|rw [c14b0]|(simp only [i64_w,i32_w];rw [c14b0])|skip)
         have H' := Aside0.mk H
         clear H
         go_wp2
         go_meet
         case rel=>exact ⟨_,(true),zb5,H',⟨zb104⟩,⟨zb0⟩⟩
        rw [if_neg c14] at H
        have c14b0:=decide_eq_false c14
        clear c14
        (first|rw [c14b0]|(simp only [i64_w,i32_w];rw [c14b0])|skip)
        have H' := Aside0.mk H
        clear H
        go_wp2
        go_meet
        case rel=>exact ⟨_,(decide (t108 ≥ a1)),zb5,H',⟨zb104⟩,⟨zb0⟩⟩
       case rest =>
        clear HC12
        try clear c1
        try clear p1
        try clear q1
        try clear hx1
        try clear qi1
        try clear p2
        try clear c4
        try clear c4b0
        try clear c5
        try clear c5b0
        try clear c5b1
        try clear c6
        try clear c6b0
        try clear c6b1
        try clear p6
        try clear c7
        try clear c7b0
        try clear c7b1
        try clear c9
        try clear c9b0
        try clear c9b1
        try clear p10
        try clear q10
        try clear hx10
        try clear qi10
        try clear c14
        try clear c14b0
        try clear p10
        try clear p2
        try clear q10
        obtain ⟨kq,x30_11,rfl,HA,HJ11,HB⟩:=hcut
        cases kq with
        | zero=>exact absurd HA.out (by simp [sign_number.j1])
        | succ kj11 =>
         have H:=HA.out
         clear HA
         simp only [sign_number.j1] at H
         by_cases c15:x30_11=true
         ·subst c15
          rw [if_pos rfl] at H
          simp only [Option.some.injEq,Prod.mk.injEq] at H
          obtain ⟨rfl,rfl⟩:=H
          go_wp2
          go_ret2
          exact ⟨zb2,zb0⟩
         ·replace c15:=Bool.eq_false_iff.mpr c15
          subst c15
          rw [if_neg (show ¬ (false=true) by decide)] at H
          by_cases c16:x13_1 < a2
          ·rw [if_pos c16] at H
           have c16b0:=decide_eq_true c16
           clear c16
           have H' := Aside0.mk H
           clear H
           go_wp2
           go_roundg kj11
           case measure=>have:=HK1.out;have:=HJ11.out;omega
           case rel=>exact ⟨(wrap64 ((wrap64 (x8_1 * a1)) + t108)),(wrap64 (x13_1 + 1)),zb5,zb5,H',⟨by have:=HK1.out;have:=HJ11.out;omega⟩,⟨zb0⟩⟩
          ·rw [if_neg c16] at H
           have c16b0:=decide_eq_false c16
           clear c16
           have H' := Aside0.mk H
           clear H
           go_wp2
           go_roundg kj11
           case measure=>have:=HK1.out;have:=HJ11.out;omega
           case rel=>exact ⟨(x8_1),(wrap64 (x13_1 + 1)),zb5,zb5,H',⟨by have:=HK1.out;have:=HJ11.out;omega⟩,⟨zb0⟩⟩
      ·rw [if_neg c9] at H
       exact absurd H zb44
     ·rw [if_neg c7] at H
      exact absurd H zb44
    ·rw [if_neg c6] at H
     exact absurd H zb44
   ·rw [if_neg c5] at H
    exact absurd H zb44
def sign_Hex.f (k:Nat) (a0:ByteArray):Option (Int × Bool):=(sign_number.f k a0 16 15).bind fun bt245=>(some (bt245.1,bt245.2))
set_option maxHeartbeats 8000000 in
set_option maxRecDepth 100000 in
theorem sign_Hex.calls (k:Nat) (a0:ByteArray) (r1:Int) (r2:Bool) (w:World) (h:sign_Hex.f k a0=some (r1,r2)) :
 Calls Tryz.prog 166 #[.string a0] w fun e w' => e = .returned (.tuple #[.int .i64 r1,.bool r2])∧Below w.heap.size w w' := by
 have HB:=Aside0.mk (Below.refl w.heap.size w)
 unfold sign_Hex.f at h
 have H:=h
 clear h
 replace H:=Option.bind_eq_some_iff.mp H
 obtain ⟨⟨t245,t246⟩,A20,H⟩:=H
 try dsimp only at H
 have A2:=Aside0.mk A20
 clear A20
 simp only [Option.some.injEq,Prod.mk.injEq] at H
 obtain ⟨rfl,rfl⟩:=H
 go_enter Tryz.func166,Tryz.ntmps166
 go_wp2_with (first|((with_reducible refine gate_callee (f:=156) rfl ?_);refine goesL_ (some 5) rfl rfl Tryz.func156 zb7 rfl #[.string a0,.int .i64 16,.int .i64 15] rfl zb1 ?_;(with_reducible refine (sign_number.calls k a0 16 15 t245 t246 _ A2.out).mono ?_);rintro e w3 ⟨rfl,hb⟩;(try clear A2);refine ⟨_,rfl,?_⟩;replace HB:=Aside0.mk (below_step zb0 hb);(try clear hb)))
 go_ret2
 exact ⟨zb2,zb0⟩
/-- At a text of one byte alone. -/
def stringslite_Index.f (a0 a1:ByteArray):Option Int:=match a1.data.toList with
 | [c]=>some (Lib.indexByte a0.data.toList c)
 | _=>none
theorem stringslite_Index.calls (a0 a1:ByteArray) (r:Int) (w:World) (h:stringslite_Index.f a0 a1=some r) :
 Calls Tryz.prog 184 #[.string a0,.string a1] w fun e w' => e = .returned (.int .i64 r)∧Drawn0 w w' := by
 obtain ⟨⟨l⟩⟩:=a1
 unfold stringslite_Index.f at h
 split at h
 ·rename_i c hc
  obtain rfl:l=[c]:=hc
  obtain rfl:=Option.some.inj h
  refine (Tryz.stringslite_Index_one a0 c w).mono ?_
  rintro e w' ⟨rfl,rfl⟩
  exact ⟨rfl,Drawn0.refl _⟩
 cases h
def stringslite_Cut.f (a0:ByteArray) (a1:ByteArray):Option (ByteArray × ByteArray × Bool):=(stringslite_Index.f a0 a1).bind fun t103=>(if t103 ≥ 0 then (if 0 ≤ t103 then (if t103 ≤ (a0.size:Int) then (if 0 ≤ (wrap64 (t103 + (a1.size:Int))) then (if (wrap64 (t103 + (a1.size:Int))) ≤ (a0.size:Int) then (some (a0.extract 0 (t103:Int).toNat,a0.extract ((wrap64 (t103 + (a1.size:Int))):Int).toNat a0.size,true)) else (none)) else (none)) else (none)) else (none)) else (some (a0,(⟨#[]⟩:ByteArray),false)))
set_option maxHeartbeats 8000000 in
set_option maxRecDepth 100000 in
theorem stringslite_Cut.calls (a0:ByteArray) (a1:ByteArray) (r1:ByteArray) (r2:ByteArray) (r3:Bool) (w:World) (h:stringslite_Cut.f a0 a1=some (r1,r2,r3)) :
 Calls Tryz.prog 155 #[.string a0,.string a1] w fun e w' => e = .returned (.tuple #[.string r1,.string r2,.bool r3])∧Drawn0 w w' := by
 unfold stringslite_Cut.f at h
 have H:=h
 clear h
 replace H:=Option.bind_eq_some_iff.mp H
 obtain ⟨t103,A30,H⟩:=H
 try dsimp only at H
 have A3:=Aside0.mk A30
 clear A30
 by_cases c4:t103 ≥ 0;rotate_left
 ·rw [if_neg c4] at H
  have c4b0:decide (0 ≤ t103)=false:=decide_eq_false c4
  clear c4
  simp only [Option.some.injEq,Prod.mk.injEq] at H
  obtain ⟨rfl,rfl,rfl⟩:=H
  go_enter Tryz.func155,Tryz.ntmps155
  go_wp2_with (first|(go_at_call 184;(with_reducible refine (stringslite_Index.calls a0 a1 t103 _ A3.out).mono ?_);rintro e w' ⟨rfl,⟨nd,rfl⟩⟩;(try clear A3);(try first|exact ⟨rfl,_,World.drewN_drewN _ _ _⟩|exact ⟨rfl,_,Eq.trans (World.drewN_drewN _ _ _) (congrArg (World.drewN _) (Nat.add_assoc _ _ _))⟩)))
  repeat (go_quiet (first|(go_at_call 184;(with_reducible refine (stringslite_Index.calls a0 a1 t103 _ A3.out).mono ?_);rintro e w' ⟨rfl,⟨nd,rfl⟩⟩;(try clear A3);(try first|exact ⟨rfl,_,World.drewN_drewN _ _ _⟩|exact ⟨rfl,_,Eq.trans (World.drewN_drewN _ _ _) (congrArg (World.drewN _) (Nat.add_assoc _ _ _))⟩)));try go_wp2_with (first|(go_at_call 184;(with_reducible refine (stringslite_Index.calls a0 a1 t103 _ A3.out).mono ?_);rintro e w' ⟨rfl,⟨nd,rfl⟩⟩;(try clear A3);(try first|exact ⟨rfl,_,World.drewN_drewN _ _ _⟩|exact ⟨rfl,_,Eq.trans (World.drewN_drewN _ _ _) (congrArg (World.drewN _) (Nat.add_assoc _ _ _))⟩))))
  go_ret3
  exact ⟨zb5,zb9⟩
 rw [if_pos c4] at H
 have c4b0:decide (0 ≤ t103)=true:=decide_eq_true c4
 clear c4
 by_cases c5:0 ≤ t103
 ·rw [if_pos c5] at H
  have c5b0:=eq_true c5
  have c5b1:=decide_eq_true c5
  clear c5
  by_cases c6:t103 ≤ (a0.size:Int)
  ·rw [if_pos c6] at H
   have c6b0:=eq_true c6
   have c6b1:=decide_eq_true c6
   clear c6
   obtain ⟨ji7,hji7⟩ : ∃ j_:Int,(wrap64 (t103 + (a1.size:Int)))=j_:=⟨_,rfl⟩
   replace H:(if 0 ≤ (ji7) then (if (ji7) ≤ (a0.size:Int) then (some (a0.extract 0 (t103:Int).toNat,a0.extract ((ji7):Int).toNat a0.size,true)) else (none)) else (none))=some (r1,r2,r3):=by first|(rw [hji7] at H;exact H)|(simp only [hji7] at H ⊢;exact H)
   (try rw [hji7] at A3)
   have hji7w:(IntKind.i64.wrap (t103 + (a1.size:Int)))=ji7:=(i64_w _).trans hji7
   by_cases c8:0 ≤ (ji7)
   ·rw [if_pos c8] at H
    have c8b0:=eq_true c8
    have c8b1:=decide_eq_true c8
    clear c8
    by_cases c9:(ji7) ≤ (a0.size:Int)
    ·rw [if_pos c9] at H
     have c9b0:=eq_true c9
     have c9b1:=decide_eq_true c9
     clear c9
     simp only [Option.some.injEq,Prod.mk.injEq] at H
     obtain ⟨rfl,rfl,rfl⟩:=H
     go_enter Tryz.func155,Tryz.ntmps155
     go_wp2_with (first|(go_at_call 184;(with_reducible refine (stringslite_Index.calls a0 a1 t103 _ A3.out).mono ?_);rintro e w' ⟨rfl,⟨nd,rfl⟩⟩;(try clear A3);(try first|exact ⟨rfl,_,World.drewN_drewN _ _ _⟩|exact ⟨rfl,_,Eq.trans (World.drewN_drewN _ _ _) (congrArg (World.drewN _) (Nat.add_assoc _ _ _))⟩)))
     repeat (go_quiet (first|(go_at_call 184;(with_reducible refine (stringslite_Index.calls a0 a1 t103 _ A3.out).mono ?_);rintro e w' ⟨rfl,⟨nd,rfl⟩⟩;(try clear A3);(try first|exact ⟨rfl,_,World.drewN_drewN _ _ _⟩|exact ⟨rfl,_,Eq.trans (World.drewN_drewN _ _ _) (congrArg (World.drewN _) (Nat.add_assoc _ _ _))⟩)));try go_wp2_with (first|(go_at_call 184;(with_reducible refine (stringslite_Index.calls a0 a1 t103 _ A3.out).mono ?_);rintro e w' ⟨rfl,⟨nd,rfl⟩⟩;(try clear A3);(try first|exact ⟨rfl,_,World.drewN_drewN _ _ _⟩|exact ⟨rfl,_,Eq.trans (World.drewN_drewN _ _ _) (congrArg (World.drewN _) (Nat.add_assoc _ _ _))⟩))))
     go_ret3
     exact ⟨by first|rfl|(simp;done)|(simp only [← hji7] <;> (first|rfl|simp))|(simp [*];done),zb9⟩
    ·rw [if_neg c9] at H
     exact absurd H zb44
   ·rw [if_neg c8] at H
    exact absurd H zb44
  ·rw [if_neg c6] at H
   exact absurd H zb44
 ·rw [if_neg c5] at H
  exact absurd H zb44
def strings_Cut.f (a0:ByteArray) (a1:ByteArray):Option (ByteArray × ByteArray × Bool):=(stringslite_Cut.f a0 a1).bind fun bt104=>(some (bt104.1,bt104.2.1,bt104.2.2))
set_option maxHeartbeats 8000000 in
set_option maxRecDepth 100000 in
theorem strings_Cut.calls (a0:ByteArray) (a1:ByteArray) (r1:ByteArray) (r2:ByteArray) (r3:Bool) (w:World) (h:strings_Cut.f a0 a1=some (r1,r2,r3)) :
 Calls Tryz.prog 110 #[.string a0,.string a1] w fun e w' => e = .returned (.tuple #[.string r1,.string r2,.bool r3])∧Drawn0 w w' := by
 unfold strings_Cut.f at h
 have H:=h
 clear h
 replace H:=Option.bind_eq_some_iff.mp H
 obtain ⟨⟨t104,t105,t106⟩,A30,H⟩:=H
 try dsimp only at H
 have A3:=Aside0.mk A30
 clear A30
 simp only [Option.some.injEq,Prod.mk.injEq] at H
 obtain ⟨rfl,rfl,rfl⟩:=H
 go_enter Tryz.func110,Tryz.ntmps110
 go_wp2_with (first|((with_reducible refine gate_callee (f:=155) rfl ?_);refine goesL_ (some 9) rfl rfl Tryz.func155 zb7 rfl #[.string a0,.string a1] rfl zb1 ?_;(with_reducible refine (stringslite_Cut.calls a0 a1 t104 t105 t106 _ A3.out).mono ?_);rintro e w' ⟨rfl,⟨nd,rfl⟩⟩;(try clear A3);refine ⟨_,rfl,?_⟩))
 go_ret3
 exact ⟨zb5,zb9⟩
/-- At a cutset of ASCII bytes. -/
def strings_TrimRight.f (a0 a1:ByteArray):Option ByteArray :=
 if a0.size ≤ 9223372036854775807∧a1.size < 4294967281∧a1.data.toList.all (fun b=>decide (b.toNat < 128))=true then some ⟨(Lib.trimRightS a0.data.toList a1.data.toList).toArray⟩ else none
theorem strings_TrimRight.calls (a0 a1:ByteArray) (r:ByteArray) (w:World) (h:strings_TrimRight.f a0 a1=some r) :
 Calls Tryz.prog 167 #[.string a0,.string a1] w fun e w' => e = .returned (.string r)∧Below w.heap.size w w' := by
 unfold strings_TrimRight.f at h
 split at h
 ·rename_i hc
  obtain rfl:=Option.some.inj h
  exact Go.Proofs.Any.strings_TrimRight_laid Tryz.lays162 zb7 a0 a1 w hc.1 hc.2.1 (Go.Proofs.ascii_of_all hc.2.2)
 cases h
/-- What size tells: the size,the error,the new place,whether more bytes are needed. -/
def chunk_reader_size.f (k:Nat) (l:List Int) (p:Int):Option (Int × Int × Int × Bool) :=
 (chunk_reader_line.f k l p).bind fun x=>if x.2.1=0 then (if x.2.2.2=true then some (0,0,x.2.2.1,true) else
  (strings_Cut.f x.1 (⟨#[59]⟩:ByteArray)).bind fun c=>(strings_TrimRight.f c.1 (⟨#[32,9]⟩:ByteArray)).bind fun t=>(sign_Hex.f k t).bind fun h =>
   if h.2=true then ((sign_Value.f c.2.1).bind fun v=>if v=true then some (h.1,0,x.2.2.1,false) else some (0,30,x.2.2.1,false)) else some (0,30,x.2.2.1,false))
  else some (0,x.2.1,x.2.2.1,x.2.2.2)
set_option maxHeartbeats 4000000 in
set_option maxRecDepth 100000 in
theorem chunk_reader_size.calls (k:Nat) (g:Nat) (A:Option Addr) (c:Nat) (l:List Int) (p:Int) (m:Bool) (n e q:Int) (m' : Bool) (w:World) (hr:Rdr w g A l.length c p m) (hC:Kd.C (Kd.int .u8) w A l.length l) (hc:l.length ≤ c) (h:chunk_reader_size.f k l p=some (n,e,q,m')) :
 Calls Tryz.prog 122 #[.pointer (some ⟨g,0,none⟩)] w fun E w' => E = .returned (.tuple #[.int .i64 n,.int .i64 e])∧Went w w' g A l.length c q m' := by
 unfold chunk_reader_size.f at h
 obtain ⟨⟨s,e1,q1,m1⟩,hl,h⟩:=Option.bind_eq_some_iff.1 h
 simp only at h
 have HL:=Aside0.mk hl
 have HR:=Aside0.mk hr
 have HC:=Aside0.mk hC
 clear hl hr hC
 by_cases c1:e1=0;rotate_left
 ·rw [if_neg c1] at h
  simp only [Option.some.injEq,Prod.mk.injEq] at h
  obtain ⟨rfl,rfl,rfl,rfl⟩:=h
  have d1:(e1 == 0)=false:=beq_eq_false_iff_ne.2 c1
  have d2:(e1 != 0)=true:=bne_iff_ne.2 c1
  clear c1
  go_enter Tryz.func122,Tryz.ntmps122
  go_wp2_with (first|(go_at_call 165;(with_reducible refine (chunk_reader_line.calls k g A c l p m s e1 q1 m1 _ HR.out HC.out hc HL.out).mono ?_);rintro E w1 ⟨rfl,hw⟩;have hm:=hw.more;have W1:=Aside0.mk hw;clear hw))
  go_ret2
  exact ⟨rfl,W1.out⟩
 subst c1
 rw [if_pos rfl] at h
 cases m1
 ·rw [if_neg zb44] at h
  obtain ⟨⟨s1,r1,b1⟩,h1,h⟩:=Option.bind_eq_some_iff.1 h
  obtain ⟨t,h2,h⟩:=Option.bind_eq_some_iff.1 h
  obtain ⟨⟨n1,o1⟩,h3,h⟩:=Option.bind_eq_some_iff.1 h
  simp only at h h1 h2 h3
  have H1:=Aside0.mk h1
  have H2:=Aside0.mk h2
  have H3:=Aside0.mk h3
  clear h1 h2 h3
  cases o1
  ·rw [if_neg zb44] at h
   simp only [Option.some.injEq,Prod.mk.injEq] at h
   obtain ⟨rfl,rfl,rfl,rfl⟩:=h
   go_enter Tryz.func122,Tryz.ntmps122
   go_wp2_with (first|(go_at_call 165;(with_reducible refine (chunk_reader_line.calls k g A c l p m s 0 q1 false _ HR.out HC.out hc HL.out).mono ?_);rintro E w1 ⟨rfl,hw⟩;have hm:=hw.more;have W1:=Aside0.mk hw;clear hw)|(go_at_call 110;(with_reducible refine (strings_Cut.calls s _ s1 r1 b1 _ H1.out).mono ?_);rintro E w2 ⟨rfl,hd⟩;have W2:=Aside0.mk (W1.out.step hd.below);clear hd)|(go_at_call 167;(with_reducible refine (strings_TrimRight.calls s1 _ t _ H2.out).mono ?_);rintro E w3 ⟨rfl,hd⟩;have W3:=Aside0.mk (W2.out.step hd);clear hd)|(go_at_call 166;(with_reducible refine (sign_Hex.calls k t n1 false _ H3.out).mono ?_);rintro E w4 ⟨rfl,hd⟩;have W4:=Aside0.mk (W3.out.step hd);clear hd))
   go_ret2
   exact ⟨rfl,W4.out⟩
  rw [if_pos rfl] at h
  obtain ⟨v,h4,h⟩:=Option.bind_eq_some_iff.1 h
  have H4:=Aside0.mk h4
  clear h4
  cases v
  ·rw [if_neg zb44] at h
   simp only [Option.some.injEq,Prod.mk.injEq] at h
   obtain ⟨rfl,rfl,rfl,rfl⟩:=h
   go_enter Tryz.func122,Tryz.ntmps122
   go_wp2_with (first|(go_at_call 165;(with_reducible refine (chunk_reader_line.calls k g A c l p m s 0 q1 false _ HR.out HC.out hc HL.out).mono ?_);rintro E w1 ⟨rfl,hw⟩;have hm:=hw.more;have W1:=Aside0.mk hw;clear hw)|(go_at_call 110;(with_reducible refine (strings_Cut.calls s _ s1 r1 b1 _ H1.out).mono ?_);rintro E w2 ⟨rfl,hd⟩;have W2:=Aside0.mk (W1.out.step hd.below);clear hd)|(go_at_call 167;(with_reducible refine (strings_TrimRight.calls s1 _ t _ H2.out).mono ?_);rintro E w3 ⟨rfl,hd⟩;have W3:=Aside0.mk (W2.out.step hd);clear hd)|(go_at_call 166;(with_reducible refine (sign_Hex.calls k t n1 true _ H3.out).mono ?_);rintro E w4 ⟨rfl,hd⟩;have W4:=Aside0.mk (W3.out.step hd);clear hd)|(go_at_call 114;(with_reducible refine (sign_Value.calls r1 false _ H4.out).mono ?_);rintro E w5 ⟨rfl,hd⟩;have W5:=Aside0.mk (W4.out.step hd.below);clear hd))
   go_ret2
   exact ⟨rfl,W5.out⟩
  rw [if_pos rfl] at h
  simp only [Option.some.injEq,Prod.mk.injEq] at h
  obtain ⟨rfl,rfl,rfl,rfl⟩:=h
  go_enter Tryz.func122,Tryz.ntmps122
  go_wp2_with (first|(go_at_call 165;(with_reducible refine (chunk_reader_line.calls k g A c l p m s 0 q1 false _ HR.out HC.out hc HL.out).mono ?_);rintro E w1 ⟨rfl,hw⟩;have hm:=hw.more;have W1:=Aside0.mk hw;clear hw)|(go_at_call 110;(with_reducible refine (strings_Cut.calls s _ s1 r1 b1 _ H1.out).mono ?_);rintro E w2 ⟨rfl,hd⟩;have W2:=Aside0.mk (W1.out.step hd.below);clear hd)|(go_at_call 167;(with_reducible refine (strings_TrimRight.calls s1 _ t _ H2.out).mono ?_);rintro E w3 ⟨rfl,hd⟩;have W3:=Aside0.mk (W2.out.step hd);clear hd)|(go_at_call 166;(with_reducible refine (sign_Hex.calls k t n1 true _ H3.out).mono ?_);rintro E w4 ⟨rfl,hd⟩;have W4:=Aside0.mk (W3.out.step hd);clear hd)|(go_at_call 114;(with_reducible refine (sign_Value.calls r1 true _ H4.out).mono ?_);rintro E w5 ⟨rfl,hd⟩;have W5:=Aside0.mk (W4.out.step hd.below);clear hd))
  go_ret2
  exact ⟨rfl,W5.out⟩
 ·rw [if_pos rfl] at h
  simp only [Option.some.injEq,Prod.mk.injEq] at h
  obtain ⟨rfl,rfl,rfl,rfl⟩:=h
  go_enter Tryz.func122,Tryz.ntmps122
  go_wp2_with (first|(go_at_call 165;(with_reducible refine (chunk_reader_line.calls k g A c l p m s 0 q1 true _ HR.out HC.out hc HL.out).mono ?_);rintro E w1 ⟨rfl,hw⟩;have hm:=hw.more;have W1:=Aside0.mk hw;clear hw))
  go_ret2
  exact ⟨rfl,W1.out⟩
def field_Parse.f (a0:ByteArray):Option (ByteArray × ByteArray × Int):=(strings_Cut.f a0 (⟨#[58]⟩:ByteArray)).bind fun bt189=>((sign_Trim.f bt189.2.1).bind fun t192=>(if bt189.2.2=true then ((field_right.f bt189.1 t192).bind fun t194=>(if t194=true then (some (bt189.1,t192,0)) else (some ((⟨#[]⟩:ByteArray),(⟨#[]⟩:ByteArray),20)))) else (some ((⟨#[]⟩:ByteArray),(⟨#[]⟩:ByteArray),20))))
set_option maxHeartbeats 8000000 in
set_option maxRecDepth 100000 in
theorem field_Parse.calls (a0:ByteArray) (r1:ByteArray) (r2:ByteArray) (r3:Int) (w:World) (h:field_Parse.f a0=some (r1,r2,r3)) :
 Calls Tryz.prog 109 #[.string a0] w fun e w' => e = .returned (.tuple #[.agg #[.string r1,.string r2],.int .i64 r3])∧Below w.heap.size w w' := by
 have hu36:=Tryz.underlying36
 have HB:=Aside0.mk (Below.refl w.heap.size w)
 unfold field_Parse.f at h
 have H:=h
 clear h
 replace H:=Option.bind_eq_some_iff.mp H
 obtain ⟨⟨t31,t33,t35⟩,A20,H⟩:=H
 try dsimp only at H
 have A2:=Aside0.mk A20
 clear A20
 replace H:=Option.bind_eq_some_iff.mp H
 obtain ⟨t32,A30,H⟩:=H
 try dsimp only at H
 have A3:=Aside0.mk A30
 clear A30
 by_cases c4:t35=true;rotate_left
 ·replace c4:=Bool.eq_false_iff.mpr c4
  subst c4
  rw [if_neg (show ¬ (false=true) by decide)] at H
  simp only [Option.some.injEq,Prod.mk.injEq] at H
  obtain ⟨rfl,rfl,rfl⟩:=H
  go_enter Tryz.func109,Tryz.ntmps109
  go_wp2_with (first|((with_reducible refine gate_dst (N:=2) rfl ?_);refine box_event rfl (N:=2) rfl (cs:=#[.string (⟨#[]⟩:ByteArray),.string (⟨#[]⟩:ByteArray)]) (t:=36) zS ?_;intro gb28 hg w22 hbox hb;have GW28:=zG hg zb0;have GE28:=GW28;have BK28:=Aside0.mk hbox;replace HB:=Aside0.mk (below_step zb0 hb);clear hb hbox hg)|((with_reducible refine gate_callee (f:=110) rfl ?_);refine goesL_ (some 10) rfl rfl Tryz.func110 zb7 rfl #[.string a0,.string (⟨#[58]⟩:ByteArray)] rfl zb1 ?_;(with_reducible refine (strings_Cut.calls a0 (⟨#[58]⟩:ByteArray) t31 t33 false _ A2.out).mono ?_);rintro e w' ⟨rfl,⟨nd,rfl⟩⟩;(try clear A2);refine ⟨_,rfl,?_⟩;(try (rw [drewN_self w22];generalize hq_:World.drewN w22 _=w22;have n0_:Aside0 (w22.heap[gb28]? = some (.cells #[.string (⟨#[]⟩:ByteArray),.string (⟨#[]⟩:ByteArray)] 36 (0,0))):=⟨zb114⟩;have n1_:Aside0 (Below w.heap.size w w22):=⟨zb99⟩;clear BK28 HB hq_;have BK28:=n0_;have HB:=n1_;clear n0_ n1_)))|((with_reducible refine gate_callee (f:=153) rfl ?_);refine goesL_ (some 16) rfl rfl Tryz.func153 zb7 rfl #[.string t33] rfl zb1 ?_;(with_reducible refine (sign_Trim.calls t33 t32 _ A3.out).mono ?_);rintro e w23 ⟨rfl,hb⟩;(try clear A3);refine ⟨_,rfl,?_⟩;replace BK28:=Aside0.mk (blk_below (g:=gb28) (o:=.cells #[.string (⟨#[]⟩:ByteArray),.string (⟨#[]⟩:ByteArray)] 36 (0,0)) zb39 hb);replace HB:=Aside0.mk (below_step zb38 hb);(try clear hb))|((with_reducible refine gate_dst (N:=7) rfl ?_);refine box_event rfl (N:=7) rfl (cs:=#[.string (⟨#[]⟩:ByteArray),.string (⟨#[]⟩:ByteArray)]) (t:=36) zS ?_;intro gb29 hg w24 hbox hb;have BK29:=Aside0.mk (hbox);have GW29:=zG hg zb38;have GE29:=GW29;replace HB:=Aside0.mk (below_step zb38 hb);have NB28_193:=Aside0.mk ((by rw [hg];exact Nat.ne_of_lt (blk_lt (g:=gb28) (o:=.cells #[.string (⟨#[]⟩:ByteArray),.string (⟨#[]⟩:ByteArray)] 36 (0,0)) zb39):gb28 ≠ gb29));have NB29_188:=Aside0.mk ((by rw [hg];exact Nat.ne_of_gt (blk_lt (g:=gb28) (o:=.cells #[.string (⟨#[]⟩:ByteArray),.string (⟨#[]⟩:ByteArray)] 36 (0,0)) zb39):gb29 ≠ gb28));replace BK28:=Aside0.mk (blk_below (g:=gb28) (o:=.cells #[.string (⟨#[]⟩:ByteArray),.string (⟨#[]⟩:ByteArray)] 36 (0,0)) zb39 hb);clear hb hbox hg;have hnb25:=NB29_188.out;have hnc25:=NB28_193.out;obtain ⟨hcz26_0,hcz26_1,hfz26_0,hfz26_1⟩:=zq2 BK29.out;obtain ⟨hcz27_0,hcz27_1,hfz27_0,hfz27_1⟩:=zq2 BK28.out))
  refine bodyPost_ret (results_ct rfl _ _ gb28 36 #[.string (⟨#[]⟩:ByteArray),.string (⟨#[]⟩:ByteArray)] (0,0) _ rfl (by (with_reducible repeat (first|refine blk_drewN ?_ _|refine blk_drew ?_|refine blk_alloc ?_ _));refine blk_put (cs:=#[.string (⟨#[]⟩:ByteArray),.string (⟨#[]⟩:ByteArray)]) ?_ 1 _ rfl;(with_reducible repeat (first|refine blk_drewN ?_ _|refine blk_drew ?_|refine blk_alloc ?_ _));refine blk_put (cs:=#[.string (⟨#[]⟩:ByteArray),.string (⟨#[]⟩:ByteArray)]) ?_ 0 _ rfl;(with_reducible repeat (first|refine blk_drewN ?_ _|refine blk_drew ?_|refine blk_alloc ?_ _));refine blk_far ?_ NB28_193.out _;(with_reducible repeat (first|refine blk_drewN ?_ _|refine blk_drew ?_|refine blk_alloc ?_ _));refine blk_far ?_ NB28_193.out _;(with_reducible repeat (first|refine blk_drewN ?_ _|refine blk_drew ?_|refine blk_alloc ?_ _));exact BK28.out) Tryz.underlying36 rfl zb7) rfl ?_
  exact ⟨zb2,zb69⟩
 subst c4
 rw [if_pos rfl] at H
 replace H:=Option.bind_eq_some_iff.mp H
 obtain ⟨t34,A50,H⟩:=H
 try dsimp only at H
 have A5:=Aside0.mk A50
 clear A50
 by_cases c6:t34=true
 ·subst c6
  rw [if_pos rfl] at H
  simp only [Option.some.injEq,Prod.mk.injEq] at H
  obtain ⟨rfl,rfl,rfl⟩:=H
  go_enter Tryz.func109,Tryz.ntmps109
  go_wp2_with (first|((with_reducible refine gate_dst (N:=2) rfl ?_);refine box_event rfl (N:=2) rfl (cs:=#[.string (⟨#[]⟩:ByteArray),.string (⟨#[]⟩:ByteArray)]) (t:=36) zS ?_;intro gb28 hg w7 hbox hb;have GW28:=zG hg zb0;have GE28:=GW28;have BK28:=Aside0.mk hbox;replace HB:=Aside0.mk (below_step zb0 hb);clear hb hbox hg)|((with_reducible refine gate_callee (f:=110) rfl ?_);refine goesL_ (some 10) rfl rfl Tryz.func110 zb7 rfl #[.string a0,.string (⟨#[58]⟩:ByteArray)] rfl zb1 ?_;(with_reducible refine (strings_Cut.calls a0 (⟨#[58]⟩:ByteArray) t31 t33 true _ A2.out).mono ?_);rintro e w' ⟨rfl,⟨nd,rfl⟩⟩;(try clear A2);refine ⟨_,rfl,?_⟩;(try (rw [drewN_self w7];generalize hq_:World.drewN w7 _=w7;have n0_:Aside0 (w7.heap[gb28]? = some (.cells #[.string (⟨#[]⟩:ByteArray),.string (⟨#[]⟩:ByteArray)] 36 (0,0))):=⟨zb114⟩;have n1_:Aside0 (Below w.heap.size w w7):=⟨zb99⟩;clear BK28 HB hq_;have BK28:=n0_;have HB:=n1_;clear n0_ n1_)))|((with_reducible refine gate_callee (f:=153) rfl ?_);refine goesL_ (some 16) rfl rfl Tryz.func153 zb7 rfl #[.string t33] rfl zb1 ?_;(with_reducible refine (sign_Trim.calls t33 t32 _ A3.out).mono ?_);rintro e w8 ⟨rfl,hb⟩;(try clear A3);refine ⟨_,rfl,?_⟩;replace BK28:=Aside0.mk (blk_below (g:=gb28) (o:=.cells #[.string (⟨#[]⟩:ByteArray),.string (⟨#[]⟩:ByteArray)] 36 (0,0)) zb39 hb);replace HB:=Aside0.mk (below_step zb38 hb);(try clear hb))|((with_reducible refine gate_dst (N:=7) rfl ?_);refine box_event rfl (N:=7) rfl (cs:=#[.string (⟨#[]⟩:ByteArray),.string (⟨#[]⟩:ByteArray)]) (t:=36) zS ?_;intro gb29 hg w9 hbox hb;have BK29:=Aside0.mk (hbox);have GW29:=zG hg zb38;have GE29:=GW29;replace HB:=Aside0.mk (below_step zb38 hb);have NB28_193:=Aside0.mk ((by rw [hg];exact Nat.ne_of_lt (blk_lt (g:=gb28) (o:=.cells #[.string (⟨#[]⟩:ByteArray),.string (⟨#[]⟩:ByteArray)] 36 (0,0)) zb39):gb28 ≠ gb29));have NB29_188:=Aside0.mk ((by rw [hg];exact Nat.ne_of_gt (blk_lt (g:=gb28) (o:=.cells #[.string (⟨#[]⟩:ByteArray),.string (⟨#[]⟩:ByteArray)] 36 (0,0)) zb39):gb29 ≠ gb28));replace BK28:=Aside0.mk (blk_below (g:=gb28) (o:=.cells #[.string (⟨#[]⟩:ByteArray),.string (⟨#[]⟩:ByteArray)] 36 (0,0)) zb39 hb);clear hb hbox hg;have hnb10:=NB29_188.out;have hnc10:=NB28_193.out;obtain ⟨hcz11_0,hcz11_1,hfz11_0,hfz11_1⟩:=zq2 BK29.out)|(go_at_call 154;(with_reducible refine (field_right.calls t31 t32 true _ A5.out).mono ?_);rintro e w12 ⟨rfl,hb⟩;(try clear A5);replace BK28:=Aside0.mk (blk_below (g:=gb28) (o:=.cells #[.string (⟨#[]⟩:ByteArray),.string (⟨#[]⟩:ByteArray)] 36 (0,0)) zb78 hb);replace BK29:=Aside0.mk (blk_below (g:=gb29) (o:=.cells #[.string t31,.string t32] 36 (0,0)) zb64 hb);replace HB:=Aside0.mk (below_step zb69 hb);(try clear hb);obtain ⟨hcz13_0,hcz13_1,hfz13_0,hfz13_1⟩:=zq2 BK29.out;obtain ⟨hcz14_0,hcz14_1,hfz14_0,hfz14_1⟩:=zq2 BK28.out))
  refine bodyPost_ret (results_ct rfl _ _ gb28 36 #[.string t31,.string t32] (0,0) _ rfl (by (with_reducible repeat (first|refine blk_drewN ?_ _|refine blk_drew ?_|refine blk_alloc ?_ _));refine blk_put (cs:=#[.string t31,.string (⟨#[]⟩:ByteArray)]) ?_ 1 _ rfl;(with_reducible repeat (first|refine blk_drewN ?_ _|refine blk_drew ?_|refine blk_alloc ?_ _));refine blk_put (cs:=#[.string (⟨#[]⟩:ByteArray),.string (⟨#[]⟩:ByteArray)]) ?_ 0 _ rfl;(with_reducible repeat (first|refine blk_drewN ?_ _|refine blk_drew ?_|refine blk_alloc ?_ _));exact BK28.out) Tryz.underlying36 rfl zb7) rfl ?_
  exact ⟨zb2,zb69⟩
 ·replace c6:=Bool.eq_false_iff.mpr c6
  subst c6
  rw [if_neg (show ¬ (false=true) by decide)] at H
  simp only [Option.some.injEq,Prod.mk.injEq] at H
  obtain ⟨rfl,rfl,rfl⟩:=H
  go_enter Tryz.func109,Tryz.ntmps109
  go_wp2_with (first|((with_reducible refine gate_dst (N:=2) rfl ?_);refine box_event rfl (N:=2) rfl (cs:=#[.string (⟨#[]⟩:ByteArray),.string (⟨#[]⟩:ByteArray)]) (t:=36) zS ?_;intro gb28 hg w15 hbox hb;have GW28:=zG hg zb0;have GE28:=GW28;have BK28:=Aside0.mk hbox;replace HB:=Aside0.mk (below_step zb0 hb);clear hb hbox hg)|((with_reducible refine gate_callee (f:=110) rfl ?_);refine goesL_ (some 10) rfl rfl Tryz.func110 zb7 rfl #[.string a0,.string (⟨#[58]⟩:ByteArray)] rfl zb1 ?_;(with_reducible refine (strings_Cut.calls a0 (⟨#[58]⟩:ByteArray) t31 t33 true _ A2.out).mono ?_);rintro e w' ⟨rfl,⟨nd,rfl⟩⟩;(try clear A2);refine ⟨_,rfl,?_⟩;(try (rw [drewN_self w15];generalize hq_:World.drewN w15 _=w15;have n0_:Aside0 (w15.heap[gb28]? = some (.cells #[.string (⟨#[]⟩:ByteArray),.string (⟨#[]⟩:ByteArray)] 36 (0,0))):=⟨zb114⟩;have n1_:Aside0 (Below w.heap.size w w15):=⟨zb99⟩;clear BK28 HB hq_;have BK28:=n0_;have HB:=n1_;clear n0_ n1_)))|((with_reducible refine gate_callee (f:=153) rfl ?_);refine goesL_ (some 16) rfl rfl Tryz.func153 zb7 rfl #[.string t33] rfl zb1 ?_;(with_reducible refine (sign_Trim.calls t33 t32 _ A3.out).mono ?_);rintro e w16 ⟨rfl,hb⟩;(try clear A3);refine ⟨_,rfl,?_⟩;replace BK28:=Aside0.mk (blk_below (g:=gb28) (o:=.cells #[.string (⟨#[]⟩:ByteArray),.string (⟨#[]⟩:ByteArray)] 36 (0,0)) zb39 hb);replace HB:=Aside0.mk (below_step zb38 hb);(try clear hb))|((with_reducible refine gate_dst (N:=7) rfl ?_);refine box_event rfl (N:=7) rfl (cs:=#[.string (⟨#[]⟩:ByteArray),.string (⟨#[]⟩:ByteArray)]) (t:=36) zS ?_;intro gb29 hg w17 hbox hb;have BK29:=Aside0.mk (hbox);have GW29:=zG hg zb38;have GE29:=GW29;replace HB:=Aside0.mk (below_step zb38 hb);have NB28_193:=Aside0.mk ((by rw [hg];exact Nat.ne_of_lt (blk_lt (g:=gb28) (o:=.cells #[.string (⟨#[]⟩:ByteArray),.string (⟨#[]⟩:ByteArray)] 36 (0,0)) zb39):gb28 ≠ gb29));have NB29_188:=Aside0.mk ((by rw [hg];exact Nat.ne_of_gt (blk_lt (g:=gb28) (o:=.cells #[.string (⟨#[]⟩:ByteArray),.string (⟨#[]⟩:ByteArray)] 36 (0,0)) zb39):gb29 ≠ gb28));replace BK28:=Aside0.mk (blk_below (g:=gb28) (o:=.cells #[.string (⟨#[]⟩:ByteArray),.string (⟨#[]⟩:ByteArray)] 36 (0,0)) zb39 hb);clear hb hbox hg;have hnb18:=NB29_188.out;have hnc18:=NB28_193.out;obtain ⟨hcz19_0,hcz19_1,hfz19_0,hfz19_1⟩:=zq2 BK29.out)|(go_at_call 154;(with_reducible refine (field_right.calls t31 t32 false _ A5.out).mono ?_);rintro e w20 ⟨rfl,hb⟩;(try clear A5);replace BK28:=Aside0.mk (blk_below (g:=gb28) (o:=.cells #[.string (⟨#[]⟩:ByteArray),.string (⟨#[]⟩:ByteArray)] 36 (0,0)) zb78 hb);replace BK29:=Aside0.mk (blk_below (g:=gb29) (o:=.cells #[.string t31,.string t32] 36 (0,0)) zb64 hb);replace HB:=Aside0.mk (below_step zb69 hb);(try clear hb);obtain ⟨hcz21_0,hcz21_1,hfz21_0,hfz21_1⟩:=zq2 BK28.out))
  refine bodyPost_ret (results_ct rfl _ _ gb28 36 #[.string (⟨#[]⟩:ByteArray),.string (⟨#[]⟩:ByteArray)] (0,0) _ rfl (by (with_reducible repeat (first|refine blk_drewN ?_ _|refine blk_drew ?_|refine blk_alloc ?_ _));refine blk_put (cs:=#[.string (⟨#[]⟩:ByteArray),.string (⟨#[]⟩:ByteArray)]) ?_ 1 _ rfl;(with_reducible repeat (first|refine blk_drewN ?_ _|refine blk_drew ?_|refine blk_alloc ?_ _));refine blk_put (cs:=#[.string (⟨#[]⟩:ByteArray),.string (⟨#[]⟩:ByteArray)]) ?_ 0 _ rfl;(with_reducible repeat (first|refine blk_drewN ?_ _|refine blk_drew ?_|refine blk_alloc ?_ _));exact BK28.out) Tryz.underlying36 rfl zb7) rfl ?_
  exact ⟨zb2,zb69⟩
/-- What trailer tells from the n-th line on: the error,the new place,whether more bytes are needed. -/
def chunk_reader_trailer.l:Nat → List Int → Int → Int → Option (Int × Int × Bool)
 | 0,_,_,_=>none
 | k + 1,l,p,n=>(chunk_reader_line.f k l p).bind fun x=>if x.2.1=0 then (if x.2.2.2=true then some (0,x.2.2.1,true) else if x.1.toList=([]:List UInt8) then some (0,x.2.2.1,false) else
  (field_Parse.f x.1).bind fun y=>if y.2.2=0 then (if n=40 then some (3,x.2.2.1,false) else chunk_reader_trailer.l k l x.2.2.1 (n + 1)) else some (y.2.2,x.2.2.1,false))
  else some (x.2.1,x.2.2.1,x.2.2.2)
def chunk_reader_trailer.f (k:Nat) (l:List Int) (p:Int):Option (Int × Int × Bool):=chunk_reader_trailer.l k l p 0
set_option maxHeartbeats 8000000 in
set_option maxRecDepth 100000 in
theorem chunk_reader_trailer.calls (k:Nat) (g:Nat) (A:Option Addr) (c:Nat) (l:List Int) (p:Int) (m:Bool) (e q:Int) (m' : Bool) (w0 w:World) (hr:Rdr w g A l.length c p m) (hC:Kd.C (Kd.int .u8) w0 A l.length l) (hB0:Below w0.heap.size w0 w) (hg0:w0.heap.size ≤ g) (hc:l.length ≤ c) (h:chunk_reader_trailer.f k l p=some (e,q,m')) :
 Calls Tryz.prog 124 #[.pointer (some ⟨g,0,none⟩)] w fun E w' => E = .returned (.int .i64 e)∧Went w w' g A l.length c q m' := by
 unfold chunk_reader_trailer.f at h
 have hu:=Tryz.underlying36
 have HR:=Aside0.mk hr
 have HC:=Aside0.mk hC
 have H:=Aside0.mk h
 have hg:=blk_lt hr
 clear hr hC h
 go_enter Tryz.func124,Tryz.ntmps124
 go_wp2_with fail
 go_loopg [3,4,5,6,7] k (fun kq v3 _ _ _ _ wr => ∃ (n p:Int) (m:Bool),v3 = .int .i64 n∧Aside0 (0 ≤ n∧n ≤ 40)∧Aside0 (chunk_reader_trailer.l kq l p n=some (e,q,m'))∧Aside0 (Went w wr g A l.length c p m))
 case atStart=>exact ⟨0,p,m,rfl,⟨zb17⟩,H,⟨HR.out,Below.refl _ _,keep_below g (Below.refl _ _)⟩⟩
 case round =>
  obtain ⟨n,p,m,rfl,HN,H,W⟩:=hrel
  cases gk with
  | zero=>exact absurd H.out (by simp [chunk_reader_trailer.l])
  | succ k =>
   have h:=H.out
   clear H
   simp only [chunk_reader_trailer.l] at h
   obtain ⟨⟨s,e1,q1,m1⟩,hl,h⟩:=Option.bind_eq_some_iff.1 h
   simp only at h
   have HL:=Aside0.mk hl
   have HC' := Aside0.mk (Kd.C_below HC.out (hB0.trans (below_base hg0 W.out.2.1)))
   have hm0:=W.out.more
   clear hl
   have call:=fun (v:Unit)=>chunk_reader_line.calls k g A c l p m s e1 q1 m1 wr W.out.1 HC'.out hc HL.out
   have CALL:=Aside0.mk call
   clear call hm0
   have hN:=HN.out
   by_cases c1:e1=0;rotate_left
   ·rw [if_neg c1] at h
    simp only [Option.some.injEq,Prod.mk.injEq] at h
    obtain ⟨rfl,rfl,rfl⟩:=h
    have d1:(e1 == 0)=false:=beq_eq_false_iff_ne.2 c1
    have d2:(e1 != 0)=true:=bne_iff_ne.2 c1
    clear c1
    go_wp2_with (go_at_call 165;(with_reducible refine (CALL.out ()).mono ?_);rintro E w1 ⟨rfl,hw⟩;have hm:=hw.more;have W1:=Aside0.mk (W.out.then_ hw);clear hw)
    go_ret
    exact ⟨rfl,W1.out⟩
   subst c1
   rw [if_pos rfl] at h
   cases m1
   ·rw [if_neg zb44] at h
    by_cases c2:s.toList=[]
    ·rw [if_pos c2] at h
     simp only [Option.some.injEq,Prod.mk.injEq] at h
     obtain ⟨rfl,rfl,rfl⟩:=h
     have d2:s.toList.isEmpty=true:=List.isEmpty_iff.2 c2
     go_wp2_with (go_at_call 165;(with_reducible refine (CALL.out ()).mono ?_);rintro E w1 ⟨rfl,hw⟩;have hm:=hw.more;have W1:=Aside0.mk (W.out.then_ hw);clear hw)
     go_ret
     exact ⟨rfl,W1.out⟩
    rw [if_neg c2] at h
    have d2:s.toList.isEmpty=false:=by rw [Bool.eq_false_iff];exact fun e=>c2 (List.isEmpty_iff.1 e)
    have d3:(s.toList=[])=False:=eq_false c2
    clear c2
    obtain ⟨⟨y1,y2,y3⟩,hp,h⟩:=Option.bind_eq_some_iff.1 h
    simp only at h
    have HP:=Aside0.mk hp
    clear hp
    by_cases c3:y3=0;rotate_left
    ·rw [if_neg c3] at h
     simp only [Option.some.injEq,Prod.mk.injEq] at h
     obtain ⟨rfl,rfl,rfl⟩:=h
     have d4:(y3 == 0)=false:=beq_eq_false_iff_ne.2 c3
     have d5:(y3 != 0)=true:=bne_iff_ne.2 c3
     clear c3
     go_wp2_with (first|(go_at_call 165;(with_reducible refine (CALL.out ()).mono ?_);rintro E w1 ⟨rfl,hw⟩;have hm:=hw.more;have W1:=Aside0.mk (W.out.then_ hw);clear hw)|(go_at_call 109;(with_reducible refine (field_Parse.calls s y1 y2 y3 _ HP.out).mono ?_);rintro E w2 ⟨rfl,hd⟩;have W2:=Aside0.mk (W1.out.step hd);clear hd))
     go_ret
     exact ⟨rfl,W2.out.step (below_alloc (Below.refl _ _) _)⟩
    subst c3
    rw [if_pos rfl] at h
    by_cases c4:n=40
    ·subst c4
     rw [if_pos rfl] at h
     simp only [Option.some.injEq,Prod.mk.injEq] at h
     obtain ⟨rfl,rfl,rfl⟩:=h
     go_wp2_with (first|(go_at_call 165;(with_reducible refine (CALL.out ()).mono ?_);rintro E w1 ⟨rfl,hw⟩;have hm:=hw.more;have W1:=Aside0.mk (W.out.then_ hw);clear hw)|(go_at_call 109;(with_reducible refine (field_Parse.calls s y1 y2 0 _ HP.out).mono ?_);rintro E w2 ⟨rfl,hd⟩;have W2:=Aside0.mk (W1.out.step hd);clear hd))
     go_ret
     exact ⟨rfl,W2.out.step (below_alloc (Below.refl _ _) _)⟩
    rw [if_neg c4] at h
    have d4:(n == 40)=false:=beq_eq_false_iff_ne.2 c4
    have H2:=Aside0.mk h
    have hw:wrap64 (n + 1)=n + 1:=by unfold wrap64;omega
    have HN2:Aside0 (0 ≤ n + 1∧n + 1 ≤ 40):=⟨zb17⟩
    clear h c4
    go_wp2_with (first|(go_at_call 165;(with_reducible refine (CALL.out ()).mono ?_);rintro E w1 ⟨rfl,hw⟩;have hm:=hw.more;have W1:=Aside0.mk (W.out.then_ hw);clear hw)|(go_at_call 109;(with_reducible refine (field_Parse.calls s y1 y2 0 _ HP.out).mono ?_);rintro E w2 ⟨rfl,hd⟩;have W2:=Aside0.mk (W1.out.step hd);clear hd))
    go_roundg k
    case rel=>exact ⟨n + 1,q1,false,rfl,HN2,H2,⟨W2.out.step (below_alloc (Below.refl _ _) _)⟩⟩
    case measure=>exact Nat.lt_succ_self k
   ·rw [if_pos rfl] at h
    simp only [Option.some.injEq,Prod.mk.injEq] at h
    obtain ⟨rfl,rfl,rfl⟩:=h
    go_wp2_with (go_at_call 165;(with_reducible refine (CALL.out ()).mono ?_);rintro E w1 ⟨rfl,hw⟩;have hm:=hw.more;have W1:=Aside0.mk (W.out.then_ hw);clear hw)
    go_ret
    exact ⟨rfl,W1.out⟩
def chunk_Decode.l:Nat → List Int → Int → Int → List Int → Option (List Int × Int × Int)
 | 0,_,_,_,_=>none
 | k + 1,l,p,left,out=>(chunk_reader_size.f k l p).bind fun x=>if x.2.1=0 then (if x.2.2.2=true then some ([],0,0) else
  if x.1=0 then ((chunk_reader_trailer.f k l x.2.2.1).bind fun y=>if y.1=0 then (if y.2.2=true then some ([],0,0) else some (out,y.2.1,0)) else some ([],0,y.1))
  else if x.1 > left then some ([],0,2)
  else (chunk_reader_data.f l x.2.2.1 x.1 false).bind fun d=>if d.2.1=0 then (if d.2.2.2=true then some ([],0,0) else if out.length + d.1.length ≤ 140737488355328 then chunk_Decode.l k l d.2.2.1 (wrap64 (left - x.1)) (out ++ d.1) else none) else some ([],0,d.2.1))
  else some ([],0,x.2.1)
def chunk_Decode.f (k:Nat) (l0:List Int) (a1:Int):Option (List Int × Int × Int):=chunk_Decode.l k l0 0 (mx a1 0) []
theorem went_rdr {w w' : World} {g:Nat} {A:Option Addr} {n c:Nat} {p:Int} {m:Bool} (h:Went w w' g A n c p m):Rdr w' g A n c p m:=h.1
theorem dec_blk_grown {w w1:World} {g:Nat} {o:Obj} {row:Option Nat} (h:w.heap[g]? = some o) (hg:w.grownBy w1 row) (hne:some g ≠ row):w1.heap[g]? = some o:=(hg.block g (blk_lt h) hne).trans h
/-- What Decode hands back. -/
def DecPost (w:World) (r1:List Int) (r2 r3:Int) (E:Ending) (w' : World):Prop := ∃ v0_:Value,E = .returned (.tuple #[v0_,.int .i64 r2,.int .i64 r3])∧Kd.R (Kd.int .u8) 5 w' w.heap.size (fun _=>True) v0_ r1∧Below w.heap.size w w'
theorem dec_none {w w' : World} {r2 r3:Int} (h:Below w.heap.size w w'):DecPost w [] r2 r3 (.returned (.tuple #[.slice none 0 0,.int .i64 r2,.int .i64 r3])) w' := ⟨_,rfl,Kd.R_nil _ _ _ _ _,h⟩
/-- The reader and what was collected,beside it. -/
def Dec (w wr:World) (g:Nat) (A:Option Addr) (n c:Nat) (p:Int) (v:Value) (out:List Int):Prop:=Rdr wr g A n c p false∧Below w.heap.size w wr∧w.heap.size ≤ g∧Kd.R (Kd.int .u8) 5 wr w.heap.size (fun k=>k ≠ g) v out
theorem Dec.went {w wr w1:World} {g:Nat} {A:Option Addr} {n c:Nat} {p q:Int} {v:Value} {out:List Int} (h:Dec w wr g A n c p v out) (k:Went wr w1 g A n c q false):Dec w w1 g A n c q v out :=
 ⟨k.1,h.2.1.trans (below_base h.2.2.1 k.2.1),h.2.2.1,Kd.R_keep h.2.2.2 k.2.2 (fun _ hk=>hk)⟩
theorem Dec.below {w wr w1:World} {g:Nat} {A:Option Addr} {n c:Nat} {p q:Int} {m:Bool} {v:Value} {out:List Int} (h:Dec w wr g A n c p v out) (k:Went wr w1 g A n c q m):Below w.heap.size w w1:=h.2.1.trans (below_base h.2.2.1 k.2.1)
set_option maxHeartbeats 16000000 in
set_option maxRecDepth 100000 in
theorem chunk_Decode.calls (k:Nat) (A0:Option Addr) (c0:Nat) (l0:List Int) (a1:Int) (r1:List Int) (r2:Int) (r3:Int) (w:World) (hr0:Kd.C (Kd.int .u8) w A0 l0.length l0) (hc0:l0.length ≤ c0) (h:chunk_Decode.f k l0 a1=some (r1,r2,r3)) :
 Calls Tryz.prog 79 #[.slice A0 l0.length c0,.int .i64 a1] w fun e w' => ∃ v0_:Value,e = .returned (.tuple #[v0_,.int .i64 r2,.int .i64 r3])∧Kd.R (Kd.int .u8) 5 w' w.heap.size (fun _=>True) v0_ r1∧Below w.heap.size w w' := by
 show Calls Tryz.prog 79 #[.slice A0 l0.length c0,.int .i64 a1] w (DecPost w r1 r2 r3)
 have hu:=Tryz.underlying150
 have HC:=Aside0.mk hr0
 have H:=Aside0.mk h
 clear hr0 h
 have HD0:Aside0 (Dec w ((w.alloc (.cells #[.slice A0 l0.length c0,.int .i64 0,.bool false] 150)).alloc (.cells #[] 5)) w.heap.size A0 l0.length c0 0 (.slice (some ⟨w.heap.size + 1,0,none⟩) 0 0) []):=⟨by
  refine ⟨?_,?_,Nat.le_refl _,?_⟩
  ·exact blk_alloc (blk_new w _) _
  ·exact below_alloc (below_alloc (Below.refl _ _) _) _
  have ho:=own_lit (w.alloc (.cells #[.slice A0 l0.length c0,.int .i64 0,.bool false] 150)) w.heap.size 5 .u8 [] zb44 zb44
  have hz:(w.alloc (.cells #[.slice A0 l0.length c0,.int .i64 0,.bool false] 150)).heap.size=w.heap.size + 1:=by simp
  rw [hz] at ho
  exact Kd.R_of_own (h1:=fun _=>rfl) ho (fun k hk=>by
   have:w.heap.size + 1=k:=by simpa [Value.ownBlock] using hk
   omega)⟩
 obtain ⟨mm,hmm⟩ : ∃ mm,mm=mx a1 0:=⟨_,rfl⟩
 unfold chunk_Decode.f at H
 rw [← hmm] at H
 have hmx:=hmm.symm
 clear hmm
 go_enter Tryz.func79,Tryz.ntmps79
 go_wp2_with fail
 all_goals
  go_loopg [8,9,10,11,12] k (fun kq v8 v9 _ _ _ wr => ∃ (p left:Int) (out:List Int),v8 = .int .i64 left∧Aside0 (chunk_Decode.l kq l0 p left out=some (r1,r2,r3))∧Aside0 (Dec w wr w.heap.size A0 l0.length c0 p v9 out))
  case atStart=>first|exact ⟨0,0,[],rfl,⟨(show mm=0 by rw [← hmx];unfold mx;split <;> omega) ▸ H.out⟩,HD0⟩|exact ⟨0,a1,[],rfl,⟨(show mm=a1 by rw [← hmx];unfold mx;split <;> omega) ▸ H.out⟩,HD0⟩
  case round =>
   obtain ⟨p,left,out,rfl,H,D⟩:=hrel
   cases gk with
   | zero=>exact absurd H.out (by simp [chunk_Decode.l])
   | succ k =>
    clear HD0 hmx
    have h:=H.out
    clear H
    simp only [chunk_Decode.l] at h
    obtain ⟨⟨n1,e1,q1,m1⟩,hl,h⟩:=Option.bind_eq_some_iff.1 h
    simp only at h
    have call:=fun (v:Unit)=>chunk_reader_size.calls k w.heap.size A0 c0 l0 p false n1 e1 q1 m1 wr D.out.1 (Kd.C_below HC.out D.out.2.1) hc0 hl
    have CALL:=Aside0.mk call
    clear call hl
    by_cases c1:e1=0;rotate_left
    ·rw [if_neg c1] at h
     simp only [Option.some.injEq,Prod.mk.injEq] at h
     obtain ⟨rfl,rfl,rfl⟩:=h
     have d1:(e1 == 0)=false:=beq_eq_false_iff_ne.2 c1
     have d2:(e1 != 0)=true:=bne_iff_ne.2 c1
     clear c1
     go_wp2_with (first|(go_at_call 122;(with_reducible refine (CALL.out ()).mono ?_);rintro E w1 ⟨rfl,hw⟩;have hm:=hw.more;have W1:=Aside0.mk hw;clear hw))
     go_ret3
     exact dec_none (D.out.below W1.out)
    subst c1
    rw [if_pos rfl] at h
    cases m1
    ·rw [if_neg zb44] at h
     by_cases c2:n1=0
     ·subst c2
      rw [if_pos rfl] at h
      obtain ⟨⟨e2,q2,m2⟩,ht,h⟩:=Option.bind_eq_some_iff.1 h
      simp only at h
      have HT:=Aside0.mk ht
      clear ht
      by_cases c3:e2=0;rotate_left
      ·rw [if_neg c3] at h
       simp only [Option.some.injEq,Prod.mk.injEq] at h
       obtain ⟨rfl,rfl,rfl⟩:=h
       have d1:(e2 == 0)=false:=beq_eq_false_iff_ne.2 c3
       have d2:(e2 != 0)=true:=bne_iff_ne.2 c3
       clear c3
       go_wp2_with (first|(go_at_call 122;(with_reducible refine (CALL.out ()).mono ?_);rintro E w1 ⟨rfl,hw⟩;have hm:=hw.more;have W1:=Aside0.mk hw;clear hw)|(go_at_call 124;(with_reducible refine (chunk_reader_trailer.calls k w.heap.size A0 c0 l0 q1 false _ _ _ w w1 (went_rdr W1.out) HC.out (D.out.below W1.out) (Nat.le_refl _) hc0 HT.out).mono ?_);rintro E w2 ⟨rfl,hw⟩;have hm2:=hw.more;have hp2:=hw.place;have W2:=Aside0.mk hw;clear hw))
       go_ret3
       exact dec_none ((D.out.went W1.out).below W2.out)
      subst c3
      rw [if_pos rfl] at h
      cases m2
      ·rw [if_neg zb44] at h
       simp only [Option.some.injEq,Prod.mk.injEq] at h
       obtain ⟨rfl,rfl,rfl⟩:=h
       go_wp2_with (first|(go_at_call 122;(with_reducible refine (CALL.out ()).mono ?_);rintro E w1 ⟨rfl,hw⟩;have hm:=hw.more;have W1:=Aside0.mk hw;clear hw)|(go_at_call 124;(with_reducible refine (chunk_reader_trailer.calls k w.heap.size A0 c0 l0 q1 false _ _ _ w w1 (went_rdr W1.out) HC.out (D.out.below W1.out) (Nat.le_refl _) hc0 HT.out).mono ?_);rintro E w2 ⟨rfl,hw⟩;have hm2:=hw.more;have hp2:=hw.place;have W2:=Aside0.mk hw;clear hw))
       have D3:=Aside0.mk ((D.out.went W1.out).went W2.out)
       go_quiet (fail)
       go_wp2_with fail
       go_ret3
       exact ⟨_,rfl,Kd.R_mono (Kd.R_below D3.out.2.2.2 (pw_below_drewN (Below.refl _ _) _)) (fun _ _=>trivial),pw_below_drewN D3.out.2.1 _⟩
      ·rw [if_pos rfl] at h
       simp only [Option.some.injEq,Prod.mk.injEq] at h
       obtain ⟨rfl,rfl,rfl⟩:=h
       go_wp2_with (first|(go_at_call 122;(with_reducible refine (CALL.out ()).mono ?_);rintro E w1 ⟨rfl,hw⟩;have hm:=hw.more;have W1:=Aside0.mk hw;clear hw)|(go_at_call 124;(with_reducible refine (chunk_reader_trailer.calls k w.heap.size A0 c0 l0 q1 false _ _ _ w w1 (went_rdr W1.out) HC.out (D.out.below W1.out) (Nat.le_refl _) hc0 HT.out).mono ?_);rintro E w2 ⟨rfl,hw⟩;have hm2:=hw.more;have hp2:=hw.place;have W2:=Aside0.mk hw;clear hw))
       go_ret3
       exact dec_none ((D.out.went W1.out).below W2.out)
     rw [if_neg c2] at h
     have d2:(n1 == 0)=false:=beq_eq_false_iff_ne.2 c2
     clear c2
     by_cases c3:n1 > left
     ·rw [if_pos c3] at h
      simp only [Option.some.injEq,Prod.mk.injEq] at h
      obtain ⟨rfl,rfl,rfl⟩:=h
      have d3:decide (n1 > left)=true:=decide_eq_true c3
      have d4:(left < n1)=True:=eq_true c3
      clear c3
      go_wp2_with (first|(go_at_call 122;(with_reducible refine (CALL.out ()).mono ?_);rintro E w1 ⟨rfl,hw⟩;have hm:=hw.more;have W1:=Aside0.mk hw;clear hw))
      go_ret3
      exact dec_none (D.out.below W1.out)
     rw [if_neg c3] at h
     have d3:decide (n1 > left)=false:=decide_eq_false c3
     have d4:(left < n1)=False:=eq_false c3
     clear c3
     obtain ⟨⟨r3',e3,q3,m3⟩,ht,h⟩:=Option.bind_eq_some_iff.1 h
     simp only at h
     have HT:=Aside0.mk ht
     clear ht
     by_cases c4:e3=0;rotate_left
     ·rw [if_neg c4] at h
      simp only [Option.some.injEq,Prod.mk.injEq] at h
      obtain ⟨rfl,rfl,rfl⟩:=h
      have d5:(e3 == 0)=false:=beq_eq_false_iff_ne.2 c4
      have d6:(e3 != 0)=true:=bne_iff_ne.2 c4
      clear c4
      go_wp2_with (first|(go_at_call 122;(with_reducible refine (CALL.out ()).mono ?_);rintro E w1 ⟨rfl,hw⟩;have hm:=hw.more;have W1:=Aside0.mk hw;clear hw)|(go_at_call 123;(with_reducible refine (chunk_reader_data.calls w.heap.size A0 c0 l0 q1 n1 false r3' _ _ _ w w1 (went_rdr W1.out) HC.out (D.out.below W1.out) (Nat.le_refl _) hc0 HT.out).mono ?_);rintro E w2 ⟨A2,c2,rfl,hCr,hcr,hw⟩;have hm2:=hw.more;have W2:=Aside0.mk hw;have HCr:=Aside0.mk hCr;have Hcr:=Aside0.mk hcr;clear hw hCr hcr))
      go_ret3
      exact dec_none ((D.out.went W1.out).below W2.out)
     subst c4
     rw [if_pos rfl] at h
     cases m3
     ·rw [if_neg zb44] at h
      by_cases c5:out.length + r3'.length ≤ 140737488355328
      ·rw [if_pos c5] at h
       have HLEN:=Aside0.mk c5
       have H2:=Aside0.mk h
       clear c5 h
       go_wp2_with (first|(go_at_call 122;(with_reducible refine (CALL.out ()).mono ?_);rintro E w1 ⟨rfl,hw⟩;have hm:=hw.more;have W1:=Aside0.mk hw;clear hw)|(go_at_call 123;(with_reducible refine (chunk_reader_data.calls w.heap.size A0 c0 l0 q1 n1 false r3' _ _ _ w w1 (went_rdr W1.out) HC.out (D.out.below W1.out) (Nat.le_refl _) hc0 HT.out).mono ?_);rintro E w2 ⟨A2,c2,rfl,hCr,hcr,hw⟩;have hm2:=hw.more;have W2:=Aside0.mk hw;have HCr:=Aside0.mk hCr;have Hcr:=Aside0.mk hcr;clear hw hCr hcr;have D2:=Aside0.mk ((D.out.went W1.out).went W2.out))|((with_reducible refine gate_builtin (b:=.append) (xs:=#[.tmp 57,.tmp 58]) rfl ?_);at_builtin;refine Kd.R_append_rows (Kd.int .u8) (w0:=w) w.heap.size rfl (.tmp 57) (.tmp 58) 22 5 (.int .u8 0) 1 rfl Tryz.underlying22 info5 rfl zb47 zb17 u9 out r3' _ _ _ (fun k_=>k_ ≠ w.heap.size) (fun _=>False) rfl rfl ?aO ?aR (fun _ _ h=>h) (fun _ h=>h.elim) ?aF ?aB ?aS ?aL ?_;(case aO=>exact (D2.out).2.2.2);(case aR=>exact Kd.C_below HCr.out D2.out.2.1);(case aF=>intro k_ hk e_;have:=blk_lt D2.out.1;omega);(case aB=>exact D2.out.2.1);(case aS=>exact D2.out.2.1.size);(case aL=>have:=HLEN.out;omega);intro v3 w3 ho hb3 hg3 hat;have D3:=Aside0.mk (show Dec w w3 w.heap.size A0 l0.length c0 q3 v3 (out ++ r3') from ⟨dec_blk_grown D2.out.1 hg3 (fun e=>(D2.out).2.2.2.1 _ e.symm rfl),hb3,Nat.le_refl _,ho⟩);clear ho hb3 hg3 hat))
       go_roundg k
       case rel=>exact ⟨q3,wrap64 (left - n1),out ++ r3',rfl,H2,D3⟩
       case measure=>exact Nat.lt_succ_self k
      ·rw [if_neg c5] at h
       cases h
     ·rw [if_pos rfl] at h
      simp only [Option.some.injEq,Prod.mk.injEq] at h
      obtain ⟨rfl,rfl,rfl⟩:=h
      go_wp2_with (first|(go_at_call 122;(with_reducible refine (CALL.out ()).mono ?_);rintro E w1 ⟨rfl,hw⟩;have hm:=hw.more;have W1:=Aside0.mk hw;clear hw)|(go_at_call 123;(with_reducible refine (chunk_reader_data.calls w.heap.size A0 c0 l0 q1 n1 false r3' _ _ _ w w1 (went_rdr W1.out) HC.out (D.out.below W1.out) (Nat.le_refl _) hc0 HT.out).mono ?_);rintro E w2 ⟨A2,c2,rfl,hCr,hcr,hw⟩;have hm2:=hw.more;have W2:=Aside0.mk hw;have HCr:=Aside0.mk hCr;have Hcr:=Aside0.mk hcr;clear hw hCr hcr))
      go_ret3
      exact dec_none ((D.out.went W1.out).below W2.out)
    ·rw [if_pos rfl] at h
     simp only [Option.some.injEq,Prod.mk.injEq] at h
     obtain ⟨rfl,rfl,rfl⟩:=h
     go_wp2_with (first|(go_at_call 122;(with_reducible refine (CALL.out ()).mono ?_);rintro E w1 ⟨rfl,hw⟩;have hm:=hw.more;have W1:=Aside0.mk hw;clear hw))
     go_ret3
     exact dec_none (D.out.below W1.out)
def http_body.f (k:Nat) (l0:List Int) (a1:Int) (a2:Bool):Option (List Int × Int × Int):=if a2=true then ((chunk_Decode.f k l0 4096).bind fun bt251=>(if bt251.2.2=2 then (some (([]:List Int),(-1),413)) else (if bt251.2.2=0 then (if bt251.2.1=0 then (some (([]:List Int),(-1),0)) else (some (bt251.1,bt251.2.1,0))) else (some (([]:List Int),(-1),400))))) else (if (l0.length:Int) < a1 then (some (([]:List Int),(-1),0)) else (if 0 ≤ a1 then (if a1 ≤ (l0.length:Int) then ((bytes_Clone.f (l0.take (a1:Int).toNat)).bind fun t248=>(some (t248,a1,0))) else (none)) else (none)))
set_option maxHeartbeats 8000000 in
set_option maxRecDepth 100000 in
theorem http_body.calls (k:Nat) (A0:Option Addr) (c0:Nat) (l0:List Int) (a1:Int) (a2:Bool) (r1:List Int) (r2:Int) (r3:Int) (w:World) (hr0:Kd.C (Kd.int .u8) w A0 l0.length l0) (hc0:l0.length ≤ c0) (h:http_body.f k l0 a1 a2=some (r1,r2,r3)) :
 Calls Tryz.prog 45 #[.slice A0 l0.length c0,.int .i64 a1,.bool a2] w fun e w' => ∃ v0_:Value,e = .returned (.tuple #[v0_,.int .i64 r2,.int .i64 r3])∧Kd.R (Kd.int .u8) 5 w' w.heap.size (fun _=>True) v0_ r1∧Below w.heap.size w w' := by
 have HR0:=Aside0.mk hr0
 have HC0:=Aside0.mk hc0
 clear hr0 hc0
 have HB:=Aside0.mk (Below.refl w.heap.size w)
 unfold http_body.f at h
 have H:=h
 clear h
 by_cases c4:a2=true;rotate_left
 ·replace c4:=Bool.eq_false_iff.mpr c4
  subst c4
  rw [if_neg (show ¬ (false=true) by decide)] at H
  by_cases c13:(l0.length:Int) < a1
  ·rw [if_pos c13] at H
   have c13b0:=decide_eq_true c13
   clear c13
   simp only [Option.some.injEq,Prod.mk.injEq] at H
   obtain ⟨rfl,rfl,rfl⟩:=H
   go_enter Tryz.func45,Tryz.ntmps45
   go_wp2
   go_ret3
   exact ⟨_,zb2,zb12,zb0⟩
  rw [if_neg c13] at H
  have c13b0:=decide_eq_false c13
  clear c13
  by_cases c14:0 ≤ a1;rotate_left
  ·rw [if_neg c14] at H
   exact absurd H zb44
  rw [if_pos c14] at H
  have c14b0:=eq_true c14
  have c14b1:=decide_eq_true c14
  clear c14
  by_cases c15:a1 ≤ (l0.length:Int);rotate_left
  ·rw [if_neg c15] at H
   exact absurd H zb44
  rw [if_pos c15] at H
  have c15b0:=eq_true c15
  have c15b1:=decide_eq_true c15
  clear c15
  replace H:=Option.bind_eq_some_iff.mp H
  obtain ⟨t248,A160,H⟩:=H
  try dsimp only at H
  have A16:=Aside0.mk A160
  clear A160
  simp only [Option.some.injEq,Prod.mk.injEq] at H
  obtain ⟨rfl,rfl,rfl⟩:=H
  obtain ⟨i017,hi017,_,hsz17,_⟩:=info_parts info5
  obtain ⟨hcut17,hA17,hC17⟩:=print_take_of (P:=Tryz.prog) (Value.int .u8) 0 22 5 .i64 Tryz.underlying22 hi017 hsz17 A0 c0 l0 a1 (of_decide_eq_true zb3) (of_decide_eq_true zb3) HC0.out
  have HR247:=Aside0.mk (Kd.C_of_reads (h1:=fun _=>rfl) (hA17 _ (Kd.reads_of_C HR0.out)))
  have HC247:=Aside0.mk hC17
  clear hA17 hC17 hi017 hsz17
  go_enter Tryz.func45,Tryz.ntmps45
  go_wp2_with (first|((with_reducible refine gate_callee (f:=62) rfl ?_);refine goesL_ (some 21) rfl rfl Tryz.func62 zb7 rfl #[.slice A0 (l0.take (a1:Int).toNat).length c0] rfl (by (try simp only [List.map_toArray,List.map_cons,List.map_nil]);first|done|(rw [show (l0.take (a1:Int).toNat).length=a1.toNat from (by rw [List.length_take];have h_:(a1:Int) ≤ (l0.length:Int):=of_decide_eq_true (by first|(with_reducible assumption)|assumption);omega)] <;> rfl)|rfl|(simp only [List.length_drop,List.length_take];rfl)) ?_;(with_reducible refine (bytes_Clone.calls _ _ (l0.take (a1:Int).toNat) t248 _ ?side1 ?side2 A16.out).mono ?_);(case side1=>repeat (first|exact HR247.out|(with_reducible refine Kd.C_alloc ?_ _)|(with_reducible refine Kd.C_drewN ?_ _)|(with_reducible refine Kd.C_drew ?_)));(case side2=>exact HC247.out);rintro e w18 ⟨v249,rfl,ho0,hb⟩;(try clear A16);refine ⟨_,rfl,?_⟩;have HO250:=Aside0.mk (Kd.R_lower ho0 (below_size zb0));replace HB:=Aside0.mk (below_step zb0 hb);try clear hb ho0))
  go_ret3
  exact ⟨_,zb2,by (with_reducible repeat (first|apply Kd.R_alloc|apply Kd.R_drewN|apply Kd.R_drew));exact HO250.out,zb0⟩
 subst c4
 rw [if_pos rfl] at H
 replace H:=Option.bind_eq_some_iff.mp H
 obtain ⟨⟨t251,t252,t253⟩,A50,H⟩:=H
 try dsimp only at H
 have A5:=Aside0.mk A50
 clear A50
 by_cases c6:t253=2
 ·rw [if_pos c6] at H
  have c6b0:=beq_iff_eq.mpr c6
  have c6b1:=bne_eq_false_iff_eq.mpr c6
  clear c6
  simp only [Option.some.injEq,Prod.mk.injEq] at H
  obtain ⟨rfl,rfl,rfl⟩:=H
  go_enter Tryz.func45,Tryz.ntmps45
  go_wp2_with (first|((with_reducible refine gate_callee (f:=79) rfl ?_);refine goesL_ (some 25) rfl rfl Tryz.func79 zb7 rfl #[.slice A0 l0.length c0,.int .i64 4096] rfl zb1 ?_;(with_reducible refine (chunk_Decode.calls k _ _ l0 4096 t251 t252 t253 _ ?side1 ?side2 A5.out).mono ?_);(case side1=>exact zb37);(case side2=>exact HC0.out);rintro e w7 ⟨v254,rfl,ho0,hb⟩;(try clear A5);refine ⟨_,rfl,?_⟩;have HO255:=Aside0.mk (Kd.R_lower ho0 (below_size zb0));replace HB:=Aside0.mk (below_step zb0 hb);try clear hb ho0))
  go_ret3
  exact ⟨_,zb2,zb12,zb0⟩
 ·rw [if_neg c6] at H
  have c6b0:=beq_eq_false_iff_ne.mpr c6
  have c6b1:=bne_iff_ne.mpr c6
  by_cases c8:t253=0
  ·rw [if_pos c8] at H
   have c8b0:=beq_iff_eq.mpr c8
   have c8b1:=bne_eq_false_iff_eq.mpr c8
   clear c8
   by_cases c9:t252=0
   ·rw [if_pos c9] at H
    have c9b0:=beq_iff_eq.mpr c9
    have c9b1:=bne_eq_false_iff_eq.mpr c9
    clear c9
    simp only [Option.some.injEq,Prod.mk.injEq] at H
    obtain ⟨rfl,rfl,rfl⟩:=H
    go_enter Tryz.func45,Tryz.ntmps45
    go_wp2_with (first|((with_reducible refine gate_callee (f:=79) rfl ?_);refine goesL_ (some 25) rfl rfl Tryz.func79 zb7 rfl #[.slice A0 l0.length c0,.int .i64 4096] rfl zb1 ?_;(with_reducible refine (chunk_Decode.calls k _ _ l0 4096 t251 t252 t253 _ ?side1 ?side2 A5.out).mono ?_);(case side1=>exact zb37);(case side2=>exact HC0.out);rintro e w10 ⟨v254,rfl,ho0,hb⟩;(try clear A5);refine ⟨_,rfl,?_⟩;have HO255:=Aside0.mk (Kd.R_lower ho0 (below_size zb0));replace HB:=Aside0.mk (below_step zb0 hb);try clear hb ho0))
    go_ret3
    exact ⟨_,zb2,zb12,zb0⟩
   ·rw [if_neg c9] at H
    have c9b0:=beq_eq_false_iff_ne.mpr c9
    have c9b1:=bne_iff_ne.mpr c9
    simp only [Option.some.injEq,Prod.mk.injEq] at H
    obtain ⟨rfl,rfl,rfl⟩:=H
    go_enter Tryz.func45,Tryz.ntmps45
    go_wp2_with (first|((with_reducible refine gate_callee (f:=79) rfl ?_);refine goesL_ (some 25) rfl rfl Tryz.func79 zb7 rfl #[.slice A0 l0.length c0,.int .i64 4096] rfl zb1 ?_;(with_reducible refine (chunk_Decode.calls k _ _ l0 4096 t251 t252 t253 _ ?side1 ?side2 A5.out).mono ?_);(case side1=>exact zb37);(case side2=>exact HC0.out);rintro e w11 ⟨v254,rfl,ho0,hb⟩;(try clear A5);refine ⟨_,rfl,?_⟩;have HO255:=Aside0.mk (Kd.R_lower ho0 (below_size zb0));replace HB:=Aside0.mk (below_step zb0 hb);try clear hb ho0))
    go_ret3
    exact ⟨_,zb2,by (with_reducible repeat (first|apply Kd.R_alloc|apply Kd.R_drewN|apply Kd.R_drew));exact HO255.out,zb0⟩
  ·rw [if_neg c8] at H
   have c8b0:=beq_eq_false_iff_ne.mpr c8
   have c8b1:=bne_iff_ne.mpr c8
   simp only [Option.some.injEq,Prod.mk.injEq] at H
   obtain ⟨rfl,rfl,rfl⟩:=H
   go_enter Tryz.func45,Tryz.ntmps45
   go_wp2_with (first|((with_reducible refine gate_callee (f:=79) rfl ?_);refine goesL_ (some 25) rfl rfl Tryz.func79 zb7 rfl #[.slice A0 l0.length c0,.int .i64 4096] rfl zb1 ?_;(with_reducible refine (chunk_Decode.calls k _ _ l0 4096 t251 t252 t253 _ ?side1 ?side2 A5.out).mono ?_);(case side1=>exact zb37);(case side2=>exact HC0.out);rintro e w12 ⟨v254,rfl,ho0,hb⟩;(try clear A5);refine ⟨_,rfl,?_⟩;have HO255:=Aside0.mk (Kd.R_lower ho0 (below_size zb0));replace HB:=Aside0.mk (below_step zb0 hb);try clear hb ho0))
   go_ret3
   exact ⟨_,zb2,zb12,zb0⟩
/-- At a text of one byte alone. -/
def strings_Count.f (a0 a1:ByteArray):Option Int:=match a1.data.toList with
 | [c]=>some (Lib.countByte a0.data.toList c)
 | _=>none
theorem strings_Count.calls (a0 a1:ByteArray) (r:Int) (w:World) (h:strings_Count.f a0 a1=some r) :
 Calls Tryz.prog 186 #[.string a0,.string a1] w fun e w' => e = .returned (.int .i64 r)∧Drawn0 w w' := by
 obtain ⟨⟨l⟩⟩:=a1
 unfold strings_Count.f at h
 split at h
 ·rename_i c hc
  obtain rfl:l=[c]:=hc
  obtain rfl:=Option.some.inj h
  refine (Tryz.strings_Count_one a0 c w).mono ?_
  rintro e w' ⟨rfl,rfl⟩
  exact ⟨rfl,Drawn0.refl _⟩
 cases h
/-- At a text of one byte alone. -/
def strings_Index.f (a0 a1:ByteArray):Option Int:=match a1.data.toList with
 | [c]=>some (Lib.indexByte a0.data.toList c)
 | _=>none
theorem strings_Index.calls (a0 a1:ByteArray) (r:Int) (w:World) (h:strings_Index.f a0 a1=some r) :
 Calls Tryz.prog 187 #[.string a0,.string a1] w fun e w' => e = .returned (.int .i64 r)∧Drawn0 w w' := by
 obtain ⟨⟨l⟩⟩:=a1
 unfold strings_Index.f at h
 split at h
 ·rename_i c hc
  obtain rfl:l=[c]:=hc
  obtain rfl:=Option.some.inj h
  refine (Tryz.strings_Index_one a0 c w).mono ?_
  rintro e w' ⟨rfl,rfl⟩
  exact ⟨rfl,Drawn0.refl _⟩
 cases h
/-- Not followed: no law comes here. -/
def strings_explode.f (a0:ByteArray) (a1:Int):Option (List ByteArray):=none
theorem strings_explode.calls (a0:ByteArray) (a1:Int) (r:List ByteArray) (w:World) (h:strings_explode.f a0 a1=some r) :
 Calls Tryz.prog 185 #[.string a0,.int .i64 a1] w fun e w' => ∃ v0_:Value,e = .returned (v0_)∧Kd.R Kd.string 9 w' w.heap.size (fun _=>True) v0_ r∧Below w.heap.size w w' := by cases h
mutual
def strings_genSplit.j0:Nat → ByteArray → ByteArray → Int → Int → Option (List ByteArray)
 | 0,_,_,_,_=>none
 | k + 1,x0,x1,x2,x3=>if 0 ≤ (mn x3 (wrap64 ((x0.size:Int) + 1))) then (if (mn x3 (wrap64 ((x0.size:Int) + 1)):Int).toNat ≤ 17592186044416 then (strings_genSplit.l0 k x0 x1 x2 (wrap64 ((mn x3 (wrap64 ((x0.size:Int) + 1))) - 1)) (List.replicate (mn x3 (wrap64 ((x0.size:Int) + 1)):Int).toNat (⟨#[]⟩:ByteArray)) 0) else (none)) else (none)
def strings_genSplit.l0:Nat → ByteArray → ByteArray → Int → Int → List ByteArray → Int → Option (List ByteArray)
 | 0,_,_,_,_,_,_=>none
 | k + 1,x0,x1,x2,x3,x9,x10=>if x10 < x3 then ((strings_Index.f x0 x1).bind fun t133=>(if t133 < 0 then (if 0 ≤ x10 then (if x10 < (x9.length:Int) then (if 0 ≤ (wrap64 (x10 + 1)) then (if (wrap64 (x10 + 1)) ≤ (x9.length:Int) then (some ((x9.set (x10:Int).toNat x0).take ((wrap64 (x10 + 1)):Int).toNat)) else (none)) else (none)) else (none)) else (none)) else (if 0 ≤ (wrap64 (t133 + x2)) then (if (wrap64 (t133 + x2)) ≤ (x0.size:Int) then (if 0 ≤ x10 then (if x10 < (x9.length:Int) then (if 0 ≤ (wrap64 (t133 + (x1.size:Int))) then (if (wrap64 (t133 + (x1.size:Int))) ≤ (x0.size:Int) then (strings_genSplit.l0 k (x0.extract ((wrap64 (t133 + (x1.size:Int))):Int).toNat x0.size) x1 x2 x3 (x9.set (x10:Int).toNat (x0.extract 0 ((wrap64 (t133 + x2)):Int).toNat)) (wrap64 (x10 + 1))) else (none)) else (none)) else (none)) else (none)) else (none)) else (none)))) else (if 0 ≤ x10 then (if x10 < (x9.length:Int) then (if 0 ≤ (wrap64 (x10 + 1)) then (if (wrap64 (x10 + 1)) ≤ (x9.length:Int) then (some ((x9.set (x10:Int).toNat x0).take ((wrap64 (x10 + 1)):Int).toNat)) else (none)) else (none)) else (none)) else (none))
end
def strings_genSplit.f (k:Nat) (a0:ByteArray) (a1:ByteArray) (a2:Int) (a3:Int):Option (List ByteArray):=if a3=0 then (some ([]:List ByteArray)) else (if a1.toList=([]:List UInt8) then ((strings_explode.f a0 a3).bind fun t126=>(some t126)) else (if a3 < 0 then ((strings_Count.f a0 a1).bind fun t129=>(strings_genSplit.j0 k a0 a1 a2 (wrap64 (t129 + 1)))) else (strings_genSplit.j0 k a0 a1 a2 a3)))
theorem strings_genSplit.mono_l : ∀ k,(∀ y0 y1 y2 y3,LeO (strings_genSplit.j0 k y0 y1 y2 y3) (strings_genSplit.j0 (k + 1) y0 y1 y2 y3))∧(∀ y0 y1 y2 y3 y4 y5,LeO (strings_genSplit.l0 k y0 y1 y2 y3 y4 y5) (strings_genSplit.l0 (k + 1) y0 y1 y2 y3 y4 y5))
 | 0=>⟨fun _ _ _ _ r h=>by simp [strings_genSplit.j0] at h,fun _ _ _ _ _ _ r h=>by simp [strings_genSplit.l0] at h⟩
 | k + 1=>by
  obtain ⟨ih0,ih1⟩:=strings_genSplit.mono_l k
  refine ⟨?_,?_⟩
  ·intro y0 y1 y2 y3
   unfold strings_genSplit.j0
   repeat' first
   | (with_reducible exact ih0 _ _ _ _)
   | (with_reducible exact ih1 _ _ _ _ _ _)
   | (with_reducible exact LeO.refl _)
   | (with_reducible exact LeO.none _)
   | (with_reducible refine LeO.ite ?_ ?_)
   | (with_reducible refine LeO.bind ?_ (fun _=>?_))
   | exact ih0 _ _ _ _
   | exact ih1 _ _ _ _ _ _
   | exact LeO.none _
   | refine LeO.ite ?_ ?_
   | refine LeO.bind ?_ (fun _=>?_)
  intro y0 y1 y2 y3 y4 y5
  unfold strings_genSplit.l0
  repeat' first
  | (with_reducible exact ih0 _ _ _ _)
  | (with_reducible exact ih1 _ _ _ _ _ _)
  | (with_reducible exact LeO.refl _)
  | (with_reducible exact LeO.none _)
  | (with_reducible refine LeO.ite ?_ ?_)
  | (with_reducible refine LeO.bind ?_ (fun _=>?_))
  | exact ih0 _ _ _ _
  | exact ih1 _ _ _ _ _ _
  | exact LeO.none _
  | refine LeO.ite ?_ ?_
  | refine LeO.bind ?_ (fun _=>?_)
theorem strings_genSplit.mono : ∀ a0 a1 a2 a3 k,LeO (strings_genSplit.f k a0 a1 a2 a3) (strings_genSplit.f (k + 1) a0 a1 a2 a3):=by
 intro a0 a1 a2 a3 k
 obtain ⟨ih0,ih1⟩:=strings_genSplit.mono_l k
 unfold strings_genSplit.f
 repeat' first
  | (with_reducible exact ih0 _ _ _ _)
  | (with_reducible exact ih1 _ _ _ _ _ _)
  | (with_reducible exact LeO.refl _)
  | (with_reducible exact LeO.none _)
  | (with_reducible refine LeO.ite ?_ ?_)
  | (with_reducible refine LeO.bind ?_ (fun _=>?_))
  | exact ih0 _ _ _ _
  | exact ih1 _ _ _ _ _ _
  | exact LeO.none _
  | refine LeO.ite ?_ ?_
  | refine LeO.bind ?_ (fun _=>?_)
set_option maxHeartbeats 8000000 in
set_option maxRecDepth 100000 in
theorem strings_genSplit.calls (k:Nat) (a0:ByteArray) (a1:ByteArray) (a2:Int) (a3:Int) (r:List ByteArray) (w:World) (h:strings_genSplit.f k a0 a1 a2 a3=some r) :
 Calls Tryz.prog 160 #[.string a0,.string a1,.int .i64 a2,.int .i64 a3] w fun e w' => ∃ v0_:Value,e = .returned (v0_)∧Kd.R Kd.string 9 w' w.heap.size (fun _=>True) v0_ r∧Below w.heap.size w w' := by
 have HB:=Aside0.mk (Below.refl w.heap.size w)
 unfold strings_genSplit.f at h
 have H:=h
 clear h
 by_cases c5:a3=0
 ·rw [if_pos c5] at H
  have c5b0:=beq_iff_eq.mpr c5
  have c5b1:=bne_eq_false_iff_eq.mpr c5
  clear c5
  obtain rfl:=Option.some.inj H
  go_enter Tryz.func160,Tryz.ntmps160
  go_wp2
  go_ret
  exact ⟨_,zb2,zb12,zb0⟩
 rw [if_neg c5] at H
 have c5b0:=beq_eq_false_iff_ne.mpr c5
 have c5b1:=bne_iff_ne.mpr c5
 by_cases c6:a1.toList=([]:List UInt8)
 ·rw [if_pos c6] at H
  have c6b0:=beq_iff_eq.mpr c6
  have c6b1:=bne_eq_false_iff_eq.mpr c6
  clear c6
  replace H:=Option.bind_eq_some_iff.mp H
  obtain ⟨t58,A70,H⟩:=H
  try dsimp only at H
  have A7:=Aside0.mk A70
  clear A70
  obtain rfl:=Option.some.inj H
  go_enter Tryz.func160,Tryz.ntmps160
  go_wp2_with (first|((with_reducible refine gate_callee (f:=185) rfl ?_);refine goesL_ (some 18) rfl rfl Tryz.func185 zb7 rfl #[.string a0,.int .i64 a3] rfl zb1 ?_;(with_reducible refine (strings_explode.calls a0 a3 t58 _ A7.out).mono ?_);rintro e w8 ⟨v65,rfl,ho0,hb⟩;(try clear A7);refine ⟨_,rfl,?_⟩;have HO62:=Aside0.mk (Kd.R_lower ho0 (below_size zb0));replace HB:=Aside0.mk (below_step zb0 hb);try clear hb ho0))
  go_ret
  exact ⟨_,zb2,by (with_reducible repeat (first|apply Kd.R_alloc|apply Kd.R_drewN|apply Kd.R_drew));exact HO62.out,zb0⟩
 rw [if_neg c6] at H
 have c6b0:=beq_eq_false_iff_ne.mpr c6
 have c6b1:=bne_iff_ne.mpr c6
 have HC9:=Aside0.mk H
 clear H
 go_enter Tryz.func160,Tryz.ntmps160
 go_upto_if 20 with (fail)
 go_cut [3] (fun v3 wc => ∃ (kq:Nat) (x3_8:Int),v3 = .int .i64 x3_8∧Aside0 (strings_genSplit.j0 kq a0 a1 a2 x3_8=some r)∧Aside0 (kq ≤ k)∧Aside0 (Below w.heap.size w wc))
 case first =>
  have H:=HC9.out
  clear HC9
  by_cases c10:a3 < 0;rotate_left
  ·rw [if_neg c10] at H
   have c10b0:=decide_eq_false c10
   clear c10
   (first|rw [c10b0]|(simp only [i64_w,i32_w];rw [c10b0])|skip)
   have H' := Aside0.mk H
   clear H
   go_wp2
   go_meet
   case rel=>exact ⟨_,(a3),zb5,H',⟨zb77⟩,⟨zb0⟩⟩
  rw [if_pos c10] at H
  have c10b0:=decide_eq_true c10
  clear c10
  (first|rw [c10b0]|(simp only [i64_w,i32_w];rw [c10b0])|skip)
  replace H:=Option.bind_eq_some_iff.mp H
  obtain ⟨t57,A60,H⟩:=H
  try dsimp only at H
  have A11:=Aside0.mk A60
  clear A60
  have H' := Aside0.mk H
  clear H
  go_wp2_with (first|((with_reducible refine gate_callee (f:=186) rfl ?_);refine goesL_ (some 23) rfl rfl Tryz.func186 zb7 rfl #[.string a0,.string a1] rfl zb1 ?_;(with_reducible refine (strings_Count.calls a0 a1 t57 _ A11.out).mono ?_);rintro e w' ⟨rfl,⟨nd,rfl⟩⟩;(try clear A11);refine ⟨_,rfl,?_⟩))
  go_meet
  case rel=>exact ⟨_,(wrap64 (t57 + 1)),zb5,H',⟨zb77⟩,⟨zb0⟩⟩
 case rest =>
  clear HC9
  try clear c1
  try clear p2
  try clear c5
  try clear c5b0
  try clear c5b1
  try clear c6
  try clear c6b0
  try clear c6b1
  try clear p6
  try clear c10
  try clear c10b0
  obtain ⟨kq,x3_8,rfl,HA,HJ8,HB⟩:=hcut
  cases kq with
  | zero=>exact absurd HA.out (by simp [strings_genSplit.j0])
  | succ kj8 =>
   have H:=HA.out
   clear HA
   simp only [strings_genSplit.j0] at H
   obtain ⟨ji12,hji12⟩ : ∃ j_:Int,(mn x3_8 (wrap64 ((a0.size:Int) + 1)))=j_:=⟨_,rfl⟩
   replace H:(if 0 ≤ (ji12) then (if (ji12:Int).toNat ≤ 17592186044416 then (strings_genSplit.l0 kj8 a0 a1 a2 (wrap64 ((ji12) - 1)) (List.replicate (ji12:Int).toNat (⟨#[]⟩:ByteArray)) 0) else (none)) else (none))=some r:=by first|(rw [hji12] at H;exact H)|(simp only [hji12] at H ⊢;exact H)
   have hji12_:(if (wrap64 ((a0.size:Int) + 1)) < x3_8 then (wrap64 ((a0.size:Int) + 1)) else x3_8)=ji12:=hji12
   by_cases c13:0 ≤ (ji12);rotate_left
   ·rw [if_neg c13] at H
    exact absurd H zb44
   rw [if_pos c13] at H
   have c13b0:=eq_true c13
   have c13b1:=decide_eq_true c13
   clear c13
   by_cases c14:(ji12:Int).toNat ≤ 17592186044416
   ·rw [if_pos c14] at H
    have c14b0:=eq_true c14
    have c14b1:=decide_eq_true c14
    clear c14
    obtain ⟨y54,hy54⟩ : ∃ y_:List ByteArray,y_=(List.replicate (ji12:Int).toNat (⟨#[]⟩:ByteArray)):=⟨_,rfl⟩
    replace H:(strings_genSplit.l0 kj8 a0 a1 a2 (wrap64 ((ji12) - 1)) y54 0)=some r:=by first|(rw [hy54];with_reducible exact H)|(have H2_:=(Option.bind_some _ _).symm.trans H;rw [hy54];with_reducible exact H2_)|(have H2_:=(Option.bind_some _ _).symm.trans H;with_reducible exact H2_)|with_reducible exact H|(rw [hy54];exact H)|exact H
    have Ny54:=Aside0.mk hy54
    clear hy54
    have H' := Aside0.mk H
    clear H
    go_wp2_with (first|((with_reducible refine gate_dst (N:=31) rfl ?_);refine Kd.R_make Kd.string _ 9 rfl (N:=31) rfl 34 _ _ rfl ji12 rfl rfl Tryz.underlying34 (.string ⟨#[]⟩) 16 info9 rfl zb47 zb17 (⟨#[]⟩:ByteArray) (ok:=fun _=>True) (okp:=fun _=>True) rfl (fun _ hk=>hk) trivial (of_decide_eq_true zb3) (Nat.le_trans (Nat.mul_le_mul_right _ (of_decide_eq_true zb3:ji12.toNat ≤ 17592186044416)) zb17) (Below.refl _ _) (Nat.le_refl _) ?_;intro v59 w15 ho16 hb hg_ hnew_;clear hg_ hnew_;(first|rw [← Ny54.out] at ho16|(simp only [Int.reduceToNat] at ho16;rw [← Ny54.out] at ho16));have HO63:=Aside0.mk (Kd.R_lower ho16 (below_size zb0));replace HB:=Aside0.mk (below_step zb0 hb);clear hb ho16))
    go_loopg [0,10] kj8 (fun kq v0 v10 w' => ∃ (x0_2:ByteArray) (x9_2:List ByteArray) (x10_2:Int),v0 = .string x0_2∧v10 = .int .i64 x10_2∧Aside0 (strings_genSplit.l0 kq x0_2 a1 a2 (wrap64 ((ji12) - 1)) x9_2 x10_2=some r)∧Aside0 (kq ≤ kj8)∧Aside0 (Kd.R Kd.string 9 w' w.heap.size (fun _=>True) v59 x9_2)∧Aside0 (Below w.heap.size w w'))
    case atStart=>exact ⟨(a0),(y54),(0),zb5,zb5,H',⟨Nat.le_refl _⟩,⟨by (with_reducible repeat (first|apply Kd.R_alloc|apply Kd.R_drewN|apply Kd.R_drew));exact HO63.out⟩,⟨zb0⟩⟩
    case round =>
     clear H'
     try clear c1
     try clear p2
     try clear c5
     try clear c5b0
     try clear c5b1
     try clear c6
     try clear c6b0
     try clear c6b1
     try clear p6
     try clear c10
     try clear c10b0
     try clear c13
     try clear c13b0
     try clear c13b1
     try clear c14
     try clear c14b0
     try clear c14b1
     try clear c16
     try clear p2
     try clear p6
     obtain ⟨x0_2,x9_2,x10_2,rfl,rfl,HA,HK2,HO_9,HB⟩:=hrel
     cases gk with
     | zero=>exact absurd HA.out (by simp [strings_genSplit.l0])
     | succ k2 =>
      have H:=HA.out
      clear HA
      simp only [strings_genSplit.l0] at H
      by_cases c17:x10_2 < (wrap64 ((ji12) - 1));rotate_left
      ·rw [if_neg c17] at H
       have c17b0:=decide_eq_false c17
       clear c17
       by_cases c40:0 ≤ x10_2;rotate_left
       ·rw [if_neg c40] at H
        exact absurd H zb44
       rw [if_pos c40] at H
       have c40b0:=decide_eq_true c40
       clear c40
       by_cases c41:x10_2 < (x9_2.length:Int);rotate_left
       ·rw [if_neg c41] at H
        exact absurd H zb44
       rw [if_pos c41] at H
       have c41b0:=decide_eq_true c41
       clear c41
       obtain ⟨y50,hy50⟩ : ∃ y_:List ByteArray,y_=(x9_2.set (x10_2:Int).toNat x0_2):=⟨_,rfl⟩
       replace H:(if 0 ≤ (wrap64 (x10_2 + 1)) then (if (wrap64 (x10_2 + 1)) ≤ (x9_2.length:Int) then (some (y50.take ((wrap64 (x10_2 + 1)):Int).toNat)) else (none)) else (none))=some r:=by first|(rw [hy50];with_reducible exact H)|(have H2_:=(Option.bind_some _ _).symm.trans H;rw [hy50];with_reducible exact H2_)|(have H2_:=(Option.bind_some _ _).symm.trans H;with_reducible exact H2_)|with_reducible exact H|(rw [hy50];exact H)|exact H
       have Ny50:=Aside0.mk hy50
       clear hy50
       obtain ⟨ji43,hji43⟩ : ∃ j_:Int,(wrap64 (x10_2 + 1))=j_:=⟨_,rfl⟩
       replace H:(if 0 ≤ (ji43) then (if (ji43) ≤ (x9_2.length:Int) then (some (y50.take ((ji43):Int).toNat)) else (none)) else (none))=some r:=by first|(rw [hji43] at H;exact H)|(simp only [hji43] at H ⊢;exact H)
       have hji43w:(IntKind.i64.wrap (x10_2 + 1))=ji43:=(i64_w _).trans hji43
       by_cases c44:0 ≤ (ji43);rotate_left
       ·rw [if_neg c44] at H
        exact absurd H zb44
       rw [if_pos c44] at H
       have c44b0:=eq_true c44
       have c44b1:=decide_eq_true c44
       clear c44
       by_cases c45:(ji43) ≤ (x9_2.length:Int)
       ·rw [if_pos c45] at H
        have c45b0:=eq_true c45
        have c45b1:=decide_eq_true c45
        clear c45
        obtain ⟨y53,hy53⟩ : ∃ y_:List ByteArray,y_=(y50.take ((ji43):Int).toNat):=⟨_,rfl⟩
        replace H:(some y53)=some r:=by first|(rw [hy53];with_reducible exact H)|(have H2_:=(Option.bind_some _ _).symm.trans H;rw [hy53];with_reducible exact H2_)|(have H2_:=(Option.bind_some _ _).symm.trans H;with_reducible exact H2_)|with_reducible exact H|(rw [hy53];exact H)|exact H
        have Ny53:=Aside0.mk hy53
        clear hy53
        obtain rfl:=Option.some.inj H
        have p42:0 ≤ (x10_2:Int):=of_decide_eq_true zb3
        have q42:(x10_2:Int) < ((x9_2.length:Int):Int):=of_decide_eq_true zb3
        obtain ⟨go42,co42,eo42,gb42,gl42,cl42,HG42⟩:=Kd.R_form HO_9.out zb17
        (first|cases eo42|(injection eo42 with ea_ en_ ec_;(first|subst ea_|(injection ea_ with ea_;subst ea_));subst ec_;clear en_))
        have GB42:=Aside0.mk gb42
        have GG42:=Aside0.mk HG42
        clear gb42 gl42 HG42
        obtain ⟨hx42_0,hf42_0⟩:=Kd.R_celln (⟨#[]⟩:ByteArray) HO_9.out (x10_2:Int) p42 q42
        replace p42:=eq_true p42
        replace q42:=eq_true q42
        have HP46:=Kd.R_putg HO_9.out (x10_2:Int) x0_2
        have q48:((ji43):Int) ≤ ((x9_2.length:Int):Int):=of_decide_eq_true zb3
        obtain ⟨i56,hi56,_,hsz48,_⟩:=info_parts info9
        have hcut48:=cut_to (P:=Tryz.prog) 34 9 .i64 Tryz.underlying34 hi56 (some ⟨go42,0,none⟩) x9_2.length co42 (ji43) (of_decide_eq_true zb3) q48 (Kd.R_reads' HO_9.out).2.1
        clear hi56 hsz48
        replace q48:=eq_true q48
        go_wp2_with (first|((with_reducible refine gate_store (t:=9) (p:=61) rfl ?_);refine store_event (t:=9) (p:=61) (v:=?vo_w47) (w1:=(wr.setCell ⟨go42,(x10_2:Int).toNat,none⟩ (.string x0_2))) ?hg ?ho ?hn ?hr ?_;(case ho=>rfl);(case hg=>rfl);(case hn=>rfl);(case hr=>first|(go_simp;done)|(go_simp;rfl));intro w47 hw;have hg:wr.grownBy w47 (some go42):=(by rw [hw];exact HP46.2);have hp_:Kd.R Kd.string 9 w47 w.heap.size (fun _=>True) (.slice (some ⟨go42,0,none⟩) x9_2.length co42) y50:=(by rw [hw,Ny50.out];exact HP46.1);clear HP46;replace HO_9:=Aside0.mk (hp_);replace HB:=Aside0.mk ((by rw [hw];exact below_set (HB.out) GB42.out:Below w.heap.size w w47));clear hg hw hp_;have q48:((ji43):Int) ≤ ((x9_2.length:Int):Int):=of_decide_eq_true zb3;obtain ⟨i56,hi56,_,hsz48,_⟩:=info_parts info9;have hcut48:=cut_to (P:=Tryz.prog) 34 9 .i64 Tryz.underlying34 hi56 (some ⟨go42,0,none⟩) x9_2.length co42 (ji43) (of_decide_eq_true zb3) q48 (Kd.R_reads' HO_9.out).2.1;have hr48:=Kd.R_take (m:=((ji43):Int).toNat) HO_9.out zb17;have hy48:y53.length=((ji43):Int).toNat:=(by rw [Ny53.out,List.length_take];omega);rw [← Ny53.out] at hr48;rw [← hy48] at hr48 hcut48;clear hy48 hi56 hsz48 HO_9;have HO67:=Aside0.mk hr48;clear hr48;replace q48:=eq_true q48))
        go_ret
        exact ⟨_,by first|rfl|(simp [errW_none,errW_some] <;> rfl)|(simp only [← hji12,← hji43];first|rfl|(simp [errW_none,errW_some] <;> rfl))|(simp [*,errW_none,errW_some] <;> rfl),(by rw [Ny53.out,Ny50.out];exact Kd.R_take (m:=((ji43):Int).toNat) HP46.1 (by have q_:(ji43:Int) ≤ (x9_2.length:Int):=of_decide_eq_true (by first|(with_reducible assumption)|assumption);rw [List.length_set];omega)),below_set (HB.out) GB42.out⟩
       ·rw [if_neg c45] at H
        exact absurd H zb44
      rw [if_pos c17] at H
      have c17b0:=decide_eq_true c17
      clear c17
      replace H:=Option.bind_eq_some_iff.mp H
      obtain ⟨t4,A61,H⟩:=H
      try dsimp only at H
      have A18:=Aside0.mk A61
      clear A61
      by_cases c19:t4 < 0
      ·rw [if_pos c19] at H
       have c19b0:=decide_eq_true c19
       clear c19
       by_cases c20:0 ≤ x10_2;rotate_left
       ·rw [if_neg c20] at H
        exact absurd H zb44
       rw [if_pos c20] at H
       have c20b0:=decide_eq_true c20
       clear c20
       by_cases c21:x10_2 < (x9_2.length:Int)
       ·rw [if_pos c21] at H
        have c21b0:=decide_eq_true c21
        clear c21
        obtain ⟨y49,hy49⟩ : ∃ y_:List ByteArray,y_=(x9_2.set (x10_2:Int).toNat x0_2):=⟨_,rfl⟩
        replace H:(if 0 ≤ (wrap64 (x10_2 + 1)) then (if (wrap64 (x10_2 + 1)) ≤ (x9_2.length:Int) then (some (y49.take ((wrap64 (x10_2 + 1)):Int).toNat)) else (none)) else (none))=some r:=by first|(rw [hy49];with_reducible exact H)|(have H2_:=(Option.bind_some _ _).symm.trans H;rw [hy49];with_reducible exact H2_)|(have H2_:=(Option.bind_some _ _).symm.trans H;with_reducible exact H2_)|with_reducible exact H|(rw [hy49];exact H)|exact H
        have Ny49:=Aside0.mk hy49
        clear hy49
        obtain ⟨ji23,hji23⟩ : ∃ j_:Int,(wrap64 (x10_2 + 1))=j_:=⟨_,rfl⟩
        replace H:(if 0 ≤ (ji23) then (if (ji23) ≤ (x9_2.length:Int) then (some (y49.take ((ji23):Int).toNat)) else (none)) else (none))=some r:=by first|(rw [hji23] at H;exact H)|(simp only [hji23] at H ⊢;exact H)
        (try rw [hji23] at A18)
        have hji23w:(IntKind.i64.wrap (x10_2 + 1))=ji23:=(i64_w _).trans hji23
        by_cases c24:0 ≤ (ji23);rotate_left
        ·rw [if_neg c24] at H
         exact absurd H zb44
        rw [if_pos c24] at H
        have c24b0:=eq_true c24
        have c24b1:=decide_eq_true c24
        clear c24
        by_cases c25:(ji23) ≤ (x9_2.length:Int)
        ·rw [if_pos c25] at H
         have c25b0:=eq_true c25
         have c25b1:=decide_eq_true c25
         clear c25
         obtain ⟨y51,hy51⟩ : ∃ y_:List ByteArray,y_=(y49.take ((ji23):Int).toNat):=⟨_,rfl⟩
         replace H:(some y51)=some r:=by first|(rw [hy51];with_reducible exact H)|(have H2_:=(Option.bind_some _ _).symm.trans H;rw [hy51];with_reducible exact H2_)|(have H2_:=(Option.bind_some _ _).symm.trans H;with_reducible exact H2_)|with_reducible exact H|(rw [hy51];exact H)|exact H
         have Ny51:=Aside0.mk hy51
         clear hy51
         obtain rfl:=Option.some.inj H
         go_wp2_with (first|((with_reducible refine gate_callee (f:=187) rfl ?_);refine goesL_ (some 39) rfl rfl Tryz.func187 zb7 rfl #[.string x0_2,.string a1] rfl zb1 ?_;(with_reducible refine (strings_Index.calls x0_2 a1 t4 _ A18.out).mono ?_);rintro e w' ⟨rfl,⟨nd,rfl⟩⟩;(try clear A18);refine ⟨_,rfl,?_⟩;(try (rw [drewN_self wr];generalize hq_:World.drewN wr _=wr;have n0_:Aside0 (Kd.R Kd.string 9 wr w.heap.size (fun _=>True) v59 x9_2):=⟨zb154⟩;have n1_:Aside0 (Below w.heap.size w wr):=⟨zb149⟩;clear HO_9 HB hq_;have HO_9:=n0_;have HB:=n1_;clear n0_ n1_));have p22:0 ≤ (x10_2:Int):=of_decide_eq_true zb3;have q22:(x10_2:Int) < ((x9_2.length:Int):Int):=of_decide_eq_true zb3;obtain ⟨go22,co22,eo22,gb22,gl22,cl22,HG22⟩:=Kd.R_form HO_9.out zb17;(first|cases eo22|(injection eo22 with ea_ en_ ec_;(first|subst ea_|(injection ea_ with ea_;subst ea_));subst ec_;clear en_));have GB22:=Aside0.mk gb22;have GG22:=Aside0.mk HG22;clear gb22 gl22 HG22;obtain ⟨hx22_0,hf22_0⟩:=Kd.R_celln (⟨#[]⟩:ByteArray) HO_9.out (x10_2:Int) p22 q22;replace p22:=eq_true p22;replace q22:=eq_true q22;obtain ⟨hy26_,hz26_⟩:=Kd.R_celln (⟨#[]⟩:ByteArray) HO_9.out (x10_2:Int) (of_decide_eq_true zb3) (of_decide_eq_true zb3);have HP26:=Kd.R_putg HO_9.out (x10_2:Int) x0_2;have q28:((ji23):Int) ≤ ((x9_2.length:Int):Int):=of_decide_eq_true zb3;obtain ⟨i55,hi55,_,hsz28,_⟩:=info_parts info9;have hcut28:=cut_to (P:=Tryz.prog) 34 9 .i64 Tryz.underlying34 hi55 (some ⟨go22,0,none⟩) x9_2.length co22 (ji23) (of_decide_eq_true zb3) q28 (Kd.R_reads' HO_9.out).2.1;clear hi55 hsz28;replace q28:=eq_true q28)|((with_reducible refine gate_store (t:=9) (p:=61) rfl ?_);refine store_event (t:=9) (p:=61) (v:=?vo_w27) (w1:=(wr.setCell ⟨go22,(x10_2:Int).toNat,none⟩ (.string x0_2))) ?hg ?ho ?hn ?hr ?_;(case ho=>rfl);(case hg=>rfl);(case hn=>rfl);(case hr=>first|(go_simp;done)|(go_simp;rfl));intro w27 hw;have hg:wr.grownBy w27 (some go22):=(by rw [hw];exact HP26.2);have hp_:Kd.R Kd.string 9 w27 w.heap.size (fun _=>True) (.slice (some ⟨go22,0,none⟩) x9_2.length co22) y49:=(by rw [hw,Ny49.out];exact HP26.1);clear HP26;replace HO_9:=Aside0.mk (hp_);replace HB:=Aside0.mk ((by rw [hw];exact below_set (HB.out) GB22.out:Below w.heap.size w w27));clear hg hw hp_;have q28:((ji23):Int) ≤ ((x9_2.length:Int):Int):=of_decide_eq_true zb3;obtain ⟨i55,hi55,_,hsz28,_⟩:=info_parts info9;have hcut28:=cut_to (P:=Tryz.prog) 34 9 .i64 Tryz.underlying34 hi55 (some ⟨go22,0,none⟩) x9_2.length co22 (ji23) (of_decide_eq_true zb3) q28 (Kd.R_reads' HO_9.out).2.1;have hr28:=Kd.R_take (m:=((ji23):Int).toNat) HO_9.out zb17;have hy28:y51.length=((ji23):Int).toNat:=(by rw [Ny51.out,List.length_take];omega);rw [← Ny51.out] at hr28;rw [← hy28] at hr28 hcut28;clear hy28 hi55 hsz28 HO_9;have HO66:=Aside0.mk hr28;clear hr28;replace q28:=eq_true q28))
         go_ret
         exact ⟨_,by first|rfl|(simp [errW_none,errW_some] <;> rfl)|(simp only [← hji12,← hji23];first|rfl|(simp [errW_none,errW_some] <;> rfl))|(simp [*,errW_none,errW_some] <;> rfl),(by rw [Ny51.out,Ny49.out];exact Kd.R_take (m:=((ji23):Int).toNat) HP26.1 (by have q_:(ji23:Int) ≤ (x9_2.length:Int):=of_decide_eq_true (by first|(with_reducible assumption)|assumption);rw [List.length_set];omega)),below_set (HB.out) GB22.out⟩
        ·rw [if_neg c25] at H
         exact absurd H zb44
       ·rw [if_neg c21] at H
        exact absurd H zb44
      rw [if_neg c19] at H
      have c19b0:=decide_eq_false c19
      clear c19
      obtain ⟨ji29,hji29⟩ : ∃ j_:Int,(wrap64 (t4 + a2))=j_:=⟨_,rfl⟩
      replace H:(if 0 ≤ (ji29) then (if (ji29) ≤ (x0_2.size:Int) then (if 0 ≤ x10_2 then (if x10_2 < (x9_2.length:Int) then (if 0 ≤ (wrap64 (t4 + (a1.size:Int))) then (if (wrap64 (t4 + (a1.size:Int))) ≤ (x0_2.size:Int) then (strings_genSplit.l0 k2 (x0_2.extract ((wrap64 (t4 + (a1.size:Int))):Int).toNat x0_2.size) a1 a2 (wrap64 ((ji12) - 1)) (x9_2.set (x10_2:Int).toNat (x0_2.extract 0 ((ji29):Int).toNat)) (wrap64 (x10_2 + 1))) else (none)) else (none)) else (none)) else (none)) else (none)) else (none))=some r:=by first|(rw [hji29] at H;exact H)|(simp only [hji29] at H ⊢;exact H)
      (try rw [hji29] at A18)
      have hji29w:(IntKind.i64.wrap (t4 + a2))=ji29:=(i64_w _).trans hji29
      by_cases c30:0 ≤ (ji29)
      ·rw [if_pos c30] at H
       have c30b0:=eq_true c30
       have c30b1:=decide_eq_true c30
       clear c30
       by_cases c31:(ji29) ≤ (x0_2.size:Int)
       ·rw [if_pos c31] at H
        have c31b0:=eq_true c31
        have c31b1:=decide_eq_true c31
        clear c31
        by_cases c32:0 ≤ x10_2
        ·rw [if_pos c32] at H
         have c32b0:=decide_eq_true c32
         clear c32
         by_cases c33:x10_2 < (x9_2.length:Int)
         ·rw [if_pos c33] at H
          have c33b0:=decide_eq_true c33
          clear c33
          obtain ⟨y52,hy52⟩ : ∃ y_:List ByteArray,y_=(x9_2.set (x10_2:Int).toNat (x0_2.extract 0 ((ji29):Int).toNat)):=⟨_,rfl⟩
          replace H:(if 0 ≤ (wrap64 (t4 + (a1.size:Int))) then (if (wrap64 (t4 + (a1.size:Int))) ≤ (x0_2.size:Int) then (strings_genSplit.l0 k2 (x0_2.extract ((wrap64 (t4 + (a1.size:Int))):Int).toNat x0_2.size) a1 a2 (wrap64 ((ji12) - 1)) y52 (wrap64 (x10_2 + 1))) else (none)) else (none))=some r:=by first|(rw [hy52];with_reducible exact H)|(have H2_:=(Option.bind_some _ _).symm.trans H;rw [hy52];with_reducible exact H2_)|(have H2_:=(Option.bind_some _ _).symm.trans H;with_reducible exact H2_)|with_reducible exact H|(rw [hy52];exact H)|exact H
          have Ny52:=Aside0.mk hy52
          clear hy52
          obtain ⟨ji35,hji35⟩ : ∃ j_:Int,(wrap64 (t4 + (a1.size:Int)))=j_:=⟨_,rfl⟩
          replace H:(if 0 ≤ (ji35) then (if (ji35) ≤ (x0_2.size:Int) then (strings_genSplit.l0 k2 (x0_2.extract ((ji35):Int).toNat x0_2.size) a1 a2 (wrap64 ((ji12) - 1)) y52 (wrap64 (x10_2 + 1))) else (none)) else (none))=some r:=by first|(rw [hji35] at H;exact H)|(simp only [hji35] at H ⊢;exact H)
          (try rw [hji35] at A18)
          have hji35w:(IntKind.i64.wrap (t4 + (a1.size:Int)))=ji35:=(i64_w _).trans hji35
          by_cases c36:0 ≤ (ji35)
          ·rw [if_pos c36] at H
           have c36b0:=eq_true c36
           have c36b1:=decide_eq_true c36
           clear c36
           by_cases c37:(ji35) ≤ (x0_2.size:Int)
           ·rw [if_pos c37] at H
            have c37b0:=eq_true c37
            have c37b1:=decide_eq_true c37
            clear c37
            have H' := Aside0.mk H
            clear H
            go_wp2_with (first|((with_reducible refine gate_callee (f:=187) rfl ?_);refine goesL_ (some 39) rfl rfl Tryz.func187 zb7 rfl #[.string x0_2,.string a1] rfl zb1 ?_;(with_reducible refine (strings_Index.calls x0_2 a1 t4 _ A18.out).mono ?_);rintro e w' ⟨rfl,⟨nd,rfl⟩⟩;(try clear A18);refine ⟨_,rfl,?_⟩;(try (rw [drewN_self wr];generalize hq_:World.drewN wr _=wr;have n0_:Aside0 (Kd.R Kd.string 9 wr w.heap.size (fun _=>True) v59 x9_2):=⟨zb154⟩;have n1_:Aside0 (Below w.heap.size w wr):=⟨zb149⟩;clear HO_9 HB hq_;have HO_9:=n0_;have HB:=n1_;clear n0_ n1_));have p34:0 ≤ (x10_2:Int):=of_decide_eq_true zb3;have q34:(x10_2:Int) < ((x9_2.length:Int):Int):=of_decide_eq_true zb3;obtain ⟨go34,co34,eo34,gb34,gl34,cl34,HG34⟩:=Kd.R_form HO_9.out zb17;(first|cases eo34|(injection eo34 with ea_ en_ ec_;(first|subst ea_|(injection ea_ with ea_;subst ea_));subst ec_;clear en_));have GB34:=Aside0.mk gb34;have GG34:=Aside0.mk HG34;clear gb34 gl34 HG34;obtain ⟨hx34_0,hf34_0⟩:=Kd.R_celln (⟨#[]⟩:ByteArray) HO_9.out (x10_2:Int) p34 q34;replace p34:=eq_true p34;replace q34:=eq_true q34;obtain ⟨hy38_,hz38_⟩:=Kd.R_celln (⟨#[]⟩:ByteArray) HO_9.out (x10_2:Int) (of_decide_eq_true zb3) (of_decide_eq_true zb3);have HP38:=Kd.R_putg HO_9.out (x10_2:Int) (x0_2.extract 0 ((ji29):Int).toNat))|((with_reducible refine gate_store (t:=9) (p:=49) rfl ?_);refine store_event (t:=9) (p:=49) (v:=?vo_w39) (w1:=(wr.setCell ⟨go34,(x10_2:Int).toNat,none⟩ (.string (x0_2.extract 0 ((ji29):Int).toNat)))) ?hg ?ho ?hn ?hr ?_;(case ho=>rfl);(case hg=>rfl);(case hn=>rfl);(case hr=>first|(go_simp;done)|(go_simp;rfl));intro w39 hw;have hg:wr.grownBy w39 (some go34):=(by rw [hw];exact HP38.2);have hp_:Kd.R Kd.string 9 w39 w.heap.size (fun _=>True) (.slice (some ⟨go34,0,none⟩) x9_2.length co34) y52:=(by rw [hw,Ny52.out];exact HP38.1);clear HP38;replace HO_9:=Aside0.mk (hp_);replace HB:=Aside0.mk ((by rw [hw];exact below_set (HB.out) GB34.out:Below w.heap.size w w39));clear hg hw hp_))
            go_roundg k2
            case measure=>have:=HJ8.out;have:=HK2.out;omega
            case rel=>exact ⟨(x0_2.extract ((ji35):Int).toNat x0_2.size),(y52),(wrap64 (x10_2 + 1)),(by first|rfl|(simp;done)|(simp only [← hji35] <;> (first|rfl|simp))|(simp [*];done)),zb5,H',⟨by have:=HJ8.out;have:=HK2.out;omega⟩,⟨zb74⟩,⟨zb0⟩⟩
           ·rw [if_neg c37] at H
            exact absurd H zb44
          ·rw [if_neg c36] at H
           exact absurd H zb44
         ·rw [if_neg c33] at H
          exact absurd H zb44
        ·rw [if_neg c32] at H
         exact absurd H zb44
       ·rw [if_neg c31] at H
        exact absurd H zb44
      ·rw [if_neg c30] at H
       exact absurd H zb44
   ·rw [if_neg c14] at H
    exact absurd H zb44
def strings_Split.f (k:Nat) (a0:ByteArray) (a1:ByteArray):Option (List ByteArray):=(strings_genSplit.f k a0 a1 0 (-1)).bind fun t143=>(some t143)
theorem strings_Split.mono : ∀ a0 a1 k,LeO (strings_Split.f k a0 a1) (strings_Split.f (k + 1) a0 a1):=by
 intro a0 a1 k
 unfold strings_Split.f
 repeat' first
  | (with_reducible exact strings_genSplit.mono _ _ _ _ _)
  | (with_reducible exact LeO.refl _)
  | (with_reducible exact LeO.none _)
  | (with_reducible refine LeO.ite ?_ ?_)
  | (with_reducible refine LeO.bind ?_ (fun _=>?_))
  | exact strings_genSplit.mono _ _ _ _ _
  | exact LeO.none _
  | refine LeO.ite ?_ ?_
  | refine LeO.bind ?_ (fun _=>?_)
set_option maxHeartbeats 8000000 in
set_option maxRecDepth 100000 in
theorem strings_Split.calls (k:Nat) (a0:ByteArray) (a1:ByteArray) (r:List ByteArray) (w:World) (h:strings_Split.f k a0 a1=some r) :
 Calls Tryz.prog 116 #[.string a0,.string a1] w fun e w' => ∃ v0_:Value,e = .returned (v0_)∧Kd.R Kd.string 9 w' w.heap.size (fun _=>True) v0_ r∧Below w.heap.size w w' := by
 have HB:=Aside0.mk (Below.refl w.heap.size w)
 unfold strings_Split.f at h
 have H:=h
 clear h
 replace H:=Option.bind_eq_some_iff.mp H
 obtain ⟨t143,A30,H⟩:=H
 try dsimp only at H
 have A3:=Aside0.mk A30
 clear A30
 obtain rfl:=Option.some.inj H
 go_enter Tryz.func116,Tryz.ntmps116
 go_wp2_with (first|((with_reducible refine gate_callee (f:=160) rfl ?_);refine goesL_ (some 7) rfl rfl Tryz.func160 zb7 rfl #[.string a0,.string a1,.int .i64 0,.int .i64 (-1)] rfl zb1 ?_;(with_reducible refine (strings_genSplit.calls k a0 a1 0 (-1) t143 _ A3.out).mono ?_);rintro e w4 ⟨v144,rfl,ho0,hb⟩;(try clear A3);refine ⟨_,rfl,?_⟩;have HO145:=Aside0.mk (Kd.R_lower ho0 (below_size zb0));replace HB:=Aside0.mk (below_step zb0 hb);try clear hb ho0))
 go_ret
 exact ⟨_,zb2,by (with_reducible repeat (first|apply Kd.R_alloc|apply Kd.R_drewN|apply Kd.R_drew));exact HO145.out,zb0⟩
def sign_Split.l0:Nat → List ByteArray → List ByteArray → Int → Int → Option (List ByteArray)
 | 0,_,_,_,_=>none
 | k + 1,x3,x7,x8,x9=>if x9 < x8 then (if 0 ≤ x9 then (if x9 < (x7.length:Int) then ((sign_Trim.f (rdOf ByteArray.empty x7 x9)).bind fun t215=>(if t215.toList=([]:List UInt8) then (sign_Split.l0 k x3 x7 x8 (wrap64 (x9 + 1))) else (if x3.length < 8796093022208 then (sign_Split.l0 k (x3 ++ [t215]) x7 x8 (wrap64 (x9 + 1))) else (none)))) else (none)) else (none)) else (some x3)
def sign_Split.f (k:Nat) (a0:ByteArray):Option (List ByteArray):=(strings_Split.f k a0 (⟨#[44]⟩:ByteArray)).bind fun t211=>(sign_Split.l0 k ([]:List ByteArray) t211 (t211.length:Int) 0)
set_option maxHeartbeats 8000000 in
set_option maxRecDepth 100000 in
theorem sign_Split.calls (k:Nat) (a0:ByteArray) (r:List ByteArray) (w:World) (h:sign_Split.f k a0=some r) :
 Calls Tryz.prog 136 #[.string a0] w fun e w' => ∃ v0_:Value,e = .returned (v0_)∧Kd.R Kd.string 9 w' w.heap.size (fun _=>True) v0_ r∧Below w.heap.size w w' := by
 have HB:=Aside0.mk (Below.refl w.heap.size w)
 unfold sign_Split.f at h
 have H:=h
 clear h
 replace H:=Option.bind_eq_some_iff.mp H
 obtain ⟨t211,A20,H⟩:=H
 try dsimp only at H
 have A2:=Aside0.mk A20
 clear A20
 have H' := Aside0.mk H
 clear H
 go_enter Tryz.func136,Tryz.ntmps136
 go_wp2_with (first|((with_reducible refine gate_callee (f:=116) rfl ?_);refine goesL_ (some 7) rfl rfl Tryz.func116 zb7 rfl #[.string a0,.string (⟨#[44]⟩:ByteArray)] rfl zb1 ?_;(with_reducible refine (strings_Split.calls k a0 (⟨#[44]⟩:ByteArray) t211 _ A2.out).mono ?_);rintro e w3 ⟨v212,rfl,ho0,hb⟩;(try clear A2);refine ⟨_,rfl,?_⟩;have HO213:=Aside0.mk (Kd.R_lower ho0 (below_size zb0));replace HB:=Aside0.mk (below_step zb0 hb);try clear hb ho0;obtain ⟨Ao4,co4,eo4⟩:=Kd.R_slice HO213.out;subst eo4))
 go_loopg [3,9] k (fun kq v3 v9 w' => ∃ (x3_1:List ByteArray) (x9_1:Int),v9 = .int .i64 x9_1∧Aside0 (sign_Split.l0 kq x3_1 t211 (t211.length:Int) x9_1=some r)∧Aside0 (kq ≤ k)∧Aside0 (Kd.R Kd.string 9 w' w.heap.size (fun k_=>some k_ ≠ ((.slice Ao4 t211.length co4):Value).ownBlock) v3 x3_1)∧Aside0 (Kd.R Kd.string 9 w' w.heap.size (fun k_=>some k_ ≠ (v3:Value).ownBlock) (.slice Ao4 t211.length co4) t211)∧Aside0 (Below w.heap.size w w'))
 case atStart=>exact ⟨(([]:List ByteArray)),(0),zb5,H',⟨Nat.le_refl _⟩,⟨zb12⟩,⟨by (with_reducible repeat (first|apply Kd.R_alloc|apply Kd.R_drewN|apply Kd.R_drew));exact Kd.R_mono HO213.out (fun _ hk=>(by simp [Value.ownBlock]))⟩,⟨zb0⟩⟩
 case round =>
  clear H'
  try clear c1
  try clear p2
  obtain ⟨x3_1,x9_1,rfl,HA,HK1,HO_3,HO_7,HB⟩:=hrel
  cases gk with
  | zero=>exact absurd HA.out (by simp [sign_Split.l0])
  | succ k1 =>
   have H:=HA.out
   clear HA
   simp only [sign_Split.l0] at H
   by_cases c5:x9_1 < (t211.length:Int);rotate_left
   ·rw [if_neg c5] at H
    have c5b0:=decide_eq_false c5
    clear c5
    obtain rfl:=Option.some.inj H
    go_wp2
    go_ret
    exact ⟨_,zb2,zb152,zb0⟩
   rw [if_pos c5] at H
   have c5b0:=decide_eq_true c5
   clear c5
   by_cases c6:0 ≤ x9_1
   ·rw [if_pos c6] at H
    have c6b0:=decide_eq_true c6
    clear c6
    by_cases c7:x9_1 < (t211.length:Int)
    ·rw [if_pos c7] at H
     have c7b0:=decide_eq_true c7
     clear c7
     replace H:=Option.bind_eq_some_iff.mp H
     obtain ⟨t215,A80,H⟩:=H
     try dsimp only at H
     have A8:=Aside0.mk A80
     clear A80
     by_cases c9:t215.toList=([]:List UInt8)
     ·rw [if_pos c9] at H
      have c9b0:=beq_iff_eq.mpr c9
      have c9b1:=bne_eq_false_iff_eq.mpr c9
      clear c9
      have H' := Aside0.mk H
      clear H
      have p214:0 ≤ (x9_1:Int):=of_decide_eq_true zb3
      have q214:x9_1 < (t211.length:Int):=of_decide_eq_true zb3
      obtain ⟨ad214,e214,hx214_0⟩:=Kd.at_string (Kd.R_reads' HO_7.out).2.2 x9_1 p214 q214
      cases e214
      replace p214:=eq_true p214
      replace q214:=eq_true q214
      go_wp2_with (first|((with_reducible refine gate_callee (f:=153) rfl ?_);refine goesL_ (some 14) rfl rfl Tryz.func153 zb7 rfl #[.string (rdOf ByteArray.empty t211 x9_1)] rfl zb1 ?_;(with_reducible refine (sign_Trim.calls (rdOf ByteArray.empty t211 x9_1) t215 _ A8.out).mono ?_);rintro e w10 ⟨rfl,hb⟩;(try clear A8);refine ⟨_,rfl,?_⟩;replace HO_3:=Aside0.mk (Kd.R_below zb82 hb);replace HO_7:=Aside0.mk (Kd.R_below zb115 hb);replace HB:=Aside0.mk (below_step zb0 hb);(try clear hb)))
      go_roundg k1
      case measure=>have:=HK1.out;omega
      case rel=>exact ⟨(x3_1),(wrap64 (x9_1 + 1)),zb5,H',⟨zb135⟩,⟨zb82⟩,⟨zb115⟩,⟨zb0⟩⟩
     rw [if_neg c9] at H
     have c9b0:=beq_eq_false_iff_ne.mpr c9
     have c9b1:=bne_iff_ne.mpr c9
     by_cases c11:x3_1.length < 8796093022208
     ·rw [if_pos c11] at H
      have LMc11:=Aside0.mk c11
      clear c11
      obtain ⟨y216,hy216⟩ : ∃ y_:List ByteArray,y_=(x3_1 ++ [t215]):=⟨_,rfl⟩
      replace H:(sign_Split.l0 k1 y216 t211 (t211.length:Int) (wrap64 (x9_1 + 1)))=some r:=by first|(rw [hy216];with_reducible exact H)|(have H2_:=(Option.bind_some _ _).symm.trans H;rw [hy216];with_reducible exact H2_)|(have H2_:=(Option.bind_some _ _).symm.trans H;with_reducible exact H2_)|with_reducible exact H|(rw [hy216];exact H)|exact H
      have Ny216:=Aside0.mk hy216
      clear hy216
      have H' := Aside0.mk H
      clear H
      have p214:0 ≤ (x9_1:Int):=of_decide_eq_true zb3
      have q214:x9_1 < (t211.length:Int):=of_decide_eq_true zb3
      obtain ⟨ad214,e214,hx214_0⟩:=Kd.at_string (Kd.R_reads' HO_7.out).2.2 x9_1 p214 q214
      cases e214
      replace p214:=eq_true p214
      replace q214:=eq_true q214
      go_wp2_with (first|((with_reducible refine gate_callee (f:=153) rfl ?_);refine goesL_ (some 14) rfl rfl Tryz.func153 zb7 rfl #[.string (rdOf ByteArray.empty t211 x9_1)] rfl zb1 ?_;(with_reducible refine (sign_Trim.calls (rdOf ByteArray.empty t211 x9_1) t215 _ A8.out).mono ?_);rintro e w12 ⟨rfl,hb⟩;(try clear A8);refine ⟨_,rfl,?_⟩;replace HO_3:=Aside0.mk (Kd.R_below zb82 hb);replace HO_7:=Aside0.mk (Kd.R_below zb115 hb);replace HB:=Aside0.mk (below_step zb0 hb);(try clear hb))|((with_reducible refine gate_builtin (b:=.append) (xs:=#[.tmp 17,.tmp 19]) rfl ?_);at_builtin;refine Kd.R_append Kd.string (w0:=w) w.heap.size rfl (.tmp 17) (.tmp 19) 34 9 (.string ⟨#[]⟩) 16 rfl Tryz.underlying34 info9 rfl zb47 zb17 u3 x3_1 t215 [.string t215] (fun k_=>some k_ ≠ (.slice (some ad214) t211.length co4:Value).ownBlock) (fun _=>False) rfl rfl ?aP (fun _ hk=>hk.elim) ?aF ?aO ?aB ?aS ?aL ?_;(case aP=>exact rfl);(case aB=>exact zb117);(case aF=>exact (fun k_ hk=>Kd.fresh' (Kd.R_lt zb115) k_ hk));(case aO=>exact zb82);(case aS=>exact zb110);(case aL=>have:=LMc11.out;omega);intro v217 w13 ho hb hg hat;rw [← Ny216.out] at ho;replace HO_7:=Aside0.mk (Kd.R_after (ok:=(fun _=>True)) (by (with_reducible repeat (first|apply Kd.R_alloc|apply Kd.R_drewN|apply Kd.R_drew));exact Kd.R_mono HO_7.out (fun _ hk=>⟨trivial,hk⟩)) hg hat);replace HB:=Aside0.mk (hb);have HO218:=Aside0.mk (ho);clear ho hb hg hat))
      go_roundg k1
      case measure=>have:=HK1.out;omega
      case rel=>exact ⟨(y216),(wrap64 (x9_1 + 1)),zb5,H',⟨zb135⟩,⟨by (with_reducible repeat (first|apply Kd.R_alloc|apply Kd.R_drewN|apply Kd.R_drew));exact HO218.out⟩,⟨by (with_reducible repeat (first|apply Kd.R_alloc|apply Kd.R_drewN|apply Kd.R_drew));exact Kd.R_mono HO_7.out (fun _ hk=>hk.2)⟩,⟨zb0⟩⟩
     ·rw [if_neg c11] at H
      exact absurd H zb44
    ·rw [if_neg c7] at H
     exact absurd H zb44
   ·rw [if_neg c6] at H
    exact absurd H zb44
def field_List.l0:Nat → List ByteArray → List ByteArray → Int → Int → Option (List ByteArray)
 | 0,_,_,_,_=>none
 | k + 1,x5,x10,x11,x12=>if x12 < x11 then (if 0 ≤ x12 then (if x12 < (x10.length:Int) then ((sign_Split.f k (rdOf ByteArray.empty x10 x12)).bind fun t223=>(if x5.length + t223.length < 8796093022208 then (field_List.l0 k (x5 ++ t223) x10 x11 (wrap64 (x12 + 1))) else (none))) else (none)) else (none)) else (some x5)
def field_List.f (k:Nat) (l0:List (S36)) (a1:ByteArray):Option (List ByteArray):=(field_Get.f k l0 a1).bind fun t219=>(field_List.l0 k ([]:List ByteArray) t219 (t219.length:Int) 0)
set_option maxHeartbeats 8000000 in
set_option maxRecDepth 100000 in
theorem field_List.calls (k:Nat) (A0:Option Addr) (c0:Nat) (l0:List (S36)) (a1:ByteArray) (r:List ByteArray) (w:World) (hr0:Kd.C k36 w A0 l0.length l0) (hc0:l0.length ≤ c0) (h:field_List.f k l0 a1=some r) :
 Calls Tryz.prog 87 #[.slice A0 l0.length c0,.string a1] w fun e w' => ∃ v0_:Value,e = .returned (v0_)∧Kd.R Kd.string 9 w' w.heap.size (fun _=>True) v0_ r∧Below w.heap.size w w' := by
 have HR0:=Aside0.mk hr0
 have HC0:=Aside0.mk hc0
 clear hr0 hc0
 have HB:=Aside0.mk (Below.refl w.heap.size w)
 unfold field_List.f at h
 have H:=h
 clear h
 replace H:=Option.bind_eq_some_iff.mp H
 obtain ⟨t219,A30,H⟩:=H
 try dsimp only at H
 have A3:=Aside0.mk A30
 clear A30
 have H' := Aside0.mk H
 clear H
 go_enter Tryz.func87,Tryz.ntmps87
 go_wp2_with (first|((with_reducible refine gate_callee (f:=50) rfl ?_);refine goesL_ (some 10) rfl rfl Tryz.func50 zb7 rfl #[.slice A0 l0.length c0,.string a1] rfl zb1 ?_;(with_reducible refine (field_Get.calls k _ _ l0 a1 t219 _ ?side1 ?side2 A3.out).mono ?_);(case side1=>exact zb37);(case side2=>exact HC0.out);rintro e w4 ⟨v220,rfl,ho0,hb⟩;(try clear A3);refine ⟨_,rfl,?_⟩;have HO221:=Aside0.mk (Kd.R_lower ho0 (below_size zb0));replace HB:=Aside0.mk (below_step zb0 hb);try clear hb ho0;obtain ⟨Ao5,co5,eo5⟩:=Kd.R_slice HO221.out;subst eo5))
 go_loopg [5,12] k (fun kq v5 v12 w' => ∃ (x5_1:List ByteArray) (x12_1:Int),v12 = .int .i64 x12_1∧Aside0 (field_List.l0 kq x5_1 t219 (t219.length:Int) x12_1=some r)∧Aside0 (kq ≤ k)∧Aside0 (Kd.R Kd.string 9 w' w.heap.size (fun k_=>some k_ ≠ ((.slice Ao5 t219.length co5):Value).ownBlock) v5 x5_1)∧Aside0 (Kd.R Kd.string 9 w' w.heap.size (fun k_=>some k_ ≠ (v5:Value).ownBlock) (.slice Ao5 t219.length co5) t219)∧Aside0 (Below w.heap.size w w'))
 case atStart=>exact ⟨(([]:List ByteArray)),(0),zb5,H',⟨Nat.le_refl _⟩,⟨zb12⟩,⟨by (with_reducible repeat (first|apply Kd.R_alloc|apply Kd.R_drewN|apply Kd.R_drew));exact Kd.R_mono HO221.out (fun _ hk=>(by simp [Value.ownBlock]))⟩,⟨zb0⟩⟩
 case round =>
  clear H'
  try clear p2
  try clear c5
  obtain ⟨x5_1,x12_1,rfl,HA,HK1,HO_5,HO_10,HB⟩:=hrel
  cases gk with
  | zero=>exact absurd HA.out (by simp [field_List.l0])
  | succ k1 =>
   have H:=HA.out
   clear HA
   simp only [field_List.l0] at H
   by_cases c6:x12_1 < (t219.length:Int);rotate_left
   ·rw [if_neg c6] at H
    have c6b0:=decide_eq_false c6
    clear c6
    obtain rfl:=Option.some.inj H
    go_wp2
    go_ret
    exact ⟨_,zb2,by (with_reducible repeat (first|apply Kd.R_alloc|apply Kd.R_drewN|apply Kd.R_drew));exact Kd.R_mono HO_5.out (fun _ hk=>trivial),zb0⟩
   rw [if_pos c6] at H
   have c6b0:=decide_eq_true c6
   clear c6
   by_cases c7:0 ≤ x12_1
   ·rw [if_pos c7] at H
    have c7b0:=decide_eq_true c7
    clear c7
    by_cases c8:x12_1 < (t219.length:Int)
    ·rw [if_pos c8] at H
     have c8b0:=decide_eq_true c8
     clear c8
     replace H:=Option.bind_eq_some_iff.mp H
     obtain ⟨t223,A90,H⟩:=H
     try dsimp only at H
     have A9:=Aside0.mk A90
     clear A90
     by_cases c10:x5_1.length + t223.length < 8796093022208
     ·rw [if_pos c10] at H
      have LMc10:=Aside0.mk c10
      clear c10
      obtain ⟨y226,hy226⟩ : ∃ y_:List ByteArray,y_=(x5_1 ++ t223):=⟨_,rfl⟩
      replace H:(field_List.l0 k1 y226 t219 (t219.length:Int) (wrap64 (x12_1 + 1)))=some r:=by first|(rw [hy226];with_reducible exact H)|(have H2_:=(Option.bind_some _ _).symm.trans H;rw [hy226];with_reducible exact H2_)|(have H2_:=(Option.bind_some _ _).symm.trans H;with_reducible exact H2_)|with_reducible exact H|(rw [hy226];exact H)|exact H
      have Ny226:=Aside0.mk hy226
      clear hy226
      have H' := Aside0.mk H
      clear H
      have p222:0 ≤ (x12_1:Int):=of_decide_eq_true zb3
      have q222:x12_1 < (t219.length:Int):=of_decide_eq_true zb3
      obtain ⟨ad222,e222,hx222_0⟩:=Kd.at_string (Kd.R_reads' HO_10.out).2.2 x12_1 p222 q222
      cases e222
      replace p222:=eq_true p222
      replace q222:=eq_true q222
      go_wp2_with (first|((with_reducible refine gate_callee (f:=136) rfl ?_);refine goesL_ (some 18) rfl rfl Tryz.func136 zb7 rfl #[.string (rdOf ByteArray.empty t219 x12_1)] rfl zb1 ?_;(with_reducible refine (sign_Split.calls k1 (rdOf ByteArray.empty t219 x12_1) t223 _ A9.out).mono ?_);rintro e w11 ⟨v224,rfl,ho0,hb⟩;(try clear A9);refine ⟨_,rfl,?_⟩;have HO225:=Aside0.mk (Kd.R_lower (Kd.R_new' (Kd.R_new' ho0 (Kd.R_lt zb76)) (Kd.R_lt zb141)) (below_size zb0));replace HO_5:=Aside0.mk (Kd.R_elder' zb76 (Kd.R_base ho0) hb);replace HO_10:=Aside0.mk (Kd.R_elder' zb141 (Kd.R_base ho0) hb);replace HB:=Aside0.mk (below_step zb0 hb);try clear hb ho0;obtain ⟨Ao13,co13,eo13⟩:=Kd.R_slice HO225.out;subst eo13)|((with_reducible refine gate_builtin (b:=.append) (xs:=#[.tmp 16,.tmp 18]) rfl ?_);at_builtin;refine Kd.R_append_rows Kd.string (w0:=w) w.heap.size rfl (.tmp 16) (.tmp 18) 34 9 (.string ⟨#[]⟩) 16 rfl Tryz.underlying34 info9 rfl zb47 zb17 u5 x5_1 t223 _ _ _ (fun k_=>some k_ ≠ (.slice (some ad222) t219.length co5:Value).ownBlock∧some k_ ≠ (.slice Ao13 t223.length co13:Value).ownBlock) (fun _=>False) rfl rfl ?aO ?aR (fun _ _ h=>h) (fun _ h=>h.elim) ?aF ?aB ?aS ?aL ?_;(case aR=>repeat (first|exact (Kd.R_reads' HO225.out).2.2|(with_reducible refine Kd.C_alloc ?_ _)|(with_reducible refine Kd.C_drewN ?_ _)|(with_reducible refine Kd.C_drew ?_)));(case aB=>exact zb117);(case aF=>exact (fun k_ hk=>⟨Kd.fresh' (Kd.R_lt zb141) k_ hk,Kd.fresh' (Kd.R_lt (by (with_reducible repeat (first|apply Kd.R_alloc|apply Kd.R_drewN|apply Kd.R_drew));exact HO225.out)) k_ hk⟩));(case aO=>exact zb76);(case aS=>exact zb110);(case aL=>have:=LMc10.out;omega);intro v227 w12 ho hb hg hat;rw [← Ny226.out] at ho;replace HO_10:=Aside0.mk (Kd.R_after (ok:=(fun k_=>some k_ ≠ (.slice Ao13 t223.length co13:Value).ownBlock)) (by (with_reducible repeat (first|apply Kd.R_alloc|apply Kd.R_drewN|apply Kd.R_drew));exact Kd.R_mono HO_10.out (fun _ hk=>⟨hk.2,hk.1⟩)) hg hat);replace HO225:=Aside0.mk (Kd.R_after (ok:=(fun k_=>some k_ ≠ (.slice (some ad222) t219.length co5:Value).ownBlock)) (by (with_reducible repeat (first|apply Kd.R_alloc|apply Kd.R_drewN|apply Kd.R_drew));exact Kd.R_mono HO225.out (fun _ hk=>⟨hk.2,hk.1.2⟩)) hg hat);replace HB:=Aside0.mk (hb);have HO228:=Aside0.mk (ho);clear ho hb hg hat))
      go_roundg k1
      case measure=>have:=HK1.out;omega
      case rel=>exact ⟨(y226),(wrap64 (x12_1 + 1)),zb5,H',⟨zb135⟩,⟨by (with_reducible repeat (first|apply Kd.R_alloc|apply Kd.R_drewN|apply Kd.R_drew));exact Kd.R_mono HO228.out (fun _ hk=>hk.1)⟩,⟨by (with_reducible repeat (first|apply Kd.R_alloc|apply Kd.R_drewN|apply Kd.R_drew));exact Kd.R_mono HO_10.out (fun _ hk=>hk.2)⟩,⟨zb0⟩⟩
     ·rw [if_neg c10] at H
      exact absurd H zb44
    ·rw [if_neg c8] at H
     exact absurd H zb44
   ·rw [if_neg c7] at H
    exact absurd H zb44
def frame_chunked.f (k:Nat) (l0:List (S36)):Option (Bool):=(field_List.f k l0 (⟨#[84,114,97,110,115,102,101,114,45,69,110,99,111,100,105,110,103]⟩:ByteArray)).bind fun t235=>(if (t235.length:Int)=1 then (if 0 < (t235.length:Int) then ((sign_Same.f (rdOf ByteArray.empty t235 0) (⟨#[99,104,117,110,107,101,100]⟩:ByteArray)).bind fun t239=>(some t239)) else (none)) else (some false))
set_option maxHeartbeats 8000000 in
set_option maxRecDepth 100000 in
theorem frame_chunked.calls (k:Nat) (A0:Option Addr) (c0:Nat) (l0:List (S36)) (r:Bool) (w:World) (hr0:Kd.C k36 w A0 l0.length l0) (hc0:l0.length ≤ c0) (h:frame_chunked.f k l0=some r) :
 Calls Tryz.prog 121 #[.slice A0 l0.length c0] w fun e w' => e = .returned (.bool r)∧Below w.heap.size w w' := by
 have HR0:=Aside0.mk hr0
 have HC0:=Aside0.mk hc0
 clear hr0 hc0
 have HB:=Aside0.mk (Below.refl w.heap.size w)
 unfold frame_chunked.f at h
 have H:=h
 clear h
 replace H:=Option.bind_eq_some_iff.mp H
 obtain ⟨t235,A20,H⟩:=H
 try dsimp only at H
 have A2:=Aside0.mk A20
 clear A20
 by_cases c3:(t235.length:Int)=1;rotate_left
 ·rw [if_neg c3] at H
  have c3b0:=beq_eq_false_iff_ne.mpr c3
  have c3b1:=bne_iff_ne.mpr c3
  obtain rfl:=Option.some.inj H
  go_enter Tryz.func121,Tryz.ntmps121
  go_wp2_with (first|((with_reducible refine gate_callee (f:=87) rfl ?_);refine goesL_ (some 5) rfl rfl Tryz.func87 zb7 rfl #[.slice A0 l0.length c0,.string (⟨#[84,114,97,110,115,102,101,114,45,69,110,99,111,100,105,110,103]⟩:ByteArray)] rfl zb1 ?_;(with_reducible refine (field_List.calls k _ _ l0 (⟨#[84,114,97,110,115,102,101,114,45,69,110,99,111,100,105,110,103]⟩:ByteArray) t235 _ ?side1 ?side2 A2.out).mono ?_);(case side1=>exact zb37);(case side2=>exact HC0.out);rintro e w9 ⟨v236,rfl,ho0,hb⟩;(try clear A2);refine ⟨_,rfl,?_⟩;have HO237:=Aside0.mk (Kd.R_lower ho0 (below_size zb0));replace HB:=Aside0.mk (below_step zb0 hb);try clear hb ho0;obtain ⟨Ao10,co10,eo10⟩:=Kd.R_slice HO237.out;subst eo10))
  go_ret
  exact ⟨zb2,zb0⟩
 rw [if_pos c3] at H
 have c3b0:=beq_iff_eq.mpr c3
 have c3b1:=bne_eq_false_iff_eq.mpr c3
 clear c3
 by_cases c4:0 < (t235.length:Int)
 ·rw [if_pos c4] at H
  have c4b0:=decide_eq_true c4
  have c4b1:decide (0 < t235.length)=true:=decide_eq_true zb17
  clear c4
  replace H:=Option.bind_eq_some_iff.mp H
  obtain ⟨t239,A50,H⟩:=H
  try dsimp only at H
  have A5:=Aside0.mk A50
  clear A50
  obtain rfl:=Option.some.inj H
  go_enter Tryz.func121,Tryz.ntmps121
  go_wp2_with (first|((with_reducible refine gate_callee (f:=87) rfl ?_);refine goesL_ (some 5) rfl rfl Tryz.func87 zb7 rfl #[.slice A0 l0.length c0,.string (⟨#[84,114,97,110,115,102,101,114,45,69,110,99,111,100,105,110,103]⟩:ByteArray)] rfl zb1 ?_;(with_reducible refine (field_List.calls k _ _ l0 (⟨#[84,114,97,110,115,102,101,114,45,69,110,99,111,100,105,110,103]⟩:ByteArray) t235 _ ?side1 ?side2 A2.out).mono ?_);(case side1=>exact zb37);(case side2=>exact HC0.out);rintro e w6 ⟨v236,rfl,ho0,hb⟩;(try clear A2);refine ⟨_,rfl,?_⟩;have HO237:=Aside0.mk (Kd.R_lower ho0 (below_size zb0));replace HB:=Aside0.mk (below_step zb0 hb);try clear hb ho0;obtain ⟨Ao7,co7,eo7⟩:=Kd.R_slice HO237.out;subst eo7;have p238:0 ≤ (0:Int):=zb17;have q238:0 < (t235.length:Int):=of_decide_eq_true zb3;obtain ⟨ad238,e238,hx238_0⟩:=Kd.at_string (Kd.R_reads' HO237.out).2.2 0 p238 q238;cases e238;have qi238:(0 < t235.length)=True:=eq_true zb17;(try rw [show ((0:Int)).toNat=0 from rfl] at hx238_0);(try rw [Addr.add_zero'] at hx238_0);replace p238:=eq_true p238;replace q238:=eq_true q238)|(go_at_call 89;(with_reducible refine (sign_Same.calls (rdOf ByteArray.empty t235 0) (⟨#[99,104,117,110,107,101,100]⟩:ByteArray) t239 _ A5.out).mono ?_);rintro e w8 ⟨rfl,hb⟩;(try clear A5);replace HO237:=Aside0.mk (Kd.R_below (by (with_reducible repeat (first|apply Kd.R_alloc|apply Kd.R_drewN|apply Kd.R_drew));exact HO237.out) hb);replace HB:=Aside0.mk (below_step zb0 hb);(try clear hb)))
  go_ret
  exact ⟨zb2,zb0⟩
 ·rw [if_neg c4] at H
  exact absurd H zb44
def sign_Decimal.f (k:Nat) (a0:ByteArray):Option (Int × Bool):=(sign_number.f k a0 10 18).bind fun bt109=>(some (bt109.1,bt109.2))
set_option maxHeartbeats 8000000 in
set_option maxRecDepth 100000 in
theorem sign_Decimal.calls (k:Nat) (a0:ByteArray) (r1:Int) (r2:Bool) (w:World) (h:sign_Decimal.f k a0=some (r1,r2)) :
 Calls Tryz.prog 112 #[.string a0] w fun e w' => e = .returned (.tuple #[.int .i64 r1,.bool r2])∧Below w.heap.size w w' := by
 have HB:=Aside0.mk (Below.refl w.heap.size w)
 unfold sign_Decimal.f at h
 have H:=h
 clear h
 replace H:=Option.bind_eq_some_iff.mp H
 obtain ⟨⟨t109,t110⟩,A20,H⟩:=H
 try dsimp only at H
 have A2:=Aside0.mk A20
 clear A20
 simp only [Option.some.injEq,Prod.mk.injEq] at H
 obtain ⟨rfl,rfl⟩:=H
 go_enter Tryz.func112,Tryz.ntmps112
 go_wp2_with (first|((with_reducible refine gate_callee (f:=156) rfl ?_);refine goesL_ (some 5) rfl rfl Tryz.func156 zb7 rfl #[.string a0,.int .i64 10,.int .i64 18] rfl zb1 ?_;(with_reducible refine (sign_number.calls k a0 10 18 t109 t110 _ A2.out).mono ?_);rintro e w3 ⟨rfl,hb⟩;(try clear A2);refine ⟨_,rfl,?_⟩;replace HB:=Aside0.mk (below_step zb0 hb);(try clear hb)))
 go_ret2
 exact ⟨zb2,zb0⟩
def frame_length.l0:Nat → Int → List ByteArray → Int → Int → Option (Int × Bool)
 | 0,_,_,_,_=>none
 | k + 1,x5,x12,x13,x14=>if x14 < x13 then (if 0 ≤ x14 then (if x14 < (x12.length:Int) then ((sign_Decimal.f k (rdOf ByteArray.empty x12 x14)).bind fun bt233=>(if bt233.2=true then (if x5 ≥ 0 then (if bt233.1=x5 then (frame_length.l0 k bt233.1 x12 x13 (wrap64 (x14 + 1))) else (some (0,false))) else (frame_length.l0 k bt233.1 x12 x13 (wrap64 (x14 + 1)))) else (some (0,false)))) else (none)) else (none)) else (some (x5,decide (x5 ≥ 0)))
def frame_length.f (k:Nat) (l0:List (S36)):Option (Int × Bool):=(field_List.f k l0 (⟨#[67,111,110,116,101,110,116,45,76,101,110,103,116,104]⟩:ByteArray)).bind fun t229=>(frame_length.l0 k (-1) t229 (t229.length:Int) 0)
set_option maxHeartbeats 8000000 in
set_option maxRecDepth 100000 in
theorem frame_length.calls (k:Nat) (A0:Option Addr) (c0:Nat) (l0:List (S36)) (r1:Int) (r2:Bool) (w:World) (hr0:Kd.C k36 w A0 l0.length l0) (hc0:l0.length ≤ c0) (h:frame_length.f k l0=some (r1,r2)) :
 Calls Tryz.prog 120 #[.slice A0 l0.length c0] w fun e w' => e = .returned (.tuple #[.int .i64 r1,.bool r2])∧Below w.heap.size w w' := by
 have HR0:=Aside0.mk hr0
 have HC0:=Aside0.mk hc0
 clear hr0 hc0
 have HB:=Aside0.mk (Below.refl w.heap.size w)
 unfold frame_length.f at h
 have H:=h
 clear h
 replace H:=Option.bind_eq_some_iff.mp H
 obtain ⟨t229,A20,H⟩:=H
 try dsimp only at H
 have A2:=Aside0.mk A20
 clear A20
 have H' := Aside0.mk H
 clear H
 go_enter Tryz.func120,Tryz.ntmps120
 go_wp2_with (first|((with_reducible refine gate_callee (f:=87) rfl ?_);refine goesL_ (some 11) rfl rfl Tryz.func87 zb7 rfl #[.slice A0 l0.length c0,.string (⟨#[67,111,110,116,101,110,116,45,76,101,110,103,116,104]⟩:ByteArray)] rfl zb1 ?_;(with_reducible refine (field_List.calls k _ _ l0 (⟨#[67,111,110,116,101,110,116,45,76,101,110,103,116,104]⟩:ByteArray) t229 _ ?side1 ?side2 A2.out).mono ?_);(case side1=>exact zb37);(case side2=>exact HC0.out);rintro e w3 ⟨v230,rfl,ho0,hb⟩;(try clear A2);refine ⟨_,rfl,?_⟩;have HO231:=Aside0.mk (Kd.R_lower ho0 (below_size zb0));replace HB:=Aside0.mk (below_step zb0 hb);try clear hb ho0;obtain ⟨Ao4,co4,eo4⟩:=Kd.R_slice HO231.out;subst eo4))
 go_loopg [5,14] k (fun kq v5 v14 w' => ∃ (x5_1:Int) (x14_1:Int),v5 = .int .i64 x5_1∧v14 = .int .i64 x14_1∧Aside0 (frame_length.l0 kq x5_1 t229 (t229.length:Int) x14_1=some (r1,r2))∧Aside0 (kq ≤ k)∧Aside0 (Kd.R Kd.string 9 w' w.heap.size (fun _=>True) (.slice Ao4 t229.length co4) t229)∧Aside0 (Below w.heap.size w w'))
 case atStart=>exact ⟨((-1)),(0),zb5,zb5,H',⟨Nat.le_refl _⟩,⟨by (with_reducible repeat (first|apply Kd.R_alloc|apply Kd.R_drewN|apply Kd.R_drew));exact HO231.out⟩,⟨zb0⟩⟩
 case round =>
  clear H'
  try clear c1
  try clear p2
  obtain ⟨x5_1,x14_1,rfl,rfl,HA,HK1,HO_12,HB⟩:=hrel
  cases gk with
  | zero=>exact absurd HA.out (by simp [frame_length.l0])
  | succ k1 =>
   have H:=HA.out
   clear HA
   simp only [frame_length.l0] at H
   by_cases c5:x14_1 < (t229.length:Int);rotate_left
   ·rw [if_neg c5] at H
    have c5b0:=decide_eq_false c5
    clear c5
    simp only [Option.some.injEq,Prod.mk.injEq] at H
    obtain ⟨rfl,rfl⟩:=H
    go_wp2
    go_ret2
    exact ⟨zb2,zb0⟩
   rw [if_pos c5] at H
   have c5b0:=decide_eq_true c5
   clear c5
   by_cases c6:0 ≤ x14_1
   ·rw [if_pos c6] at H
    have c6b0:=decide_eq_true c6
    clear c6
    by_cases c7:x14_1 < (t229.length:Int)
    ·rw [if_pos c7] at H
     have c7b0:=decide_eq_true c7
     clear c7
     replace H:=Option.bind_eq_some_iff.mp H
     obtain ⟨⟨t233,t234⟩,A80,H⟩:=H
     try dsimp only at H
     have A8:=Aside0.mk A80
     clear A80
     by_cases c9:t234=true;rotate_left
     ·replace c9:=Bool.eq_false_iff.mpr c9
      subst c9
      rw [if_neg (show ¬ (false=true) by decide)] at H
      simp only [Option.some.injEq,Prod.mk.injEq] at H
      obtain ⟨rfl,rfl⟩:=H
      have p232:0 ≤ (x14_1:Int):=of_decide_eq_true zb3
      have q232:x14_1 < (t229.length:Int):=of_decide_eq_true zb3
      obtain ⟨ad232,e232,hx232_0⟩:=Kd.at_string (Kd.R_reads' HO_12.out).2.2 x14_1 p232 q232
      cases e232
      replace p232:=eq_true p232
      replace q232:=eq_true q232
      go_wp2_with (first|((with_reducible refine gate_callee (f:=112) rfl ?_);refine goesL_ (some 20) rfl rfl Tryz.func112 zb7 rfl #[.string (rdOf ByteArray.empty t229 x14_1)] rfl zb1 ?_;(with_reducible refine (sign_Decimal.calls k1 (rdOf ByteArray.empty t229 x14_1) t233 false _ A8.out).mono ?_);rintro e w15 ⟨rfl,hb⟩;(try clear A8);refine ⟨_,rfl,?_⟩;replace HO_12:=Aside0.mk (Kd.R_below zb68 hb);replace HB:=Aside0.mk (below_step zb0 hb);(try clear hb)))
      go_ret2
      exact ⟨zb2,zb0⟩
     subst c9
     rw [if_pos rfl] at H
     by_cases c10:x5_1 ≥ 0;rotate_left
     ·rw [if_neg c10] at H
      have c10b0:decide (0 ≤ x5_1)=false:=decide_eq_false c10
      clear c10
      have H' := Aside0.mk H
      clear H
      have p232:0 ≤ (x14_1:Int):=of_decide_eq_true zb3
      have q232:x14_1 < (t229.length:Int):=of_decide_eq_true zb3
      obtain ⟨ad232,e232,hx232_0⟩:=Kd.at_string (Kd.R_reads' HO_12.out).2.2 x14_1 p232 q232
      cases e232
      replace p232:=eq_true p232
      replace q232:=eq_true q232
      go_wp2_with (first|((with_reducible refine gate_callee (f:=112) rfl ?_);refine goesL_ (some 20) rfl rfl Tryz.func112 zb7 rfl #[.string (rdOf ByteArray.empty t229 x14_1)] rfl zb1 ?_;(with_reducible refine (sign_Decimal.calls k1 (rdOf ByteArray.empty t229 x14_1) t233 true _ A8.out).mono ?_);rintro e w14 ⟨rfl,hb⟩;(try clear A8);refine ⟨_,rfl,?_⟩;replace HO_12:=Aside0.mk (Kd.R_below zb68 hb);replace HB:=Aside0.mk (below_step zb0 hb);(try clear hb)))
      go_roundg k1
      case measure=>have:=HK1.out;omega
      case rel=>exact ⟨(t233),(wrap64 (x14_1 + 1)),zb5,zb5,H',⟨zb135⟩,⟨zb68⟩,⟨zb0⟩⟩
     rw [if_pos c10] at H
     have c10b0:decide (0 ≤ x5_1)=true:=decide_eq_true c10
     clear c10
     by_cases c11:t233=x5_1
     ·rw [if_pos c11] at H
      have c11b0:=beq_iff_eq.mpr c11
      have c11b1:=bne_eq_false_iff_eq.mpr c11
      clear c11
      have H' := Aside0.mk H
      clear H
      have p232:0 ≤ (x14_1:Int):=of_decide_eq_true zb3
      have q232:x14_1 < (t229.length:Int):=of_decide_eq_true zb3
      obtain ⟨ad232,e232,hx232_0⟩:=Kd.at_string (Kd.R_reads' HO_12.out).2.2 x14_1 p232 q232
      cases e232
      replace p232:=eq_true p232
      replace q232:=eq_true q232
      go_wp2_with (first|((with_reducible refine gate_callee (f:=112) rfl ?_);refine goesL_ (some 20) rfl rfl Tryz.func112 zb7 rfl #[.string (rdOf ByteArray.empty t229 x14_1)] rfl zb1 ?_;(with_reducible refine (sign_Decimal.calls k1 (rdOf ByteArray.empty t229 x14_1) t233 true _ A8.out).mono ?_);rintro e w12 ⟨rfl,hb⟩;(try clear A8);refine ⟨_,rfl,?_⟩;replace HO_12:=Aside0.mk (Kd.R_below zb68 hb);replace HB:=Aside0.mk (below_step zb0 hb);(try clear hb)))
      go_roundg k1
      case measure=>have:=HK1.out;omega
      case rel=>exact ⟨(t233),(wrap64 (x14_1 + 1)),zb5,zb5,H',⟨zb135⟩,⟨zb68⟩,⟨zb0⟩⟩
     ·rw [if_neg c11] at H
      have c11b0:=beq_eq_false_iff_ne.mpr c11
      have c11b1:=bne_iff_ne.mpr c11
      simp only [Option.some.injEq,Prod.mk.injEq] at H
      obtain ⟨rfl,rfl⟩:=H
      have p232:0 ≤ (x14_1:Int):=of_decide_eq_true zb3
      have q232:x14_1 < (t229.length:Int):=of_decide_eq_true zb3
      obtain ⟨ad232,e232,hx232_0⟩:=Kd.at_string (Kd.R_reads' HO_12.out).2.2 x14_1 p232 q232
      cases e232
      replace p232:=eq_true p232
      replace q232:=eq_true q232
      go_wp2_with (first|((with_reducible refine gate_callee (f:=112) rfl ?_);refine goesL_ (some 20) rfl rfl Tryz.func112 zb7 rfl #[.string (rdOf ByteArray.empty t229 x14_1)] rfl zb1 ?_;(with_reducible refine (sign_Decimal.calls k1 (rdOf ByteArray.empty t229 x14_1) t233 true _ A8.out).mono ?_);rintro e w13 ⟨rfl,hb⟩;(try clear A8);refine ⟨_,rfl,?_⟩;replace HO_12:=Aside0.mk (Kd.R_below zb68 hb);replace HB:=Aside0.mk (below_step zb0 hb);(try clear hb)))
      go_ret2
      exact ⟨zb2,zb0⟩
    ·rw [if_neg c7] at H
     exact absurd H zb44
   ·rw [if_neg c6] at H
    exact absurd H zb44
def frame_there.f (k:Nat) (l0:List (S36)) (a1:ByteArray):Option (Bool):=(field_Get.f k l0 a1).bind fun t208=>(some (decide ((t208.length:Int) > 0)))
set_option maxHeartbeats 8000000 in
set_option maxRecDepth 100000 in
theorem frame_there.calls (k:Nat) (A0:Option Addr) (c0:Nat) (l0:List (S36)) (a1:ByteArray) (r:Bool) (w:World) (hr0:Kd.C k36 w A0 l0.length l0) (hc0:l0.length ≤ c0) (h:frame_there.f k l0 a1=some r) :
 Calls Tryz.prog 115 #[.slice A0 l0.length c0,.string a1] w fun e w' => e = .returned (.bool r)∧Below w.heap.size w w' := by
 have HR0:=Aside0.mk hr0
 have HC0:=Aside0.mk hc0
 clear hr0 hc0
 have HB:=Aside0.mk (Below.refl w.heap.size w)
 unfold frame_there.f at h
 have H:=h
 clear h
 replace H:=Option.bind_eq_some_iff.mp H
 obtain ⟨t208,A30,H⟩:=H
 try dsimp only at H
 have A3:=Aside0.mk A30
 clear A30
 obtain rfl:=Option.some.inj H
 go_enter Tryz.func115,Tryz.ntmps115
 go_wp2_with (first|((with_reducible refine gate_callee (f:=50) rfl ?_);refine goesL_ (some 7) rfl rfl Tryz.func50 zb7 rfl #[.slice A0 l0.length c0,.string a1] rfl zb1 ?_;(with_reducible refine (field_Get.calls k _ _ l0 a1 t208 _ ?side1 ?side2 A3.out).mono ?_);(case side1=>exact zb37);(case side2=>exact HC0.out);rintro e w4 ⟨v209,rfl,ho0,hb⟩;(try clear A3);refine ⟨_,rfl,?_⟩;have HO210:=Aside0.mk (Kd.R_lower ho0 (below_size zb0));replace HB:=Aside0.mk (below_step zb0 hb);try clear hb ho0;obtain ⟨Ao5,co5,eo5⟩:=Kd.R_slice HO210.out;subst eo5))
 go_ret
 exact ⟨zb2,zb0⟩
mutual
def frame_Request.j0:Nat → List (S36) → Bool → Bool → Int → Bool → Bool → Option (Int × Bool × Int)
 | 0,_,_,_,_,_,_=>none
 | k + 1,x0,x7,x8,x9,x10,x20=>if x20=true then (some (0,false,400)) else (if x8=true then ((frame_chunked.f k x0).bind fun t244=>(frame_Request.j1 k x7 x8 x9 x10 (!t244))) else (frame_Request.j1 k x7 x8 x9 x10 false))
def frame_Request.j1:Nat → Bool → Bool → Int → Bool → Bool → Option (Int × Bool × Int)
 | 0,_,_,_,_,_=>none
 | k + 1,x7,x8,x9,x10,x29=>if x29=true then (some (0,false,501)) else (if x8=true then (some (0,true,0)) else (if x7=true then (if x10=true then (if x9 > 4096 then (some (0,false,413)) else (some (x9,false,0))) else (some (0,false,400))) else (some (0,false,0))))
end
def frame_Request.f (k:Nat) (l0:List (S36)) (a1:Int):Option (Int × Bool × Int):=(frame_there.f k l0 (⟨#[67,111,110,116,101,110,116,45,76,101,110,103,116,104]⟩:ByteArray)).bind fun t240=>((frame_there.f k l0 (⟨#[84,114,97,110,115,102,101,114,45,69,110,99,111,100,105,110,103]⟩:ByteArray)).bind fun t241=>((frame_length.f k l0).bind fun bt242=>(if t241=true then (if t240=true then (frame_Request.j0 k l0 t240 t241 bt242.1 bt242.2 true) else (frame_Request.j0 k l0 t240 t241 bt242.1 bt242.2 (a1 == 0))) else (frame_Request.j0 k l0 t240 t241 bt242.1 bt242.2 false))))
set_option maxHeartbeats 8000000 in
set_option maxRecDepth 100000 in
theorem frame_Request.calls (k:Nat) (A0:Option Addr) (c0:Nat) (l0:List (S36)) (a1:Int) (r1:Int) (r2:Bool) (r3:Int) (w:World) (hr0:Kd.C k36 w A0 l0.length l0) (hc0:l0.length ≤ c0) (h:frame_Request.f k l0 a1=some (r1,r2,r3)) :
 Calls Tryz.prog 78 #[.slice A0 l0.length c0,.int .i64 a1] w fun e w' => e = .returned (.tuple #[.int .i64 r1,.bool r2,.int .i64 r3])∧Below w.heap.size w w' := by
 have HR0:=Aside0.mk hr0
 have HC0:=Aside0.mk hc0
 clear hr0 hc0
 have HB:=Aside0.mk (Below.refl w.heap.size w)
 unfold frame_Request.f at h
 have H:=h
 clear h
 replace H:=Option.bind_eq_some_iff.mp H
 obtain ⟨t240,A30,H⟩:=H
 try dsimp only at H
 have A3:=Aside0.mk A30
 clear A30
 replace H:=Option.bind_eq_some_iff.mp H
 obtain ⟨t241,A40,H⟩:=H
 try dsimp only at H
 have A4:=Aside0.mk A40
 clear A40
 replace H:=Option.bind_eq_some_iff.mp H
 obtain ⟨⟨t242,t243⟩,A50,H⟩:=H
 try dsimp only at H
 have A5:=Aside0.mk A50
 clear A50
 have HC6:=Aside0.mk H
 clear H
 go_enter Tryz.func78,Tryz.ntmps78
 go_upto_region 3 with (first|((with_reducible refine gate_callee (f:=115) rfl ?_);refine goesL_ (some 12) rfl rfl Tryz.func115 zb7 rfl #[.slice A0 l0.length c0,.string (⟨#[67,111,110,116,101,110,116,45,76,101,110,103,116,104]⟩:ByteArray)] rfl zb1 ?_;(with_reducible refine (frame_there.calls k _ _ l0 (⟨#[67,111,110,116,101,110,116,45,76,101,110,103,116,104]⟩:ByteArray) t240 _ ?side1 ?side2 A3.out).mono ?_);(case side1=>exact zb37);(case side2=>exact HC0.out);rintro e w7 ⟨rfl,hb⟩;refine ⟨_,rfl,?_⟩;replace HB:=Aside0.mk (below_step zb0 hb);(try clear hb))|((with_reducible refine gate_callee (f:=115) rfl ?_);refine goesL_ (some 14) rfl rfl Tryz.func115 zb7 rfl #[.slice A0 l0.length c0,.string (⟨#[84,114,97,110,115,102,101,114,45,69,110,99,111,100,105,110,103]⟩:ByteArray)] rfl zb1 ?_;(with_reducible refine (frame_there.calls k _ _ l0 (⟨#[84,114,97,110,115,102,101,114,45,69,110,99,111,100,105,110,103]⟩:ByteArray) t241 _ ?side1 ?side2 A4.out).mono ?_);(case side1=>exact zb62);(case side2=>exact HC0.out);rintro e w8 ⟨rfl,hb⟩;refine ⟨_,rfl,?_⟩;replace HB:=Aside0.mk (below_step zb0 hb);(try clear hb))|((with_reducible refine gate_callee (f:=120) rfl ?_);refine goesL_ (some 17) rfl rfl Tryz.func120 zb7 rfl #[.slice A0 l0.length c0] rfl zb1 ?_;(with_reducible refine (frame_length.calls k _ _ l0 t242 t243 _ ?side1 ?side2 A5.out).mono ?_);(case side1=>exact zb62);(case side2=>exact HC0.out);rintro e w9 ⟨rfl,hb⟩;refine ⟨_,rfl,?_⟩;replace HB:=Aside0.mk (below_step zb0 hb);(try clear hb)))
 (try simp only [Act.put,zqA,zqB,zqC])
 go_cut [20] (fun v20 wc => ∃ (kq:Nat) (x20_5:Bool),v20 = .bool x20_5∧Aside0 (frame_Request.j0 kq l0 t240 t241 t242 t243 x20_5=some (r1,r2,r3))∧Aside0 (kq ≤ k)∧Aside0 (Below w.heap.size w wc))
 case first =>
  have H:=HC6.out
  clear HC6
  by_cases c10:t241=true;rotate_left
  ·replace c10:=Bool.eq_false_iff.mpr c10
   subst c10
   rw [if_neg (show ¬ (false=true) by decide)] at H
   have H' := Aside0.mk H
   clear H
   go_wp2
   go_meet
   case rel=>exact ⟨_,(false),zb5,H',⟨zb77⟩,⟨zb0⟩⟩
  subst c10
  rw [if_pos rfl] at H
  by_cases c11:t240=true
  ·subst c11
   rw [if_pos rfl] at H
   have H' := Aside0.mk H
   clear H
   go_wp2
   go_meet
   case rel=>exact ⟨_,(true),zb5,H',⟨zb77⟩,⟨zb0⟩⟩
  ·replace c11:=Bool.eq_false_iff.mpr c11
   subst c11
   rw [if_neg (show ¬ (false=true) by decide)] at H
   have H' := Aside0.mk H
   clear H
   go_wp2
   go_meet
   case rel=>exact ⟨_,((a1 == 0)),zb5,H',⟨zb77⟩,⟨zb0⟩⟩
 case rest =>
  clear HC6
  try clear c1
  try clear p2
  try clear c7
  try clear c10
  try clear c11
  obtain ⟨kq,x20_5,rfl,HA,HJ5,HB⟩:=hcut
  cases kq with
  | zero=>exact absurd HA.out (by simp [frame_Request.j0])
  | succ kj5 =>
   have H:=HA.out
   clear HA
   simp only [frame_Request.j0] at H
   by_cases c12:x20_5=true
   ·subst c12
    rw [if_pos rfl] at H
    simp only [Option.some.injEq,Prod.mk.injEq] at H
    obtain ⟨rfl,rfl,rfl⟩:=H
    go_wp2
    go_ret3
    exact ⟨zb2,zb0⟩
   replace c12:=Bool.eq_false_iff.mpr c12
   subst c12
   rw [if_neg (show ¬ (false=true) by decide)] at H
   have HC13:=Aside0.mk H
   clear H
   go_upto_region 5 with (fail)
   go_cut [29] (fun v29 wc => ∃ (kq:Nat) (x29_12:Bool),v29 = .bool x29_12∧Aside0 (frame_Request.j1 kq t240 t241 t242 t243 x29_12=some (r1,r2,r3))∧Aside0 (kq ≤ kj5)∧Aside0 (Below w.heap.size w wc))
   case first =>
    have H:=HC13.out
    clear HC13
    by_cases c14:t241=true;rotate_left
    ·replace c14:=Bool.eq_false_iff.mpr c14
     subst c14
     rw [if_neg (show ¬ (false=true) by decide)] at H
     have H' := Aside0.mk H
     clear H
     go_wp2
     go_meet
     case rel=>exact ⟨_,(false),zb5,H',⟨zb156⟩,⟨zb0⟩⟩
    subst c14
    rw [if_pos rfl] at H
    replace H:=Option.bind_eq_some_iff.mp H
    obtain ⟨t244,A150,H⟩:=H
    try dsimp only at H
    have A15:=Aside0.mk A150
    clear A150
    have H' := Aside0.mk H
    clear H
    go_wp2_with (first|(go_at_call 121;(with_reducible refine (frame_chunked.calls kj5 _ _ l0 t244 _ ?side1 ?side2 A15.out).mono ?_);(case side1=>exact zb62);(case side2=>exact HC0.out);rintro e w16 ⟨rfl,hb⟩;(try clear A15);replace HB:=Aside0.mk (below_step zb0 hb);(try clear hb)))
    go_meet
    case rel=>exact ⟨_,(!t244),zb5,H',⟨zb156⟩,⟨zb0⟩⟩
   case rest =>
    clear HC13
    try clear c1
    try clear p2
    try clear c7
    try clear c10
    try clear c11
    try clear c12
    try clear c14
    try clear p2
    obtain ⟨kq,x29_12,rfl,HA,HJ12,HB⟩:=hcut
    cases kq with
    | zero=>exact absurd HA.out (by simp [frame_Request.j1])
    | succ kj12 =>
     have H:=HA.out
     clear HA
     simp only [frame_Request.j1] at H
     by_cases c17:x29_12=true
     ·subst c17
      rw [if_pos rfl] at H
      simp only [Option.some.injEq,Prod.mk.injEq] at H
      obtain ⟨rfl,rfl,rfl⟩:=H
      go_wp2
      go_ret3
      exact ⟨zb2,zb0⟩
     replace c17:=Bool.eq_false_iff.mpr c17
     subst c17
     rw [if_neg (show ¬ (false=true) by decide)] at H
     by_cases c18:t241=true
     ·subst c18
      rw [if_pos rfl] at H
      simp only [Option.some.injEq,Prod.mk.injEq] at H
      obtain ⟨rfl,rfl,rfl⟩:=H
      go_wp2
      go_ret3
      exact ⟨zb2,zb0⟩
     replace c18:=Bool.eq_false_iff.mpr c18
     subst c18
     rw [if_neg (show ¬ (false=true) by decide)] at H
     by_cases c19:t240=true;rotate_left
     ·replace c19:=Bool.eq_false_iff.mpr c19
      subst c19
      rw [if_neg (show ¬ (false=true) by decide)] at H
      simp only [Option.some.injEq,Prod.mk.injEq] at H
      obtain ⟨rfl,rfl,rfl⟩:=H
      go_wp2
      go_ret3
      exact ⟨zb2,zb0⟩
     subst c19
     rw [if_pos rfl] at H
     by_cases c20:t243=true
     ·subst c20
      rw [if_pos rfl] at H
      by_cases c21:t242 > 4096
      ·rw [if_pos c21] at H
       have c21b0:decide (4096 < t242)=true:=decide_eq_true c21
       clear c21
       simp only [Option.some.injEq,Prod.mk.injEq] at H
       obtain ⟨rfl,rfl,rfl⟩:=H
       go_wp2
       go_ret3
       exact ⟨zb2,zb0⟩
      rw [if_neg c21] at H
      have c21b0:decide (4096 < t242)=false:=decide_eq_false c21
      clear c21
      simp only [Option.some.injEq,Prod.mk.injEq] at H
      obtain ⟨rfl,rfl,rfl⟩:=H
      go_wp2
      go_ret3
      exact ⟨zb2,zb0⟩
     ·replace c20:=Bool.eq_false_iff.mpr c20
      subst c20
      rw [if_neg (show ¬ (false=true) by decide)] at H
      simp only [Option.some.injEq,Prod.mk.injEq] at H
      obtain ⟨rfl,rfl,rfl⟩:=H
      go_wp2
      go_ret3
      exact ⟨zb2,zb0⟩
/-- A head from a place on;'fst': what the first line's test answers;the text that the test was handed last is told too. -/
def http_head.l (fst:Nat → ByteArray → Option Int):Nat → List Int → List (S36) → Int → Option ByteArray → Option (List (S36) × Int × Int × Option ByteArray)
 | 0,_,_,_,_=>none
 | k + 1,b,fs,at_,st=>if 0 ≤ at_ then (if at_ ≤ ((b.take (mn (b.length:Int) 2048).toNat).length:Int) then ((line_Cut.f k ((b.take (mn (b.length:Int) 2048).toNat).drop at_.toNat) 2048).bind fun c =>
  if c.2.2=20 then some ([],0,400,st)
  else if c.2.1=0 then (if 2048 ≤ (b.length:Int) then some ([],0,431,st) else some ([],0,0,st))
  else if at_=0 then ((fst k c.1).bind fun code=>if code=0 then http_head.l fst k b fs (wrap64 (at_ + c.2.1)) (some c.1) else some ([],0,code,some c.1))
  else if c.1.toList=[] then some (fs,wrap64 (at_ + c.2.1),0,st)
  else ((field_Parse.f c.1).bind fun p=>if p.2.2=0 then (if (fs.length:Int)=40 then some ([],0,431,st) else if fs.length < 4398046511104 then http_head.l fst k b (fs ++ [(⟨p.1,p.2.1⟩:S36)]) (wrap64 (at_ + c.2.1)) st else none) else some ([],0,400,st))) else none) else none
def http_head.f (fst:Nat → ByteArray → Option Int) (k:Nat) (b:List Int):Option (List (S36) × Int × Int × Option ByteArray):=http_head.l fst k b [] 0 none
/-- The block that the first line's test writes: what it holds,by the text that it was handed last. -/
def HBlk (G T:Nat) (Val:Option ByteArray → Array Value → Prop) (x:Option ByteArray) (W:World):Prop := ∃ cs,Val x cs∧W.heap[G]? = some (.cells cs T (0,0))
theorem HBlk.lt {G T:Nat} {Val:Option ByteArray → Array Value → Prop} {x:Option ByteArray} {W:World} (h:HBlk G T Val x W):G < W.heap.size:=by obtain ⟨cs,_,h⟩:=h;exact blk_lt h
theorem HBlk.below {G T:Nat} {Val:Option ByteArray → Array Value → Prop} {x:Option ByteArray} {W W' : World} (h:HBlk G T Val x W) (hb:Below W.heap.size W W'):HBlk G T Val x W' := by obtain ⟨cs,hv,h⟩:=h;exact ⟨cs,hv,blk_below h hb⟩
theorem HBlk.alloc {G T:Nat} {Val:Option ByteArray → Array Value → Prop} {x:Option ByteArray} {W:World} (h:HBlk G T Val x W) (o:Obj):HBlk G T Val x (W.alloc o):=by obtain ⟨cs,hv,h⟩:=h;exact ⟨cs,hv,blk_alloc h o⟩
theorem HBlk.grown {G T:Nat} {Val:Option ByteArray → Array Value → Prop} {x:Option ByteArray} {W W' : World} {row:Option Nat} (h:HBlk G T Val x W) (hg:W.grownBy W' row) (hn:some G ≠ row):HBlk G T Val x W' := by obtain ⟨cs,hv,h⟩:=h;exact ⟨cs,hv,blk_grown h hg hn⟩
/-- What is asked of the first line's test: its answer;it turns its own block alone. -/
def FirstOf (g:Nat) (lb:Array Value) (fst:Nat → ByteArray → Option Int) (G T:Nat) (Val:Option ByteArray → Array Value → Prop):Prop :=
 ∀ (k:Nat) (W:World) (x:Option ByteArray) (s:ByteArray) (c:Int),HBlk G T Val x W → fst k s=some c → Calls Tryz.prog g (#[.string s] ++ lb) W fun e W' => e = .returned (.int .i64 c)∧HBlk G T Val (some s) W' ∧ Below G W W' ∧ KeepBut W W' G none
/-- The loop's state. -/
def HSt (w0 wr:World) (G T:Nat) (Val:Option ByteArray → Array Value → Prop) (st:Option ByteArray) (v:Value) (fs:List (S36)):Prop:=HBlk G T Val st wr∧Below w0.heap.size w0 wr∧Kd.R k36 36 wr w0.heap.size (fun k=>k ≠ G) v fs
theorem hbase {w w1:World} {b g:Nat} (hg:b ≤ g) (h:Below g w w1):Below b w w1:=⟨h.os,h.tape,h.output,h.size,fun i hi=>h.block i (Nat.lt_of_lt_of_le hi hg)⟩
theorem HSt.below {w0 wr w1:World} {G T:Nat} {Val:Option ByteArray → Array Value → Prop} {st:Option ByteArray} {v:Value} {fs:List (S36)} (h:HSt w0 wr G T Val st v fs) (hb:Below wr.heap.size wr w1):HSt w0 w1 G T Val st v fs :=
 ⟨h.1.below hb,h.2.1.trans (hbase h.2.1.size hb),Kd.R_below h.2.2 hb⟩
theorem HSt.alloc {w0 wr:World} {G T:Nat} {Val:Option ByteArray → Array Value → Prop} {st:Option ByteArray} {v:Value} {fs:List (S36)} (h:HSt w0 wr G T Val st v fs) (o:Obj):HSt w0 (wr.alloc o) G T Val st v fs:=h.below (below_alloc (Below.refl _ _) o)
theorem HSt.turned {w0 wr w1:World} {G T:Nat} {Val:Option ByteArray → Array Value → Prop} {st st' : Option ByteArray} {v:Value} {fs:List (S36)} (h:HSt w0 wr G T Val st v fs) (hG:w0.heap.size ≤ G) (hB:HBlk G T Val st' w1) (hb:Below G wr w1) (hk:KeepBut wr w1 G none):HSt w0 w1 G T Val st' v fs :=
 ⟨hB,h.2.1.trans (hbase hG hb),Kd.R_keep h.2.2 hk (fun _ hk=>hk)⟩
/-- What head hands back. -/
def HPost (w0:World) (G T:Nat) (Val:Option ByteArray → Array Value → Prop) (r1:List (S36)) (r2 r3:Int) (st:Option ByteArray) (E:Ending) (w' : World):Prop := ∃ v0_:Value,E = .returned (.tuple #[v0_,.int .i64 r2,.int .i64 r3])∧HSt w0 w' G T Val st v0_ r1
theorem hpost_none {w0 wr:World} {G T:Nat} {Val:Option ByteArray → Array Value → Prop} {r2 r3:Int} {st:Option ByteArray} {v:Value} {fs:List (S36)} (h:HSt w0 wr G T Val st v fs):HPost w0 G T Val [] r2 r3 st (.returned (.tuple #[.slice none 0 0,.int .i64 r2,.int .i64 r3])) wr:=⟨_,rfl,h.1,h.2.1,Kd.R_nil _ _ _ _ _⟩
set_option maxHeartbeats 16000000 in
set_option maxRecDepth 100000 in
theorem http_head.callsOf (fst:Nat → ByteArray → Option Int) (g:Nat) (lb:Array Value) (eg : ∀ args w,(callFunc g args).run Tryz.prog w = .ok (.enter g args) w) (G T:Nat) (Val:Option ByteArray → Array Value → Prop) (w0:World) (k:Nat) (A0:Option Addr) (c0:Nat) (l0:List Int) (r1:List (S36)) (r2 r3:Int) (st:Option ByteArray) (w:World)
 (hC:Kd.C (Kd.int .u8) w0 A0 l0.length l0) (hc0:l0.length ≤ c0) (hG:w0.heap.size ≤ G) (hB:HBlk G T Val none w) (hb:Below w0.heap.size w0 w) (hF:FirstOf g lb fst G T Val) (h:http_head.f fst k l0=some (r1,r2,r3,st)) :
 Calls Tryz.prog 67 #[.slice A0 l0.length c0,.func (.func g) #[] lb] w (HPost w0 G T Val r1 r2 r3 st):=by
 have hu:=Tryz.underlying36
 have D0:=Aside0.mk (show HSt w0 w G T Val none (.slice none 0 0) [] from ⟨hB,hb,Kd.R_nil _ _ _ _ _⟩)
 have HG:=Aside0.mk hG
 have HF:=Aside0.mk hF
 have hm0:0 ≤ mn (l0.length:Int) 2048:=by unfold mn;split <;> omega
 have hm1:mn (l0.length:Int) 2048 ≤ (l0.length:Int):=by unfold mn;split <;> omega
 obtain ⟨i0,hi0,_,hsz,_⟩:=info_parts info5
 obtain ⟨hsl,hrd,hcc⟩:=print_take_of (P:=Tryz.prog) (Value.int .u8) 0 22 5 .i64 Tryz.underlying22 hi0 hsz A0 c0 l0 _ hm0 hm1 hc0
 have hr:=Kd.C_of_reads (h1:=fun _=>rfl) (hrd w0 (Kd.reads_of_C hC))
 have H0:=Aside0.mk (show http_head.l fst k l0 [] 0 none=some (r1,r2,r3,st) from h)
 obtain ⟨bd,hbd⟩ : ∃ bd,bd=l0.take (mn (l0.length:Int) 2048).toNat:=⟨_,rfl⟩
 rw [← hbd] at hsl hcc hr
 have HBD:=Aside0.mk hbd
 have HR:=Aside0.mk hr
 have HCC:=Aside0.mk hcc
 have HI:=Aside0.mk (And.intro hi0 hsz)
 clear hrd hr hcc hbd hC hc0 hG hB hb hF h hm0 hm1 hi0 hsz
 have hcase:((2048:Int) < (l0.length:Int)∧mn (l0.length:Int) 2048=2048) ∨ (¬ (2048:Int) < (l0.length:Int)∧mn (l0.length:Int) 2048=(l0.length:Int)):=by unfold mn;split <;> omega
 rcases hcase with ⟨hlt,he⟩|⟨hlt,he⟩
 all_goals
  rw [he] at hsl
  clear he
  first
   | (have m1:((2048:Int) < (l0.length:Int))=True:=eq_true hlt;have m2:(2048 < l0.length)=True:=eq_true zb17;clear hlt;go_enter Tryz.func67,Tryz.ntmps67;go_wp2_with fail;clear m1 m2)
   | (have m1:((2048:Int) < (l0.length:Int))=False:=eq_false hlt;have m2:(2048 < l0.length)=False:=eq_false zb17;clear hlt;go_enter Tryz.func67,Tryz.ntmps67;go_wp2_with fail;clear m1 m2)
  go_loopg [7,9,10,11,12,13,14,15] k (fun kq v7 v9 _ _ _ _ _ _ wr => ∃ (at_:Int) (fs:List (S36)) (st' : Option ByteArray),v9 = .int .i64 at_∧Aside0 (http_head.l fst kq l0 fs at_ st' = some (r1,r2,r3,st))∧Aside0 (HSt w0 wr G T Val st' v7 fs))
  case atStart=>exact ⟨0,[],none,rfl,H0,D0⟩
  case round =>
   obtain ⟨at_,fs,st',rfl,H,D⟩:=hrel
   clear H0 D0 hsl
   cases gk with
   | zero=>exact absurd H.out (by simp [http_head.l])
   | succ k =>
    have h:=H.out
    clear H
    simp only [http_head.l] at h
    rw [← HBD.out] at h
    by_cases b0:0 ≤ at_;rotate_left
    ·rw [if_neg b0] at h
     cases h
    rw [if_pos b0] at h
    by_cases b1:at_ ≤ (bd.length:Int)
    ·rw [if_pos b1] at h
     obtain ⟨⟨s,n,e⟩,hcut,h⟩:=Option.bind_eq_some_iff.1 h
     simp only at h
     obtain ⟨A',hsl,hrd,hcc⟩:=print_drop_of (P:=Tryz.prog) (Value.int .u8) 0 22 5 .i64 Tryz.underlying22 HI.out.1 HI.out.2 A0 c0 bd at_ b0 b1 HCC.out
     have CALL:=Aside0.mk (fun (_:Unit)=>line_Cut.calls k A' _ (bd.drop at_.toNat) 2048 s n e wr (Kd.C_below (Kd.C_of_reads (h1:=fun _=>rfl) (hrd w0 (Kd.reads_of_C HR.out))) D.out.2.1) hcc hcut)
     clear hrd hcc hcut b0 b1
     by_cases a0:e=20
     ·rw [if_pos a0] at h
      simp only [Option.some.injEq,Prod.mk.injEq] at h
      obtain ⟨rfl,rfl,rfl,rfl⟩:=h
      subst a0
      go_wp2_with (first|(go_at_call 108;(try rw [← List.length_drop]);(with_reducible refine (CALL.out ()).mono ?_);rintro E w1 ⟨rfl,hb1⟩;have D1:=Aside0.mk (D.out.below hb1);clear hb1))
      go_ret3
      exact hpost_none D1.out
     rw [if_neg a0] at h
     have d0:(e == 20)=false:=beq_eq_false_iff_ne.2 a0
     clear a0
     by_cases a1:n=0
     ·rw [if_pos a1] at h
      subst a1
      by_cases a2:2048 ≤ (l0.length:Int)
      ·rw [if_pos a2] at h
       simp only [Option.some.injEq,Prod.mk.injEq] at h
       obtain ⟨rfl,rfl,rfl,rfl⟩:=h
       have d2:(2048 ≤ l0.length)=True:=eq_true zb17
       have d3:(2048 ≤ (l0.length:Int))=True:=eq_true a2
       clear a2
       go_wp2_with (first|(go_at_call 108;(try rw [← List.length_drop]);(with_reducible refine (CALL.out ()).mono ?_);rintro E w1 ⟨rfl,hb1⟩;have D1:=Aside0.mk (D.out.below hb1);clear hb1))
       go_ret3
       exact hpost_none D1.out
      rw [if_neg a2] at h
      simp only [Option.some.injEq,Prod.mk.injEq] at h
      obtain ⟨rfl,rfl,rfl,rfl⟩:=h
      have d2:(2048 ≤ l0.length)=False:=eq_false zb17
      have d3:(2048 ≤ (l0.length:Int))=False:=eq_false a2
      clear a2
      go_wp2_with (first|(go_at_call 108;(try rw [← List.length_drop]);(with_reducible refine (CALL.out ()).mono ?_);rintro E w1 ⟨rfl,hb1⟩;have D1:=Aside0.mk (D.out.below hb1);clear hb1))
      go_ret3
      exact hpost_none D1.out
     rw [if_neg a1] at h
     have d1:(n == 0)=false:=beq_eq_false_iff_ne.2 a1
     clear a1
     by_cases a3:at_=0
     ·rw [if_pos a3] at h
      have d3:(at_ == 0)=true:=beq_iff_eq.2 a3
      clear a3
      obtain ⟨code,hf,h⟩:=Option.bind_eq_some_iff.1 h
      have FCALL:=Aside0.mk (fun (W:World) (hW:HBlk G T Val st' W)=>HF.out k W st' s code hW hf)
      clear hf
      by_cases a4:code=0
      ·rw [if_pos a4] at h
       subst a4
       have H2:=Aside0.mk h
       clear h
       go_wp2_with (first|(go_at_call 108;(try rw [← List.length_drop]);(with_reducible refine (CALL.out ()).mono ?_);rintro E w1 ⟨rfl,hb1⟩;have D1:=Aside0.mk (D.out.below hb1);clear hb1)|(go_at_fn g;refine (FCALL.out _ D1.out.1).mono ?_;rintro E w2 ⟨rfl,hB2,hb2,hk2⟩;have D2:=Aside0.mk (D1.out.turned HG.out hB2 hb2 hk2);clear hB2 hb2 hk2))
       go_roundg k
       case rel=>exact ⟨wrap64 (at_ + n),fs,some s,zb46,H2,D2⟩
       case measure=>exact Nat.lt_succ_self k
      rw [if_neg a4] at h
      simp only [Option.some.injEq,Prod.mk.injEq] at h
      obtain ⟨rfl,rfl,rfl,rfl⟩:=h
      have d4:(code != 0)=true:=bne_iff_ne.2 a4
      have d5:(code == 0)=false:=beq_eq_false_iff_ne.2 a4
      clear a4
      go_wp2_with (first|(go_at_call 108;(try rw [← List.length_drop]);(with_reducible refine (CALL.out ()).mono ?_);rintro E w1 ⟨rfl,hb1⟩;have D1:=Aside0.mk (D.out.below hb1);clear hb1)|(go_at_fn g;refine (FCALL.out _ D1.out.1).mono ?_;rintro E w2 ⟨rfl,hB2,hb2,hk2⟩;have D2:=Aside0.mk (D1.out.turned HG.out hB2 hb2 hk2);clear hB2 hb2 hk2))
      go_ret3
      exact hpost_none D2.out
     rw [if_neg a3] at h
     have d3:(at_ == 0)=false:=beq_eq_false_iff_ne.2 a3
     clear a3
     by_cases a4:s.toList=[]
     ·rw [if_pos a4] at h
      simp only [Option.some.injEq,Prod.mk.injEq] at h
      obtain ⟨rfl,rfl,rfl,rfl⟩:=h
      have d4:(s.toList == [])=true:=by rw [a4];rfl
      clear a4
      go_wp2_with (first|(go_at_call 108;(try rw [← List.length_drop]);(with_reducible refine (CALL.out ()).mono ?_);rintro E w1 ⟨rfl,hb1⟩;have D1:=Aside0.mk (D.out.below hb1);clear hb1))
      go_ret3
      exact ⟨_,rfl,D1.out⟩
     rw [if_neg a4] at h
     have d4:(s.toList == [])=false:=beq_eq_false_iff_ne.2 a4
     clear a4
     obtain ⟨⟨p1,p2,p3⟩,hp,h⟩:=Option.bind_eq_some_iff.1 h
     simp only at h
     have HP:=Aside0.mk hp
     clear hp
     by_cases a5:p3=0;rotate_left
     ·rw [if_neg a5] at h
      simp only [Option.some.injEq,Prod.mk.injEq] at h
      obtain ⟨rfl,rfl,rfl,rfl⟩:=h
      have d5:(p3 != 0)=true:=bne_iff_ne.2 a5
      have d6:(p3 == 0)=false:=beq_eq_false_iff_ne.2 a5
      clear a5
      go_wp2_with (first|(go_at_call 108;(try rw [← List.length_drop]);(with_reducible refine (CALL.out ()).mono ?_);rintro E w1 ⟨rfl,hb1⟩;have D1:=Aside0.mk (D.out.below hb1);clear hb1)|(go_at_call 109;refine (field_Parse.calls s p1 p2 _ _ HP.out).mono ?_;rintro E w2 ⟨rfl,hb2⟩;have D2:=Aside0.mk ((D1.out.below hb2).alloc (.cells #[.string p1,.string p2] 36));have hy0:(w2.alloc (.cells #[.string p1,.string p2] 36)).cell? ⟨w2.heap.size,0,none⟩=some (.string p1):=(blk_cell (blk_new w2 _) 0).trans rfl;have hy1:(w2.alloc (.cells #[.string p1,.string p2] 36)).cell? ⟨w2.heap.size,1,none⟩=some (.string p2):=(blk_cell (blk_new w2 _) 1).trans rfl;clear hb2))
      go_ret3
      exact hpost_none D2.out
     rw [if_pos a5] at h
     subst a5
     by_cases a6:(fs.length:Int)=40
     ·rw [if_pos a6] at h
      simp only [Option.some.injEq,Prod.mk.injEq] at h
      obtain ⟨rfl,rfl,rfl,rfl⟩:=h
      have d6:((fs.length:Int) == 40)=true:=beq_iff_eq.2 a6
      have d7:(fs.length == 40)=true:=beq_iff_eq.2 zb17
      clear a6
      obtain ⟨Af,cf,ef⟩:=Kd.R_slice D.out.2.2
      subst ef
      go_wp2_with (first|(go_at_call 108;(try rw [← List.length_drop]);(with_reducible refine (CALL.out ()).mono ?_);rintro E w1 ⟨rfl,hb1⟩;have D1:=Aside0.mk (D.out.below hb1);clear hb1)|(go_at_call 109;refine (field_Parse.calls s p1 p2 _ _ HP.out).mono ?_;rintro E w2 ⟨rfl,hb2⟩;have D2:=Aside0.mk ((D1.out.below hb2).alloc (.cells #[.string p1,.string p2] 36));have hy0:(w2.alloc (.cells #[.string p1,.string p2] 36)).cell? ⟨w2.heap.size,0,none⟩=some (.string p1):=(blk_cell (blk_new w2 _) 0).trans rfl;have hy1:(w2.alloc (.cells #[.string p1,.string p2] 36)).cell? ⟨w2.heap.size,1,none⟩=some (.string p2):=(blk_cell (blk_new w2 _) 1).trans rfl;clear hb2))
      go_ret3
      exact hpost_none D2.out
     rw [if_neg a6] at h
     have d6:((fs.length:Int) == 40)=false:=beq_eq_false_iff_ne.2 a6
     clear a6
     by_cases a7:fs.length < 4398046511104
     ·rw [if_pos a7] at h
      have LM:=Aside0.mk a7
      have H2:=Aside0.mk h
      clear a7 h
      obtain ⟨Af,cf,ef⟩:=Kd.R_slice D.out.2.2
      have hlen : ∀ W:World,(Builtin.len_ #[24] 3 #[u7]).run Tryz.prog W = .ok (.int .i64 (fs.length:Int)) W:=fun W=>by rw [ef];first|(go_simp;done)|(simp [Builtin.len_,go_sem];done)|rfl
      clear ef
      go_wp2_with (first|(go_at_call 108;(try rw [← List.length_drop]);(with_reducible refine (CALL.out ()).mono ?_);rintro E w1 ⟨rfl,hb1⟩;have D1:=Aside0.mk (D.out.below hb1);clear hb1)|(go_at_call 109;refine (field_Parse.calls s p1 p2 _ _ HP.out).mono ?_;rintro E w2 ⟨rfl,hb2⟩;have D2:=Aside0.mk ((D1.out.below hb2).alloc (.cells #[.string p1,.string p2] 36));have hy0:(w2.alloc (.cells #[.string p1,.string p2] 36)).cell? ⟨w2.heap.size,0,none⟩=some (.string p1):=(blk_cell (blk_new w2 _) 0).trans rfl;have hy1:(w2.alloc (.cells #[.string p1,.string p2] 36)).cell? ⟨w2.heap.size,1,none⟩=some (.string p2):=(blk_cell (blk_new w2 _) 1).trans rfl;clear hb2)|((with_reducible refine gate_builtin (b:=.append) (xs:=#[.tmp 75,.tmp 77]) rfl ?_);at_builtin;refine Kd.R_append k36 (w0:=w0) w0.heap.size rfl (.tmp 75) (.tmp 77) 24 36 (.agg #[(.string ⟨#[]⟩),(.string ⟨#[]⟩)]) 32 rfl Tryz.underlying24 info36 rfl zb47 zb17 u7 fs (⟨p1,p2⟩:S36) [.string p1,.string p2] (fun k_=>k_ ≠ G) (fun _=>False) ?x1 ?x2 ?aP (fun _ hk=>hk.elim) ?aF ?aO ?aB ?aS ?aL ?_;(case x1=>first|rfl|(go_simp;done));(case x2=>first|rfl|(go_simp;done));(case aP=>exact k36_mkM _ _ _ (⟨p1,p2⟩:S36));(case aB=>exact D2.out.2.1);(case aF=>intro k_ hk e_;have:=D2.out.1.lt;omega);(case aO=>exact D2.out.2.2);(case aS=>exact D2.out.2.1.size);(case aL=>have:=LM.out;omega);intro v3 w3 ho hb hg hat;have D3:=Aside0.mk (show HSt w0 w3 G T Val st' v3 (fs ++ [(⟨p1,p2⟩:S36)]) from ⟨D2.out.1.grown hg (fun e=>D2.out.2.2.1 _ e.symm rfl),hb,ho⟩);clear ho hb hg hat))
      go_roundg k
      case rel=>exact ⟨wrap64 (at_ + n),_,st',zb46,H2,D3⟩
      case measure=>exact Nat.lt_succ_self k
     ·rw [if_neg a7] at h
      cases h
    ·rw [if_neg b1] at h
     cases h
def http_hosts.f (k:Nat) (a0_0:ByteArray) (a0_1:ByteArray) (a0_2:Int) (l0_3:List (S36)) (l0_4:List Int):Option (Bool):=(field_Get.f k l0_3 (⟨#[72,111,115,116]⟩:ByteArray)).bind fun t202=>(if (t202.length:Int)=0 then (some (a0_2 == 0)) else (if 0 < (t202.length:Int) then ((line_Host.f (rdOf ByteArray.empty t202 0)).bind fun bt206=>(if bt206.2=true then (some ((t202.length:Int) == 1)) else (some false))) else (none)))
set_option maxHeartbeats 8000000 in
set_option maxRecDepth 100000 in
theorem http_hosts.calls (k:Nat) (a0_0:ByteArray) (a0_1:ByteArray) (a0_2:Int) (A0_3:Option Addr) (c0_3:Nat) (l0_3:List (S36)) (A0_4:Option Addr) (c0_4:Nat) (l0_4:List Int) (r:Bool) (w:World) (hr0_3:Kd.C k36 w A0_3 l0_3.length l0_3) (hc0_3:l0_3.length ≤ c0_3) (hr0_4:Kd.C (Kd.int .u8) w A0_4 l0_4.length l0_4) (hc0_4:l0_4.length ≤ c0_4) (h:http_hosts.f k a0_0 a0_1 a0_2 l0_3 l0_4=some r) :
 Calls Tryz.prog 77 #[.agg #[.string a0_0,.string a0_1,.int .i64 a0_2,.slice A0_3 l0_3.length c0_3,.slice A0_4 l0_4.length c0_4]] w fun e w' => e = .returned (.bool r)∧Below w.heap.size w w' := by
 have hu26:=Tryz.underlying26
 have HR0_3:=Aside0.mk hr0_3
 have HC0_3:=Aside0.mk hc0_3
 clear hr0_3 hc0_3
 have HR0_4:=Aside0.mk hr0_4
 have HC0_4:=Aside0.mk hc0_4
 clear hr0_4 hc0_4
 have HB:=Aside0.mk (Below.refl w.heap.size w)
 unfold http_hosts.f at h
 have H:=h
 clear h
 replace H:=Option.bind_eq_some_iff.mp H
 obtain ⟨t202,A20,H⟩:=H
 try dsimp only at H
 have A2:=Aside0.mk A20
 clear A20
 by_cases c3:(t202.length:Int)=0
 ·rw [if_pos c3] at H
  have c3b0:=beq_iff_eq.mpr c3
  have c3b1:=bne_eq_false_iff_eq.mpr c3
  clear c3
  obtain rfl:=Option.some.inj H
  go_enter Tryz.func77,Tryz.ntmps77
  go_wp2_with (first|((with_reducible refine gate_dst (N:=1) rfl ?_);(try (refine gate_guard zb45 ?_;dsimp only));refine box_event rfl (N:=1) rfl (cs:=#[.string a0_0,.string a0_1,.int .i64 a0_2,.slice A0_3 l0_3.length c0_3,.slice A0_4 l0_4.length c0_4]) (t:=26) zS ?_;intro gb201 hg w4 hbox hb;have GW201:=zG hg zb0;have GE201:=GW201;have BK201:=Aside0.mk hbox;replace HB:=Aside0.mk (below_step zb0 hb);clear hb hbox hg;obtain ⟨hcz5_0,hcz5_1,hcz5_2,hcz5_3,hcz5_4,hfz5_0,hfz5_1,hfz5_2,hfz5_3,hfz5_4⟩:=zq5 BK201.out)|((with_reducible refine gate_callee (f:=50) rfl ?_);refine goesL_ (some 8) rfl rfl Tryz.func50 zb7 rfl #[.slice A0_3 l0_3.length c0_3,.string (⟨#[72,111,115,116]⟩:ByteArray)] rfl zb1 ?_;(with_reducible refine (field_Get.calls k _ _ l0_3 (⟨#[72,111,115,116]⟩:ByteArray) t202 _ ?side1 ?side2 A2.out).mono ?_);(case side1=>exact zb35);(case side2=>exact HC0_3.out);rintro e w6 ⟨v203,rfl,ho0,hb⟩;(try clear A2);refine ⟨_,rfl,?_⟩;have HO204:=Aside0.mk (Kd.R_lower ho0 (below_size zb27));replace BK201:=Aside0.mk (blk_below (g:=gb201) (o:=.cells #[.string a0_0,.string a0_1,.int .i64 a0_2,.slice A0_3 l0_3.length c0_3,.slice A0_4 l0_4.length c0_4] 26 (0,0)) zb95 hb);replace HB:=Aside0.mk (below_step zb27 hb);try clear hb ho0;obtain ⟨Ao7,co7,eo7⟩:=Kd.R_slice HO204.out;subst eo7;obtain ⟨hcz8_0,hcz8_1,hcz8_2,hcz8_3,hcz8_4,hfz8_0,hfz8_1,hfz8_2,hfz8_3,hfz8_4⟩:=zq5 BK201.out))
  go_ret
  exact ⟨zb2,zb27⟩
 rw [if_neg c3] at H
 have c3b0:=beq_eq_false_iff_ne.mpr c3
 have c3b1:=bne_iff_ne.mpr c3
 have c3b2 : ¬ (t202=[]):=fun h_=>c3 (by rw [h_];rfl)
 by_cases c9:0 < (t202.length:Int);rotate_left
 ·rw [if_neg c9] at H
  exact absurd H zb44
 rw [if_pos c9] at H
 have c9b0:=decide_eq_true c9
 have c9b1:decide (0 < t202.length)=true:=decide_eq_true zb17
 clear c9
 replace H:=Option.bind_eq_some_iff.mp H
 obtain ⟨⟨t206,t207⟩,A100,H⟩:=H
 try dsimp only at H
 have A10:=Aside0.mk A100
 clear A100
 by_cases c11:t207=true
 ·subst c11
  rw [if_pos rfl] at H
  obtain rfl:=Option.some.inj H
  go_enter Tryz.func77,Tryz.ntmps77
  go_wp2_with (first|((with_reducible refine gate_dst (N:=1) rfl ?_);(try (refine gate_guard zb45 ?_;dsimp only));refine box_event rfl (N:=1) rfl (cs:=#[.string a0_0,.string a0_1,.int .i64 a0_2,.slice A0_3 l0_3.length c0_3,.slice A0_4 l0_4.length c0_4]) (t:=26) zS ?_;intro gb201 hg w12 hbox hb;have GW201:=zG hg zb0;have GE201:=GW201;have BK201:=Aside0.mk hbox;replace HB:=Aside0.mk (below_step zb0 hb);clear hb hbox hg;obtain ⟨hcz13_0,hcz13_1,hcz13_2,hcz13_3,hcz13_4,hfz13_0,hfz13_1,hfz13_2,hfz13_3,hfz13_4⟩:=zq5 BK201.out)|((with_reducible refine gate_callee (f:=50) rfl ?_);refine goesL_ (some 8) rfl rfl Tryz.func50 zb7 rfl #[.slice A0_3 l0_3.length c0_3,.string (⟨#[72,111,115,116]⟩:ByteArray)] rfl zb1 ?_;(with_reducible refine (field_Get.calls k _ _ l0_3 (⟨#[72,111,115,116]⟩:ByteArray) t202 _ ?side1 ?side2 A2.out).mono ?_);(case side1=>exact zb35);(case side2=>exact HC0_3.out);rintro e w14 ⟨v203,rfl,ho0,hb⟩;(try clear A2);refine ⟨_,rfl,?_⟩;have HO204:=Aside0.mk (Kd.R_lower ho0 (below_size zb27));replace BK201:=Aside0.mk (blk_below (g:=gb201) (o:=.cells #[.string a0_0,.string a0_1,.int .i64 a0_2,.slice A0_3 l0_3.length c0_3,.slice A0_4 l0_4.length c0_4] 26 (0,0)) zb95 hb);replace HB:=Aside0.mk (below_step zb27 hb);try clear hb ho0;obtain ⟨Ao15,co15,eo15⟩:=Kd.R_slice HO204.out;subst eo15;have p205:0 ≤ (0:Int):=zb17;have q205:0 < (t202.length:Int):=of_decide_eq_true zb3;obtain ⟨ad205,e205,hx205_0⟩:=Kd.at_string (Kd.R_reads' HO204.out).2.2 0 p205 q205;cases e205;have qi205:(0 < t202.length)=True:=eq_true zb17;(try rw [show ((0:Int)).toNat=0 from rfl] at hx205_0);(try rw [Addr.add_zero'] at hx205_0);replace p205:=eq_true p205;replace q205:=eq_true q205)|((with_reducible refine gate_callee (f:=51) rfl ?_);refine goesL_ (some 19) rfl rfl Tryz.func51 zb7 rfl #[.string (rdOf ByteArray.empty t202 0)] rfl zb1 ?_;(with_reducible refine (line_Host.calls (rdOf ByteArray.empty t202 0) t206 true _ A10.out).mono ?_);rintro e w16 ⟨rfl,hb⟩;(try clear A10);refine ⟨_,rfl,?_⟩;replace HO204:=Aside0.mk (Kd.R_below (by (with_reducible repeat (first|apply Kd.R_alloc|apply Kd.R_drewN|apply Kd.R_drew));exact HO204.out) hb);replace BK201:=Aside0.mk (blk_below (g:=gb201) (o:=.cells #[.string a0_0,.string a0_1,.int .i64 a0_2,.slice A0_3 l0_3.length c0_3,.slice A0_4 l0_4.length c0_4] 26 (0,0)) zb95 hb);replace HB:=Aside0.mk (below_step zb27 hb);(try clear hb)))
  go_ret
  exact ⟨zb2,zb27⟩
 replace c11:=Bool.eq_false_iff.mpr c11
 subst c11
 rw [if_neg (show ¬ (false=true) by decide)] at H
 obtain rfl:=Option.some.inj H
 go_enter Tryz.func77,Tryz.ntmps77
 go_wp2_with (first|((with_reducible refine gate_dst (N:=1) rfl ?_);(try (refine gate_guard zb45 ?_;dsimp only));refine box_event rfl (N:=1) rfl (cs:=#[.string a0_0,.string a0_1,.int .i64 a0_2,.slice A0_3 l0_3.length c0_3,.slice A0_4 l0_4.length c0_4]) (t:=26) zS ?_;intro gb201 hg w17 hbox hb;have GW201:=zG hg zb0;have GE201:=GW201;have BK201:=Aside0.mk hbox;replace HB:=Aside0.mk (below_step zb0 hb);clear hb hbox hg;obtain ⟨hcz18_0,hcz18_1,hcz18_2,hcz18_3,hcz18_4,hfz18_0,hfz18_1,hfz18_2,hfz18_3,hfz18_4⟩:=zq5 BK201.out)|((with_reducible refine gate_callee (f:=50) rfl ?_);refine goesL_ (some 8) rfl rfl Tryz.func50 zb7 rfl #[.slice A0_3 l0_3.length c0_3,.string (⟨#[72,111,115,116]⟩:ByteArray)] rfl zb1 ?_;(with_reducible refine (field_Get.calls k _ _ l0_3 (⟨#[72,111,115,116]⟩:ByteArray) t202 _ ?side1 ?side2 A2.out).mono ?_);(case side1=>exact zb35);(case side2=>exact HC0_3.out);rintro e w19 ⟨v203,rfl,ho0,hb⟩;(try clear A2);refine ⟨_,rfl,?_⟩;have HO204:=Aside0.mk (Kd.R_lower ho0 (below_size zb27));replace BK201:=Aside0.mk (blk_below (g:=gb201) (o:=.cells #[.string a0_0,.string a0_1,.int .i64 a0_2,.slice A0_3 l0_3.length c0_3,.slice A0_4 l0_4.length c0_4] 26 (0,0)) zb95 hb);replace HB:=Aside0.mk (below_step zb27 hb);try clear hb ho0;obtain ⟨Ao20,co20,eo20⟩:=Kd.R_slice HO204.out;subst eo20;have p205:0 ≤ (0:Int):=zb17;have q205:0 < (t202.length:Int):=of_decide_eq_true zb3;obtain ⟨ad205,e205,hx205_0⟩:=Kd.at_string (Kd.R_reads' HO204.out).2.2 0 p205 q205;cases e205;have qi205:(0 < t202.length)=True:=eq_true zb17;(try rw [show ((0:Int)).toNat=0 from rfl] at hx205_0);(try rw [Addr.add_zero'] at hx205_0);replace p205:=eq_true p205;replace q205:=eq_true q205)|((with_reducible refine gate_callee (f:=51) rfl ?_);refine goesL_ (some 19) rfl rfl Tryz.func51 zb7 rfl #[.string (rdOf ByteArray.empty t202 0)] rfl zb1 ?_;(with_reducible refine (line_Host.calls (rdOf ByteArray.empty t202 0) t206 false _ A10.out).mono ?_);rintro e w21 ⟨rfl,hb⟩;(try clear A10);refine ⟨_,rfl,?_⟩;replace HO204:=Aside0.mk (Kd.R_below (by (with_reducible repeat (first|apply Kd.R_alloc|apply Kd.R_drewN|apply Kd.R_drew));exact HO204.out) hb);replace BK201:=Aside0.mk (blk_below (g:=gb201) (o:=.cells #[.string a0_0,.string a0_1,.int .i64 a0_2,.slice A0_3 l0_3.length c0_3,.slice A0_4 l0_4.length c0_4] 26 (0,0)) zb95 hb);replace HB:=Aside0.mk (below_step zb27 hb);(try clear hb)))
 go_ret
 exact ⟨zb2,zb27⟩
def line_minor.f (a0:ByteArray):Option (Int × Bool):=if a0.toList=([72,84,84,80,47,49,46,48]:List UInt8) then (some (0,true)) else (if a0.toList=([72,84,84,80,47,49,46,49]:List UInt8) then (some (1,true)) else (some (0,false)))
set_option maxHeartbeats 8000000 in
set_option maxRecDepth 100000 in
theorem line_minor.calls (a0:ByteArray) (r1:Int) (r2:Bool) (w:World) (h:line_minor.f a0=some (r1,r2)) :
 Calls Tryz.prog 111 #[.string a0] w fun e w' => e = .returned (.tuple #[.int .i64 r1,.bool r2])∧Drawn0 w w' := by
 unfold line_minor.f at h
 have H:=h
 clear h
 by_cases c2:a0.toList=([72,84,84,80,47,49,46,48]:List UInt8)
 ·rw [if_pos c2] at H
  have c2b0:=beq_iff_eq.mpr c2
  have c2b1:=bne_eq_false_iff_eq.mpr c2
  clear c2
  simp only [Option.some.injEq,Prod.mk.injEq] at H
  obtain ⟨rfl,rfl⟩:=H
  go_enter Tryz.func111,Tryz.ntmps111
  go_wp2
  go_ret2
  exact ⟨zb5,zb9⟩
 rw [if_neg c2] at H
 have c2b0:=beq_eq_false_iff_ne.mpr c2
 have c2b1:=bne_iff_ne.mpr c2
 by_cases c3:a0.toList=([72,84,84,80,47,49,46,49]:List UInt8);rotate_left
 ·rw [if_neg c3] at H
  have c3b0:=beq_eq_false_iff_ne.mpr c3
  have c3b1:=bne_iff_ne.mpr c3
  simp only [Option.some.injEq,Prod.mk.injEq] at H
  obtain ⟨rfl,rfl⟩:=H
  go_enter Tryz.func111,Tryz.ntmps111
  go_wp2
  go_ret2
  exact ⟨zb5,zb9⟩
 rw [if_pos c3] at H
 have c3b0:=beq_iff_eq.mpr c3
 have c3b1:=bne_eq_false_iff_eq.mpr c3
 clear c3
 simp only [Option.some.injEq,Prod.mk.injEq] at H
 obtain ⟨rfl,rfl⟩:=H
 go_enter Tryz.func111,Tryz.ntmps111
 go_wp2
 go_ret2
 exact ⟨zb5,zb9⟩
def line_digit.f (a0:Int):Option (Bool):=if a0 ≥ 48 then (some (decide (a0 ≤ 57))) else (some false)
set_option maxHeartbeats 8000000 in
set_option maxRecDepth 100000 in
theorem line_digit.calls (a0:Int) (r:Bool) (w:World) (h:line_digit.f a0=some r) :
 Calls Tryz.prog 164 #[.int .u8 a0] w fun e w' => e = .returned (.bool r)∧Drawn0 w w' := by
 unfold line_digit.f at h
 have H:=h
 clear h
 by_cases c2:a0 ≥ 48
 ·rw [if_pos c2] at H
  have c2b0:decide (48 ≤ a0)=true:=decide_eq_true c2
  clear c2
  obtain rfl:=Option.some.inj H
  go_enter Tryz.func164,Tryz.ntmps164
  go_wp2
  go_ret
  exact ⟨zb5,zb9⟩
 rw [if_neg c2] at H
 have c2b0:decide (48 ≤ a0)=false:=decide_eq_false c2
 clear c2
 obtain rfl:=Option.some.inj H
 go_enter Tryz.func164,Tryz.ntmps164
 go_wp2
 go_ret
 exact ⟨zb5,zb9⟩
def stringslite_HasPrefix.f (a0:ByteArray) (a1:ByteArray):Option (Bool):=if (a0.size:Int) ≥ (a1.size:Int) then (if 0 ≤ (a1.size:Int) then (if (a1.size:Int) ≤ (a0.size:Int) then (some ((a0.extract 0 ((a1.size:Int):Int).toNat).toList == a1.toList)) else (none)) else (none)) else (some false)
set_option maxHeartbeats 8000000 in
set_option maxRecDepth 100000 in
theorem stringslite_HasPrefix.calls (a0:ByteArray) (a1:ByteArray) (r:Bool) (w:World) (h:stringslite_HasPrefix.f a0 a1=some r) :
 Calls Tryz.prog 107 #[.string a0,.string a1] w fun e w' => e = .returned (.bool r)∧Drawn0 w w' := by
 unfold stringslite_HasPrefix.f at h
 have H:=h
 clear h
 by_cases c3:(a0.size:Int) ≥ (a1.size:Int);rotate_left
 ·rw [if_neg c3] at H
  have c3b0:decide ((a1.size:Int) ≤ (a0.size:Int))=false:=decide_eq_false c3
  have c3b1:decide (a1.size ≤ a0.size)=false:=decide_eq_false (fun h=>c3 (Int.ofNat_le.mpr h))
  clear c3
  obtain rfl:=Option.some.inj H
  go_enter Tryz.func107,Tryz.ntmps107
  go_wp2
  go_ret
  exact ⟨zb5,zb9⟩
 rw [if_pos c3] at H
 have c3b0:decide ((a1.size:Int) ≤ (a0.size:Int))=true:=decide_eq_true c3
 have c3b1:decide (a1.size ≤ a0.size)=true:=decide_eq_true (Int.ofNat_le.mp c3)
 clear c3
 by_cases c4:0 ≤ (a1.size:Int)
 ·rw [if_pos c4] at H
  have c4b0:=eq_true c4
  have c4b1:=decide_eq_true c4
  clear c4
  by_cases c5:(a1.size:Int) ≤ (a0.size:Int)
  ·rw [if_pos c5] at H
   have c5b0:=eq_true c5
   have c5b1:=decide_eq_true c5
   clear c5
   obtain rfl:=Option.some.inj H
   go_enter Tryz.func107,Tryz.ntmps107
   go_wp2
   go_ret
   exact ⟨zb5,zb9⟩
  ·rw [if_neg c5] at H
   exact absurd H zb44
 ·rw [if_neg c4] at H
  exact absurd H zb44
def stringslite_CutPrefix.f (a0:ByteArray) (a1:ByteArray):Option (ByteArray × Bool):=(stringslite_HasPrefix.f a0 a1).bind fun t111=>(if t111=true then (if 0 ≤ (a1.size:Int) then (if (a1.size:Int) ≤ (a0.size:Int) then (some (a0.extract ((a1.size:Int):Int).toNat a0.size,true)) else (none)) else (none)) else (some (a0,false)))
set_option maxHeartbeats 8000000 in
set_option maxRecDepth 100000 in
theorem stringslite_CutPrefix.calls (a0:ByteArray) (a1:ByteArray) (r1:ByteArray) (r2:Bool) (w:World) (h:stringslite_CutPrefix.f a0 a1=some (r1,r2)) :
 Calls Tryz.prog 157 #[.string a0,.string a1] w fun e w' => e = .returned (.tuple #[.string r1,.bool r2])∧Drawn0 w w' := by
 unfold stringslite_CutPrefix.f at h
 have H:=h
 clear h
 replace H:=Option.bind_eq_some_iff.mp H
 obtain ⟨t111,A30,H⟩:=H
 try dsimp only at H
 have A3:=Aside0.mk A30
 clear A30
 by_cases c4:t111=true;rotate_left
 ·replace c4:=Bool.eq_false_iff.mpr c4
  subst c4
  rw [if_neg (show ¬ (false=true) by decide)] at H
  simp only [Option.some.injEq,Prod.mk.injEq] at H
  obtain ⟨rfl,rfl⟩:=H
  go_enter Tryz.func157,Tryz.ntmps157
  go_wp2_with (first|((with_reducible refine gate_callee (f:=107) rfl ?_);refine goesL_ (some 8) rfl rfl Tryz.func107 zb7 rfl #[.string a0,.string a1] rfl zb1 ?_;(with_reducible refine (stringslite_HasPrefix.calls a0 a1 false _ A3.out).mono ?_);rintro e w' ⟨rfl,⟨nd,rfl⟩⟩;(try clear A3);refine ⟨_,rfl,?_⟩))
  go_ret2
  exact ⟨zb5,zb9⟩
 subst c4
 rw [if_pos rfl] at H
 by_cases c5:0 ≤ (a1.size:Int)
 ·rw [if_pos c5] at H
  have c5b0:=eq_true c5
  have c5b1:=decide_eq_true c5
  clear c5
  by_cases c6:(a1.size:Int) ≤ (a0.size:Int)
  ·rw [if_pos c6] at H
   have c6b0:=eq_true c6
   have c6b1:=decide_eq_true c6
   clear c6
   simp only [Option.some.injEq,Prod.mk.injEq] at H
   obtain ⟨rfl,rfl⟩:=H
   go_enter Tryz.func157,Tryz.ntmps157
   go_wp2_with (first|((with_reducible refine gate_callee (f:=107) rfl ?_);refine goesL_ (some 8) rfl rfl Tryz.func107 zb7 rfl #[.string a0,.string a1] rfl zb1 ?_;(with_reducible refine (stringslite_HasPrefix.calls a0 a1 true _ A3.out).mono ?_);rintro e w' ⟨rfl,⟨nd,rfl⟩⟩;(try clear A3);refine ⟨_,rfl,?_⟩))
   go_ret2
   exact ⟨zb5,zb9⟩
  ·rw [if_neg c6] at H
   exact absurd H zb44
 ·rw [if_neg c5] at H
  exact absurd H zb44
def strings_CutPrefix.f (a0:ByteArray) (a1:ByteArray):Option (ByteArray × Bool):=(stringslite_CutPrefix.f a0 a1).bind fun bt112=>(some (bt112.1,bt112.2))
set_option maxHeartbeats 8000000 in
set_option maxRecDepth 100000 in
theorem strings_CutPrefix.calls (a0:ByteArray) (a1:ByteArray) (r1:ByteArray) (r2:Bool) (w:World) (h:strings_CutPrefix.f a0 a1=some (r1,r2)) :
 Calls Tryz.prog 113 #[.string a0,.string a1] w fun e w' => e = .returned (.tuple #[.string r1,.bool r2])∧Drawn0 w w' := by
 unfold strings_CutPrefix.f at h
 have H:=h
 clear h
 replace H:=Option.bind_eq_some_iff.mp H
 obtain ⟨⟨t112,t113⟩,A30,H⟩:=H
 try dsimp only at H
 have A3:=Aside0.mk A30
 clear A30
 simp only [Option.some.injEq,Prod.mk.injEq] at H
 obtain ⟨rfl,rfl⟩:=H
 go_enter Tryz.func113,Tryz.ntmps113
 go_wp2_with (first|((with_reducible refine gate_callee (f:=157) rfl ?_);refine goesL_ (some 8) rfl rfl Tryz.func157 zb7 rfl #[.string a0,.string a1] rfl zb1 ?_;(with_reducible refine (stringslite_CutPrefix.calls a0 a1 t112 t113 _ A3.out).mono ?_);rintro e w' ⟨rfl,⟨nd,rfl⟩⟩;(try clear A3);refine ⟨_,rfl,?_⟩))
 go_ret2
 exact ⟨zb5,zb9⟩
def line_numbered.f (a0:ByteArray):Option (Bool):=(strings_CutPrefix.f a0 (⟨#[72,84,84,80,47]⟩:ByteArray)).bind fun bt147=>(if bt147.2=true then (if (bt147.1.size:Int)=3 then (if 0 < (bt147.1.size:Int) then ((line_digit.f (bt bt147.1 0)).bind fun t149=>(if t149=true then (if 1 < (bt147.1.size:Int) then (if (bt bt147.1 1)=46 then (if 2 < (bt147.1.size:Int) then ((line_digit.f (bt bt147.1 2)).bind fun t150=>(some t150)) else (none)) else (some false)) else (none)) else (some false))) else (none)) else (some false)) else (some false))
set_option maxHeartbeats 8000000 in
set_option maxRecDepth 100000 in
theorem line_numbered.calls (a0:ByteArray) (r:Bool) (w:World) (h:line_numbered.f a0=some r) :
 Calls Tryz.prog 119 #[.string a0] w fun e w' => e = .returned (.bool r)∧Drawn0 w w' := by
 unfold line_numbered.f at h
 have H:=h
 clear h
 replace H:=Option.bind_eq_some_iff.mp H
 obtain ⟨⟨t147,t148⟩,A20,H⟩:=H
 try dsimp only at H
 have A2:=Aside0.mk A20
 clear A20
 by_cases c3:t148=true;rotate_left
 ·replace c3:=Bool.eq_false_iff.mpr c3
  subst c3
  rw [if_neg (show ¬ (false=true) by decide)] at H
  obtain rfl:=Option.some.inj H
  go_enter Tryz.func119,Tryz.ntmps119
  go_wp2_with (first|((with_reducible refine gate_callee (f:=113) rfl ?_);refine goesL_ (some 7) rfl rfl Tryz.func113 zb7 rfl #[.string a0,.string (⟨#[72,84,84,80,47]⟩:ByteArray)] rfl zb1 ?_;(with_reducible refine (strings_CutPrefix.calls a0 (⟨#[72,84,84,80,47]⟩:ByteArray) t147 false _ A2.out).mono ?_);rintro e w' ⟨rfl,⟨nd,rfl⟩⟩;(try clear A2);refine ⟨_,rfl,?_⟩))
  go_ret
  exact ⟨zb5,zb9⟩
 subst c3
 rw [if_pos rfl] at H
 by_cases c4:(t147.size:Int)=3
 ·rw [if_pos c4] at H
  have c4b0:=beq_iff_eq.mpr c4
  have c4b1:=bne_eq_false_iff_eq.mpr c4
  clear c4
  by_cases c5:0 < (t147.size:Int);rotate_left
  ·rw [if_neg c5] at H
   exact absurd H zb44
  rw [if_pos c5] at H
  have c5b0:=decide_eq_true c5
  have c5b1:decide (0 < t147.size)=true:=decide_eq_true zb17
  clear c5
  replace H:=Option.bind_eq_some_iff.mp H
  obtain ⟨t149,A70,H⟩:=H
  try dsimp only at H
  have A7:=Aside0.mk A70
  clear A70
  by_cases c8:t149=true;rotate_left
  ·replace c8:=Bool.eq_false_iff.mpr c8
   subst c8
   rw [if_neg (show ¬ (false=true) by decide)] at H
   obtain rfl:=Option.some.inj H
   go_enter Tryz.func119,Tryz.ntmps119
   go_wp2_with (first|((with_reducible refine gate_callee (f:=113) rfl ?_);refine goesL_ (some 7) rfl rfl Tryz.func113 zb7 rfl #[.string a0,.string (⟨#[72,84,84,80,47]⟩:ByteArray)] rfl zb1 ?_;(with_reducible refine (strings_CutPrefix.calls a0 (⟨#[72,84,84,80,47]⟩:ByteArray) t147 true _ A2.out).mono ?_);rintro e w' ⟨rfl,⟨nd,rfl⟩⟩;(try clear A2);refine ⟨_,rfl,?_⟩;have p6:0 ≤ (0:Int):=zb17;have q6:0 < t147.size:=zb122;have hx6 : ∀ h:0 < t147.size,((t147[0]'h).toNat:Int)=bt t147 0:=bt_at t147 0;clear p6;have qi6:(0 < (t147.size:Int))=True:=eq_true (of_decide_eq_true zb3);replace q6:=eq_true q6)|(go_at_call 164;(with_reducible refine (line_digit.calls (bt t147 0) false _ A7.out).mono ?_);rintro e w' ⟨rfl,⟨nd,rfl⟩⟩;(try clear A7)))
   go_ret
   exact ⟨zb5,zb9⟩
  subst c8
  rw [if_pos rfl] at H
  by_cases c9:1 < (t147.size:Int)
  ·rw [if_pos c9] at H
   have c9b0:=decide_eq_true c9
   have c9b1:decide (1 < t147.size)=true:=decide_eq_true zb17
   clear c9
   by_cases c11:(bt t147 1)=46;rotate_left
   ·rw [if_neg c11] at H
    have c11b0:=beq_eq_false_iff_ne.mpr c11
    have c11b1:=bne_iff_ne.mpr c11
    obtain rfl:=Option.some.inj H
    go_enter Tryz.func119,Tryz.ntmps119
    go_wp2_with (first|((with_reducible refine gate_callee (f:=113) rfl ?_);refine goesL_ (some 7) rfl rfl Tryz.func113 zb7 rfl #[.string a0,.string (⟨#[72,84,84,80,47]⟩:ByteArray)] rfl zb1 ?_;(with_reducible refine (strings_CutPrefix.calls a0 (⟨#[72,84,84,80,47]⟩:ByteArray) t147 true _ A2.out).mono ?_);rintro e w' ⟨rfl,⟨nd,rfl⟩⟩;(try clear A2);refine ⟨_,rfl,?_⟩;have p6:0 ≤ (0:Int):=zb17;have q6:0 < t147.size:=zb122;have hx6 : ∀ h:0 < t147.size,((t147[0]'h).toNat:Int)=bt t147 0:=bt_at t147 0;clear p6;have qi6:(0 < (t147.size:Int))=True:=eq_true (of_decide_eq_true zb3);replace q6:=eq_true q6)|(go_at_call 164;(with_reducible refine (line_digit.calls (bt t147 0) true _ A7.out).mono ?_);rintro e w' ⟨rfl,⟨nd,rfl⟩⟩;(try clear A7);have p10:0 ≤ (1:Int):=zb17;have q10:1 < t147.size:=(by have:(1:Int) < (t147.size:Int):=of_decide_eq_true (by first|(with_reducible assumption)|assumption);omega);have hx10 : ∀ h:1 < t147.size,((t147[1]'h).toNat:Int)=bt t147 1:=bt_at t147 1;clear p10;have qi10:(1 < (t147.size:Int))=True:=eq_true (of_decide_eq_true zb3);replace q10:=eq_true q10))
    go_ret
    exact ⟨zb5,zb9⟩
   rw [if_pos c11] at H
   have c11b0:=beq_iff_eq.mpr c11
   have c11b1:=bne_eq_false_iff_eq.mpr c11
   clear c11
   by_cases c12:2 < (t147.size:Int)
   ·rw [if_pos c12] at H
    have c12b0:=decide_eq_true c12
    have c12b1:decide (2 < t147.size)=true:=decide_eq_true zb17
    clear c12
    replace H:=Option.bind_eq_some_iff.mp H
    obtain ⟨t150,A140,H⟩:=H
    try dsimp only at H
    have A14:=Aside0.mk A140
    clear A140
    obtain rfl:=Option.some.inj H
    go_enter Tryz.func119,Tryz.ntmps119
    go_wp2_with (first|((with_reducible refine gate_callee (f:=113) rfl ?_);refine goesL_ (some 7) rfl rfl Tryz.func113 zb7 rfl #[.string a0,.string (⟨#[72,84,84,80,47]⟩:ByteArray)] rfl zb1 ?_;(with_reducible refine (strings_CutPrefix.calls a0 (⟨#[72,84,84,80,47]⟩:ByteArray) t147 true _ A2.out).mono ?_);rintro e w' ⟨rfl,⟨nd,rfl⟩⟩;(try clear A2);refine ⟨_,rfl,?_⟩;have p6:0 ≤ (0:Int):=zb17;have q6:0 < t147.size:=zb122;have hx6 : ∀ h:0 < t147.size,((t147[0]'h).toNat:Int)=bt t147 0:=bt_at t147 0;clear p6;have qi6:(0 < (t147.size:Int))=True:=eq_true (of_decide_eq_true zb3);replace q6:=eq_true q6)|(go_at_call 164;(with_reducible refine (line_digit.calls (bt t147 0) true _ A7.out).mono ?_);rintro e w' ⟨rfl,⟨nd,rfl⟩⟩;(try clear A7);have p10:0 ≤ (1:Int):=zb17;have q10:1 < t147.size:=(by have:(1:Int) < (t147.size:Int):=of_decide_eq_true (by first|(with_reducible assumption)|assumption);omega);have hx10 : ∀ h:1 < t147.size,((t147[1]'h).toNat:Int)=bt t147 1:=bt_at t147 1;clear p10;have qi10:(1 < (t147.size:Int))=True:=eq_true (of_decide_eq_true zb3);replace q10:=eq_true q10;have p13:0 ≤ (2:Int):=zb17;have q13:2 < t147.size:=(by have:(2:Int) < (t147.size:Int):=of_decide_eq_true (by first|(with_reducible assumption)|assumption);omega);have hx13 : ∀ h:2 < t147.size,((t147[2]'h).toNat:Int)=bt t147 2:=bt_at t147 2;clear p13;have qi13:(2 < (t147.size:Int))=True:=eq_true (of_decide_eq_true zb3);replace q13:=eq_true q13)|(go_at_call 164;(with_reducible refine (line_digit.calls (bt t147 2) t150 _ A14.out).mono ?_);rintro e w' ⟨rfl,⟨nd,rfl⟩⟩;(try clear A14)))
    go_ret
    exact ⟨zb5,zb9⟩
   ·rw [if_neg c12] at H
    exact absurd H zb44
  ·rw [if_neg c9] at H
   exact absurd H zb44
 ·rw [if_neg c4] at H
  have c4b0:=beq_eq_false_iff_ne.mpr c4
  have c4b1:=bne_iff_ne.mpr c4
  obtain rfl:=Option.some.inj H
  go_enter Tryz.func119,Tryz.ntmps119
  go_wp2_with (first|((with_reducible refine gate_callee (f:=113) rfl ?_);refine goesL_ (some 7) rfl rfl Tryz.func113 zb7 rfl #[.string a0,.string (⟨#[72,84,84,80,47]⟩:ByteArray)] rfl zb1 ?_;(with_reducible refine (strings_CutPrefix.calls a0 (⟨#[72,84,84,80,47]⟩:ByteArray) t147 true _ A2.out).mono ?_);rintro e w' ⟨rfl,⟨nd,rfl⟩⟩;(try clear A2);refine ⟨_,rfl,?_⟩))
  go_ret
  exact ⟨zb5,zb9⟩
def line_target.f (a0:ByteArray) (a1:ByteArray):Option (Bool):=(sign_Target.f a1).bind fun t146=>(if t146=true then (if 0 < (a1.size:Int) then (if (bt a1 0)=47 then (some true) else (if a1.toList=([42]:List UInt8) then (some (a0.toList == ([79,80,84,73,79,78,83]:List UInt8))) else (some false))) else (none)) else (some false))
set_option maxHeartbeats 8000000 in
set_option maxRecDepth 100000 in
theorem line_target.calls (a0:ByteArray) (a1:ByteArray) (r:Bool) (w:World) (h:line_target.f a0 a1=some r) :
 Calls Tryz.prog 118 #[.string a0,.string a1] w fun e w' => e = .returned (.bool r)∧Drawn0 w w' := by
 unfold line_target.f at h
 have H:=h
 clear h
 replace H:=Option.bind_eq_some_iff.mp H
 obtain ⟨t146,A30,H⟩:=H
 try dsimp only at H
 have A3:=Aside0.mk A30
 clear A30
 by_cases c4:t146=true;rotate_left
 ·replace c4:=Bool.eq_false_iff.mpr c4
  subst c4
  rw [if_neg (show ¬ (false=true) by decide)] at H
  obtain rfl:=Option.some.inj H
  go_enter Tryz.func118,Tryz.ntmps118
  go_wp2_with (first|((with_reducible refine gate_callee (f:=149) rfl ?_);refine goesL_ (some 6) rfl rfl Tryz.func149 zb7 rfl #[.string a1] rfl zb1 ?_;(with_reducible refine (sign_Target.calls a1 false _ A3.out).mono ?_);rintro e w' ⟨rfl,⟨nd,rfl⟩⟩;(try clear A3);refine ⟨_,rfl,?_⟩))
  go_ret
  exact ⟨zb5,zb9⟩
 subst c4
 rw [if_pos rfl] at H
 by_cases c5:0 < (a1.size:Int)
 ·rw [if_pos c5] at H
  have c5b0:=decide_eq_true c5
  have c5b1:decide (0 < a1.size)=true:=decide_eq_true zb17
  clear c5
  by_cases c7:(bt a1 0)=47
  ·rw [if_pos c7] at H
   have c7b0:=beq_iff_eq.mpr c7
   have c7b1:=bne_eq_false_iff_eq.mpr c7
   clear c7
   obtain rfl:=Option.some.inj H
   go_enter Tryz.func118,Tryz.ntmps118
   go_wp2_with (first|((with_reducible refine gate_callee (f:=149) rfl ?_);refine goesL_ (some 6) rfl rfl Tryz.func149 zb7 rfl #[.string a1] rfl zb1 ?_;(with_reducible refine (sign_Target.calls a1 true _ A3.out).mono ?_);rintro e w' ⟨rfl,⟨nd,rfl⟩⟩;(try clear A3);refine ⟨_,rfl,?_⟩;have p6:0 ≤ (0:Int):=zb17;have q6:0 < a1.size:=zb125;have hx6 : ∀ h:0 < a1.size,((a1[0]'h).toNat:Int)=bt a1 0:=bt_at a1 0;clear p6;have qi6:(0 < (a1.size:Int))=True:=eq_true (of_decide_eq_true zb3);replace q6:=eq_true q6))
   go_ret
   exact ⟨zb5,zb9⟩
  rw [if_neg c7] at H
  have c7b0:=beq_eq_false_iff_ne.mpr c7
  have c7b1:=bne_iff_ne.mpr c7
  by_cases c8:a1.toList=([42]:List UInt8);rotate_left
  ·rw [if_neg c8] at H
   have c8b0:=beq_eq_false_iff_ne.mpr c8
   have c8b1:=bne_iff_ne.mpr c8
   obtain rfl:=Option.some.inj H
   go_enter Tryz.func118,Tryz.ntmps118
   go_wp2_with (first|((with_reducible refine gate_callee (f:=149) rfl ?_);refine goesL_ (some 6) rfl rfl Tryz.func149 zb7 rfl #[.string a1] rfl zb1 ?_;(with_reducible refine (sign_Target.calls a1 true _ A3.out).mono ?_);rintro e w' ⟨rfl,⟨nd,rfl⟩⟩;(try clear A3);refine ⟨_,rfl,?_⟩;have p6:0 ≤ (0:Int):=zb17;have q6:0 < a1.size:=zb125;have hx6 : ∀ h:0 < a1.size,((a1[0]'h).toNat:Int)=bt a1 0:=bt_at a1 0;clear p6;have qi6:(0 < (a1.size:Int))=True:=eq_true (of_decide_eq_true zb3);replace q6:=eq_true q6))
   go_ret
   exact ⟨zb5,zb9⟩
  rw [if_pos c8] at H
  have c8b0:=beq_iff_eq.mpr c8
  have c8b1:=bne_eq_false_iff_eq.mpr c8
  clear c8
  obtain rfl:=Option.some.inj H
  go_enter Tryz.func118,Tryz.ntmps118
  go_wp2_with (first|((with_reducible refine gate_callee (f:=149) rfl ?_);refine goesL_ (some 6) rfl rfl Tryz.func149 zb7 rfl #[.string a1] rfl zb1 ?_;(with_reducible refine (sign_Target.calls a1 true _ A3.out).mono ?_);rintro e w' ⟨rfl,⟨nd,rfl⟩⟩;(try clear A3);refine ⟨_,rfl,?_⟩;have p6:0 ≤ (0:Int):=zb17;have q6:0 < a1.size:=zb125;have hx6 : ∀ h:0 < a1.size,((a1[0]'h).toNat:Int)=bt a1 0:=bt_at a1 0;clear p6;have qi6:(0 < (a1.size:Int))=True:=eq_true (of_decide_eq_true zb3);replace q6:=eq_true q6))
  go_ret
  exact ⟨zb5,zb9⟩
 ·rw [if_neg c5] at H
  exact absurd H zb44
def line_Request.j0:Nat → List ByteArray → Bool → Option (ByteArray × ByteArray × Int × (List (S36)) × List Int × Int)
 | 0,_,_=>none
 | k + 1,x4,x35=>if x35=true then (some ((⟨#[]⟩:ByteArray),(⟨#[]⟩:ByteArray),0,([]:List (S36)),([]:List Int),400)) else (if 2 < (x4.length:Int) then ((line_minor.f (rdOf ByteArray.empty x4 2)).bind fun bt162=>(if 1 < (x4.length:Int) then (if ((rdOf ByteArray.empty x4 1).size:Int) > 512 then (some ((⟨#[]⟩:ByteArray),(⟨#[]⟩:ByteArray),0,([]:List (S36)),([]:List Int),414)) else ((line_numbered.f (rdOf ByteArray.empty x4 2)).bind fun t166=>(if t166=true then (if bt162.2=true then (if 0 < (x4.length:Int) then (some (rdOf ByteArray.empty x4 0,rdOf ByteArray.empty x4 1,bt162.1,([]:List (S36)),([]:List Int),0)) else (none)) else (some ((⟨#[]⟩:ByteArray),(⟨#[]⟩:ByteArray),0,([]:List (S36)),([]:List Int),505))) else (some ((⟨#[]⟩:ByteArray),(⟨#[]⟩:ByteArray),0,([]:List (S36)),([]:List Int),400))))) else (none))) else (none))
def line_Request.f (k:Nat) (a0:ByteArray):Option (ByteArray × ByteArray × Int × (List (S36)) × List Int × Int):=(strings_Split.f k a0 (⟨#[32]⟩:ByteArray)).bind fun t152=>(if (t152.length:Int)=3 then (if 0 < (t152.length:Int) then (if ((rdOf ByteArray.empty t152 0).size:Int) > 20 then (line_Request.j0 k t152 true) else ((sign_Token.f (rdOf ByteArray.empty t152 0)).bind fun t157=>(if t157=true then (if 1 < (t152.length:Int) then ((line_target.f (rdOf ByteArray.empty t152 0) (rdOf ByteArray.empty t152 1)).bind fun t160=>(line_Request.j0 k t152 (!t160))) else (none)) else (line_Request.j0 k t152 true)))) else (none)) else (line_Request.j0 k t152 true))
theorem line_Request.mono_l : ∀ k,(∀ y0 y1,LeO (line_Request.j0 k y0 y1) (line_Request.j0 (k + 1) y0 y1))
 | 0=>fun _ _ r h=>by simp [line_Request.j0] at h
 | k + 1=>by
  have ih0:=line_Request.mono_l k
  ·intro y0 y1
   unfold line_Request.j0
   repeat' first
   | (with_reducible exact ih0 _ _)
   | (with_reducible exact strings_Split.mono _ _ _)
   | (with_reducible exact LeO.refl _)
   | (with_reducible exact LeO.none _)
   | (with_reducible refine LeO.ite ?_ ?_)
   | (with_reducible refine LeO.bind ?_ (fun _=>?_))
   | exact ih0 _ _
   | exact strings_Split.mono _ _ _
   | exact LeO.none _
   | refine LeO.ite ?_ ?_
   | refine LeO.bind ?_ (fun _=>?_)
theorem line_Request.mono : ∀ a0 k,LeO (line_Request.f k a0) (line_Request.f (k + 1) a0):=by
 intro a0 k
 have ih0:=line_Request.mono_l k
 unfold line_Request.f
 repeat' first
  | (with_reducible exact ih0 _ _)
  | (with_reducible exact strings_Split.mono _ _ _)
  | (with_reducible exact LeO.refl _)
  | (with_reducible exact LeO.none _)
  | (with_reducible refine LeO.ite ?_ ?_)
  | (with_reducible refine LeO.bind ?_ (fun _=>?_))
  | exact ih0 _ _
  | exact strings_Split.mono _ _ _
  | exact LeO.none _
  | refine LeO.ite ?_ ?_
  | refine LeO.bind ?_ (fun _=>?_)
def line_Request.T2:Bool × List (List Nat × List Nat):=(true,[([],[]),([0],[0]),([1],[1]),([2],[2]),([3],[3]),([4,3],[3,4]),([5,3],[3,5]),([6,3],[3,6]),([7,3],[3,7]),([3,8],[3,8]),([9,3],[9]),([10],[10]),([11,10],[10,11]),([12,10],[10,12]),([13,10,10],[10,13]),([14,10],[10,14]),([10,15],[10,15]),([16,14],[16]),([17],[17]),([18,17],[17,18]),([19,17],[17,19]),([17],[17]),([21,17],[17,21]),([22,17],[17,22]),([20,23,17,17],[17,20,23]),([24,17],[17,24]),([17,25],[17,25])])
def line_Request.B2:List Nat:=[0,1,3,7,15,31,63,127,255,511,1023,2047,4095,8191,16383,32767,65535,131071,262143,524287,1048575,262143,2359295,6553599,16777215,33554431,67108863]
theorem line_Request.tab2:rtab .any (opsOf Tryz.f76 2)=line_Request.T2:=by kernel_rfl
theorem line_Request.bits2:waitsOk line_Request.T2.2 line_Request.B2=true:=by kernel_rfl
def line_Request.T11:Bool × List (List Nat × List Nat):=(true,[([],[]),([0],[0]),([1],[1]),([],[]),([3],[3]),([4],[4]),([],[]),([2,5,6],[2,5,6]),([7,0,1,2,3,4,5,6,7],[7]),([8,0,1,2,3,4,5,6,7,8],[])])
def line_Request.B11:List Nat:=[0,1,3,0,8,24,0,127,255,511]
theorem line_Request.tab11:rtab .any (opsOf Tryz.f76 11)=line_Request.T11:=by kernel_rfl
theorem line_Request.bits11:waitsOk line_Request.T11.2 line_Request.B11=true:=by kernel_rfl
set_option maxHeartbeats 8000000 in
set_option maxRecDepth 100000 in
theorem line_Request.calls (k:Nat) (a0:ByteArray) (r1:ByteArray) (r2:ByteArray) (r3:Int) (r4:List (S36)) (r5:List Int) (r6:Int) (w:World) (h:line_Request.f k a0=some (r1,r2,r3,r4,r5,r6)) :
 Calls Tryz.prog 76 #[.string a0] w fun e w' => ∃ v3_ v4_:Value,e = .returned (.tuple #[.agg #[.string r1,.string r2,.int .i64 r3,v3_,v4_],.int .i64 r6])∧Kd.R k36 36 w' w.heap.size (fun _=>True) v3_ r4∧Kd.R (Kd.int .u8) 5 w' w.heap.size (fun _=>True) v4_ r5∧Below w.heap.size w w' := by
 have hu26:=Tryz.underlying26
 have HB:=Aside0.mk (Below.refl w.heap.size w)
 unfold line_Request.f at h
 have H:=h
 clear h
 replace H:=Option.bind_eq_some_iff.mp H
 obtain ⟨t45,A20,H⟩:=H
 try dsimp only at H
 have A2:=Aside0.mk A20
 clear A20
 have HC3:=Aside0.mk H
 clear H
 go_enter Tryz.func76,Tryz.ntmps76
 go_upto_region 2 with (first|((with_reducible refine gate_dst (N:=2) rfl ?_);(try (refine gate_guard zb45 ?_;dsimp only));refine box_event rfl (N:=2) rfl (cs:=#[.string (⟨#[]⟩:ByteArray),.string (⟨#[]⟩:ByteArray),.int .i64 0,.slice none 0 0,.slice none 0 0]) (t:=26) zS ?_;intro gb44 hg w4 hbox hb;have GW44:=zG hg zb0;have GE44:=GW44;have BK44:=Aside0.mk hbox;replace HB:=Aside0.mk (below_step zb0 hb);clear hb hbox hg)|((with_reducible refine gate_callee (f:=116) rfl ?_);refine goesL_ (some 8) rfl rfl Tryz.func116 zb7 rfl #[.string a0,.string (⟨#[32]⟩:ByteArray)] rfl zb1 ?_;(with_reducible refine (strings_Split.calls k a0 (⟨#[32]⟩:ByteArray) t45 _ A2.out).mono ?_);rintro e w5 ⟨v66,rfl,ho0,hb⟩;refine ⟨_,rfl,?_⟩;have HO51:=Aside0.mk (Kd.R_lower ho0 (below_size zb28));replace BK44:=Aside0.mk (blk_below (g:=gb44) (o:=.cells #[.string (⟨#[]⟩:ByteArray),.string (⟨#[]⟩:ByteArray),.int .i64 0,.slice none 0 0,.slice none 0 0] 26 (0,0)) zb96 hb);replace HB:=Aside0.mk (below_step zb28 hb);try clear hb ho0))
 (try simp only [Act.put,zqA,zqB,zqC])
 go_cut [35] (fun v35 wc => ∃ (kq:Nat) (x35_2:Bool),v35 = .bool x35_2∧Aside0 (line_Request.j0 kq t45 x35_2=some (r1,r2,r3,r4,r5,r6))∧Aside0 (kq ≤ k)∧Aside0 (Kd.R Kd.string 9 wc w.heap.size (fun _=>True) v66 t45)∧Aside0 (wc.heap[gb44]? = some (.cells #[.string (⟨#[]⟩:ByteArray),.string (⟨#[]⟩:ByteArray),.int .i64 0,(.slice none 0 0),(.slice none 0 0)] 26 (0,0)))∧Aside0 (Below w.heap.size w wc))
 case first =>
  have H:=HC3.out
  clear HC3
  by_cases c6:(t45.length:Int)=3;rotate_left
  ·rw [if_neg c6] at H
   have c6b0:=beq_eq_false_iff_ne.mpr c6
   have c6b1:=bne_iff_ne.mpr c6
   (first|rw [c6b0]|(simp only [i64_w,i32_w];rw [c6b0])|rw [c6b1]|skip)
   have H' := Aside0.mk H
   clear H
   try go_wp2
   replace HO51:=Aside0.mk (Kd.R_drew HO51.out)
   replace BK44:=Aside0.mk (blk_drew BK44.out)
   replace HB:=Aside0.mk (below_drew1 HB.out)
   obtain ⟨Ao20,co20,eo20⟩:=Kd.R_slice HO51.out
   (first|subst eo20|(injection eo20 with f1_ f2_ f3_;have f4_:=f1_.symm;have f5_:=f3_.symm;clear f1_ f2_ f3_;subst f4_;subst f5_))
   refine start_ (n:=27) (S:=fun w' => True) (ds:=[]) (zl 27 0) zb7 rfl rfl trivial (fun hHeld=>?_);refine with_tabW line_Request.tab2 line_Request.bits2 (fun HT_ HW_=>?_)
   generalize w5.drew=w19 at HO51 BK44 HB hHeld ⊢
   refine zpu 0 (N:=some 9) (zl 27 1) HT_.out rfl rfl ?_
   refine zpu 1 (N:=some 10) (zl 27 3) HT_.out rfl rfl ?_
   refine zpu 2 (N:=some 11) (zl 27 7) HT_.out rfl rfl ?_
   refine zpu 3 (N:=some 12) (zl 27 15) HT_.out rfl rfl ?_
   refine pure_ (i:=4) (N:=some 13) (v:=undef) (a' := ?_) (zl 27 31) rfl rfl (any_of HT_.out zb7) (fun _ _ _ h=>h) (Or.inr ⟨zb45,rfl⟩) ?_ ?_
   rotate_left
   ·simp only [Act.put,zqA,zqB,zqC,i64_w,i32_w];rfl
   refine pure_ (i:=5) (N:=some 14) (v:=undef) (a' := ?_) (zl 27 63) rfl rfl (any_of HT_.out zb7) (fun _ _ _ h=>h) (Or.inr ⟨zb45,rfl⟩) ?_ ?_
   rotate_left
   ·simp only [Act.put,zqA,zqB,zqC,i64_w,i32_w];rfl
   refine pure_ (i:=6) (N:=some 15) (v:=undef) (a' := ?_) (zl 27 127) rfl rfl (any_of HT_.out zb7) (fun _ _ _ h=>h) (Or.inr ⟨zb45,rfl⟩) ?_ ?_
   rotate_left
   ·simp only [Act.put,zqA,zqB,zqC,i64_w,i32_w];rfl
   refine pure_ (i:=7) (N:=some 16) (v:=undef) (a' := ?_) (zl 27 255) rfl rfl (any_of HT_.out zb7) (fun _ _ _ h=>h) (Or.inr ⟨zb45,rfl⟩) ?_ ?_
   rotate_left
   ·simp only [Act.put,zqA,zqB,zqC,i64_w,i32_w];rfl
   refine pure_ (i:=8) (N:=some 17) (v:=undef) (a' := ?_) (zl 27 511) rfl rfl (any_of HT_.out zb7) (fun _ _ _ h=>h) (Or.inr ⟨zb45,rfl⟩) ?_ ?_
   rotate_left
   ·simp only [Act.put,zqA,zqB,zqC,i64_w,i32_w];rfl
   refine zpu 9 (N:=some 18) (zl 27 1023) HT_.out rfl rfl ?_
   refine zpu 10 (N:=some 19) (zl 27 2047) HT_.out rfl rfl ?_
   refine pure_ (i:=11) (N:=some 20) (v:=undef) (a' := ?_) (zl 27 4095) rfl rfl (any_of HT_.out zb7) (fun _ _ _ h=>h) (Or.inr ⟨zb45,rfl⟩) ?_ ?_
   rotate_left
   ·simp only [Act.put,zqA,zqB,zqC,i64_w,i32_w];rfl
   refine pure_ (i:=12) (N:=some 21) (v:=undef) (a' := ?_) (zl 27 8191) rfl rfl (any_of HT_.out zb7) (fun _ _ _ h=>h) (Or.inr ⟨zb45,rfl⟩) ?_ ?_
   rotate_left
   ·simp only [Act.put,zqA,zqB,zqC,i64_w,i32_w];rfl
   refine pure_ (i:=13) (N:=some 22) (v:=undef) (a' := ?_) (zl 27 16383) rfl rfl (any_of HT_.out zb7) (fun _ _ _ h=>h) (Or.inr ⟨zb45,rfl⟩) ?_ ?_
   rotate_left
   ·simp only [Act.put,zqA,zqB,zqC,i64_w,i32_w];rfl
   refine pure_ (i:=14) (N:=some 23) (v:=undef) (a' := ?_) (zl 27 32767) rfl rfl (any_of HT_.out zb7) (fun _ _ _ h=>h) (Or.inr ⟨zb45,rfl⟩) ?_ ?_
   rotate_left
   ·simp only [Act.put,zqA,zqB,zqC,i64_w,i32_w];rfl
   refine pure_ (i:=15) (N:=some 24) (v:=undef) (a' := ?_) (zl 27 65535) rfl rfl (any_of HT_.out zb7) (fun _ _ _ h=>h) (Or.inr ⟨zb45,rfl⟩) ?_ ?_
   rotate_left
   ·simp only [Act.put,zqA,zqB,zqC,i64_w,i32_w];rfl
   refine zpu 16 (N:=some 25) (zl 27 131071) HT_.out rfl rfl ?_
   refine zpu 17 (N:=some 26) (zl 27 262143) HT_.out rfl rfl ?_
   refine pure_ (i:=18) (N:=some 27) (v:=undef) (a' := ?_) (zl 27 524287) rfl rfl (any_of HT_.out zb7) (fun _ _ _ h=>h) (Or.inr ⟨zb45,rfl⟩) ?_ ?_
   rotate_left
   ·simp only [Act.put,zqA,zqB,zqC,i64_w,i32_w];rfl
   refine pure_ (i:=19) (N:=some 28) (v:=undef) (a' := ?_) (zl 27 1048575) rfl rfl (any_of HT_.out zb7) (fun _ _ _ h=>h) (Or.inr ⟨zb45,rfl⟩) ?_ ?_
   rotate_left
   ·simp only [Act.put,zqA,zqB,zqC,i64_w,i32_w];rfl
   refine pure_ (i:=20) (N:=some 29) (v:=undef) (a' := ?_) (zl 27 2097151) rfl rfl (any_of HT_.out zb7) (fun _ _ _ h=>h) (Or.inr ⟨zb45,rfl⟩) ?_ ?_
   rotate_left
   ·simp only [Act.put,zqA,zqB,zqC,i64_w,i32_w];rfl
   refine pure_ (i:=21) (N:=some 30) (v:=undef) (a' := ?_) (zl 27 4194303) rfl rfl (any_of HT_.out zb7) (fun _ _ _ h=>h) (Or.inr ⟨zb45,rfl⟩) ?_ ?_
   rotate_left
   ·simp only [Act.put,zqA,zqB,zqC,i64_w,i32_w];rfl
   refine pure_ (i:=22) (N:=some 31) (v:=undef) (a' := ?_) (zl 27 8388607) rfl rfl (any_of HT_.out zb7) (fun _ _ _ h=>h) (Or.inr ⟨zb45,rfl⟩) ?_ ?_
   rotate_left
   ·simp only [Act.put,zqA,zqB,zqC,i64_w,i32_w];rfl
   refine pure_ (i:=23) (N:=some 32) (v:=undef) (a' := ?_) (zl 27 16777215) rfl rfl (any_of HT_.out zb7) (fun _ _ _ h=>h) (Or.inr ⟨zb45,rfl⟩) ?_ ?_
   rotate_left
   ·simp only [Act.put,zqA,zqB,zqC,i64_w,i32_w];rfl
   refine pure_ (i:=24) (N:=some 33) (v:=undef) (a' := ?_) (zl 27 33554431) rfl rfl (any_of HT_.out zb7) (fun _ _ _ h=>h) (Or.inr ⟨zb45,rfl⟩) ?_ ?_
   rotate_left
   ·simp only [Act.put,zqA,zqB,zqC,i64_w,i32_w];rfl
   refine pure_ (i:=25) (N:=some 34) (v:=undef) (a' := ?_) (zl 27 67108863) rfl rfl (any_of HT_.out zb7) (fun _ _ _ h=>h) (Or.inr ⟨zb45,rfl⟩) ?_ ?_
   rotate_left
   ·simp only [Act.put,zqA,zqB,zqC,i64_w,i32_w];rfl
   refine zpu 26 (N:=some 35) (zl 27 134217727) HT_.out rfl rfl ?_
   refine done_ (done_of HT_.out zb7) ?_
   try go_wp2
   go_meet
   case rel=>exact ⟨_,(true),zb5,H',⟨zb77⟩,⟨zb116⟩,⟨zb96⟩,⟨zb28⟩⟩
  rw [if_pos c6] at H
  have c6b0:=beq_iff_eq.mpr c6
  have c6b1:=bne_eq_false_iff_eq.mpr c6
  clear c6
  (first|rw [c6b0]|(simp only [i64_w,i32_w];rw [c6b0])|rw [c6b1]|skip)
  by_cases c7:0 < (t45.length:Int)
  ·rw [if_pos c7] at H
   have c7b0:=decide_eq_true c7
   have c7b1:decide (0 < t45.length)=true:=decide_eq_true zb17
   clear c7
   by_cases c8:((rdOf ByteArray.empty t45 0).size:Int) > 20
   ·rw [if_pos c8] at H
    have c8b0:decide (20 < ((rdOf ByteArray.empty t45 0).size:Int))=true:=decide_eq_true c8
    have c8b1:decide (20 < (rdOf ByteArray.empty t45 0).size)=true:=decide_eq_true zb17
    clear c8
    have H' := Aside0.mk H
    clear H
    try go_wp2
    replace HO51:=Aside0.mk (Kd.R_drew HO51.out)
    replace BK44:=Aside0.mk (blk_drew BK44.out)
    replace HB:=Aside0.mk (below_drew1 HB.out)
    obtain ⟨Ao10,co10,eo10⟩:=Kd.R_slice HO51.out
    (first|subst eo10|(injection eo10 with f1_ f2_ f3_;have f4_:=f1_.symm;have f5_:=f3_.symm;clear f1_ f2_ f3_;subst f4_;subst f5_))
    have p47:0 ≤ (0:Int):=zb17
    have q47:0 < (t45.length:Int):=of_decide_eq_true zb3
    obtain ⟨ad47,e47,hx47_0⟩:=Kd.at_string (Kd.R_reads' HO51.out).2.2 0 p47 q47
    cases e47
    have qi47:(0 < t45.length)=True:=eq_true zb17
    (try rw [show ((0:Int)).toNat=0 from rfl] at hx47_0)
    (try rw [Addr.add_zero'] at hx47_0)
    replace p47:=eq_true p47
    replace q47:=eq_true q47
    refine start_ (n:=27) (S:=fun w' => w'.cell? ad47=some (.string (rdOf ByteArray.empty t45 0))) (ds:=[]) (zl 27 0) zb7 rfl rfl (hx47_0) (fun hHeld=>?_);refine with_tabW line_Request.tab2 line_Request.bits2 (fun HT_ HW_=>?_)
    generalize w5.drew=w9 at HO51 BK44 HB hx47_0 hHeld ⊢
    refine zpu 0 (N:=some 9) (zl 27 1) HT_.out rfl rfl ?_
    refine zpu 1 (N:=some 10) (zl 27 3) HT_.out rfl rfl ?_
    refine zpu 2 (N:=some 11) (zl 27 7) HT_.out rfl rfl ?_
    refine zpu 3 (N:=some 12) (zl 27 15) HT_.out rfl rfl ?_
    refine zpu 4 (N:=some 13) (zl 27 31) HT_.out rfl rfl ?_
    refine zpu 5 (N:=some 14) (zl 27 63) HT_.out rfl rfl ?_
    refine take_ (i:=6) (N:=some 15) (v:=?_) (a' := ?_) (zl 27 127) rfl rfl (take_ofW HT_.out HW_.out zb7) (fun _ _ _ h=>h) (Or.inl ⟨zb45,?_⟩) hHeld ?_ ?_
    rotate_left
    ·intro w' s0
     go_simp
     with_reducible rfl
    rotate_left
    ·simp only [Act.put,zqA,zqB,zqC,i64_w,i32_w];rfl
    refine zpu 7 (N:=some 16) (zl 27 255) HT_.out rfl rfl ?_
    refine zpu 8 (N:=some 17) (zl 27 511) HT_.out rfl rfl ?_
    refine zpu 9 (N:=some 18) (zl 27 1023) HT_.out rfl rfl ?_
    refine zpu 10 (N:=some 19) (zl 27 2047) HT_.out rfl rfl ?_
    refine pure_ (i:=11) (N:=some 20) (v:=undef) (a' := ?_) (zl 27 4095) rfl rfl (any_of HT_.out zb7) (fun _ _ _ h=>h) (Or.inr ⟨zb45,rfl⟩) ?_ ?_
    rotate_left
    ·simp only [Act.put,zqA,zqB,zqC,i64_w,i32_w];rfl
    refine pure_ (i:=12) (N:=some 21) (v:=undef) (a' := ?_) (zl 27 8191) rfl rfl (any_of HT_.out zb7) (fun _ _ _ h=>h) (Or.inr ⟨zb45,rfl⟩) ?_ ?_
    rotate_left
    ·simp only [Act.put,zqA,zqB,zqC,i64_w,i32_w];rfl
    refine pure_ (i:=13) (N:=some 22) (v:=undef) (a' := ?_) (zl 27 16383) rfl rfl (any_of HT_.out zb7) (fun _ _ _ h=>h) (Or.inr ⟨zb45,rfl⟩) ?_ ?_
    rotate_left
    ·simp only [Act.put,zqA,zqB,zqC,i64_w,i32_w];rfl
    refine pure_ (i:=14) (N:=some 23) (v:=undef) (a' := ?_) (zl 27 32767) rfl rfl (any_of HT_.out zb7) (fun _ _ _ h=>h) (Or.inr ⟨zb45,rfl⟩) ?_ ?_
    rotate_left
    ·simp only [Act.put,zqA,zqB,zqC,i64_w,i32_w];rfl
    refine pure_ (i:=15) (N:=some 24) (v:=undef) (a' := ?_) (zl 27 65535) rfl rfl (any_of HT_.out zb7) (fun _ _ _ h=>h) (Or.inr ⟨zb45,rfl⟩) ?_ ?_
    rotate_left
    ·simp only [Act.put,zqA,zqB,zqC,i64_w,i32_w];rfl
    refine zpu 16 (N:=some 25) (zl 27 131071) HT_.out rfl rfl ?_
    refine zpu 17 (N:=some 26) (zl 27 262143) HT_.out rfl rfl ?_
    refine pure_ (i:=18) (N:=some 27) (v:=undef) (a' := ?_) (zl 27 524287) rfl rfl (any_of HT_.out zb7) (fun _ _ _ h=>h) (Or.inr ⟨zb45,rfl⟩) ?_ ?_
    rotate_left
    ·simp only [Act.put,zqA,zqB,zqC,i64_w,i32_w];rfl
    refine pure_ (i:=19) (N:=some 28) (v:=undef) (a' := ?_) (zl 27 1048575) rfl rfl (any_of HT_.out zb7) (fun _ _ _ h=>h) (Or.inr ⟨zb45,rfl⟩) ?_ ?_
    rotate_left
    ·simp only [Act.put,zqA,zqB,zqC,i64_w,i32_w];rfl
    refine pure_ (i:=20) (N:=some 29) (v:=undef) (a' := ?_) (zl 27 2097151) rfl rfl (any_of HT_.out zb7) (fun _ _ _ h=>h) (Or.inr ⟨zb45,rfl⟩) ?_ ?_
    rotate_left
    ·simp only [Act.put,zqA,zqB,zqC,i64_w,i32_w];rfl
    refine pure_ (i:=21) (N:=some 30) (v:=undef) (a' := ?_) (zl 27 4194303) rfl rfl (any_of HT_.out zb7) (fun _ _ _ h=>h) (Or.inr ⟨zb45,rfl⟩) ?_ ?_
    rotate_left
    ·simp only [Act.put,zqA,zqB,zqC,i64_w,i32_w];rfl
    refine pure_ (i:=22) (N:=some 31) (v:=undef) (a' := ?_) (zl 27 8388607) rfl rfl (any_of HT_.out zb7) (fun _ _ _ h=>h) (Or.inr ⟨zb45,rfl⟩) ?_ ?_
    rotate_left
    ·simp only [Act.put,zqA,zqB,zqC,i64_w,i32_w];rfl
    refine pure_ (i:=23) (N:=some 32) (v:=undef) (a' := ?_) (zl 27 16777215) rfl rfl (any_of HT_.out zb7) (fun _ _ _ h=>h) (Or.inr ⟨zb45,rfl⟩) ?_ ?_
    rotate_left
    ·simp only [Act.put,zqA,zqB,zqC,i64_w,i32_w];rfl
    refine pure_ (i:=24) (N:=some 33) (v:=undef) (a' := ?_) (zl 27 33554431) rfl rfl (any_of HT_.out zb7) (fun _ _ _ h=>h) (Or.inr ⟨zb45,rfl⟩) ?_ ?_
    rotate_left
    ·simp only [Act.put,zqA,zqB,zqC,i64_w,i32_w];rfl
    refine pure_ (i:=25) (N:=some 34) (v:=undef) (a' := ?_) (zl 27 67108863) rfl rfl (any_of HT_.out zb7) (fun _ _ _ h=>h) (Or.inr ⟨zb45,rfl⟩) ?_ ?_
    rotate_left
    ·simp only [Act.put,zqA,zqB,zqC,i64_w,i32_w];rfl
    refine zpu 26 (N:=some 35) (zl 27 134217727) HT_.out rfl rfl ?_
    refine done_ (done_of HT_.out zb7) ?_
    try go_wp2
    go_meet
    case rel=>exact ⟨_,(true),zb5,H',⟨zb77⟩,⟨zb116⟩,⟨zb96⟩,⟨zb28⟩⟩
   rw [if_neg c8] at H
   have c8b0:decide (20 < ((rdOf ByteArray.empty t45 0).size:Int))=false:=decide_eq_false c8
   have c8b1:decide (20 < (rdOf ByteArray.empty t45 0).size)=false:=decide_eq_false zb17
   clear c8
   replace H:=Option.bind_eq_some_iff.mp H
   obtain ⟨t58,A61,H⟩:=H
   try dsimp only at H
   have A11:=Aside0.mk A61
   clear A61
   by_cases c12:t58=true;rotate_left
   ·replace c12:=Bool.eq_false_iff.mpr c12
    subst c12
    rw [if_neg (show ¬ (false=true) by decide)] at H
    have H' := Aside0.mk H
    clear H
    try go_wp2
    replace HO51:=Aside0.mk (Kd.R_drew HO51.out)
    replace BK44:=Aside0.mk (blk_drew BK44.out)
    replace HB:=Aside0.mk (below_drew1 HB.out)
    obtain ⟨Ao18,co18,eo18⟩:=Kd.R_slice HO51.out
    (first|subst eo18|(injection eo18 with f1_ f2_ f3_;have f4_:=f1_.symm;have f5_:=f3_.symm;clear f1_ f2_ f3_;subst f4_;subst f5_))
    have p47:0 ≤ (0:Int):=zb17
    have q47:0 < (t45.length:Int):=of_decide_eq_true zb3
    obtain ⟨ad47,e47,hx47_0⟩:=Kd.at_string (Kd.R_reads' HO51.out).2.2 0 p47 q47
    cases e47
    have qi47:(0 < t45.length)=True:=eq_true zb17
    (try rw [show ((0:Int)).toNat=0 from rfl] at hx47_0)
    (try rw [Addr.add_zero'] at hx47_0)
    replace p47:=eq_true p47
    replace q47:=eq_true q47
    have p50:0 ≤ (0:Int):=zb17
    have q50:0 < (t45.length:Int):=of_decide_eq_true zb3
    obtain ⟨ad50,e50,hx50_0⟩:=Kd.at_string (Kd.R_reads' HO51.out).2.2 0 p50 q50
    obtain rfl:ad47=ad50:=(by injection e50)
    have qi50:(0 < t45.length)=True:=eq_true zb17
    (try rw [show ((0:Int)).toNat=0 from rfl] at hx50_0)
    (try rw [Addr.add_zero'] at hx50_0)
    replace p50:=eq_true p50
    replace q50:=eq_true q50
    refine start_ (n:=27) (S:=fun w' => w'.cell? ad47=some (.string (rdOf ByteArray.empty t45 0))∧w'.cell? ad47=some (.string (rdOf ByteArray.empty t45 0))) (ds:=[]) (zl 27 0) zb7 rfl rfl ⟨hx47_0,hx50_0⟩ (fun hHeld=>?_);refine with_tabW line_Request.tab2 line_Request.bits2 (fun HT_ HW_=>?_)
    generalize w5.drew=w17 at HO51 BK44 HB hx47_0 hx50_0 hHeld ⊢
    refine zpu 0 (N:=some 9) (zl 27 1) HT_.out rfl rfl ?_
    refine zpu 1 (N:=some 10) (zl 27 3) HT_.out rfl rfl ?_
    refine zpu 2 (N:=some 11) (zl 27 7) HT_.out rfl rfl ?_
    refine zpu 3 (N:=some 12) (zl 27 15) HT_.out rfl rfl ?_
    refine zpu 4 (N:=some 13) (zl 27 31) HT_.out rfl rfl ?_
    refine zpu 5 (N:=some 14) (zl 27 63) HT_.out rfl rfl ?_
    refine take_ (i:=6) (N:=some 15) (v:=?_) (a' := ?_) (zl 27 127) rfl rfl (take_ofW HT_.out HW_.out zb7) (fun _ _ _ h=>h) (Or.inl ⟨zb45,?_⟩) hHeld ?_ ?_
    rotate_left
    ·rintro w' ⟨s0,s1⟩;go_simp;with_reducible rfl
    rotate_left
    ·simp only [Act.put,zqA,zqB,zqC,i64_w,i32_w];rfl
    refine zpu 7 (N:=some 16) (zl 27 255) HT_.out rfl rfl ?_
    refine zpu 8 (N:=some 17) (zl 27 511) HT_.out rfl rfl ?_
    refine zpu 9 (N:=some 18) (zl 27 1023) HT_.out rfl rfl ?_
    refine zpu 10 (N:=some 19) (zl 27 2047) HT_.out rfl rfl ?_
    refine zpu 11 (N:=some 20) (zl 27 4095) HT_.out rfl rfl ?_
    refine zpu 12 (N:=some 21) (zl 27 8191) HT_.out rfl rfl ?_
    refine take_ (i:=13) (N:=some 22) (v:=?_) (a' := ?_) (zl 27 16383) rfl rfl (take_ofW HT_.out HW_.out zb7) (fun _ _ _ h=>h) (Or.inl ⟨zb45,?_⟩) hHeld ?_ ?_
    rotate_left
    ·rintro w' ⟨s0,s1⟩;go_simp;with_reducible rfl
    rotate_left
    ·simp only [Act.put,zqA,zqB,zqC,i64_w,i32_w];rfl
    refine one_ (i:=14) (N:=some 23) (zl 27 32767) rfl rfl (one_of HT_.out zb7) zb47 (fun K hK=>?_)
    refine goes_ Tryz.func117 zb7 rfl #[.string (rdOf ByteArray.empty t45 0)] zb45 rfl rfl zb1 ?_
    with_reducible refine (sign_Token.calls (rdOf ByteArray.empty t45 0) false _ A11.out).mono ?_
    rintro e w' ⟨rfl,⟨nd,rfl⟩⟩
    refine ⟨_,rfl,?_⟩
    refine hK.out _ _ ⟨hHeld.1,hHeld.2⟩ (fun hHeld=>?_)
    clear hK K
    refine norm_ (a' := ?_) ?_ ?_
    rotate_left
    ·show Act.put _ (some 23) _=_
     simp only [Act.put,zqA,zqB,zqC,i64_w,i32_w]
     rfl
    refine zpu 15 (N:=some 24) (zl 27 65535) HT_.out rfl rfl ?_
    refine zpu 16 (N:=some 25) (zl 27 131071) HT_.out rfl rfl ?_
    refine zpu 17 (N:=some 26) (zl 27 262143) HT_.out rfl rfl ?_
    refine pure_ (i:=18) (N:=some 27) (v:=undef) (a' := ?_) (zl 27 524287) rfl rfl (any_of HT_.out zb7) (fun _ _ _ h=>h) (Or.inr ⟨zb45,rfl⟩) ?_ ?_
    rotate_left
    ·simp only [Act.put,zqA,zqB,zqC,i64_w,i32_w];rfl
    refine pure_ (i:=19) (N:=some 28) (v:=undef) (a' := ?_) (zl 27 1048575) rfl rfl (any_of HT_.out zb7) (fun _ _ _ h=>h) (Or.inr ⟨zb45,rfl⟩) ?_ ?_
    rotate_left
    ·simp only [Act.put,zqA,zqB,zqC,i64_w,i32_w];rfl
    refine pure_ (i:=20) (N:=some 29) (v:=undef) (a' := ?_) (zl 27 2097151) rfl rfl (any_of HT_.out zb7) (fun _ _ _ h=>h) (Or.inr ⟨zb45,rfl⟩) ?_ ?_
    rotate_left
    ·simp only [Act.put,zqA,zqB,zqC,i64_w,i32_w];rfl
    refine pure_ (i:=21) (N:=some 30) (v:=undef) (a' := ?_) (zl 27 4194303) rfl rfl (any_of HT_.out zb7) (fun _ _ _ h=>h) (Or.inr ⟨zb45,rfl⟩) ?_ ?_
    rotate_left
    ·simp only [Act.put,zqA,zqB,zqC,i64_w,i32_w];rfl
    refine pure_ (i:=22) (N:=some 31) (v:=undef) (a' := ?_) (zl 27 8388607) rfl rfl (any_of HT_.out zb7) (fun _ _ _ h=>h) (Or.inr ⟨zb45,rfl⟩) ?_ ?_
    rotate_left
    ·simp only [Act.put,zqA,zqB,zqC,i64_w,i32_w];rfl
    refine pure_ (i:=23) (N:=some 32) (v:=undef) (a' := ?_) (zl 27 16777215) rfl rfl (any_of HT_.out zb7) (fun _ _ _ h=>h) (Or.inr ⟨zb45,rfl⟩) ?_ ?_
    rotate_left
    ·simp only [Act.put,zqA,zqB,zqC,i64_w,i32_w];rfl
    refine pure_ (i:=24) (N:=some 33) (v:=undef) (a' := ?_) (zl 27 33554431) rfl rfl (any_of HT_.out zb7) (fun _ _ _ h=>h) (Or.inr ⟨zb45,rfl⟩) ?_ ?_
    rotate_left
    ·simp only [Act.put,zqA,zqB,zqC,i64_w,i32_w];rfl
    refine pure_ (i:=25) (N:=some 34) (v:=undef) (a' := ?_) (zl 27 67108863) rfl rfl (any_of HT_.out zb7) (fun _ _ _ h=>h) (Or.inr ⟨zb45,rfl⟩) ?_ ?_
    rotate_left
    ·simp only [Act.put,zqA,zqB,zqC,i64_w,i32_w];rfl
    refine zpu 26 (N:=some 35) (zl 27 134217727) HT_.out rfl rfl ?_
    refine done_ (done_of HT_.out zb7) ?_
    try go_wp2
    go_meet
    case rel=>exact ⟨_,(true),zb5,H',⟨zb77⟩,⟨zb116⟩,⟨zb96⟩,⟨zb28⟩⟩
   subst c12
   rw [if_pos rfl] at H
   by_cases c13:1 < (t45.length:Int)
   ·rw [if_pos c13] at H
    have c13b0:=decide_eq_true c13
    have c13b1:decide (1 < t45.length)=true:=decide_eq_true zb17
    clear c13
    replace H:=Option.bind_eq_some_iff.mp H
    obtain ⟨t57,A62,H⟩:=H
    try dsimp only at H
    have A14:=Aside0.mk A62
    clear A62
    have H' := Aside0.mk H
    clear H
    try go_wp2
    replace HO51:=Aside0.mk (Kd.R_drew HO51.out)
    replace BK44:=Aside0.mk (blk_drew BK44.out)
    replace HB:=Aside0.mk (below_drew1 HB.out)
    obtain ⟨Ao16,co16,eo16⟩:=Kd.R_slice HO51.out
    (first|subst eo16|(injection eo16 with f1_ f2_ f3_;have f4_:=f1_.symm;have f5_:=f3_.symm;clear f1_ f2_ f3_;subst f4_;subst f5_))
    have p47:0 ≤ (0:Int):=zb17
    have q47:0 < (t45.length:Int):=of_decide_eq_true zb3
    obtain ⟨ad47,e47,hx47_0⟩:=Kd.at_string (Kd.R_reads' HO51.out).2.2 0 p47 q47
    cases e47
    have qi47:(0 < t45.length)=True:=eq_true zb17
    (try rw [show ((0:Int)).toNat=0 from rfl] at hx47_0)
    (try rw [Addr.add_zero'] at hx47_0)
    replace p47:=eq_true p47
    replace q47:=eq_true q47
    have p50:0 ≤ (0:Int):=zb17
    have q50:0 < (t45.length:Int):=of_decide_eq_true zb3
    obtain ⟨ad50,e50,hx50_0⟩:=Kd.at_string (Kd.R_reads' HO51.out).2.2 0 p50 q50
    obtain rfl:ad47=ad50:=(by injection e50)
    have qi50:(0 < t45.length)=True:=eq_true zb17
    (try rw [show ((0:Int)).toNat=0 from rfl] at hx50_0)
    (try rw [Addr.add_zero'] at hx50_0)
    replace p50:=eq_true p50
    replace q50:=eq_true q50
    have p52:0 ≤ (0:Int):=zb17
    have q52:0 < (t45.length:Int):=of_decide_eq_true zb3
    obtain ⟨ad52,e52,hx52_0⟩:=Kd.at_string (Kd.R_reads' HO51.out).2.2 0 p52 q52
    obtain rfl:ad47=ad52:=(by injection e52)
    have qi52:(0 < t45.length)=True:=eq_true zb17
    (try rw [show ((0:Int)).toNat=0 from rfl] at hx52_0)
    (try rw [Addr.add_zero'] at hx52_0)
    replace p52:=eq_true p52
    replace q52:=eq_true q52
    have p53:0 ≤ (1:Int):=zb17
    have q53:1 < (t45.length:Int):=of_decide_eq_true zb3
    obtain ⟨ad53,e53,hx53_0⟩:=Kd.at_string (Kd.R_reads' HO51.out).2.2 1 p53 q53
    obtain rfl:ad47=ad53:=(by injection e53)
    (try simp only [show (1:Int).toNat=1 from rfl,Nat.reduceMul,Nat.reduceEqDiff,Go.Addr.add,↓reduceIte] at hx53_0)
    have qi53:(1 < t45.length)=True:=eq_true zb17
    (try rw [show ((1:Int)).toNat=1 from rfl] at hx53_0)
    replace p53:=eq_true p53
    replace q53:=eq_true q53
    refine start_ (n:=27) (S:=fun w' => w'.cell? ad47=some (.string (rdOf ByteArray.empty t45 0))∧w'.cell? ad47=some (.string (rdOf ByteArray.empty t45 0))∧w'.cell? ad47=some (.string (rdOf ByteArray.empty t45 0))∧w'.cell? ⟨ad47.block,ad47.off + 1,none⟩=some (.string (rdOf ByteArray.empty t45 1))) (ds:=[]) (zl 27 0) zb7 rfl rfl ⟨hx47_0,hx50_0,hx52_0,hx53_0⟩ (fun hHeld=>?_);refine with_tabW line_Request.tab2 line_Request.bits2 (fun HT_ HW_=>?_)
    generalize w5.drew=w15 at HO51 BK44 HB hx47_0 hx50_0 hx52_0 hx53_0 hHeld ⊢
    refine zpu 0 (N:=some 9) (zl 27 1) HT_.out rfl rfl ?_
    refine zpu 1 (N:=some 10) (zl 27 3) HT_.out rfl rfl ?_
    refine zpu 2 (N:=some 11) (zl 27 7) HT_.out rfl rfl ?_
    refine zpu 3 (N:=some 12) (zl 27 15) HT_.out rfl rfl ?_
    refine zpu 4 (N:=some 13) (zl 27 31) HT_.out rfl rfl ?_
    refine zpu 5 (N:=some 14) (zl 27 63) HT_.out rfl rfl ?_
    refine take_ (i:=6) (N:=some 15) (v:=?_) (a' := ?_) (zl 27 127) rfl rfl (take_ofW HT_.out HW_.out zb7) (fun _ _ _ h=>h) (Or.inl ⟨zb45,?_⟩) hHeld ?_ ?_
    rotate_left
    ·rintro w' ⟨s0,s1,s2,s3⟩;go_simp;with_reducible rfl
    rotate_left
    ·simp only [Act.put,zqA,zqB,zqC,i64_w,i32_w];rfl
    refine zpu 7 (N:=some 16) (zl 27 255) HT_.out rfl rfl ?_
    refine zpu 8 (N:=some 17) (zl 27 511) HT_.out rfl rfl ?_
    refine zpu 9 (N:=some 18) (zl 27 1023) HT_.out rfl rfl ?_
    refine zpu 10 (N:=some 19) (zl 27 2047) HT_.out rfl rfl ?_
    refine zpu 11 (N:=some 20) (zl 27 4095) HT_.out rfl rfl ?_
    refine zpu 12 (N:=some 21) (zl 27 8191) HT_.out rfl rfl ?_
    refine take_ (i:=13) (N:=some 22) (v:=?_) (a' := ?_) (zl 27 16383) rfl rfl (take_ofW HT_.out HW_.out zb7) (fun _ _ _ h=>h) (Or.inl ⟨zb45,?_⟩) hHeld ?_ ?_
    rotate_left
    ·rintro w' ⟨s0,s1,s2,s3⟩;go_simp;with_reducible rfl
    rotate_left
    ·simp only [Act.put,zqA,zqB,zqC,i64_w,i32_w];rfl
    refine one_ (i:=14) (N:=some 23) (zl 27 32767) rfl rfl (one_of HT_.out zb7) zb47 (fun K hK=>?_)
    refine goes_ Tryz.func117 zb7 rfl #[.string (rdOf ByteArray.empty t45 0)] zb45 rfl rfl zb1 ?_
    with_reducible refine (sign_Token.calls (rdOf ByteArray.empty t45 0) true _ A11.out).mono ?_
    rintro e w' ⟨rfl,⟨nd,rfl⟩⟩
    refine ⟨_,rfl,?_⟩
    refine hK.out _ _ ⟨hHeld.1,hHeld.2.1,hHeld.2.2.1,hHeld.2.2.2⟩ (fun hHeld=>?_)
    clear hK K
    refine norm_ (a' := ?_) ?_ ?_
    rotate_left
    ·show Act.put _ (some 23) _=_
     simp only [Act.put,zqA,zqB,zqC,i64_w,i32_w]
     rfl
    refine zpu 15 (N:=some 24) (zl 27 65535) HT_.out rfl rfl ?_
    refine zpu 16 (N:=some 25) (zl 27 131071) HT_.out rfl rfl ?_
    refine zpu 17 (N:=some 26) (zl 27 262143) HT_.out rfl rfl ?_
    refine zpu 18 (N:=some 27) (zl 27 524287) HT_.out rfl rfl ?_
    refine zpu 19 (N:=some 28) (zl 27 1048575) HT_.out rfl rfl ?_
    refine zpu 21 (N:=some 30) (zl 27 3145727) HT_.out rfl rfl ?_
    refine zpu 22 (N:=some 31) (zl 27 7340031) HT_.out rfl rfl ?_
    refine take_ (i:=20) (N:=some 29) (v:=?_) (a' := ?_) (zl 27 8388607) rfl rfl (take_ofW HT_.out HW_.out zb7) (fun _ _ _ h=>h) (Or.inl ⟨zb45,?_⟩) hHeld ?_ ?_
    rotate_left
    ·rintro w' ⟨s0,s1,s2,s3⟩;go_simp;with_reducible rfl
    rotate_left
    ·simp only [Act.put,zqA,zqB,zqC,i64_w,i32_w];rfl
    refine take_ (i:=23) (N:=some 32) (v:=?_) (a' := ?_) (zl 27 16777215) rfl rfl (take_ofW HT_.out HW_.out zb7) (fun _ _ _ h=>h) (Or.inl ⟨zb45,?_⟩) hHeld ?_ ?_
    rotate_left
    ·rintro w' ⟨s0,s1,s2,s3⟩;go_simp;with_reducible rfl
    rotate_left
    ·simp only [Act.put,zqA,zqB,zqC,i64_w,i32_w];rfl
    refine one_ (i:=24) (N:=some 33) (zl 27 33554431) rfl rfl (one_of HT_.out zb7) zb47 (fun K hK=>?_)
    refine goes_ Tryz.func118 zb7 rfl #[.string (rdOf ByteArray.empty t45 0),.string (rdOf ByteArray.empty t45 1)] zb45 rfl rfl zb1 ?_
    with_reducible refine (line_target.calls (rdOf ByteArray.empty t45 0) (rdOf ByteArray.empty t45 1) t57 _ A14.out).mono ?_
    rintro e w' ⟨rfl,⟨nd,rfl⟩⟩
    refine ⟨_,rfl,?_⟩
    refine hK.out _ _ ⟨hHeld.1,hHeld.2.1,hHeld.2.2.1,hHeld.2.2.2⟩ (fun hHeld=>?_)
    clear hK K
    refine norm_ (a' := ?_) ?_ ?_
    rotate_left
    ·show Act.put _ (some 33) _=_
     simp only [Act.put,zqA,zqB,zqC,i64_w,i32_w]
     rfl
    refine zpu 25 (N:=some 34) (zl 27 67108863) HT_.out rfl rfl ?_
    refine zpu 26 (N:=some 35) (zl 27 134217727) HT_.out rfl rfl ?_
    refine done_ (done_of HT_.out zb7) ?_
    try go_wp2
    go_meet
    case rel=>exact ⟨_,(!t57),zb5,H',⟨zb77⟩,⟨zb116⟩,⟨zb96⟩,⟨zb28⟩⟩
   ·rw [if_neg c13] at H
    exact absurd H zb44
  ·rw [if_neg c7] at H
   exact absurd H zb44
 case rest =>
  clear HC3
  try clear c1
  try clear p1
  try clear q1
  try clear hx1
  try clear qi1
  try clear p2
  try clear c6
  try clear c6b0
  try clear c6b1
  try clear c7
  try clear c11
  try clear c12
  try clear c13
  try clear p15
  try clear q15
  try clear hx15
  try clear qi15
  try clear hx47_0
  try clear hx50_0
  try clear p47
  try clear p50
  try clear q47
  try clear q50
  obtain ⟨kq,x35_2,rfl,HA,HJ2,HO_4,BK44,HB⟩:=hcut
  cases kq with
  | zero=>exact absurd HA.out (by simp [line_Request.j0])
  | succ kj2 =>
   have H:=HA.out
   clear HA
   simp only [line_Request.j0] at H
   by_cases c21:x35_2=true
   ·subst c21
    rw [if_pos rfl] at H
    simp only [Option.some.injEq,Prod.mk.injEq] at H
    obtain ⟨rfl,rfl,rfl,rfl,rfl,rfl⟩:=H
    obtain ⟨hcz22_0,hcz22_1,hcz22_2,hcz22_3,hcz22_4,hfz22_0,hfz22_1,hfz22_2,hfz22_3,hfz22_4⟩:=zq5 BK44.out
    go_wp2
    refine bodyPost_ret (results_ct rfl _ _ gb44 26 #[.string (⟨#[]⟩:ByteArray),.string (⟨#[]⟩:ByteArray),.int .i64 0,.slice none 0 0,.slice none 0 0] (0,0) _ rfl zb10 Tryz.underlying26 rfl zb7) rfl ?_
    exact ⟨_,_,zb2,zb12,zb12,zb28⟩
   replace c21:=Bool.eq_false_iff.mpr c21
   subst c21
   rw [if_neg (show ¬ (false=true) by decide)] at H
   by_cases c23:2 < (t45.length:Int);rotate_left
   ·rw [if_neg c23] at H
    exact absurd H zb44
   rw [if_pos c23] at H
   have c23b0:=decide_eq_true c23
   have c23b1:decide (2 < t45.length)=true:=decide_eq_true zb17
   clear c23
   replace H:=Option.bind_eq_some_iff.mp H
   obtain ⟨⟨t56,t59⟩,A63,H⟩:=H
   try dsimp only at H
   have A24:=Aside0.mk A63
   clear A63
   by_cases c25:1 < (t45.length:Int)
   ·rw [if_pos c25] at H
    have c25b0:=decide_eq_true c25
    have c25b1:decide (1 < t45.length)=true:=decide_eq_true zb17
    clear c25
    by_cases c26:((rdOf ByteArray.empty t45 1).size:Int) > 512
    ·rw [if_pos c26] at H
     have c26b0:decide (512 < ((rdOf ByteArray.empty t45 1).size:Int))=true:=decide_eq_true c26
     have c26b1:decide (512 < (rdOf ByteArray.empty t45 1).size)=true:=decide_eq_true zb17
     clear c26
     simp only [Option.some.injEq,Prod.mk.injEq] at H
     obtain ⟨rfl,rfl,rfl,rfl,rfl,rfl⟩:=H
     obtain ⟨Ao27,co27,eo27⟩:=Kd.R_slice HO_4.out
     subst eo27
     have p46:0 ≤ (2:Int):=zb17
     have q46:2 < (t45.length:Int):=of_decide_eq_true zb3
     obtain ⟨ad46,e46,hx46_0⟩:=Kd.at_string (Kd.R_reads' HO_4.out).2.2 2 p46 q46
     cases e46
     (try simp only [show (2:Int).toNat=2 from rfl,Nat.reduceMul,Nat.reduceEqDiff,Go.Addr.add,↓reduceIte] at hx46_0)
     have qi46:(2 < t45.length)=True:=eq_true zb17
     (try rw [show ((2:Int)).toNat=2 from rfl] at hx46_0)
     replace p46:=eq_true p46
     replace q46:=eq_true q46
     go_wp2_with (first|((with_reducible refine gate_callee (f:=111) rfl ?_);refine goesL_ (some 41) rfl rfl Tryz.func111 zb7 rfl #[.string (rdOf ByteArray.empty t45 2)] rfl zb1 ?_;(with_reducible refine (line_minor.calls (rdOf ByteArray.empty t45 2) t56 t59 _ A24.out).mono ?_);rintro e w' ⟨rfl,⟨nd,rfl⟩⟩;(try clear A24);refine ⟨_,rfl,?_⟩;(try (rw [drewN_self wc];generalize hq_:World.drewN wc _=wc;have n0_:Aside0 (Kd.R Kd.string 9 wc w.heap.size (fun _=>True) (.slice (some ad46) t45.length co27) t45):=⟨zb72⟩;have n1_:Aside0 (wc.heap[gb44]? = some (.cells #[.string (⟨#[]⟩:ByteArray),.string (⟨#[]⟩:ByteArray),.int .i64 0,.slice none 0 0,.slice none 0 0] 26 (0,0))):=⟨zb63⟩;have n2_:Aside0 (Below w.heap.size w wc):=⟨zb43⟩;clear HO_4 BK44 HB hq_;have HO_4:=n0_;have BK44:=n1_;have HB:=n2_;clear n0_ n1_ n2_));have p48:0 ≤ (1:Int):=zb17;have q48:1 < (t45.length:Int):=of_decide_eq_true zb3;obtain ⟨ad48,e48,hx48_0⟩:=Kd.at_string (Kd.R_reads' HO_4.out).2.2 1 p48 q48;obtain rfl:ad46=ad48:=(by injection e48);(try simp only [show (1:Int).toNat=1 from rfl,Nat.reduceMul,Nat.reduceEqDiff,Go.Addr.add,↓reduceIte] at hx48_0);have qi48:(1 < t45.length)=True:=eq_true zb17;(try rw [show ((1:Int)).toNat=1 from rfl] at hx48_0);replace p48:=eq_true p48;replace q48:=eq_true q48;obtain ⟨hcz28_0,hcz28_1,hcz28_2,hcz28_3,hcz28_4,hfz28_0,hfz28_1,hfz28_2,hfz28_3,hfz28_4⟩:=zq5 BK44.out))
     refine bodyPost_ret (results_ct rfl _ _ gb44 26 #[.string (⟨#[]⟩:ByteArray),.string (⟨#[]⟩:ByteArray),.int .i64 0,.slice none 0 0,.slice none 0 0] (0,0) _ rfl zb10 Tryz.underlying26 rfl zb7) rfl ?_
     exact ⟨_,_,zb2,zb12,zb12,zb28⟩
    rw [if_neg c26] at H
    have c26b0:decide (512 < ((rdOf ByteArray.empty t45 1).size:Int))=false:=decide_eq_false c26
    have c26b1:decide (512 < (rdOf ByteArray.empty t45 1).size)=false:=decide_eq_false zb17
    clear c26
    replace H:=Option.bind_eq_some_iff.mp H
    obtain ⟨t60,A65,H⟩:=H
    try dsimp only at H
    have A29:=Aside0.mk A65
    clear A65
    by_cases c30:t60=true;rotate_left
    ·replace c30:=Bool.eq_false_iff.mpr c30
     subst c30
     rw [if_neg (show ¬ (false=true) by decide)] at H
     simp only [Option.some.injEq,Prod.mk.injEq] at H
     obtain ⟨rfl,rfl,rfl,rfl,rfl,rfl⟩:=H
     obtain ⟨Ao42,co42,eo42⟩:=Kd.R_slice HO_4.out
     subst eo42
     have p46:0 ≤ (2:Int):=zb17
     have q46:2 < (t45.length:Int):=of_decide_eq_true zb3
     obtain ⟨ad46,e46,hx46_0⟩:=Kd.at_string (Kd.R_reads' HO_4.out).2.2 2 p46 q46
     cases e46
     (try simp only [show (2:Int).toNat=2 from rfl,Nat.reduceMul,Nat.reduceEqDiff,Go.Addr.add,↓reduceIte] at hx46_0)
     have qi46:(2 < t45.length)=True:=eq_true zb17
     (try rw [show ((2:Int)).toNat=2 from rfl] at hx46_0)
     replace p46:=eq_true p46
     replace q46:=eq_true q46
     go_wp2_with (first|((with_reducible refine gate_callee (f:=111) rfl ?_);refine goesL_ (some 41) rfl rfl Tryz.func111 zb7 rfl #[.string (rdOf ByteArray.empty t45 2)] rfl zb1 ?_;(with_reducible refine (line_minor.calls (rdOf ByteArray.empty t45 2) t56 t59 _ A24.out).mono ?_);rintro e w' ⟨rfl,⟨nd,rfl⟩⟩;(try clear A24);refine ⟨_,rfl,?_⟩;(try (rw [drewN_self wc];generalize hq_:World.drewN wc _=wc;have n0_:Aside0 (Kd.R Kd.string 9 wc w.heap.size (fun _=>True) (.slice (some ad46) t45.length co42) t45):=⟨zb72⟩;have n1_:Aside0 (wc.heap[gb44]? = some (.cells #[.string (⟨#[]⟩:ByteArray),.string (⟨#[]⟩:ByteArray),.int .i64 0,.slice none 0 0,.slice none 0 0] 26 (0,0))):=⟨zb63⟩;have n2_:Aside0 (Below w.heap.size w wc):=⟨zb43⟩;clear HO_4 BK44 HB hq_;have HO_4:=n0_;have BK44:=n1_;have HB:=n2_;clear n0_ n1_ n2_));have p48:0 ≤ (1:Int):=zb17;have q48:1 < (t45.length:Int):=of_decide_eq_true zb3;obtain ⟨ad48,e48,hx48_0⟩:=Kd.at_string (Kd.R_reads' HO_4.out).2.2 1 p48 q48;obtain rfl:ad46=ad48:=(by injection e48);(try simp only [show (1:Int).toNat=1 from rfl,Nat.reduceMul,Nat.reduceEqDiff,Go.Addr.add,↓reduceIte] at hx48_0);have qi48:(1 < t45.length)=True:=eq_true zb17;(try rw [show ((1:Int)).toNat=1 from rfl] at hx48_0);replace p48:=eq_true p48;replace q48:=eq_true q48;have p49:0 ≤ (2:Int):=zb17;have q49:2 < (t45.length:Int):=of_decide_eq_true zb3;obtain ⟨ad49,e49,hx49_0⟩:=Kd.at_string (Kd.R_reads' HO_4.out).2.2 2 p49 q49;obtain rfl:ad46=ad49:=(by injection e49);(try simp only [show (2:Int).toNat=2 from rfl,Nat.reduceMul,Nat.reduceEqDiff,Go.Addr.add,↓reduceIte] at hx49_0);have qi49:(2 < t45.length)=True:=eq_true zb17;(try rw [show ((2:Int)).toNat=2 from rfl] at hx49_0);replace p49:=eq_true p49;replace q49:=eq_true q49)|((with_reducible refine gate_callee (f:=119) rfl ?_);refine goesL_ (some 55) rfl rfl Tryz.func119 zb7 rfl #[.string (rdOf ByteArray.empty t45 2)] rfl zb1 ?_;(with_reducible refine (line_numbered.calls (rdOf ByteArray.empty t45 2) false _ A29.out).mono ?_);rintro e w' ⟨rfl,⟨nd,rfl⟩⟩;(try clear A29);refine ⟨_,rfl,?_⟩;(try (rw [drewN_self wc];generalize hq_:World.drewN wc _=wc;have n0_:Aside0 (Kd.R Kd.string 9 wc w.heap.size (fun _=>True) (.slice (some ad46) t45.length co42) t45):=⟨zb72⟩;have n1_:Aside0 (wc.heap[gb44]? = some (.cells #[.string (⟨#[]⟩:ByteArray),.string (⟨#[]⟩:ByteArray),.int .i64 0,.slice none 0 0,.slice none 0 0] 26 (0,0))):=⟨zb63⟩;have n2_:Aside0 (Below w.heap.size w wc):=⟨zb43⟩;clear HO_4 BK44 HB hq_;have HO_4:=n0_;have BK44:=n1_;have HB:=n2_;clear n0_ n1_ n2_));obtain ⟨hcz43_0,hcz43_1,hcz43_2,hcz43_3,hcz43_4,hfz43_0,hfz43_1,hfz43_2,hfz43_3,hfz43_4⟩:=zq5 BK44.out))
     refine bodyPost_ret (results_ct rfl _ _ gb44 26 #[.string (⟨#[]⟩:ByteArray),.string (⟨#[]⟩:ByteArray),.int .i64 0,.slice none 0 0,.slice none 0 0] (0,0) _ rfl zb10 Tryz.underlying26 rfl zb7) rfl ?_
     exact ⟨_,_,zb2,zb12,zb12,zb28⟩
    subst c30
    rw [if_pos rfl] at H
    by_cases c31:t59=true
    ·subst c31
     rw [if_pos rfl] at H
     by_cases c32:0 < (t45.length:Int);rotate_left
     ·rw [if_neg c32] at H
      exact absurd H zb44
     rw [if_pos c32] at H
     have c32b0:=decide_eq_true c32
     have c32b1:decide (0 < t45.length)=true:=decide_eq_true zb17
     clear c32
     simp only [Option.some.injEq,Prod.mk.injEq] at H
     obtain ⟨rfl,rfl,rfl,rfl,rfl,rfl⟩:=H
     obtain ⟨Ao33,co33,eo33⟩:=Kd.R_slice HO_4.out
     subst eo33
     have p46:0 ≤ (2:Int):=zb17
     have q46:2 < (t45.length:Int):=of_decide_eq_true zb3
     obtain ⟨ad46,e46,hx46_0⟩:=Kd.at_string (Kd.R_reads' HO_4.out).2.2 2 p46 q46
     cases e46
     (try simp only [show (2:Int).toNat=2 from rfl,Nat.reduceMul,Nat.reduceEqDiff,Go.Addr.add,↓reduceIte] at hx46_0)
     have qi46:(2 < t45.length)=True:=eq_true zb17
     (try rw [show ((2:Int)).toNat=2 from rfl] at hx46_0)
     replace p46:=eq_true p46
     replace q46:=eq_true q46
     try go_wp2_with (first|((with_reducible refine gate_callee (f:=111) rfl ?_);refine goesL_ (some 41) rfl rfl Tryz.func111 zb7 rfl #[.string (rdOf ByteArray.empty t45 2)] rfl zb1 ?_;(with_reducible refine (line_minor.calls (rdOf ByteArray.empty t45 2) t56 true _ A24.out).mono ?_);rintro e w' ⟨rfl,⟨nd,rfl⟩⟩;(try clear A24);refine ⟨_,rfl,?_⟩;(try (rw [drewN_self wc];generalize hq_:World.drewN wc _=wc;have n0_:Aside0 (Kd.R Kd.string 9 wc w.heap.size (fun _=>True) (.slice (some ad46) t45.length co33) t45):=⟨zb72⟩;have n1_:Aside0 (wc.heap[gb44]? = some (.cells #[.string (⟨#[]⟩:ByteArray),.string (⟨#[]⟩:ByteArray),.int .i64 0,.slice none 0 0,.slice none 0 0] 26 (0,0))):=⟨zb63⟩;have n2_:Aside0 (Below w.heap.size w wc):=⟨zb43⟩;clear HO_4 BK44 HB hq_;have HO_4:=n0_;have BK44:=n1_;have HB:=n2_;clear n0_ n1_ n2_));have p48:0 ≤ (1:Int):=zb17;have q48:1 < (t45.length:Int):=of_decide_eq_true zb3;obtain ⟨ad48,e48,hx48_0⟩:=Kd.at_string (Kd.R_reads' HO_4.out).2.2 1 p48 q48;obtain rfl:ad46=ad48:=(by injection e48);(try simp only [show (1:Int).toNat=1 from rfl,Nat.reduceMul,Nat.reduceEqDiff,Go.Addr.add,↓reduceIte] at hx48_0);have qi48:(1 < t45.length)=True:=eq_true zb17;(try rw [show ((1:Int)).toNat=1 from rfl] at hx48_0);replace p48:=eq_true p48;replace q48:=eq_true q48;have p49:0 ≤ (2:Int):=zb17;have q49:2 < (t45.length:Int):=of_decide_eq_true zb3;obtain ⟨ad49,e49,hx49_0⟩:=Kd.at_string (Kd.R_reads' HO_4.out).2.2 2 p49 q49;obtain rfl:ad46=ad49:=(by injection e49);(try simp only [show (2:Int).toNat=2 from rfl,Nat.reduceMul,Nat.reduceEqDiff,Go.Addr.add,↓reduceIte] at hx49_0);have qi49:(2 < t45.length)=True:=eq_true zb17;(try rw [show ((2:Int)).toNat=2 from rfl] at hx49_0);replace p49:=eq_true p49;replace q49:=eq_true q49)|((with_reducible refine gate_callee (f:=119) rfl ?_);refine goesL_ (some 55) rfl rfl Tryz.func119 zb7 rfl #[.string (rdOf ByteArray.empty t45 2)] rfl zb1 ?_;(with_reducible refine (line_numbered.calls (rdOf ByteArray.empty t45 2) true _ A29.out).mono ?_);rintro e w' ⟨rfl,⟨nd,rfl⟩⟩;(try clear A29);refine ⟨_,rfl,?_⟩;(try (rw [drewN_self wc];generalize hq_:World.drewN wc _=wc;have n0_:Aside0 (Kd.R Kd.string 9 wc w.heap.size (fun _=>True) (.slice (some ad46) t45.length co33) t45):=⟨zb72⟩;have n1_:Aside0 (wc.heap[gb44]? = some (.cells #[.string (⟨#[]⟩:ByteArray),.string (⟨#[]⟩:ByteArray),.int .i64 0,.slice none 0 0,.slice none 0 0] 26 (0,0))):=⟨zb63⟩;have n2_:Aside0 (Below w.heap.size w wc):=⟨zb43⟩;clear HO_4 BK44 HB hq_;have HO_4:=n0_;have BK44:=n1_;have HB:=n2_;clear n0_ n1_ n2_))))
     replace HO_4:=Aside0.mk (Kd.R_drew HO_4.out)
     replace BK44:=Aside0.mk (blk_drew BK44.out)
     replace HB:=Aside0.mk (below_drew1 HB.out)
     have p54:0 ≤ (0:Int):=zb17
     have q54:0 < (t45.length:Int):=of_decide_eq_true zb3
     obtain ⟨ad54,e54,hx54_0⟩:=Kd.at_string (Kd.R_reads' HO_4.out).2.2 0 p54 q54
     obtain rfl:ad46=ad54:=(by injection e54)
     have qi54:(0 < t45.length)=True:=eq_true zb17
     (try rw [show ((0:Int)).toNat=0 from rfl] at hx54_0)
     (try rw [Addr.add_zero'] at hx54_0)
     replace p54:=eq_true p54
     replace q54:=eq_true q54
     have p55:0 ≤ (1:Int):=zb17
     have q55:1 < (t45.length:Int):=of_decide_eq_true zb3
     obtain ⟨ad55,e55,hx55_0⟩:=Kd.at_string (Kd.R_reads' HO_4.out).2.2 1 p55 q55
     obtain rfl:ad46=ad55:=(by injection e55)
     (try simp only [show (1:Int).toNat=1 from rfl,Nat.reduceMul,Nat.reduceEqDiff,Go.Addr.add,↓reduceIte] at hx55_0)
     have qi55:(1 < t45.length)=True:=eq_true zb17
     (try rw [show ((1:Int)).toNat=1 from rfl] at hx55_0)
     replace p55:=eq_true p55
     replace q55:=eq_true q55
     refine start_ (n:=10) (S:=fun w' => w'.cell? ad46=some (.string (rdOf ByteArray.empty t45 0))∧w'.cell? ⟨ad46.block,ad46.off + 1,none⟩=some (.string (rdOf ByteArray.empty t45 1))) (ds:=[]) (zl 10 0) zb7 rfl rfl ⟨hx54_0,hx55_0⟩ (fun hHeld=>?_);refine with_tabW line_Request.tab11 line_Request.bits11 (fun HT_ HW_=>?_)
     generalize wc.drew=w34 at HO_4 BK44 HB hx54_0 hx55_0 hHeld ⊢
     refine zpu 0 (N:=some 62) (zl 10 1) HT_.out rfl rfl ?_
     refine zpu 1 (N:=some 63) (zl 10 3) HT_.out rfl rfl ?_
     refine zpu 3 (N:=some 65) (zl 10 11) HT_.out rfl rfl ?_
     refine zpu 4 (N:=some 66) (zl 10 27) HT_.out rfl rfl ?_
     refine zpu 6 (N:=some 68) (zl 10 91) HT_.out rfl rfl ?_
     refine take_ (i:=2) (N:=some 64) (v:=?_) (a' := ?_) (zl 10 95) rfl rfl (take_ofW HT_.out HW_.out zb7) (fun _ _ _ h=>h) (Or.inl ⟨zb45,?_⟩) hHeld ?_ ?_
     rotate_left
     ·rintro w' ⟨s0,s1⟩;go_simp;with_reducible rfl
     rotate_left
     ·simp only [Act.put,zqA,zqB,zqC,i64_w,i32_w];rfl
     refine take_ (i:=5) (N:=some 67) (v:=?_) (a' := ?_) (zl 10 127) rfl rfl (take_ofW HT_.out HW_.out zb7) (fun _ _ _ h=>h) (Or.inl ⟨zb45,?_⟩) hHeld ?_ ?_
     rotate_left
     ·rintro w' ⟨s0,s1⟩;go_simp;with_reducible rfl
     rotate_left
     ·simp only [Act.put,zqA,zqB,zqC,i64_w,i32_w];rfl
     refine zpu 7 (N:=some 69) (zl 10 255) HT_.out rfl rfl ?_
     refine one_ (i:=8) (N:=none) (zl 10 511) rfl rfl (one_of HT_.out zb7) zb47 (fun K hK=>?_)
     have hs35:w34.cell? ⟨gb44,0,none⟩=some (.string (⟨#[]⟩:ByteArray)):=(blk_cell BK44.out 0).trans rfl
     have hfs35:=blk_frozen BK44.out 0
     have hs36:w34.cell? ⟨gb44,1,none⟩=some (.string (⟨#[]⟩:ByteArray)):=(blk_cell BK44.out 1).trans rfl
     have hfs36:=blk_frozen BK44.out 1
     have hs37:w34.cell? ⟨gb44,2,none⟩=some (.int .i64 0):=(blk_cell BK44.out 2).trans rfl
     have hfs37:=blk_frozen BK44.out 2
     have hs38:w34.cell? ⟨gb44,3,none⟩=some (.slice none 0 0):=(blk_cell BK44.out 3).trans rfl
     have hfs38:=blk_frozen BK44.out 3
     have hs39:w34.cell? ⟨gb44,4,none⟩=some (.slice none 0 0):=(blk_cell BK44.out 4).trans rfl
     have hfs39:=blk_frozen BK44.out 4
     refine skip_ (w1:=?_) zb45 rfl ?_ ?_
     rotate_left
     ·go_simp
      rfl
     refine hK.out _ _ ⟨((cell_far (p:=⟨gb44,_,none⟩) zb13 _).trans (((cell_far (p:=⟨gb44,_,none⟩) zb13 _).trans (((cell_far (p:=⟨gb44,_,none⟩) zb13 _).trans (((cell_far (p:=⟨gb44,_,none⟩) zb13 _).trans (((cell_far (p:=⟨gb44,_,none⟩) zb13 _).trans (hHeld.1)))))))))),((cell_far (p:=⟨gb44,_,none⟩) zb13 _).trans (((cell_far (p:=⟨gb44,_,none⟩) zb13 _).trans (((cell_far (p:=⟨gb44,_,none⟩) zb13 _).trans (((cell_far (p:=⟨gb44,_,none⟩) zb13 _).trans (((cell_far (p:=⟨gb44,_,none⟩) zb13 _).trans (hHeld.2))))))))))⟩ (fun hHeld=>?_)
     clear hK K
     refine zpu 9 (N:=some 3) (zl 10 1023) HT_.out rfl rfl ?_
     refine done_ (done_of HT_.out zb7) ?_
     try go_wp2
     refine bodyPost_ret (results_ct rfl _ _ gb44 26 #[.string (rdOf ByteArray.empty t45 0),.string (rdOf ByteArray.empty t45 1),.int .i64 t56,.slice none 0 0,.slice none 0 0] (0,0) _ rfl (by (with_reducible repeat (first|refine blk_drewN ?_ _|refine blk_drew ?_|refine blk_alloc ?_ _));refine blk_put (cs:=#[.string (rdOf ByteArray.empty t45 0),.string (rdOf ByteArray.empty t45 1),.int .i64 t56,.slice none 0 0,.slice none 0 0]) ?_ 4 _ rfl;(with_reducible repeat (first|refine blk_drewN ?_ _|refine blk_drew ?_|refine blk_alloc ?_ _));refine blk_put (cs:=#[.string (rdOf ByteArray.empty t45 0),.string (rdOf ByteArray.empty t45 1),.int .i64 t56,.slice none 0 0,.slice none 0 0]) ?_ 3 _ rfl;(with_reducible repeat (first|refine blk_drewN ?_ _|refine blk_drew ?_|refine blk_alloc ?_ _));refine blk_put (cs:=#[.string (rdOf ByteArray.empty t45 0),.string (rdOf ByteArray.empty t45 1),.int .i64 0,.slice none 0 0,.slice none 0 0]) ?_ 2 _ rfl;(with_reducible repeat (first|refine blk_drewN ?_ _|refine blk_drew ?_|refine blk_alloc ?_ _));refine blk_put (cs:=#[.string (rdOf ByteArray.empty t45 0),.string (⟨#[]⟩:ByteArray),.int .i64 0,.slice none 0 0,.slice none 0 0]) ?_ 1 _ rfl;(with_reducible repeat (first|refine blk_drewN ?_ _|refine blk_drew ?_|refine blk_alloc ?_ _));refine blk_put (cs:=#[.string (⟨#[]⟩:ByteArray),.string (⟨#[]⟩:ByteArray),.int .i64 0,.slice none 0 0,.slice none 0 0]) ?_ 0 _ rfl;(with_reducible repeat (first|refine blk_drewN ?_ _|refine blk_drew ?_|refine blk_alloc ?_ _));exact BK44.out) Tryz.underlying26 rfl zb7) rfl ?_
     exact ⟨_,_,zb2,zb12,zb12,zb28⟩
    ·replace c31:=Bool.eq_false_iff.mpr c31
     subst c31
     rw [if_neg (show ¬ (false=true) by decide)] at H
     simp only [Option.some.injEq,Prod.mk.injEq] at H
     obtain ⟨rfl,rfl,rfl,rfl,rfl,rfl⟩:=H
     obtain ⟨Ao40,co40,eo40⟩:=Kd.R_slice HO_4.out
     subst eo40
     have p46:0 ≤ (2:Int):=zb17
     have q46:2 < (t45.length:Int):=of_decide_eq_true zb3
     obtain ⟨ad46,e46,hx46_0⟩:=Kd.at_string (Kd.R_reads' HO_4.out).2.2 2 p46 q46
     cases e46
     (try simp only [show (2:Int).toNat=2 from rfl,Nat.reduceMul,Nat.reduceEqDiff,Go.Addr.add,↓reduceIte] at hx46_0)
     have qi46:(2 < t45.length)=True:=eq_true zb17
     (try rw [show ((2:Int)).toNat=2 from rfl] at hx46_0)
     replace p46:=eq_true p46
     replace q46:=eq_true q46
     go_wp2_with (first|((with_reducible refine gate_callee (f:=111) rfl ?_);refine goesL_ (some 41) rfl rfl Tryz.func111 zb7 rfl #[.string (rdOf ByteArray.empty t45 2)] rfl zb1 ?_;(with_reducible refine (line_minor.calls (rdOf ByteArray.empty t45 2) t56 false _ A24.out).mono ?_);rintro e w' ⟨rfl,⟨nd,rfl⟩⟩;(try clear A24);refine ⟨_,rfl,?_⟩;(try (rw [drewN_self wc];generalize hq_:World.drewN wc _=wc;have n0_:Aside0 (Kd.R Kd.string 9 wc w.heap.size (fun _=>True) (.slice (some ad46) t45.length co40) t45):=⟨zb72⟩;have n1_:Aside0 (wc.heap[gb44]? = some (.cells #[.string (⟨#[]⟩:ByteArray),.string (⟨#[]⟩:ByteArray),.int .i64 0,.slice none 0 0,.slice none 0 0] 26 (0,0))):=⟨zb63⟩;have n2_:Aside0 (Below w.heap.size w wc):=⟨zb43⟩;clear HO_4 BK44 HB hq_;have HO_4:=n0_;have BK44:=n1_;have HB:=n2_;clear n0_ n1_ n2_));have p48:0 ≤ (1:Int):=zb17;have q48:1 < (t45.length:Int):=of_decide_eq_true zb3;obtain ⟨ad48,e48,hx48_0⟩:=Kd.at_string (Kd.R_reads' HO_4.out).2.2 1 p48 q48;obtain rfl:ad46=ad48:=(by injection e48);(try simp only [show (1:Int).toNat=1 from rfl,Nat.reduceMul,Nat.reduceEqDiff,Go.Addr.add,↓reduceIte] at hx48_0);have qi48:(1 < t45.length)=True:=eq_true zb17;(try rw [show ((1:Int)).toNat=1 from rfl] at hx48_0);replace p48:=eq_true p48;replace q48:=eq_true q48;have p49:0 ≤ (2:Int):=zb17;have q49:2 < (t45.length:Int):=of_decide_eq_true zb3;obtain ⟨ad49,e49,hx49_0⟩:=Kd.at_string (Kd.R_reads' HO_4.out).2.2 2 p49 q49;obtain rfl:ad46=ad49:=(by injection e49);(try simp only [show (2:Int).toNat=2 from rfl,Nat.reduceMul,Nat.reduceEqDiff,Go.Addr.add,↓reduceIte] at hx49_0);have qi49:(2 < t45.length)=True:=eq_true zb17;(try rw [show ((2:Int)).toNat=2 from rfl] at hx49_0);replace p49:=eq_true p49;replace q49:=eq_true q49)|((with_reducible refine gate_callee (f:=119) rfl ?_);refine goesL_ (some 55) rfl rfl Tryz.func119 zb7 rfl #[.string (rdOf ByteArray.empty t45 2)] rfl zb1 ?_;(with_reducible refine (line_numbered.calls (rdOf ByteArray.empty t45 2) true _ A29.out).mono ?_);rintro e w' ⟨rfl,⟨nd,rfl⟩⟩;(try clear A29);refine ⟨_,rfl,?_⟩;(try (rw [drewN_self wc];generalize hq_:World.drewN wc _=wc;have n0_:Aside0 (Kd.R Kd.string 9 wc w.heap.size (fun _=>True) (.slice (some ad46) t45.length co40) t45):=⟨zb72⟩;have n1_:Aside0 (wc.heap[gb44]? = some (.cells #[.string (⟨#[]⟩:ByteArray),.string (⟨#[]⟩:ByteArray),.int .i64 0,.slice none 0 0,.slice none 0 0] 26 (0,0))):=⟨zb63⟩;have n2_:Aside0 (Below w.heap.size w wc):=⟨zb43⟩;clear HO_4 BK44 HB hq_;have HO_4:=n0_;have BK44:=n1_;have HB:=n2_;clear n0_ n1_ n2_));obtain ⟨hcz41_0,hcz41_1,hcz41_2,hcz41_3,hcz41_4,hfz41_0,hfz41_1,hfz41_2,hfz41_3,hfz41_4⟩:=zq5 BK44.out))
     refine bodyPost_ret (results_ct rfl _ _ gb44 26 #[.string (⟨#[]⟩:ByteArray),.string (⟨#[]⟩:ByteArray),.int .i64 0,.slice none 0 0,.slice none 0 0] (0,0) _ rfl zb10 Tryz.underlying26 rfl zb7) rfl ?_
     exact ⟨_,_,zb2,zb12,zb12,zb28⟩
   ·rw [if_neg c25] at H
    exact absurd H zb44
/-- What the request's first line tells: its status. -/
def reqFst (k:Nat) (s:ByteArray):Option Int:=(line_Request.f k s).bind fun x=>some x.2.2.2.2.2
/-- What its block holds: nothing,or the words of the line that was read last. -/
def ReqVal (x:Option ByteArray) (cs:Array Value):Prop:=match x with
 | none=>cs=#[.string ⟨#[]⟩,.string ⟨#[]⟩,.int .i64 0,.slice none 0 0,.slice none 0 0]
 | some s => ∃ (k:Nat) (r1 r2:ByteArray) (r3:Int) (r4:List (S36)) (r5:List Int) (r6:Int),line_Request.f k s=some (r1,r2,r3,r4,r5,r6)∧cs=#[.string r1,.string r2,.int .i64 r3,.slice none 0 0,.slice none 0 0]
theorem ReqVal.form {x:Option ByteArray} {cs:Array Value} (h:ReqVal x cs) : ∃ (m t:ByteArray) (mi:Int),cs=#[.string m,.string t,.int .i64 mi,.slice none 0 0,.slice none 0 0]:=by
 cases x with
 | none=>exact ⟨_,_,_,h⟩
 | some s=>obtain ⟨_,m,t,mi,_,_,_,_,h⟩:=h;exact ⟨m,t,mi,h⟩
theorem opKeep {W w1:World} (G:Nat) (o:Obj) (hb:Below W.heap.size W w1):KeepBut W (w1.alloc o) G none:=keep_alloc ⟨hb.size,fun i hi _ _=>hb.block i hi⟩ o
theorem opSet {w w1:World} {g:Nat} (h:KeepBut w w1 g none) (j:Nat) (u:Value):KeepBut w (w1.setCell ⟨g,j,none⟩ u) g none :=
 ⟨by simpa [World.setCell] using h.1,fun i hi hg hr=>(Below.heap_setCell w1 ⟨g,j,none⟩ u i hg).trans (h.2 i hi hg hr)⟩
set_option maxHeartbeats 4000000 in
set_option maxRecDepth 100000 in
theorem http_open_1.callsOf (G:Nat):FirstOf 75 #[.pointer (some ⟨G,0,none⟩)] reqFst G 26 ReqVal:=by
 intro k W x s c hB h
 unfold reqFst at h
 obtain ⟨⟨r1,r2,r3,r4,r5,r6⟩,hs,h⟩:=Option.bind_eq_some_iff.1 h
 simp only [Option.some.injEq] at h
 subst h
 obtain ⟨cs,hv,hcs⟩:=hB
 obtain ⟨m0,t0,mi0,rfl⟩:=hv.form
 have hu:=Tryz.underlying26
 have HS:=Aside0.mk hs
 have HCS:=Aside0.mk hcs
 clear hs hcs hv
 show Calls Tryz.prog 75 #[.string s,.pointer (some ⟨G,0,none⟩)] W _
 go_enter Tryz.func75,Tryz.ntmps75
 go_wp2_with (go_at_call 76;refine (line_Request.calls k s r1 r2 r3 r4 r5 r6 W HS.out).mono ?_;rintro E w1 ⟨v3,v4,rfl,h3,h4,hb⟩;obtain ⟨A3,c3,rfl⟩:=Kd.R_slice h3;obtain ⟨A4,c4,rfl⟩:=Kd.R_slice h4;have HB:=Aside0.mk hb;have BG:=Aside0.mk (blk_alloc (blk_below HCS.out hb) (.cells #[.string r1,.string r2,.int .i64 r3,.slice A3 r4.length c3,.slice A4 r5.length c4] 26 (0,0)));have hne1 : ¬ (G=w1.heap.size):=Nat.ne_of_lt (blk_lt (blk_below HCS.out hb));have hne2 : ¬ (w1.heap.size=G):=fun e=>hne1 e.symm;have f0:=blk_frozen BG.out 0;have q0:(w1.alloc (.cells #[.string r1,.string r2,.int .i64 r3,.slice A3 r4.length c3,.slice A4 r5.length c4] 26 (0,0))).cell? ⟨G,0,none⟩=some (.string m0):=(blk_cell BG.out 0).trans rfl;have f1:=blk_frozen BG.out 1;have q1:(w1.alloc (.cells #[.string r1,.string r2,.int .i64 r3,.slice A3 r4.length c3,.slice A4 r5.length c4] 26 (0,0))).cell? ⟨G,1,none⟩=some (.string t0):=(blk_cell BG.out 1).trans rfl;have f2:=blk_frozen BG.out 2;have q2:(w1.alloc (.cells #[.string r1,.string r2,.int .i64 r3,.slice A3 r4.length c3,.slice A4 r5.length c4] 26 (0,0))).cell? ⟨G,2,none⟩=some (.int .i64 mi0):=(blk_cell BG.out 2).trans rfl;clear hb h3 h4)
 go_region_held3 (fun w' => w'.cell? ⟨w1.heap.size,0,none⟩=some (.string r1)∧w'.cell? ⟨w1.heap.size,1,none⟩=some (.string r2)∧w'.cell? ⟨w1.heap.size,2,none⟩=some (.int .i64 r3)) (go_keep) (fail)
 go_wp2
 go_ret
 refine ⟨rfl,⟨_,⟨k,r1,r2,r3,r4,r5,r6,HS.out,rfl⟩,blk_drew (blk_put (blk_put (blk_put BG.out 0 _ rfl) 1 _ rfl) 2 _ rfl)⟩,?_,keep_drewN (opSet (opSet (opSet (opKeep G _ HB.out) 0 _) 1 _) 2 _) 1⟩
 refine below_drew1 ?_
 exact (((hbase (Nat.le_of_lt (blk_lt HCS.out)) (below_alloc HB.out _)).setCell (Nat.le_refl _) _).setCell (Nat.le_refl _) _).setCell (Nat.le_refl _) _
def http_open.f (k:Nat) (l0:List Int):Option (ByteArray × ByteArray × Int × List (S36) × List Int × Int × Int × Bool × Int) :=
 (http_head.f reqFst k l0).bind fun h=>if h.2.1=0 then some (⟨#[]⟩,⟨#[]⟩,0,[],[],0,0,false,h.2.2.1) else (h.2.2.2).bind fun s=>(line_Request.f k s).bind fun x=>(http_hosts.f k x.1 x.2.1 x.2.2.1 h.1 []).bind fun g =>
  if g=true then ((frame_Request.f k h.1 x.2.2.1).bind fun y=>some (x.1,x.2.1,x.2.2.1,h.1,[],h.2.1,y.1,y.2.1,y.2.2)) else some (⟨#[]⟩,⟨#[]⟩,0,[],[],0,0,false,400)
/-- What it hands back. -/
def OpenPost (w:World) (r1 r2:ByteArray) (r3:Int) (r4:List (S36)) (r5:List Int) (r6 r7:Int) (r8:Bool) (r9:Int) (e:Ending) (w' : World):Prop := ∃ v4_ v5_:Value,e = .returned (.tuple #[.agg #[.string r1,.string r2,.int .i64 r3,v4_,v5_],.int .i64 r6,.int .i64 r7,.bool r8,.int .i64 r9])∧Kd.R k36 36 w' w.heap.size (fun _=>True) v4_ r4∧Kd.R (Kd.int .u8) 5 w' w.heap.size (fun _=>True) v5_ r5∧Below w.heap.size w w'
theorem lrDet {k k' : Nat} {s:ByteArray} {a b:ByteArray × ByteArray × Int × List (S36) × List Int × Int} (h:line_Request.f k s=some a) (h' : line_Request.f k' s=some b):a=b:=by
 have lup : ∀ {n:Nat} {r},line_Request.f n s=some r → ∀ d,line_Request.f (n + d) s=some r:=by
  intro n r h d
  induction d with
  | zero=>exact h
  | succ d ih=>exact line_Request.mono s _ _ ih
 have h1:=lup h k'
 have h2:=lup h' k
 rw [Nat.add_comm] at h2
 exact Option.some.inj (h1.symm.trans h2)
theorem open_none {w w' : World} {r9:Int} (hb:Below w.heap.size w w'):OpenPost w ⟨#[]⟩ ⟨#[]⟩ 0 [] [] 0 0 false r9 (.returned (.tuple #[.agg #[.string (⟨#[]⟩:ByteArray),.string (⟨#[]⟩:ByteArray),.int .i64 0,.slice none 0 0,.slice none 0 0],.int .i64 0,.int .i64 0,.bool false,.int .i64 r9])) w' := ⟨_,_,rfl,Kd.R_nil _ _ _ _ _,Kd.R_nil _ _ _ _ _,hb⟩
theorem opPut5 {w W:World} {R:Nat} (h:Below w.heap.size w W) (hR:w.heap.size ≤ R) (a b c d e:Value):Below w.heap.size w (((((W.setCell ⟨R,0,none⟩ a).setCell ⟨R,1,none⟩ b).setCell ⟨R,2,none⟩ c).setCell ⟨R,3,none⟩ d).setCell ⟨R,4,none⟩ e) :=
 ((((h.setCell hR a).setCell hR b).setCell hR c).setCell hR d).setCell hR e
theorem opBlk5 {W:World} {R t:Nat} {x0 x1 x2 x3 x4:Value} (h:W.heap[R]? = some (.cells #[x0,x1,x2,x3,x4] t (0,0))) (a b c d e:Value):(((((W.setCell ⟨R,0,none⟩ a).setCell ⟨R,1,none⟩ b).setCell ⟨R,2,none⟩ c).setCell ⟨R,3,none⟩ d).setCell ⟨R,4,none⟩ e).heap[R]? = some (.cells #[a,b,c,d,e] t (0,0)) :=
 blk_put (blk_put (blk_put (blk_put (blk_put h 0 _ rfl) 1 _ rfl) 2 _ rfl) 3 _ rfl) 4 _ rfl
theorem opR5 {α:Type} {dd:Kd α} {ty base R:Nat} {W:World} {v:Value} {xs:List α} (h:dd.R ty W base (fun k=>k ≠ R) v xs) (a b c d e:Value):dd.R ty (((((W.setCell ⟨R,0,none⟩ a).setCell ⟨R,1,none⟩ b).setCell ⟨R,2,none⟩ c).setCell ⟨R,3,none⟩ d).setCell ⟨R,4,none⟩ e) base (fun k=>k ≠ R) v xs :=
 Kd.R_far (Kd.R_far (Kd.R_far (Kd.R_far (Kd.R_far h (fun _ hk=>hk) a) (fun _ hk=>hk) b) (fun _ hk=>hk) c) (fun _ hk=>hk) d) (fun _ hk=>hk) e
set_option maxHeartbeats 8000000 in
set_option maxRecDepth 100000 in
theorem http_open.calls (k:Nat) (A0:Option Addr) (c0:Nat) (l0:List Int) (r1 r2:ByteArray) (r3:Int) (r4:List (S36)) (r5:List Int) (r6:Int) (r7:Int) (r8:Bool) (r9:Int) (w:World) (hr0:Kd.C (Kd.int .u8) w A0 l0.length l0) (hc0:l0.length ≤ c0) (h:http_open.f k l0=some (r1,r2,r3,r4,r5,r6,r7,r8,r9)) :
 Calls Tryz.prog 44 #[.slice A0 l0.length c0] w fun e w' => ∃ v3_ v4_:Value,e = .returned (.tuple #[.agg #[.string r1,.string r2,.int .i64 r3,v3_,v4_],.int .i64 r6,.int .i64 r7,.bool r8,.int .i64 r9])∧Kd.R k36 36 w' w.heap.size (fun _=>True) v3_ r4∧Kd.R (Kd.int .u8) 5 w' w.heap.size (fun _=>True) v4_ r5∧Below w.heap.size w w' := by
 show Calls _ _ _ _ (OpenPost w r1 r2 r3 r4 r5 r6 r7 r8 r9)
 unfold http_open.f at h
 obtain ⟨⟨h1,h2,h3,h4⟩,hh,h'⟩:=Option.bind_eq_some_iff.1 h
 clear h
 have h:=h'
 clear h'
 simp only at h
 have hu:=Tryz.underlying26
 have HC:=Aside0.mk hr0
 have HCC:=Aside0.mk hc0
 have HH:=Aside0.mk hh
 have eg : ∀ args w,(callFunc 75 args).run Tryz.prog w = .ok (.enter 75 args) w:=enters_of Tryz.func75 zb7 rfl
 have EG:=Aside0.mk eg
 clear hr0 hc0 hh eg
 by_cases b0:h2=0
 ·rw [if_pos b0] at h
  simp only [Option.some.injEq,Prod.mk.injEq] at h
  obtain ⟨rfl,rfl,rfl,rfl,rfl,rfl,rfl,rfl,rfl⟩:=h
  subst b0
  go_enter Tryz.func44,Tryz.ntmps44
  go_wp2_with (first
   | ((with_reducible refine gate_dst (N:=2) rfl ?_);refine box_event ?hg (N:=2) ?hd (cs:=#[.string (⟨#[]⟩:ByteArray),.string (⟨#[]⟩:ByteArray),.int .i64 0,.slice none 0 0,.slice none 0 0]) (t:=26) ?hr ?_;(case hd=>rfl);(case hg=>rfl);(case hr=>first|(go_simp;done)|(go_simp;rfl));intro R hR w5 hBR hb5;have BR:=Aside0.mk hBR;have LR:=Aside0.mk hb5;have ER:=Aside0.mk hR;clear hBR hb5 hR)
   | (go_at_call 67;refine (http_head.callsOf reqFst 75 #[.pointer (some ⟨R,0,none⟩)] EG.out R 26 ReqVal w k A0 c0 l0 h1 _ _ _ w5 HC.out HCC.out (Nat.le_of_eq ER.out.symm) ⟨_,rfl,BR.out⟩ LR.out (http_open_1.callsOf R) HH.out).mono ?_;rintro E w7 ⟨v0,rfl,hS⟩;obtain ⟨Af,cf,rfl⟩:=Kd.R_slice hS.2.2;have HS:=Aside0.mk hS;obtain ⟨cs,hv,hBG⟩:=hS.1;obtain ⟨m0,t0,mi0,rfl⟩:=hv.form;have BR7:=Aside0.mk hBG;obtain ⟨q0,q1,q2,q3,q4,f0,f1,f2,f3,f4⟩:=zq5 (x3:=.slice none 0 0) (x4:=.slice none 0 0) BR7.out;clear hv hBG;clear hS))
  refine bodyPost_ret (results_list (rs:=[.cell 2 26,.tmp 3,.tmp 4,.tmp 5,.tmp 6]) rfl zb44 (.cell R 26 #[.string (⟨#[]⟩:ByteArray),.string (⟨#[]⟩:ByteArray),.int .i64 0,.slice none 0 0,.slice none 0 0] (0,0) _ rfl (opBlk5 (blk_put BR7.out 3 _ rfl) _ _ _ _ _) hu rfl zb7 (.tmp (.tmp (.tmp (.tmp .nil)))))) rfl ?_
  exact open_none (opPut5 (HS.out.2.1.setCell (p:=⟨R,3,none⟩) (Nat.le_of_eq ER.out.symm) _) (Nat.le_of_eq ER.out.symm) _ _ _ _ _)
 rw [if_neg b0] at h
 have d2:(h2 == 0)=false:=beq_eq_false_iff_ne.2 b0
 clear b0
 obtain ⟨s,e4,h'⟩:=Option.bind_eq_some_iff.1 h
 subst e4
 clear h
 obtain ⟨⟨x1,x2,x3,x4,x5,x6⟩,hx,h⟩:=Option.bind_eq_some_iff.1 h'
 clear h'
 obtain ⟨g,ho,h'⟩:=Option.bind_eq_some_iff.1 h
 clear h
 simp only at h'
 have h:=h'
 clear h'
 have HX:=Aside0.mk hx
 have HO:=Aside0.mk ho
 clear hx ho
 cases g
 ·rw [if_neg zb44] at h
  simp only [Option.some.injEq,Prod.mk.injEq] at h
  obtain ⟨rfl,rfl,rfl,rfl,rfl,rfl,rfl,rfl,rfl⟩:=h
  go_enter Tryz.func44,Tryz.ntmps44
  go_wp2_with (first
   | ((with_reducible refine gate_dst (N:=2) rfl ?_);refine box_event ?hg (N:=2) ?hd (cs:=#[.string (⟨#[]⟩:ByteArray),.string (⟨#[]⟩:ByteArray),.int .i64 0,.slice none 0 0,.slice none 0 0]) (t:=26) ?hr ?_;(case hd=>rfl);(case hg=>rfl);(case hr=>first|(go_simp;done)|(go_simp;rfl));intro R hR w5 hBR hb5;have BR:=Aside0.mk hBR;have LR:=Aside0.mk hb5;have ER:=Aside0.mk hR;clear hBR hb5 hR)
   | (go_at_call 67;refine (http_head.callsOf reqFst 75 #[.pointer (some ⟨R,0,none⟩)] EG.out R 26 ReqVal w k A0 c0 l0 h1 _ _ _ w5 HC.out HCC.out (Nat.le_of_eq ER.out.symm) ⟨_,rfl,BR.out⟩ LR.out (http_open_1.callsOf R) HH.out).mono ?_;rintro E w7 ⟨v0,rfl,hS⟩;obtain ⟨Af,cf,rfl⟩:=Kd.R_slice hS.2.2;have HS:=Aside0.mk hS;obtain ⟨cs,⟨k2,s1,s2,s3,s4,s5,s6,hst,rfl⟩,hBG⟩:=hS.1;have e:=lrDet HX.out hst;simp only [Prod.mk.injEq] at e;obtain ⟨rfl,rfl,rfl,rfl,rfl,rfl⟩:=e;have BR7:=Aside0.mk hBG;obtain ⟨q0,q1,q2,q3,q4,f0,f1,f2,f3,f4⟩:=zq5 (x3:=.slice none 0 0) (x4:=.slice none 0 0) BR7.out;clear hst hBG;clear hS)
   | (go_at_call 77;refine (http_hosts.calls k x1 x2 x3 Af cf h1 none 0 [] _ _ (Kd.R_reads' (Kd.R_far (p:=⟨R,3,none⟩) HS.out.2.2 (fun q hq=>hq) _)).2.2 (Kd.R_reads' HS.out.2.2).2.1 ⟨rfl,zb44,fun h=>absurd h (Nat.lt_irrefl 0)⟩ (Nat.zero_le _) HO.out).mono ?_;rintro E w9 ⟨rfl,hb9⟩;have S9:=Aside0.mk (Kd.R_below (Kd.R_far (p:=⟨R,3,none⟩) HS.out.2.2 (fun q hq=>hq) (.slice Af h1.length cf)) hb9);have BR9:=Aside0.mk (blk_below (blk_put BR7.out 3 _ rfl) hb9);have L9:=Aside0.mk ((HS.out.2.1.setCell (p:=⟨R,3,none⟩) (Nat.le_of_eq ER.out.symm) (.slice Af h1.length cf)).trans (hbase (by simpa [World.setCell] using HS.out.2.1.size) hb9));obtain ⟨q0,q1,q2,q3,q4,f0,f1,f2,f3,f4⟩:=zq5 (x3:=.slice Af h1.length cf) (x4:=.slice none 0 0) BR9.out;clear hb9))
  refine bodyPost_ret (results_list (rs:=[.cell 2 26,.tmp 3,.tmp 4,.tmp 5,.tmp 6]) rfl zb44 (.cell R 26 #[.string (⟨#[]⟩:ByteArray),.string (⟨#[]⟩:ByteArray),.int .i64 0,.slice none 0 0,.slice none 0 0] (0,0) _ rfl (opBlk5 BR9.out _ _ _ _ _) hu rfl zb7 (.tmp (.tmp (.tmp (.tmp .nil)))))) rfl ?_
  exact open_none (opPut5 L9.out (Nat.le_of_eq ER.out.symm) _ _ _ _ _)
 rw [if_pos rfl] at h
 obtain ⟨⟨y1,y2,y3⟩,hy,h'⟩:=Option.bind_eq_some_iff.1 h
 clear h
 simp only [Option.some.injEq,Prod.mk.injEq] at h'
 obtain ⟨rfl,rfl,rfl,rfl,rfl,rfl,rfl,rfl,rfl⟩:=h'
 have HY:=Aside0.mk hy
 clear hy
 go_enter Tryz.func44,Tryz.ntmps44
 go_wp2_with (first
  | ((with_reducible refine gate_dst (N:=2) rfl ?_);refine box_event ?hg (N:=2) ?hd (cs:=#[.string (⟨#[]⟩:ByteArray),.string (⟨#[]⟩:ByteArray),.int .i64 0,.slice none 0 0,.slice none 0 0]) (t:=26) ?hr ?_;(case hd=>rfl);(case hg=>rfl);(case hr=>first|(go_simp;done)|(go_simp;rfl));intro R hR w5 hBR hb5;have BR:=Aside0.mk hBR;have LR:=Aside0.mk hb5;have ER:=Aside0.mk hR;clear hBR hb5 hR)
  | (go_at_call 67;refine (http_head.callsOf reqFst 75 #[.pointer (some ⟨R,0,none⟩)] EG.out R 26 ReqVal w k A0 c0 l0 h1 _ _ _ w5 HC.out HCC.out (Nat.le_of_eq ER.out.symm) ⟨_,rfl,BR.out⟩ LR.out (http_open_1.callsOf R) HH.out).mono ?_;rintro E w7 ⟨v0,rfl,hS⟩;obtain ⟨Af,cf,rfl⟩:=Kd.R_slice hS.2.2;have HS:=Aside0.mk hS;obtain ⟨cs,⟨k2,s1,s2,s3,s4,s5,s6,hst,rfl⟩,hBG⟩:=hS.1;have e:=lrDet HX.out hst;simp only [Prod.mk.injEq] at e;obtain ⟨rfl,rfl,rfl,rfl,rfl,rfl⟩:=e;have BR7:=Aside0.mk hBG;obtain ⟨q0,q1,q2,q3,q4,f0,f1,f2,f3,f4⟩:=zq5 (x3:=.slice none 0 0) (x4:=.slice none 0 0) BR7.out;clear hst hBG;clear hS)
  | (go_at_call 77;refine (http_hosts.calls k x1 x2 x3 Af cf h1 none 0 [] _ _ (Kd.R_reads' (Kd.R_far (p:=⟨R,3,none⟩) HS.out.2.2 (fun q hq=>hq) _)).2.2 (Kd.R_reads' HS.out.2.2).2.1 ⟨rfl,zb44,fun h=>absurd h (Nat.lt_irrefl 0)⟩ (Nat.zero_le _) HO.out).mono ?_;rintro E w9 ⟨rfl,hb9⟩;have S9:=Aside0.mk (Kd.R_below (Kd.R_far (p:=⟨R,3,none⟩) HS.out.2.2 (fun q hq=>hq) (.slice Af h1.length cf)) hb9);have BR9:=Aside0.mk (blk_below (blk_put BR7.out 3 _ rfl) hb9);have L9:=Aside0.mk ((HS.out.2.1.setCell (p:=⟨R,3,none⟩) (Nat.le_of_eq ER.out.symm) (.slice Af h1.length cf)).trans (hbase (by simpa [World.setCell] using HS.out.2.1.size) hb9));obtain ⟨q0,q1,q2,q3,q4,f0,f1,f2,f3,f4⟩:=zq5 (x3:=.slice Af h1.length cf) (x4:=.slice none 0 0) BR9.out;clear hb9)
  | (go_at_call 78;refine (frame_Request.calls k Af cf h1 x3 y1 y2 y3 w9 (Kd.R_reads' S9.out).2.2 (Kd.R_reads' S9.out).2.1 HY.out).mono ?_;rintro E w10 ⟨rfl,hb10⟩;have S10:=Aside0.mk (Kd.R_below S9.out hb10);have BR10:=Aside0.mk (blk_below BR9.out hb10);have L10:=Aside0.mk (L9.out.trans (hbase L9.out.size hb10));obtain ⟨q0,q1,q2,q3,q4,f0,f1,f2,f3,f4⟩:=zq5 (x3:=.slice Af h1.length cf) (x4:=.slice none 0 0) BR10.out;clear hb10))
 refine bodyPost_ret (results_list (rs:=[.cell 2 26,.tmp 3,.tmp 4,.tmp 5,.tmp 6]) rfl zb44 (.cell R 26 #[.string x1,.string x2,.int .i64 x3,.slice Af h1.length cf,.slice none 0 0] (0,0) _ rfl (opBlk5 BR10.out _ _ _ _ _) hu rfl zb7 (.tmp (.tmp (.tmp (.tmp .nil)))))) rfl ?_
 exact ⟨_,_,rfl,Kd.R_mono (opR5 S10.out _ _ _ _ _) (fun _ _=>trivial),Kd.R_nil _ _ _ _ _,opPut5 L10.out (Nat.le_of_eq ER.out.symm) _ _ _ _ _⟩
def http_Request.j0:Nat → List Int → Int → Int → Bool → Int → Bool → ByteArray → ByteArray → Int → List (S36) → List Int → Option (ByteArray × ByteArray × Int × (List (S36)) × List Int × Int × Int)
 | 0,_,_,_,_,_,_,_,_,_,_,_=>none
 | k + 1,x0,x6,x7,x8,x9,x25,x271000,x271001,x271002,x271003,x271004=>if x25=true then (some ((⟨#[]⟩:ByteArray),(⟨#[]⟩:ByteArray),0,([]:List (S36)),([]:List Int),0,x9)) else (if 0 ≤ x6 then (if x6 ≤ (x0.length:Int) then ((http_body.f k (x0.drop (x6:Int).toNat) x7 x8).bind fun bt272=>(if bt272.2.1 < 0 then (some ((⟨#[]⟩:ByteArray),(⟨#[]⟩:ByteArray),0,([]:List (S36)),([]:List Int),0,bt272.2.2)) else (some (x271000,x271001,x271002,x271003,bt272.1,wrap64 (x6 + bt272.2.1),0)))) else (none)) else (none))
def http_Request.f (k:Nat) (l0:List Int):Option (ByteArray × ByteArray × Int × (List (S36)) × List Int × Int × Int):=(http_open.f k l0).bind fun bt257=>(if bt257.2.2.2.2.2.1=0 then (http_Request.j0 k l0 bt257.2.2.2.2.2.1 bt257.2.2.2.2.2.2.1 bt257.2.2.2.2.2.2.2.1 bt257.2.2.2.2.2.2.2.2 true bt257.1 bt257.2.1 bt257.2.2.1 bt257.2.2.2.1 bt257.2.2.2.2.1) else (http_Request.j0 k l0 bt257.2.2.2.2.2.1 bt257.2.2.2.2.2.2.1 bt257.2.2.2.2.2.2.2.1 bt257.2.2.2.2.2.2.2.2 (bt257.2.2.2.2.2.2.2.2 != 0) bt257.1 bt257.2.1 bt257.2.2.1 bt257.2.2.2.1 bt257.2.2.2.2.1))
set_option maxHeartbeats 8000000 in
set_option maxRecDepth 100000 in
theorem http_Request.calls (k:Nat) (A0:Option Addr) (c0:Nat) (l0:List Int) (r1:ByteArray) (r2:ByteArray) (r3:Int) (r4:List (S36)) (r5:List Int) (r6:Int) (r7:Int) (w:World) (hr0:Kd.C (Kd.int .u8) w A0 l0.length l0) (hc0:l0.length ≤ c0) (h:http_Request.f k l0=some (r1,r2,r3,r4,r5,r6,r7)) :
 Calls Tryz.prog 12 #[.slice A0 l0.length c0] w fun e w' => ∃ v3_ v4_:Value,e = .returned (.tuple #[.agg #[.string r1,.string r2,.int .i64 r3,v3_,v4_],.int .i64 r6,.int .i64 r7])∧Kd.R k36 36 w' w.heap.size (fun _=>True) v3_ r4∧Kd.R (Kd.int .u8) 5 w' w.heap.size (fun _=>True) v4_ r5∧Below w.heap.size w w' := by
 have hu26:=Tryz.underlying26
 have HR0:=Aside0.mk hr0
 have HC0:=Aside0.mk hc0
 clear hr0 hc0
 have HB:=Aside0.mk (Below.refl w.heap.size w)
 unfold http_Request.f at h
 have H:=h
 clear h
 replace H:=Option.bind_eq_some_iff.mp H
 obtain ⟨⟨t31,t34,t35,t37,t40,t33,t42,t43,t46⟩,A20,H⟩:=H
 try dsimp only at H
 have A2:=Aside0.mk A20
 clear A20
 have HC3:=Aside0.mk H
 clear H
 go_enter Tryz.func12,Tryz.ntmps12
 go_upto_region 2 with (first|((with_reducible refine gate_dst (N:=2) rfl ?_);refine box_event rfl (N:=2) rfl (cs:=#[.string (⟨#[]⟩:ByteArray),.string (⟨#[]⟩:ByteArray),.int .i64 0,.slice none 0 0,.slice none 0 0]) (t:=26) zS ?_;intro gb29 hg w4 hbox hb;have GW29:=zG hg zb0;have GE29:=GW29;have BK29:=Aside0.mk hbox;replace HB:=Aside0.mk (below_step zb0 hb);clear hb hbox hg)|((with_reducible refine gate_callee (f:=44) rfl ?_);refine goesL_ (some 14) rfl rfl Tryz.func44 zb7 rfl #[.slice A0 l0.length c0] rfl zb1 ?_;(with_reducible refine (http_open.calls k _ _ l0 t31 t34 t35 t37 t40 t33 t42 t43 t46 _ ?side1 ?side2 A2.out).mono ?_);(case side1=>exact zb62);(case side2=>exact HC0.out);rintro e w5 ⟨v57,v58,rfl,ho0,ho1,hb⟩;refine ⟨_,rfl,?_⟩;have HO49:=Aside0.mk (Kd.R_lower ho0 (below_size zb14));have HO50:=Aside0.mk (Kd.R_lower ho1 (below_size zb14));replace BK29:=Aside0.mk (blk_below (g:=gb29) (o:=.cells #[.string (⟨#[]⟩:ByteArray),.string (⟨#[]⟩:ByteArray),.int .i64 0,.slice none 0 0,.slice none 0 0] 26 (0,0)) zb24 hb);replace HB:=Aside0.mk (below_step zb14 hb);try clear hb ho0 ho1)|((with_reducible refine gate_dst (N:=5) rfl ?_);refine box_event rfl (N:=5) rfl (cs:=#[.string (⟨#[]⟩:ByteArray),.string (⟨#[]⟩:ByteArray),.int .i64 0,.slice none 0 0,.slice none 0 0]) (t:=26) zS ?_;intro gb30 hg w6 hbox hb;replace HO49:=Aside0.mk (Kd.R_below (by (with_reducible repeat (first|apply Kd.R_alloc|apply Kd.R_drewN|apply Kd.R_drew));exact HO49.out) hb);replace HO50:=Aside0.mk (Kd.R_below (by (with_reducible repeat (first|apply Kd.R_alloc|apply Kd.R_drewN|apply Kd.R_drew));exact HO50.out) hb);have BK30:=Aside0.mk (hbox);have GW30:=zG hg zb14;have GE30:=GW30;replace HB:=Aside0.mk (below_step zb14 hb);have NB29_270:=Aside0.mk ((by rw [hg];exact Nat.ne_of_lt (blk_lt (g:=gb29) (o:=.cells #[.string (⟨#[]⟩:ByteArray),.string (⟨#[]⟩:ByteArray),.int .i64 0,.slice none 0 0,.slice none 0 0] 26 (0,0)) zb24):gb29 ≠ gb30));have NB30_256:=Aside0.mk ((by rw [hg];exact Nat.ne_of_gt (blk_lt (g:=gb29) (o:=.cells #[.string (⟨#[]⟩:ByteArray),.string (⟨#[]⟩:ByteArray),.int .i64 0,.slice none 0 0,.slice none 0 0] 26 (0,0)) zb24):gb30 ≠ gb29));replace BK29:=Aside0.mk (blk_below (g:=gb29) (o:=.cells #[.string (⟨#[]⟩:ByteArray),.string (⟨#[]⟩:ByteArray),.int .i64 0,.slice none 0 0,.slice none 0 0] 26 (0,0)) zb24 hb);clear hb hbox hg;have hnb7:=NB30_256.out;have hnc7:=NB29_270.out;obtain ⟨hcz8_0,hcz8_1,hcz8_2,hcz8_3,hcz8_4,hfz8_0,hfz8_1,hfz8_2,hfz8_3,hfz8_4⟩:=zq5 BK30.out;obtain ⟨Ao9,co9,eo9⟩:=Kd.R_slice HO49.out;subst eo9;obtain ⟨Ao10,co10,eo10⟩:=Kd.R_slice HO50.out;subst eo10))
 (try simp only [Act.put,zqA,zqB,zqC])
 go_cut [25] (fun v25 wc => ∃ (kq:Nat) (x25_2:Bool),v25 = .bool x25_2∧Aside0 (http_Request.j0 kq l0 t33 t42 t43 t46 x25_2 t31 t34 t35 t37 t40=some (r1,r2,r3,r4,r5,r6,r7))∧Aside0 (kq ≤ k)∧Aside0 (Kd.R k36 36 wc w.heap.size (fun _=>True) (.slice Ao9 t37.length co9) t37)∧Aside0 (Kd.R (Kd.int .u8) 5 wc w.heap.size (fun _=>True) (.slice Ao10 t40.length co10) t40)∧Aside0 (wc.heap[gb29]? = some (.cells #[.string (⟨#[]⟩:ByteArray),.string (⟨#[]⟩:ByteArray),.int .i64 0,(.slice none 0 0),(.slice none 0 0)] 26 (0,0)))∧Aside0 (wc.heap[gb30]? = some (.cells #[.string t31,.string t34,.int .i64 t35,(.slice Ao9 t37.length co9),(.slice Ao10 t40.length co10)] 26 (0,0)))∧Aside0 (Below w.heap.size w wc))
 case first =>
  have H:=HC3.out
  clear HC3
  by_cases c11:t33=0;rotate_left
  ·rw [if_neg c11] at H
   have c11b0:=beq_eq_false_iff_ne.mpr c11
   have c11b1:=bne_iff_ne.mpr c11
   (first|rw [c11b0]|(simp only [i64_w,i32_w];rw [c11b0])|rw [c11b1]|skip)
   have H' := Aside0.mk H
   clear H
   go_wp2
   go_meet
   case rel=>exact ⟨_,((t46 != 0)),zb5,H',⟨zb77⟩,⟨zb57⟩,⟨zb58⟩,⟨zb33⟩,⟨zb21⟩,⟨zb30⟩⟩
  rw [if_pos c11] at H
  have c11b0:=beq_iff_eq.mpr c11
  have c11b1:=bne_eq_false_iff_eq.mpr c11
  clear c11
  (first|rw [c11b0]|(simp only [i64_w,i32_w];rw [c11b0])|rw [c11b1]|skip)
  have H' := Aside0.mk H
  clear H
  go_wp2
  go_meet
  case rel=>exact ⟨_,(true),zb5,H',⟨zb77⟩,⟨zb57⟩,⟨zb58⟩,⟨zb33⟩,⟨zb21⟩,⟨zb30⟩⟩
 case rest =>
  clear HC3
  try clear c1
  try clear p2
  try clear c4
  try clear c7
  try clear c11
  try clear c11b0
  try clear c11b1
  try clear hcz8_0
  try clear hcz8_1
  try clear hcz8_2
  try clear hcz8_3
  try clear hcz8_4
  try clear hfz8_0
  try clear hfz8_1
  try clear hfz8_2
  try clear hfz8_3
  try clear hfz8_4
  obtain ⟨kq,x25_2,rfl,HA,HJ2,HO_39,HO_38,BK29,BK30,HB⟩:=hcut
  cases kq with
  | zero=>exact absurd HA.out (by simp [http_Request.j0])
  | succ kj2 =>
   have H:=HA.out
   clear HA
   simp only [http_Request.j0] at H
   by_cases c12:x25_2=true
   ·subst c12
    rw [if_pos rfl] at H
    simp only [Option.some.injEq,Prod.mk.injEq] at H
    obtain ⟨rfl,rfl,rfl,rfl,rfl,rfl,rfl⟩:=H
    have hnb13:=NB29_270.out
    have hnc13:=NB30_256.out
    obtain ⟨hcz14_0,hcz14_1,hcz14_2,hcz14_3,hcz14_4,hfz14_0,hfz14_1,hfz14_2,hfz14_3,hfz14_4⟩:=zq5 BK29.out
    go_wp2
    refine bodyPost_ret (results_ctt rfl _ _ gb29 26 #[.string (⟨#[]⟩:ByteArray),.string (⟨#[]⟩:ByteArray),.int .i64 0,.slice none 0 0,.slice none 0 0] (0,0) _ rfl zb19 Tryz.underlying26 rfl zb7) rfl ?_
    exact ⟨_,_,zb2,zb12,zb12,zb30⟩
   replace c12:=Bool.eq_false_iff.mpr c12
   subst c12
   rw [if_neg (show ¬ (false=true) by decide)] at H
   by_cases c15:0 ≤ t33;rotate_left
   ·rw [if_neg c15] at H
    exact absurd H zb44
   rw [if_pos c15] at H
   have c15b0:=eq_true c15
   have c15b1:=decide_eq_true c15
   clear c15
   by_cases c16:t33 ≤ (l0.length:Int)
   ·rw [if_pos c16] at H
    have c16b0:=eq_true c16
    have c16b1:=decide_eq_true c16
    clear c16
    replace H:=Option.bind_eq_some_iff.mp H
    obtain ⟨⟨t41,t48,t53⟩,A55,H⟩:=H
    try dsimp only at H
    have A17:=Aside0.mk A55
    clear A55
    by_cases c18:t48 < 0
    ·rw [if_pos c18] at H
     have c18b0:=decide_eq_true c18
     clear c18
     simp only [Option.some.injEq,Prod.mk.injEq] at H
     obtain ⟨rfl,rfl,rfl,rfl,rfl,rfl,rfl⟩:=H
     obtain ⟨i51,hi51,_,hsz19,_⟩:=info_parts info5
     obtain ⟨A19,hcut19,hA19,hC19⟩:=print_drop_of (P:=Tryz.prog) (Value.int .u8) 0 22 5 .i64 Tryz.underlying22 hi51 hsz19 A0 c0 l0 t33 (of_decide_eq_true zb3) (of_decide_eq_true zb3) HC0.out
     have HR47:=Aside0.mk (Kd.C_of_reads (h1:=fun _=>rfl) (hA19 _ (Kd.reads_of_C HR0.out)))
     have HC47:=Aside0.mk hC19
     clear hA19 hC19 hi51 hsz19
     go_wp2_with (first|((with_reducible refine gate_callee (f:=45) rfl ?_);refine goesL_ (some 34) rfl rfl Tryz.func45 zb7 rfl #[.slice A19 (l0.drop (t33:Int).toNat).length (c0 - t33.toNat),.int .i64 t42,.bool t43] rfl zb106 ?_;(with_reducible refine (http_body.calls kj2 _ _ (l0.drop (t33:Int).toNat) t42 t43 t41 t48 t53 _ ?side1 ?side2 A17.out).mono ?_);(case side1=>exact zb131);(case side2=>exact HC47.out);rintro e w20 ⟨v56,rfl,ho0,hb⟩;(try clear A17);refine ⟨_,rfl,?_⟩;replace HO_39:=Aside0.mk (Kd.R_below (by (with_reducible repeat (first|apply Kd.R_alloc|apply Kd.R_drewN|apply Kd.R_drew));exact HO_39.out) hb);have HO54:=Aside0.mk (Kd.R_lower (Kd.R_new' ho0 (Kd.R_lt zb111)) (below_size zb30));replace HO_38:=Aside0.mk (Kd.R_elder' zb111 (Kd.R_base ho0) hb);replace BK29:=Aside0.mk (blk_below (g:=gb29) (o:=.cells #[.string (⟨#[]⟩:ByteArray),.string (⟨#[]⟩:ByteArray),.int .i64 0,.slice none 0 0,.slice none 0 0] 26 (0,0)) zb24 hb);replace BK30:=Aside0.mk (blk_below (g:=gb30) (o:=.cells #[.string t31,.string t34,.int .i64 t35,.slice Ao9 t37.length co9,.slice Ao10 t40.length co10] 26 (0,0)) (by (with_reducible repeat (first|refine blk_drewN ?_ _|refine blk_drew ?_|refine blk_alloc ?_ _));exact BK30.out) hb);replace HB:=Aside0.mk (below_step zb30 hb);try clear hb ho0;have hnb21:=NB29_270.out;have hnc21:=NB30_256.out;obtain ⟨hcz22_0,hcz22_1,hcz22_2,hcz22_3,hcz22_4,hfz22_0,hfz22_1,hfz22_2,hfz22_3,hfz22_4⟩:=zq5 BK29.out))
     refine bodyPost_ret (results_ctt rfl _ _ gb29 26 #[.string (⟨#[]⟩:ByteArray),.string (⟨#[]⟩:ByteArray),.int .i64 0,.slice none 0 0,.slice none 0 0] (0,0) _ rfl zb19 Tryz.underlying26 rfl zb7) rfl ?_
     exact ⟨_,_,zb2,zb12,zb12,zb30⟩
    rw [if_neg c18] at H
    have c18b0:=decide_eq_false c18
    clear c18
    simp only [Option.some.injEq,Prod.mk.injEq] at H
    obtain ⟨rfl,rfl,rfl,rfl,rfl,rfl,rfl⟩:=H
    obtain ⟨i52,hi52,_,hsz23,_⟩:=info_parts info5
    obtain ⟨A23,hcut23,hA23,hC23⟩:=print_drop_of (P:=Tryz.prog) (Value.int .u8) 0 22 5 .i64 Tryz.underlying22 hi52 hsz23 A0 c0 l0 t33 (of_decide_eq_true zb3) (of_decide_eq_true zb3) HC0.out
    have HR47:=Aside0.mk (Kd.C_of_reads (h1:=fun _=>rfl) (hA23 _ (Kd.reads_of_C HR0.out)))
    have HC47:=Aside0.mk hC23
    clear hA23 hC23 hi52 hsz23
    go_wp2_with (first|((with_reducible refine gate_callee (f:=45) rfl ?_);refine goesL_ (some 34) rfl rfl Tryz.func45 zb7 rfl #[.slice A23 (l0.drop (t33:Int).toNat).length (c0 - t33.toNat),.int .i64 t42,.bool t43] rfl zb106 ?_;(with_reducible refine (http_body.calls kj2 _ _ (l0.drop (t33:Int).toNat) t42 t43 t41 t48 t53 _ ?side1 ?side2 A17.out).mono ?_);(case side1=>exact zb131);(case side2=>exact HC47.out);rintro e w24 ⟨v56,rfl,ho0,hb⟩;(try clear A17);refine ⟨_,rfl,?_⟩;replace HO_39:=Aside0.mk (Kd.R_below (by (with_reducible repeat (first|apply Kd.R_alloc|apply Kd.R_drewN|apply Kd.R_drew));exact HO_39.out) hb);have HO54:=Aside0.mk (Kd.R_lower (Kd.R_new' ho0 (Kd.R_lt zb111)) (below_size zb30));replace HO_38:=Aside0.mk (Kd.R_elder' zb111 (Kd.R_base ho0) hb);replace BK29:=Aside0.mk (blk_below (g:=gb29) (o:=.cells #[.string (⟨#[]⟩:ByteArray),.string (⟨#[]⟩:ByteArray),.int .i64 0,.slice none 0 0,.slice none 0 0] 26 (0,0)) zb24 hb);replace BK30:=Aside0.mk (blk_below (g:=gb30) (o:=.cells #[.string t31,.string t34,.int .i64 t35,.slice Ao9 t37.length co9,.slice Ao10 t40.length co10] 26 (0,0)) (by (with_reducible repeat (first|refine blk_drewN ?_ _|refine blk_drew ?_|refine blk_alloc ?_ _));exact BK30.out) hb);replace HB:=Aside0.mk (below_step zb30 hb);try clear hb ho0;obtain ⟨Ao25,co25,eo25⟩:=Kd.R_slice HO54.out;subst eo25;have hnb26:=NB30_256.out;have hnc26:=NB29_270.out;obtain ⟨hcz27_0,hcz27_1,hcz27_2,hcz27_3,hcz27_4,hfz27_0,hfz27_1,hfz27_2,hfz27_3,hfz27_4⟩:=zq5 BK30.out;obtain ⟨hcz28_0,hcz28_1,hcz28_2,hcz28_3,hcz28_4,hfz28_0,hfz28_1,hfz28_2,hfz28_3,hfz28_4⟩:=zq5 BK29.out))
    refine bodyPost_ret (results_ctt rfl _ _ gb29 26 #[.string t31,.string t34,.int .i64 t35,.slice Ao9 t37.length co9,.slice Ao25 t41.length co25] (0,0) _ rfl (by (with_reducible repeat (first|refine blk_drewN ?_ _|refine blk_drew ?_|refine blk_alloc ?_ _));refine blk_put (cs:=#[.string t31,.string t34,.int .i64 t35,.slice Ao9 t37.length co9,.slice none 0 0]) ?_ 4 _ rfl;(with_reducible repeat (first|refine blk_drewN ?_ _|refine blk_drew ?_|refine blk_alloc ?_ _));refine blk_put (cs:=#[.string t31,.string t34,.int .i64 t35,.slice none 0 0,.slice none 0 0]) ?_ 3 _ rfl;(with_reducible repeat (first|refine blk_drewN ?_ _|refine blk_drew ?_|refine blk_alloc ?_ _));refine blk_put (cs:=#[.string t31,.string t34,.int .i64 0,.slice none 0 0,.slice none 0 0]) ?_ 2 _ rfl;(with_reducible repeat (first|refine blk_drewN ?_ _|refine blk_drew ?_|refine blk_alloc ?_ _));refine blk_put (cs:=#[.string t31,.string (⟨#[]⟩:ByteArray),.int .i64 0,.slice none 0 0,.slice none 0 0]) ?_ 1 _ rfl;(with_reducible repeat (first|refine blk_drewN ?_ _|refine blk_drew ?_|refine blk_alloc ?_ _));refine blk_put (cs:=#[.string (⟨#[]⟩:ByteArray),.string (⟨#[]⟩:ByteArray),.int .i64 0,.slice none 0 0,.slice none 0 0]) ?_ 0 _ rfl;(with_reducible repeat (first|refine blk_drewN ?_ _|refine blk_drew ?_|refine blk_alloc ?_ _));refine blk_far ?_ NB29_270.out _;(with_reducible repeat (first|refine blk_drewN ?_ _|refine blk_drew ?_|refine blk_alloc ?_ _));exact BK29.out) Tryz.underlying26 rfl zb7) rfl ?_
    exact ⟨_,_,zb2,by (with_reducible repeat (first|apply Kd.R_alloc|apply Kd.R_drewN|apply Kd.R_drew));exact Kd.R_mono (Kd.R_far (p:=⟨gb29,4,none⟩) (Kd.R_far (p:=⟨gb29,3,none⟩) (Kd.R_far (p:=⟨gb29,2,none⟩) (Kd.R_far (p:=⟨gb29,1,none⟩) (Kd.R_far (p:=⟨gb29,0,none⟩) (Kd.R_far (p:=⟨gb30,4,none⟩) (Kd.R_types (Kd.R_types HO_39.out BK30.out (by decide)) BK29.out (by decide)) (fun _ hk=>hk.1.2) (.slice Ao25 t41.length co25)) (fun _ hk=>hk.2) (.string t31)) (fun _ hk=>hk.2) (.string t34)) (fun _ hk=>hk.2) (.int .i64 t35)) (fun _ hk=>hk.2) (.slice Ao9 t37.length co9)) (fun _ hk=>hk.2) (.slice Ao25 t41.length co25)) (fun _ hk=>trivial),by (with_reducible repeat (first|apply Kd.R_alloc|apply Kd.R_drewN|apply Kd.R_drew));exact Kd.R_mono (Kd.R_far (p:=⟨gb29,4,none⟩) (Kd.R_far (p:=⟨gb29,3,none⟩) (Kd.R_far (p:=⟨gb29,2,none⟩) (Kd.R_far (p:=⟨gb29,1,none⟩) (Kd.R_far (p:=⟨gb29,0,none⟩) (Kd.R_far (p:=⟨gb30,4,none⟩) (Kd.R_types (Kd.R_types HO54.out BK30.out (by decide)) BK29.out (by decide)) (fun _ hk=>hk.1.2) (.slice Ao25 t41.length co25)) (fun _ hk=>hk.2) (.string t31)) (fun _ hk=>hk.2) (.string t34)) (fun _ hk=>hk.2) (.int .i64 t35)) (fun _ hk=>hk.2) (.slice Ao9 t37.length co9)) (fun _ hk=>hk.2) (.slice Ao25 t41.length co25)) (fun _ hk=>trivial),zb30⟩
   ·rw [if_neg c16] at H
    exact absurd H zb44
def field_Line.f (a0_0:ByteArray) (a0_1:ByteArray):Option (ByteArray):=if a0_0.size + 2 ≤ 9223372036854775807 then (if (a0_0 ++ (⟨#[58,32]⟩:ByteArray)).size + a0_1.size ≤ 9223372036854775807 then (if ((a0_0 ++ (⟨#[58,32]⟩:ByteArray)) ++ a0_1).size + 2 ≤ 9223372036854775807 then (some (((a0_0 ++ (⟨#[58,32]⟩:ByteArray)) ++ a0_1) ++ (⟨#[13,10]⟩:ByteArray))) else (none)) else (none)) else (none)
set_option maxHeartbeats 8000000 in
set_option maxRecDepth 100000 in
theorem field_Line.calls (a0_0:ByteArray) (a0_1:ByteArray) (r:ByteArray) (w:World) (h:field_Line.f a0_0 a0_1=some r) :
 Calls Tryz.prog 94 #[.agg #[.string a0_0,.string a0_1]] w fun e w' => e = .returned (.string r)∧Below w.heap.size w w' := by
 have hu36:=Tryz.underlying36
 have HB:=Aside0.mk (Below.refl w.heap.size w)
 unfold field_Line.f at h
 have H:=h
 clear h
 by_cases c2:a0_0.size + 2 ≤ 9223372036854775807;rotate_left
 ·rw [if_neg c2] at H
  exact absurd H zb44
 rw [if_pos c2] at H
 have c2b0:=eq_true c2
 have c2b1:=decide_eq_true c2
 try have c2b2:(9223372036854775807 < a0_0.size + 2)=False:=eq_false (Nat.not_lt.2 c2)
 by_cases c3:(a0_0 ++ (⟨#[58,32]⟩:ByteArray)).size + a0_1.size ≤ 9223372036854775807
 ·rw [if_pos c3] at H
  have c3b0:=eq_true c3
  have c3b1:=decide_eq_true c3
  try have c3b2:(9223372036854775807 < (a0_0 ++ (⟨#[58,32]⟩:ByteArray)).size + a0_1.size)=False:=eq_false (Nat.not_lt.2 c3)
  try (have c3b3:=c3b0;simp only [ByteArray.size_append] at c3b3;have c3b4:=c3b2;simp only [ByteArray.size_append] at c3b4)
  try have c3b5:(9223372036854775807 < a0_0.size + 2 + a0_1.size)=False:=eq_false (by have q_:=c3;simp only [ByteArray.size_append] at q_;have e0_:(⟨#[58,32]⟩:ByteArray).size=2:=rfl;omega)
  try have c3b6:(a0_0.size + 2 + a0_1.size ≤ 9223372036854775807)=True:=eq_true (by have q_:=c3;simp only [ByteArray.size_append] at q_;have e0_:(⟨#[58,32]⟩:ByteArray).size=2:=rfl;omega)
  by_cases c4:((a0_0 ++ (⟨#[58,32]⟩:ByteArray)) ++ a0_1).size + 2 ≤ 9223372036854775807;rotate_left
  ·rw [if_neg c4] at H
   exact absurd H zb44
  rw [if_pos c4] at H
  have c4b0:=eq_true c4
  have c4b1:=decide_eq_true c4
  try have c4b2:(9223372036854775807 < ((a0_0 ++ (⟨#[58,32]⟩:ByteArray)) ++ a0_1).size + 2)=False:=eq_false (Nat.not_lt.2 c4)
  try (have c4b3:=c4b0;simp only [ByteArray.size_append] at c4b3;have c4b4:=c4b2;simp only [ByteArray.size_append] at c4b4)
  try have c4b5:(9223372036854775807 < a0_0.size + 2 + a0_1.size + 2)=False:=eq_false (by have q_:=c4;simp only [ByteArray.size_append] at q_;have e0_:(⟨#[58,32]⟩:ByteArray).size=2:=rfl;omega)
  try have c4b6:(a0_0.size + 2 + a0_1.size + 2 ≤ 9223372036854775807)=True:=eq_true (by have q_:=c4;simp only [ByteArray.size_append] at q_;have e0_:(⟨#[58,32]⟩:ByteArray).size=2:=rfl;omega)
  obtain rfl:=Option.some.inj H
  go_enter Tryz.func94,Tryz.ntmps94
  go_wp2_with (first|((with_reducible refine gate_dst (N:=1) rfl ?_);refine box_event rfl (N:=1) rfl (cs:=#[.string a0_0,.string a0_1]) (t:=36) zS ?_;intro gb305 hg w5 hbox hb;have GW305:=zG hg zb0;have GE305:=GW305;have BK305:=Aside0.mk hbox;replace HB:=Aside0.mk (below_step zb0 hb);clear hb hbox hg;obtain ⟨hcz6_0,hcz6_1,hfz6_0,hfz6_1⟩:=zq2 BK305.out))
  go_ret
  exact ⟨zb2,by repeat (first|(with_reducible first|exact HB.out|apply below_alloc|apply pw_below_drewN|apply below_drew1|refine below_set ?_ GE305.out)|exact HB.out)⟩
 ·rw [if_neg c3] at H
  exact absurd H zb44
end Go.Proofs.YtagffbblalldiaaGreatDoor.P
