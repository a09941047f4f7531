/- Each function below answers as its Lean twin says; plain lemmas; a row where its theorem stands. No further condition. (Laid by this repo's pack.py out of its texts and of the print's words.) -/
import Derived.Test.YtfjeinnemimjoaaGreatDoorZ0286bf23
import Derived.Test.YtfjeinnemimjoaaGreatDoorZc273be4c
import Derived.Test.YtfjeinnemimjoaaGreatDoorZ5929977a
import Derived.Shelf.Abstract
import Derived.Lib.IndexBytes
import Derived.Lib.Strings
import Derived.Shelf.Strings.SlTrimAscii
namespace Go.Proofs.YtfjeinnemimjoaaGreatDoor.P
open Go.RowKit Go.Proofs.YtfjeinnemimjoaaGreatDoorW.PrintWords Go.Proofs.YtfjeinnemimjoaaGreatDoorW.PrintLast Go.Proofs.YtfjeinnemimjoaaGreatDoorW.PrintMore
attribute [local go_sem] max2_int min2_int max_two min_two max_three min_three max_four min_four
set_option linter.unusedVariables false
set_option linter.unusedSimpArgs false
mutual
def tollbarref06_size.l0:Nat → ByteArray → Int → Int → Option (Int × Bool)
 | 0,_,_,_=>none
 | k + 1,x0,x4,x5=>if x5 ≥ 0 then (if 0 ≤ x5 then (if x5 < (x0.size:Int) then (if (bt x0 x5)=59 then (tollbarref06_size.l0 k x0 x5 (wrap64 (x5 - 1))) else (tollbarref06_size.l0 k x0 x4 (wrap64 (x5 - 1)))) else (none)) else (none)) else (if x4 < (x0.size:Int) then (if 0 ≤ (wrap64 (x4 + 1)) then (if (wrap64 (x4 + 1)) ≤ (x0.size:Int) then ((tollbarref02_Value.f k (x0.extract ((wrap64 (x4 + 1)):Int).toNat x0.size)).bind fun t713=>(tollbarref06_size.j1 k x0 x4 (!t713))) else (none)) else (none)) else (tollbarref06_size.j1 k x0 x4 false))
def tollbarref06_size.j1:Nat → ByteArray → Int → Bool → Option (Int × Bool)
 | 0,_,_,_=>none
 | k + 1,x0,x4,x32=>if x32=true then (some (0,false)) else (if 0 ≤ x4 then (if x4 ≤ (x0.size:Int) then (tollbarref06_size.l1 k (x0.extract 0 (x4:Int).toNat)) else (none)) else (none))
def tollbarref06_size.l1:Nat → ByteArray → Option (Int × Bool)
 | 0,_=>none
 | k + 1,x6=>if (x6.size:Int) > 0 then (if 0 ≤ (wrap64 ((x6.size:Int) - 1)) then (if (wrap64 ((x6.size:Int) - 1)) < (x6.size:Int) then (if (bt x6 (wrap64 ((x6.size:Int) - 1)))=32 then (if (wrap64 ((x6.size:Int) - 1)) ≤ (x6.size:Int) then (tollbarref06_size.l1 k (x6.extract 0 ((wrap64 ((x6.size:Int) - 1)):Int).toNat)) else (none)) else (if (bt x6 (wrap64 ((x6.size:Int) - 1)))=9 then (if (wrap64 ((x6.size:Int) - 1)) ≤ (x6.size:Int) then (tollbarref06_size.l1 k (x6.extract 0 ((wrap64 ((x6.size:Int) - 1)):Int).toNat)) else (none)) else ((tollbarref02_Hex.f k x6).bind fun bt714=>(some (bt714.1,bt714.2))))) else (none)) else (none)) else ((tollbarref02_Hex.f k x6).bind fun bt716=>(some (bt716.1,bt716.2)))
end
def tollbarref06_size.f (k:Nat) (a0:ByteArray):Option (Int × Bool):=tollbarref06_size.l0 k a0 (a0.size:Int) (wrap64 ((a0.size:Int) - 1))
set_option maxHeartbeats 8000000 in
set_option maxRecDepth 100000 in
theorem tollbarref06_size.calls (k:Nat) (a0:ByteArray) (r1:Int) (r2:Bool) (w:World) (h:tollbarref06_size.f k a0=some (r1,r2)) :
  Calls Tryz.prog 145 #[.string a0] w fun e w' => e = .returned (.tuple #[.int .i64 r1,.bool r2])∧Drawn0 w w' := by
 have H:(tollbarref06_size.l0 k a0 (a0.size:Int) (wrap64 ((a0.size:Int) - 1)))=some (r1,r2):=h
 clear h
 have H' := Aside0.mk H
 clear H
 go_enter Tryz.func145,Tryz.ntmps145
 go_wp2
 go_loopg [4,5] k (fun kq v4 v5 w' => ∃ (x4_1:Int) (x5_1:Int),v4 = .int .i64 x4_1∧v5 = .int .i64 x5_1∧Aside0 (tollbarref06_size.l0 kq a0 x4_1 x5_1=some (r1,r2))∧Aside0 (kq ≤ k)∧Drawn0 w w')
 case atStart=>exact ⟨((a0.size:Int)),(wrap64 ((a0.size:Int) - 1)),zb4,zb4,H',⟨Nat.le_refl _⟩,zb8⟩
 case round =>
  clear H'
  try clear c1
  obtain ⟨x4_1,x5_1,rfl,rfl,HA,HK1,⟨m1,rfl⟩⟩:=hrel
  cases gk with
  | zero=>exact absurd HA.out (by simp [tollbarref06_size.l0])
  | succ k1 =>
   have H:=HA.out
   clear HA
   simp only [tollbarref06_size.l0] at H
   by_cases c2:x5_1 ≥ 0
   ·rw [if_pos c2] at H
    have c2b0:decide (0 ≤ x5_1)=true:=decide_eq_true c2
    clear c2
    by_cases c3:0 ≤ x5_1;rotate_left
    ·rw [if_neg c3] at H
     exact absurd H zb27
    rw [if_pos c3] at H
    have c3b0:decide (0 ≤ x5_1)=true:=decide_eq_true c3
    clear c3
    by_cases c4:x5_1 < (a0.size:Int)
    ·rw [if_pos c4] at H
     have c4b0:decide (x5_1 < (a0.size:Int))=true:=decide_eq_true c4
     clear c4
     by_cases c6:(bt a0 x5_1)=59;rotate_left
     ·rw [if_neg c6] at H
      have c6b0:=beq_eq_false_iff_ne.mpr c6
      have c6b1:=bne_iff_ne.mpr c6
      have H' := Aside0.mk H
      clear H
      have p5:0 ≤ (x5_1:Int):=of_decide_eq_true zb2
      have q5:x5_1 < (a0.size:Int):=of_decide_eq_true zb2
      have hx5:=bt_at a0 x5_1
      replace p5:=eq_true p5
      replace q5:=eq_true q5
      go_wp2
      go_roundg k1
      case measure=>have:=HK1.out;omega
      case rel=>exact ⟨(x4_1),(wrap64 (x5_1 - 1)),zb4,zb4,H',⟨zb74⟩,zb8⟩
     rw [if_pos c6] at H
     have c6b0:=beq_iff_eq.mpr c6
     have c6b1:=bne_eq_false_iff_eq.mpr c6
     clear c6
     have H' := Aside0.mk H
     clear H
     have p5:0 ≤ (x5_1:Int):=of_decide_eq_true zb2
     have q5:x5_1 < (a0.size:Int):=of_decide_eq_true zb2
     have hx5:=bt_at a0 x5_1
     replace p5:=eq_true p5
     replace q5:=eq_true q5
     go_wp2
     go_roundg k1
     case measure=>have:=HK1.out;omega
     case rel=>exact ⟨(x5_1),(wrap64 (x5_1 - 1)),zb4,zb4,H',⟨zb74⟩,zb8⟩
    ·rw [if_neg c4] at H
     exact absurd H zb27
   rw [if_neg c2] at H
   have c2b0:decide (0 ≤ x5_1)=false:=decide_eq_false c2
   clear c2
   have HC7:=Aside0.mk H
   clear H
   go_upto_region 7 with (fail)
   go_cut [32] (fun v32 wc => ∃ (kq:Nat) (x32_6:Bool),v32 = .bool x32_6∧Aside0 (tollbarref06_size.j1 kq a0 x4_1 x32_6=some (r1,r2))∧Aside0 (kq ≤ k1)∧Drawn0 w wc)
   case first =>
    have H:=HC7.out
    clear HC7
    by_cases c8:x4_1 < (a0.size:Int);rotate_left
    ·rw [if_neg c8] at H
     have c8b0:decide (x4_1 < (a0.size:Int))=false:=decide_eq_false c8
     clear c8
     (first|rw [c8b0]|(simp only [i64_w,i32_w];rw [c8b0])|skip)
     have H' := Aside0.mk H
     clear H
     go_wp2
     go_meet
     case rel=>exact ⟨_,(false),zb4,H',⟨zb66⟩,zb8⟩
    rw [if_pos c8] at H
    have c8b0:decide (x4_1 < (a0.size:Int))=true:=decide_eq_true c8
    clear c8
    (first|rw [c8b0]|(simp only [i64_w,i32_w];rw [c8b0])|skip)
    obtain ⟨ji9,hji9⟩ : ∃ j_:Int,(wrap64 (x4_1 + 1))=j_:=⟨_,rfl⟩
    replace H:(if 0 ≤ (ji9) then (if (ji9) ≤ (a0.size:Int) then ((tollbarref02_Value.f k1 (a0.extract ((ji9):Int).toNat a0.size)).bind fun t713=>(tollbarref06_size.j1 k1 a0 x4_1 (!t713))) else (none)) else (none))=some (r1,r2):=by first|(rw [hji9] at H;exact H)|(simp only [hji9] at H ⊢;exact H)
    have hji9w:(IntKind.i64.wrap (x4_1 + 1))=ji9:=(i64_w _).trans hji9
    by_cases c10:0 ≤ (ji9)
    ·rw [if_pos c10] at H
     have c10b0:=eq_true c10
     have c10b1:decide (0 ≤ (ji9))=true:=decide_eq_true c10
     clear c10
     by_cases c11:(ji9) ≤ (a0.size:Int)
     ·rw [if_pos c11] at H
      have c11b0:=eq_true c11
      have c11b1:decide ((ji9) ≤ (a0.size:Int))=true:=decide_eq_true c11
      clear c11
      replace H:=Option.bind_eq_some_iff.mp H
      obtain ⟨t713,A120,H⟩:=H
      try dsimp only at H
      have A12:=Aside0.mk A120
      clear A120
      have H' := Aside0.mk H
      clear H
      go_wp2_with (first|(go_at_call 33;(with_reducible refine (tollbarref02_Value.calls k1 (a0.extract ((ji9):Int).toNat a0.size) t713 _ A12.out).mono ?_);rintro e w' ⟨rfl,⟨nd,rfl⟩⟩;(try clear A12)))
      go_meet
      case rel=>exact ⟨_,(!t713),zb4,H',⟨zb66⟩,zb8⟩
     ·rw [if_neg c11] at H
      exact absurd H zb27
    ·rw [if_neg c10] at H
     exact absurd H zb27
   case rest =>
    clear HC7
    try clear c1
    try clear c2
    try clear c2b0
    try clear p2
    try clear c3
    try clear c3b0
    try clear c4
    try clear c4b0
    try clear p5
    try clear q5
    try clear hx5
    try clear c6
    try clear c6b0
    try clear c6b1
    try clear p6
    try clear c8
    try clear c8b0
    try clear c10
    try clear c10b0
    try clear c10b1
    try clear c11
    try clear c11b0
    try clear c11b1
    try clear p5
    try clear q5
    obtain ⟨kq,x32_6,rfl,HA,HJ6,⟨mc6,rfl⟩⟩:=hcut
    cases kq with
    | zero=>exact absurd HA.out (by simp [tollbarref06_size.j1])
    | succ kj6 =>
     have H:=HA.out
     clear HA
     simp only [tollbarref06_size.j1] at H
     by_cases c13:x32_6=true
     ·subst c13
      rw [if_pos rfl] at H
      simp only [Option.some.injEq,Prod.mk.injEq] at H
      obtain ⟨rfl,rfl⟩:=H
      go_wp2
      go_ret2
      exact ⟨zb4,zb8⟩
     replace c13:=Bool.eq_false_iff.mpr c13
     subst c13
     rw [if_neg (show ¬ (false=true) by decide)] at H
     by_cases c14:0 ≤ x4_1;rotate_left
     ·rw [if_neg c14] at H
      exact absurd H zb27
     rw [if_pos c14] at H
     have c14b0:=eq_true c14
     have c14b1:decide (0 ≤ x4_1)=true:=decide_eq_true c14
     clear c14
     by_cases c15:x4_1 ≤ (a0.size:Int)
     ·rw [if_pos c15] at H
      have c15b0:=eq_true c15
      have c15b1:decide (x4_1 ≤ (a0.size:Int))=true:=decide_eq_true c15
      clear c15
      have H' := Aside0.mk H
      clear H
      go_wp2
      go_loopg [6] kj6 (fun kq v6 w' => ∃ (x6_3:ByteArray),v6 = .string x6_3∧Aside0 (tollbarref06_size.l1 kq x6_3=some (r1,r2))∧Aside0 (kq ≤ kj6)∧Drawn0 w w')
      case atStart=>exact ⟨(a0.extract 0 (x4_1:Int).toNat),zb4,H',⟨Nat.le_refl _⟩,zb8⟩
      case round =>
       clear H'
       try clear c1
       try clear c2
       try clear c2b0
       try clear p2
       try clear c3
       try clear c3b0
       try clear c4
       try clear c4b0
       try clear p5
       try clear q5
       try clear hx5
       try clear c6
       try clear c6b0
       try clear c6b1
       try clear p6
       try clear c8
       try clear c8b0
       try clear c10
       try clear c10b0
       try clear c10b1
       try clear c11
       try clear c11b0
       try clear c11b1
       try clear c13
       try clear c14
       try clear c14b0
       try clear c14b1
       try clear c15
       try clear c15b0
       try clear c15b1
       try clear p2
       try clear p5
       try clear p6
       try clear q5
       obtain ⟨x6_3,rfl,HA,HK3,⟨m3,rfl⟩⟩:=hrel
       cases gk with
       | zero=>exact absurd HA.out (by simp [tollbarref06_size.l1])
       | succ k3 =>
        have H:=HA.out
        clear HA
        simp only [tollbarref06_size.l1] at H
        by_cases c16:(x6_3.size:Int) > 0;rotate_left
        ·rw [if_neg c16] at H
         have c16b0:decide (0 < (x6_3.size:Int))=false:=decide_eq_false c16
         have c16b1:decide (0 < x6_3.size)=false:=decide_eq_false zb25
         clear c16
         replace H:=Option.bind_eq_some_iff.mp H
         obtain ⟨⟨t716,t717⟩,A290,H⟩:=H
         try dsimp only at H
         have A29:=Aside0.mk A290
         clear A290
         simp only [Option.some.injEq,Prod.mk.injEq] at H
         obtain ⟨rfl,rfl⟩:=H
         go_wp2_with (first|((with_reducible refine gate_callee (f:=172) rfl ?_);refine goesL_ (some 61) rfl rfl Tryz.func172 zb9 rfl #[.string x6_3] rfl zb1 ?_;(with_reducible refine (tollbarref02_Hex.calls k3 x6_3 t716 t717 _ A29.out).mono ?_);rintro e w' ⟨rfl,⟨nd,rfl⟩⟩;(try clear A29);refine ⟨_,rfl,?_⟩))
         go_ret2
         exact ⟨zb4,zb8⟩
        rw [if_pos c16] at H
        have c16b0:decide (0 < (x6_3.size:Int))=true:=decide_eq_true c16
        have c16b1:decide (0 < x6_3.size)=true:=decide_eq_true zb25
        clear c16
        obtain ⟨ji17,hji17⟩ : ∃ j_:Int,(wrap64 ((x6_3.size:Int) - 1))=j_:=⟨_,rfl⟩
        replace H:(if 0 ≤ (ji17) then (if (ji17) < (x6_3.size:Int) then (if (bt x6_3 (ji17))=32 then (if (ji17) ≤ (x6_3.size:Int) then (tollbarref06_size.l1 k3 (x6_3.extract 0 ((ji17):Int).toNat)) else (none)) else (if (bt x6_3 (ji17))=9 then (if (ji17) ≤ (x6_3.size:Int) then (tollbarref06_size.l1 k3 (x6_3.extract 0 ((ji17):Int).toNat)) else (none)) else ((tollbarref02_Hex.f k3 x6_3).bind fun bt714=>(some (bt714.1,bt714.2))))) else (none)) else (none))=some (r1,r2):=by first|(rw [hji17] at H;exact H)|(simp only [hji17] at H ⊢;exact H)
        have hji17w:(IntKind.i64.wrap ((x6_3.size:Int) - 1))=ji17:=(i64_w _).trans hji17
        by_cases c18:0 ≤ (ji17)
        ·rw [if_pos c18] at H
         have c18b0:decide (0 ≤ (ji17))=true:=decide_eq_true c18
         clear c18
         by_cases c19:(ji17) < (x6_3.size:Int)
         ·rw [if_pos c19] at H
          have c19b0:decide ((ji17) < (x6_3.size:Int))=true:=decide_eq_true c19
          clear c19
          by_cases c21:(bt x6_3 (ji17))=32
          ·rw [if_pos c21] at H
           have c21b0:=beq_iff_eq.mpr c21
           have c21b1:=bne_eq_false_iff_eq.mpr c21
           clear c21
           have c22b0:=eq_true (of_decide_eq_true zb2:0 ≤ (ji17))
           by_cases c23:(ji17) ≤ (x6_3.size:Int);rotate_left
           ·rw [if_neg c23] at H
            exact absurd H zb27
           rw [if_pos c23] at H
           have c23b0:=eq_true c23
           have c23b1:decide ((ji17) ≤ (x6_3.size:Int))=true:=decide_eq_true c23
           clear c23
           have H' := Aside0.mk H
           clear H
           have p20:0 ≤ ((ji17):Int):=of_decide_eq_true zb2
           have q20:(ji17) < (x6_3.size:Int):=of_decide_eq_true zb2
           have hx20:=bt_at x6_3 (ji17)
           replace p20:=eq_true p20
           replace q20:=eq_true q20
           go_wp2
           go_roundg k3
           case measure=>have:=HK1.out;have:=HJ6.out;have:=HK3.out;omega
           case rel=>exact ⟨(x6_3.extract 0 ((ji17):Int).toNat),zb99,H',⟨by have:=HK1.out;have:=HJ6.out;have:=HK3.out;omega⟩,zb8⟩
          rw [if_neg c21] at H
          have c21b0:=beq_eq_false_iff_ne.mpr c21
          have c21b1:=bne_iff_ne.mpr c21
          by_cases c25:(bt x6_3 (ji17))=9;rotate_left
          ·rw [if_neg c25] at H
           have c25b0:=beq_eq_false_iff_ne.mpr c25
           have c25b1:=bne_iff_ne.mpr c25
           replace H:=Option.bind_eq_some_iff.mp H
           obtain ⟨⟨t714,t715⟩,A280,H⟩:=H
           try dsimp only at H
           have A28:=Aside0.mk A280
           clear A280
           simp only [Option.some.injEq,Prod.mk.injEq] at H
           obtain ⟨rfl,rfl⟩:=H
           have p20:0 ≤ ((ji17):Int):=of_decide_eq_true zb2
           have q20:(ji17) < (x6_3.size:Int):=of_decide_eq_true zb2
           have hx20:=bt_at x6_3 (ji17)
           replace p20:=eq_true p20
           replace q20:=eq_true q20
           have p24:0 ≤ ((ji17):Int):=of_decide_eq_true zb2
           have q24:(ji17) < (x6_3.size:Int):=of_decide_eq_true zb2
           have hx24:=bt_at x6_3 (ji17)
           replace p24:=eq_true p24
           replace q24:=eq_true q24
           go_wp2_with (first|((with_reducible refine gate_callee (f:=172) rfl ?_);refine goesL_ (some 61) rfl rfl Tryz.func172 zb9 rfl #[.string x6_3] rfl zb1 ?_;(with_reducible refine (tollbarref02_Hex.calls k3 x6_3 t714 t715 _ A28.out).mono ?_);rintro e w' ⟨rfl,⟨nd,rfl⟩⟩;(try clear A28);refine ⟨_,rfl,?_⟩))
           go_ret2
           exact ⟨zb99,zb8⟩
          rw [if_pos c25] at H
          have c25b0:=beq_iff_eq.mpr c25
          have c25b1:=bne_eq_false_iff_eq.mpr c25
          clear c25
          have c26b0:=eq_true (of_decide_eq_true zb2:0 ≤ (ji17))
          by_cases c27:(ji17) ≤ (x6_3.size:Int)
          ·rw [if_pos c27] at H
           have c27b0:=eq_true c27
           have c27b1:decide ((ji17) ≤ (x6_3.size:Int))=true:=decide_eq_true c27
           clear c27
           have H' := Aside0.mk H
           clear H
           have p20:0 ≤ ((ji17):Int):=of_decide_eq_true zb2
           have q20:(ji17) < (x6_3.size:Int):=of_decide_eq_true zb2
           have hx20:=bt_at x6_3 (ji17)
           replace p20:=eq_true p20
           replace q20:=eq_true q20
           have p24:0 ≤ ((ji17):Int):=of_decide_eq_true zb2
           have q24:(ji17) < (x6_3.size:Int):=of_decide_eq_true zb2
           have hx24:=bt_at x6_3 (ji17)
           replace p24:=eq_true p24
           replace q24:=eq_true q24
           go_wp2
           go_roundg k3
           case measure=>have:=HK1.out;have:=HJ6.out;have:=HK3.out;omega
           case rel=>exact ⟨(x6_3.extract 0 ((ji17):Int).toNat),zb99,H',⟨by have:=HK1.out;have:=HJ6.out;have:=HK3.out;omega⟩,zb8⟩
          ·rw [if_neg c27] at H
           exact absurd H zb27
         ·rw [if_neg c19] at H
          exact absurd H zb27
        ·rw [if_neg c18] at H
         exact absurd H zb27
     ·rw [if_neg c15] at H
      exact absurd H zb27
mutual
def tollbarref06_Decode.j0:Nat → List Int → Int → Option (List Int × Int × Int)
 | 0,_,_=>none
 | k + 1,x0,x1=>tollbarref06_Decode.l0 k x0 x1 (([]:List Int)) 0 0
def tollbarref06_Decode.l0:Nat → List Int → Int → List Int → Int → Int → Option (List Int × Int × Int)
 | 0,_,_,_,_,_=>none
 | k + 1,x0,x1,x7,x8,x9=>if 0 ≤ x9 then (if x9 ≤ (x0.length:Int) then ((tollbarref05_Cut.f k (x0.drop (x9:Int).toNat) 256).bind fun bt722=>(if bt722.2.2=0 then (tollbarref06_Decode.j2 k x0 x1 x7 x8 x9 bt722.1 bt722.2.1 bt722.2.2 (bt722.2.1 == 0)) else (tollbarref06_Decode.j2 k x0 x1 x7 x8 x9 bt722.1 bt722.2.1 bt722.2.2 true))) else (none)) else (none)
def tollbarref06_Decode.j2:Nat → List Int → Int → List Int → Int → Int → ByteArray → Int → Int → Bool → Option (List Int × Int × Int)
 | 0,_,_,_,_,_,_,_,_,_=>none
 | k + 1,x0,x1,x7,x8,x9,x10,x11,x12,x40=>if x40=true then (some (([]:List Int),0,x12)) else ((tollbarref06_size.f k x10).bind fun bt725=>(if bt725.2=true then (if bt725.1=0 then (tollbarref06_Decode.l3 k x0 x7 (wrap64 (x9 + x11)) 0) else (if bt725.1 > (wrap64 (x1 - x8)) then (some (([]:List Int),0,2)) else (tollbarref06_Decode.l1 k x0 x1 x7 (wrap64 (x8 + bt725.1)) (wrap64 (x9 + x11)) bt725.1 0))) else (some (([]:List Int),0,30))))
def tollbarref06_Decode.l3:Nat → List Int → List Int → Int → Int → Option (List Int × Int × Int)
 | 0,_,_,_,_=>none
 | k + 1,x0,x7,x9,x18=>if 0 ≤ x9 then (if x9 ≤ (x0.length:Int) then ((tollbarref05_Cut.f k (x0.drop (x9:Int).toNat) 256).bind fun bt737=>(if bt737.2.2=0 then (tollbarref06_Decode.j6 k x0 x7 x9 x18 bt737.1 bt737.2.1 bt737.2.2 (bt737.2.1 == 0)) else (tollbarref06_Decode.j6 k x0 x7 x9 x18 bt737.1 bt737.2.1 bt737.2.2 true))) else (none)) else (none)
def tollbarref06_Decode.j6:Nat → List Int → List Int → Int → Int → ByteArray → Int → Int → Bool → Option (List Int × Int × Int)
 | 0,_,_,_,_,_,_,_,_=>none
 | k + 1,x0,x7,x9,x18,x19,x20,x21,x113=>if x113=true then (some (([]:List Int),0,x21)) else (if x19.toList=([]:List UInt8) then (some (x7,wrap64 (x9 + x20),0)) else ((tollbarref04_Parse.f k x19).bind fun bt740=>(if bt740.2.2=true then (if (wrap64 (x18 + 1)) > 40 then (some (([]:List Int),0,3)) else (tollbarref06_Decode.l3 k x0 x7 (wrap64 (x9 + x20)) (wrap64 (x18 + 1)))) else (some (([]:List Int),0,20)))))
def tollbarref06_Decode.l1:Nat → List Int → Int → List Int → Int → Int → Int → Int → Option (List Int × Int × Int)
 | 0,_,_,_,_,_,_,_=>none
 | k + 1,x0,x1,x7,x8,x9,x13,x15=>if x15 < x13 then (if x9=(x0.length:Int) then (some (([]:List Int),0,0)) else (if 0 ≤ x9 then (if x9 < (x0.length:Int) then (if x7.length < 140737488355328 then (tollbarref06_Decode.l1 k x0 x1 (x7 ++ [rd x0 x9]) x8 (wrap64 (x9 + 1)) x13 (wrap64 (x15 + 1))) else (none)) else (none)) else (none))) else (tollbarref06_Decode.l2 k x0 x1 x7 x8 x9 (([13,10]:List Int)) 0)
def tollbarref06_Decode.l2:Nat → List Int → Int → List Int → Int → Int → List Int → Int → Option (List Int × Int × Int)
 | 0,_,_,_,_,_,_,_=>none
 | k + 1,x0,x1,x7,x8,x9,x16,x17=>if x17 < 2 then (if x9=(x0.length:Int) then (some (([]:List Int),0,0)) else (if 0 ≤ x9 then (if x9 < (x0.length:Int) then (if 0 ≤ x17 then (if x17 < (x16.length:Int) then (if (rd x0 x9)=(rd x16 x17) then (tollbarref06_Decode.l2 k x0 x1 x7 x8 (wrap64 (x9 + 1)) x16 (wrap64 (x17 + 1))) else (some (([]:List Int),0,20))) else (none)) else (none)) else (none)) else (none))) else (tollbarref06_Decode.l0 k x0 x1 x7 x8 x9)
end
def tollbarref06_Decode.f (k:Nat) (l0:List Int) (a1:Int):Option (List Int × Int × Int):=if a1 < 0 then (tollbarref06_Decode.j0 k l0 0) else (tollbarref06_Decode.j0 k l0 a1)
set_option maxHeartbeats 8000000 in
set_option maxRecDepth 100000 in
theorem tollbarref06_Decode.calls (k:Nat) (A0:Option Addr) (c0:Nat) (l0:List Int) (a1:Int) (r1:List Int) (r2:Int) (r3:Int) (w:World) (hr0:Kd.C (Kd.int .u8) w A0 l0.length l0) (hc0:l0.length ≤ c0) (h:tollbarref06_Decode.f k l0 a1=some (r1,r2,r3)) :
  Calls Tryz.prog 98 #[.slice A0 l0.length c0,.int .i64 a1] w fun e w' => ∃ v0_:Value,e = .returned (.tuple #[v0_,.int .i64 r2,.int .i64 r3])∧Kd.R (Kd.int .u8) 5 w' w.heap.size (fun _=>True) v0_ r1∧Below w.heap.size w w' := by
 have hu55:=Tryz.underlying55
 have HR0:=Aside0.mk hr0
 have HC0:=Aside0.mk hc0
 clear hr0 hc0
 have HB:=Aside0.mk (Below.refl w.heap.size w)
 have H:(if a1 < 0 then (tollbarref06_Decode.j0 k l0 0) else (tollbarref06_Decode.j0 k l0 a1))=some (r1,r2,r3):=h
 clear h
 have HC3:=Aside0.mk H
 clear H
 go_enter Tryz.func98,Tryz.ntmps98
 go_upto_if 25 with (fail)
 repeat (go_quiet (fail);go_upto_if 25 with (fail))
 go_cut [1] (fun v1 wc => ∃ (kq:Nat) (x1_2:Int),v1 = .int .i64 x1_2∧Aside0 (tollbarref06_Decode.j0 kq l0 x1_2=some (r1,r2,r3))∧Aside0 (kq ≤ k)∧Aside0 (Below w.heap.size w wc))
 case first =>
  have H:=HC3.out
  clear HC3
  by_cases c4:a1 < 0
  ·rw [if_pos c4] at H
   have c4b0:decide (a1 < 0)=true:=decide_eq_true c4
   clear c4
   (first|rw [c4b0]|(simp only [i64_w,i32_w];rw [c4b0])|skip)
   have H' := Aside0.mk H
   clear H
   go_wp2
   repeat (go_quiet (fail);try go_wp2)
   go_meet
   case rel=>exact ⟨_,(0),zb4,H',⟨zb31⟩,⟨zb0⟩⟩
  rw [if_neg c4] at H
  have c4b0:decide (a1 < 0)=false:=decide_eq_false c4
  clear c4
  (first|rw [c4b0]|(simp only [i64_w,i32_w];rw [c4b0])|skip)
  have H' := Aside0.mk H
  clear H
  go_wp2
  repeat (go_quiet (fail);try go_wp2)
  go_meet
  case rel=>exact ⟨_,(a1),zb4,H',⟨zb31⟩,⟨zb0⟩⟩
 case rest =>
  clear HC3
  try clear p2
  try clear c4
  try clear c4b0
  obtain ⟨kq,x1_2,rfl,HA,HJ2,HB⟩:=hcut
  cases kq with
  | zero=>exact absurd HA.out (by simp [tollbarref06_Decode.j0])
  | succ kj2 =>
   have H:=HA.out
   clear HA
   simp only [tollbarref06_Decode.j0] at H
   obtain ⟨y66,hy66⟩ : ∃ y_:List Int,y_=(([]:List Int)):=⟨_,rfl⟩
   replace H:(tollbarref06_Decode.l0 kj2 l0 x1_2 y66 0 0)=some (r1,r2,r3):=by first|(rw [hy66];with_reducible exact H)|(have H2_:=(Option.bind_some _ _).symm.trans H;rw [hy66];with_reducible exact H2_)|(have H2_:=(Option.bind_some _ _).symm.trans H;with_reducible exact H2_)|with_reducible exact H|(rw [hy66];exact H)|exact H
   have Ny66:=Aside0.mk hy66
   clear hy66
   have H' := Aside0.mk H
   clear H
   go_wp2_with (first|((with_reducible refine gate_dst (N:=26) rfl ?_);refine Kd.R_lit (Kd.int .u8) _ 5 ?hg (N:=26) ?hd (xs:=([]:List Int)) (inner:=[]) (ok:=fun _=>True) (okp:=fun _=>True) ?hr ?hp (fun _ hk=>hk) trivial (Below.refl _ _) (Nat.le_refl _) zb27 ?_;(case hd=>rfl);(case hg=>rfl);(case hr=>first|(go_simp;done)|(go_simp;rfl));(case hp=>exact (Reps.none _ _));intro v85 w5 ho6 hb hg_ hnew_;clear hg_ hnew_;(first|rw [← Ny66.out] at ho6|(simp only [Int.reduceToNat] at ho6;rw [← Ny66.out] at ho6));have n0_:=Aside0.mk (Kd.R_lower ho6 (below_size zb0));have n1_:=Aside0.mk (below_step zb0 hb);clear HB;have HO79:=n0_;have HB:=n1_;clear n0_ n1_;clear hb ho6))
   repeat (go_quiet (first|((with_reducible refine gate_dst (N:=26) rfl ?_);refine Kd.R_lit (Kd.int .u8) _ 5 ?hg (N:=26) ?hd (xs:=([]:List Int)) (inner:=[]) (ok:=fun _=>True) (okp:=fun _=>True) ?hr ?hp (fun _ hk=>hk) trivial (Below.refl _ _) (Nat.le_refl _) zb27 ?_;(case hd=>rfl);(case hg=>rfl);(case hr=>first|(go_simp;done)|(go_simp;rfl));(case hp=>exact (Reps.none _ _));intro v85 w5 ho6 hb hg_ hnew_;clear hg_ hnew_;(first|rw [← Ny66.out] at ho6|(simp only [Int.reduceToNat] at ho6;rw [← Ny66.out] at ho6));have n0_:=Aside0.mk (Kd.R_lower ho6 (below_size zb0));have n1_:=Aside0.mk (below_step zb0 hb);clear HB;have HO79:=n0_;have HB:=n1_;clear n0_ n1_;clear hb ho6));try go_wp2_with (first|((with_reducible refine gate_dst (N:=26) rfl ?_);refine Kd.R_lit (Kd.int .u8) _ 5 ?hg (N:=26) ?hd (xs:=([]:List Int)) (inner:=[]) (ok:=fun _=>True) (okp:=fun _=>True) ?hr ?hp (fun _ hk=>hk) trivial (Below.refl _ _) (Nat.le_refl _) zb27 ?_;(case hd=>rfl);(case hg=>rfl);(case hr=>first|(go_simp;done)|(go_simp;rfl));(case hp=>exact (Reps.none _ _));intro v85 w5 ho6 hb hg_ hnew_;clear hg_ hnew_;(first|rw [← Ny66.out] at ho6|(simp only [Int.reduceToNat] at ho6;rw [← Ny66.out] at ho6));have n0_:=Aside0.mk (Kd.R_lower ho6 (below_size zb0));have n1_:=Aside0.mk (below_step zb0 hb);clear HB;have HO79:=n0_;have HB:=n1_;clear n0_ n1_;clear hb ho6)))
   go_loopg [7,8,9] kj2 (fun kq v7 v8 v9 w' => ∃ (x7_2:List Int) (x8_2:Int) (x9_2:Int),v8 = .int .i64 x8_2∧v9 = .int .i64 x9_2∧Aside0 (tollbarref06_Decode.l0 kq l0 x1_2 x7_2 x8_2 x9_2=some (r1,r2,r3))∧Aside0 (kq ≤ kj2)∧Aside0 (Kd.R (Kd.int .u8) 5 w' w.heap.size (fun _=>True) v7 x7_2)∧Aside0 (Below w.heap.size w w'))
   case atStart=>exact ⟨(y66),(0),(0),zb4,zb4,H',⟨Nat.le_refl _⟩,⟨by (with_reducible repeat (first|apply Kd.R_alloc|apply Kd.R_drewN|apply Kd.R_drew));exact HO79.out⟩,⟨zb0⟩⟩
   case round =>
    clear H'
    try clear p2
    try clear c4
    try clear c4b0
    try clear p2
    obtain ⟨x7_2,x8_2,x9_2,rfl,rfl,HA,HK2,HO_7,HB⟩:=hrel
    cases gk with
    | zero=>exact absurd HA.out (by simp [tollbarref06_Decode.l0])
    | succ k2 =>
     have H:=HA.out
     clear HA
     simp only [tollbarref06_Decode.l0] at H
     by_cases c7:0 ≤ x9_2;rotate_left
     ·rw [if_neg c7] at H
      exact absurd H zb27
     rw [if_pos c7] at H
     have c7b0:=eq_true c7
     have c7b1:decide (0 ≤ x9_2)=true:=decide_eq_true c7
     clear c7
     by_cases c8:x9_2 ≤ (l0.length:Int)
     ·rw [if_pos c8] at H
      have c8b0:=eq_true c8
      have c8b1:decide (x9_2 ≤ (l0.length:Int))=true:=decide_eq_true c8
      clear c8
      replace H:=Option.bind_eq_some_iff.mp H
      obtain ⟨⟨t62,t65,t67⟩,A90,H⟩:=H
      try dsimp only at H
      have A9:=Aside0.mk A90
      clear A90
      have HC10:=Aside0.mk H
      clear H
      obtain ⟨i77,hi77,_,hsz11,_⟩:=info_parts info5
      obtain ⟨A11,hcut11,hA11,hC11⟩:=print_drop_of (P:=Tryz.prog) (Value.int .u8) 0 23 5 .i64 Tryz.underlying23 hi77 hsz11 A0 c0 l0 x9_2 (of_decide_eq_true zb2) (of_decide_eq_true zb2) HC0.out
      have HR73:=Aside0.mk (Kd.C_of_reads (h1:=fun _=>rfl) (hA11 _ (Kd.reads_of_C HR0.out)))
      have HC73:=Aside0.mk hC11
      clear hA11 hC11 hi77 hsz11
      go_upto_region 7 with (first|(go_at_call 114;(try rw [← List.length_drop]);(with_reducible refine (tollbarref05_Cut.calls k2 _ _ (l0.drop (x9_2:Int).toNat) 256 t62 t65 t67 _ ?side1 ?side2 A9.out).mono ?_);(case side1=>repeat (first|exact (Kd.C_below HR73.out HB.out)|(with_reducible refine Kd.C_alloc ?_ _)|(with_reducible refine Kd.C_drewN ?_ _)|(with_reducible refine Kd.C_drew ?_)));(case side2=>exact HC73.out);rintro e w' ⟨rfl,⟨nd,rfl⟩⟩;(try first|exact ⟨rfl,_,World.drewN_drewN _ _ _⟩|exact ⟨rfl,_,Eq.trans (World.drewN_drewN _ _ _) (congrArg (World.drewN _) (Nat.add_assoc _ _ _))⟩)))
      repeat (go_quiet (first|(go_at_call 114;(try rw [← List.length_drop]);(with_reducible refine (tollbarref05_Cut.calls k2 _ _ (l0.drop (x9_2:Int).toNat) 256 t62 t65 t67 _ ?side1 ?side2 A9.out).mono ?_);(case side1=>repeat (first|exact (Kd.C_below HR73.out HB.out)|(with_reducible refine Kd.C_alloc ?_ _)|(with_reducible refine Kd.C_drewN ?_ _)|(with_reducible refine Kd.C_drew ?_)));(case side2=>exact HC73.out);rintro e w' ⟨rfl,⟨nd,rfl⟩⟩;(try first|exact ⟨rfl,_,World.drewN_drewN _ _ _⟩|exact ⟨rfl,_,Eq.trans (World.drewN_drewN _ _ _) (congrArg (World.drewN _) (Nat.add_assoc _ _ _))⟩)));go_upto_region 7 with (first|(go_at_call 114;(try rw [← List.length_drop]);(with_reducible refine (tollbarref05_Cut.calls k2 _ _ (l0.drop (x9_2:Int).toNat) 256 t62 t65 t67 _ ?side1 ?side2 A9.out).mono ?_);(case side1=>repeat (first|exact (Kd.C_below HR73.out HB.out)|(with_reducible refine Kd.C_alloc ?_ _)|(with_reducible refine Kd.C_drewN ?_ _)|(with_reducible refine Kd.C_drew ?_)));(case side2=>exact HC73.out);rintro e w' ⟨rfl,⟨nd,rfl⟩⟩;(try first|exact ⟨rfl,_,World.drewN_drewN _ _ _⟩|exact ⟨rfl,_,Eq.trans (World.drewN_drewN _ _ _) (congrArg (World.drewN _) (Nat.add_assoc _ _ _))⟩))))
      (try simp only [Act.put,zqA,zqB,zqC])
      go_cut [40] (fun v40 wc => ∃ (kq:Nat) (x40_9:Bool),v40 = .bool x40_9∧Aside0 (tollbarref06_Decode.j2 kq l0 x1_2 x7_2 x8_2 x9_2 t62 t65 t67 x40_9=some (r1,r2,r3))∧Aside0 (kq ≤ k2)∧Aside0 (Kd.R (Kd.int .u8) 5 wc w.heap.size (fun _=>True) u7 x7_2)∧Aside0 (Below w.heap.size w wc))
      case first =>
       have H:=HC10.out
       clear HC10
       by_cases c12:t67=0;rotate_left
       ·rw [if_neg c12] at H
        have c12b0:=beq_eq_false_iff_ne.mpr c12
        have c12b1:=bne_iff_ne.mpr c12
        (first|rw [c12b0]|(simp only [i64_w,i32_w];rw [c12b0])|rw [c12b1]|skip)
        have H' := Aside0.mk H
        clear H
        go_wp2
        repeat (go_quiet (fail);try go_wp2)
        go_meet
        case rel=>exact ⟨_,(true),zb4,H',⟨zb77⟩,⟨zb11⟩,⟨zb0⟩⟩
       rw [if_pos c12] at H
       have c12b0:=beq_iff_eq.mpr c12
       have c12b1:=bne_eq_false_iff_eq.mpr c12
       clear c12
       (first|rw [c12b0]|(simp only [i64_w,i32_w];rw [c12b0])|rw [c12b1]|skip)
       have H' := Aside0.mk H
       clear H
       go_wp2
       repeat (go_quiet (fail);try go_wp2)
       go_meet
       case rel=>exact ⟨_,((t65 == 0)),zb4,H',⟨zb77⟩,⟨zb11⟩,⟨zb0⟩⟩
      case rest =>
       clear HC10
       try clear c1
       try clear p2
       try clear c4
       try clear c4b0
       try clear c7
       try clear c7b0
       try clear c7b1
       try clear c8
       try clear c8b0
       try clear c8b1
       try clear c9
       try clear c12
       try clear c12b0
       try clear c12b1
       try clear p2
       obtain ⟨kq,x40_9,rfl,HA,HJ9,HO_7,HB⟩:=hcut
       cases kq with
       | zero=>exact absurd HA.out (by simp [tollbarref06_Decode.j2])
       | succ kj9 =>
        have H:=HA.out
        clear HA
        simp only [tollbarref06_Decode.j2] at H
        by_cases c13:x40_9=true
        ·subst c13
         rw [if_pos rfl] at H
         simp only [Option.some.injEq,Prod.mk.injEq] at H
         obtain ⟨rfl,rfl,rfl⟩:=H
         go_wp2
         repeat (go_quiet (fail);try go_wp2)
         go_ret3
         exact ⟨_,zb3,zb7,zb0⟩
        replace c13:=Bool.eq_false_iff.mpr c13
        subst c13
        rw [if_neg (show ¬ (false=true) by decide)] at H
        replace H:=Option.bind_eq_some_iff.mp H
        obtain ⟨⟨t57,t86⟩,A82,H⟩:=H
        try dsimp only at H
        have A14:=Aside0.mk A82
        clear A82
        by_cases c15:t86=true;rotate_left
        ·replace c15:=Bool.eq_false_iff.mpr c15
         subst c15
         rw [if_neg (show ¬ (false=true) by decide)] at H
         simp only [Option.some.injEq,Prod.mk.injEq] at H
         obtain ⟨rfl,rfl,rfl⟩:=H
         go_wp2_with (first|(go_at_call 145;(with_reducible refine (tollbarref06_size.calls kj9 t62 t57 false _ A14.out).mono ?_);rintro e w' ⟨rfl,⟨nd,rfl⟩⟩;(try clear A14);(try first|exact ⟨rfl,_,World.drewN_drewN _ _ _⟩|exact ⟨rfl,_,Eq.trans (World.drewN_drewN _ _ _) (congrArg (World.drewN _) (Nat.add_assoc _ _ _))⟩)))
         repeat (go_quiet (first|(go_at_call 145;(with_reducible refine (tollbarref06_size.calls kj9 t62 t57 false _ A14.out).mono ?_);rintro e w' ⟨rfl,⟨nd,rfl⟩⟩;(try clear A14);(try first|exact ⟨rfl,_,World.drewN_drewN _ _ _⟩|exact ⟨rfl,_,Eq.trans (World.drewN_drewN _ _ _) (congrArg (World.drewN _) (Nat.add_assoc _ _ _))⟩)));try go_wp2_with (first|(go_at_call 145;(with_reducible refine (tollbarref06_size.calls kj9 t62 t57 false _ A14.out).mono ?_);rintro e w' ⟨rfl,⟨nd,rfl⟩⟩;(try clear A14);(try first|exact ⟨rfl,_,World.drewN_drewN _ _ _⟩|exact ⟨rfl,_,Eq.trans (World.drewN_drewN _ _ _) (congrArg (World.drewN _) (Nat.add_assoc _ _ _))⟩))))
         go_ret3
         exact ⟨_,zb3,zb7,zb0⟩
        subst c15
        rw [if_pos rfl] at H
        by_cases c16:t57=0
        ·rw [if_pos c16] at H
         have c16b0:=beq_iff_eq.mpr c16
         have c16b1:=bne_eq_false_iff_eq.mpr c16
         clear c16
         have H' := Aside0.mk H
         clear H
         go_wp2_with (first|(go_at_call 145;(with_reducible refine (tollbarref06_size.calls kj9 t62 t57 true _ A14.out).mono ?_);rintro e w' ⟨rfl,⟨nd,rfl⟩⟩;(try clear A14);(try first|exact ⟨rfl,_,World.drewN_drewN _ _ _⟩|exact ⟨rfl,_,Eq.trans (World.drewN_drewN _ _ _) (congrArg (World.drewN _) (Nat.add_assoc _ _ _))⟩)))
         repeat (go_quiet (first|(go_at_call 145;(with_reducible refine (tollbarref06_size.calls kj9 t62 t57 true _ A14.out).mono ?_);rintro e w' ⟨rfl,⟨nd,rfl⟩⟩;(try clear A14);(try first|exact ⟨rfl,_,World.drewN_drewN _ _ _⟩|exact ⟨rfl,_,Eq.trans (World.drewN_drewN _ _ _) (congrArg (World.drewN _) (Nat.add_assoc _ _ _))⟩)));try go_wp2_with (first|(go_at_call 145;(with_reducible refine (tollbarref06_size.calls kj9 t62 t57 true _ A14.out).mono ?_);rintro e w' ⟨rfl,⟨nd,rfl⟩⟩;(try clear A14);(try first|exact ⟨rfl,_,World.drewN_drewN _ _ _⟩|exact ⟨rfl,_,Eq.trans (World.drewN_drewN _ _ _) (congrArg (World.drewN _) (Nat.add_assoc _ _ _))⟩))))
         go_loopg [9,18] kj9 (fun kq v9 v18 w' => ∃ (x9_4:Int) (x18_4:Int),v9 = .int .i64 x9_4∧v18 = .int .i64 x18_4∧Aside0 (tollbarref06_Decode.l3 kq l0 x7_2 x9_4 x18_4=some (r1,r2,r3))∧Aside0 (kq ≤ kj9)∧Aside0 (Kd.R (Kd.int .u8) 5 w' w.heap.size (fun _=>True) u7 x7_2)∧Aside0 (Below w.heap.size w w'))
         case atStart=>exact ⟨(wrap64 (x9_2 + t65)),(0),zb4,zb4,H',⟨Nat.le_refl _⟩,⟨zb11⟩,⟨zb0⟩⟩
         case round =>
          clear H'
          try clear c1
          try clear p2
          try clear c4
          try clear c4b0
          try clear p6
          try clear c7
          try clear c7b0
          try clear c7b1
          try clear c8
          try clear c8b0
          try clear c8b1
          try clear c9
          try clear c12
          try clear c12b0
          try clear c12b1
          try clear c13
          try clear c15
          try clear c16
          try clear c16b0
          try clear c16b1
          try clear p2
          obtain ⟨x9_4,x18_4,rfl,rfl,HA,HK4,HO_7,HB⟩:=hrel
          cases gk with
          | zero=>exact absurd HA.out (by simp [tollbarref06_Decode.l3])
          | succ k4 =>
           have H:=HA.out
           clear HA
           simp only [tollbarref06_Decode.l3] at H
           by_cases c17:0 ≤ x9_4;rotate_left
           ·rw [if_neg c17] at H
            exact absurd H zb27
           rw [if_pos c17] at H
           have c17b0:=eq_true c17
           have c17b1:decide (0 ≤ x9_4)=true:=decide_eq_true c17
           clear c17
           by_cases c18:x9_4 ≤ (l0.length:Int)
           ·rw [if_pos c18] at H
            have c18b0:=eq_true c18
            have c18b1:decide (x9_4 ≤ (l0.length:Int))=true:=decide_eq_true c18
            clear c18
            replace H:=Option.bind_eq_some_iff.mp H
            obtain ⟨⟨t61,t68,t69⟩,A83,H⟩:=H
            try dsimp only at H
            have A19:=Aside0.mk A83
            clear A83
            have HC20:=Aside0.mk H
            clear H
            obtain ⟨i78,hi78,_,hsz21,_⟩:=info_parts info5
            obtain ⟨A21,hcut21,hA21,hC21⟩:=print_drop_of (P:=Tryz.prog) (Value.int .u8) 0 23 5 .i64 Tryz.underlying23 hi78 hsz21 A0 c0 l0 x9_4 (of_decide_eq_true zb2) (of_decide_eq_true zb2) HC0.out
            have HR74:=Aside0.mk (Kd.C_of_reads (h1:=fun _=>rfl) (hA21 _ (Kd.reads_of_C HR0.out)))
            have HC74:=Aside0.mk hC21
            clear hA21 hC21 hi78 hsz21
            go_upto_region 35 with (first|(go_at_call 114;(try rw [← List.length_drop]);(with_reducible refine (tollbarref05_Cut.calls k4 _ _ (l0.drop (x9_4:Int).toNat) 256 t61 t68 t69 _ ?side1 ?side2 A19.out).mono ?_);(case side1=>repeat (first|exact (Kd.C_below HR74.out HB.out)|(with_reducible refine Kd.C_alloc ?_ _)|(with_reducible refine Kd.C_drewN ?_ _)|(with_reducible refine Kd.C_drew ?_)));(case side2=>exact HC74.out);rintro e w' ⟨rfl,⟨nd,rfl⟩⟩;(try first|exact ⟨rfl,_,World.drewN_drewN _ _ _⟩|exact ⟨rfl,_,Eq.trans (World.drewN_drewN _ _ _) (congrArg (World.drewN _) (Nat.add_assoc _ _ _))⟩)))
            repeat (go_quiet (first|(go_at_call 114;(try rw [← List.length_drop]);(with_reducible refine (tollbarref05_Cut.calls k4 _ _ (l0.drop (x9_4:Int).toNat) 256 t61 t68 t69 _ ?side1 ?side2 A19.out).mono ?_);(case side1=>repeat (first|exact (Kd.C_below HR74.out HB.out)|(with_reducible refine Kd.C_alloc ?_ _)|(with_reducible refine Kd.C_drewN ?_ _)|(with_reducible refine Kd.C_drew ?_)));(case side2=>exact HC74.out);rintro e w' ⟨rfl,⟨nd,rfl⟩⟩;(try first|exact ⟨rfl,_,World.drewN_drewN _ _ _⟩|exact ⟨rfl,_,Eq.trans (World.drewN_drewN _ _ _) (congrArg (World.drewN _) (Nat.add_assoc _ _ _))⟩)));go_upto_region 35 with (first|(go_at_call 114;(try rw [← List.length_drop]);(with_reducible refine (tollbarref05_Cut.calls k4 _ _ (l0.drop (x9_4:Int).toNat) 256 t61 t68 t69 _ ?side1 ?side2 A19.out).mono ?_);(case side1=>repeat (first|exact (Kd.C_below HR74.out HB.out)|(with_reducible refine Kd.C_alloc ?_ _)|(with_reducible refine Kd.C_drewN ?_ _)|(with_reducible refine Kd.C_drew ?_)));(case side2=>exact HC74.out);rintro e w' ⟨rfl,⟨nd,rfl⟩⟩;(try first|exact ⟨rfl,_,World.drewN_drewN _ _ _⟩|exact ⟨rfl,_,Eq.trans (World.drewN_drewN _ _ _) (congrArg (World.drewN _) (Nat.add_assoc _ _ _))⟩))))
            (try simp only [Act.put,zqA,zqB,zqC])
            go_cut [113] (fun v75 wc => ∃ (kq:Nat) (x75_19:Bool),v75 = .bool x75_19∧Aside0 (tollbarref06_Decode.j6 kq l0 x7_2 x9_4 x18_4 t61 t68 t69 x75_19=some (r1,r2,r3))∧Aside0 (kq ≤ k4)∧Aside0 (Kd.R (Kd.int .u8) 5 wc w.heap.size (fun _=>True) u7 x7_2)∧Aside0 (Below w.heap.size w wc))
            case first =>
             have H:=HC20.out
             clear HC20
             by_cases c22:t69=0;rotate_left
             ·rw [if_neg c22] at H
              have c22b0:=beq_eq_false_iff_ne.mpr c22
              have c22b1:=bne_iff_ne.mpr c22
              (first|rw [c22b0]|(simp only [i64_w,i32_w];rw [c22b0])|rw [c22b1]|skip)
              have H' := Aside0.mk H
              clear H
              go_wp2
              repeat (go_quiet (fail);try go_wp2)
              go_meet
              case rel=>exact ⟨_,(true),zb4,H',⟨by have:=HJ2.out;have:=HK2.out;have:=HJ9.out;have:=HK4.out;first|omega|exact Nat.le_refl _⟩,⟨zb11⟩,⟨zb0⟩⟩
             rw [if_pos c22] at H
             have c22b0:=beq_iff_eq.mpr c22
             have c22b1:=bne_eq_false_iff_eq.mpr c22
             clear c22
             (first|rw [c22b0]|(simp only [i64_w,i32_w];rw [c22b0])|rw [c22b1]|skip)
             have H' := Aside0.mk H
             clear H
             go_wp2
             repeat (go_quiet (fail);try go_wp2)
             go_meet
             case rel=>exact ⟨_,((t68 == 0)),zb4,H',⟨by have:=HJ2.out;have:=HK2.out;have:=HJ9.out;have:=HK4.out;first|omega|exact Nat.le_refl _⟩,⟨zb11⟩,⟨zb0⟩⟩
            case rest =>
             clear HC20
             try clear c1
             try clear c2
             try clear p2
             try clear c4
             try clear c4b0
             try clear p6
             try clear c7
             try clear c7b0
             try clear c7b1
             try clear c8
             try clear c8b0
             try clear c8b1
             try clear c9
             try clear c12
             try clear c12b0
             try clear c12b1
             try clear c13
             try clear c15
             try clear c16
             try clear c16b0
             try clear c16b1
             try clear c17
             try clear c17b0
             try clear c17b1
             try clear c18
             try clear c18b0
             try clear c18b1
             try clear c22
             try clear c22b0
             try clear c22b1
             try clear p2
             try clear p6
             obtain ⟨kq,x75_19,rfl,HA,HJ19,HO_7,HB⟩:=hcut
             cases kq with
             | zero=>exact absurd HA.out (by simp [tollbarref06_Decode.j6])
             | succ kj19 =>
              have H:=HA.out
              clear HA
              simp only [tollbarref06_Decode.j6] at H
              by_cases c23:x75_19=true
              ·subst c23
               rw [if_pos rfl] at H
               simp only [Option.some.injEq,Prod.mk.injEq] at H
               obtain ⟨rfl,rfl,rfl⟩:=H
               go_wp2
               repeat (go_quiet (fail);try go_wp2)
               go_ret3
               exact ⟨_,zb3,zb7,zb0⟩
              replace c23:=Bool.eq_false_iff.mpr c23
              subst c23
              rw [if_neg (show ¬ (false=true) by decide)] at H
              by_cases c24:t61.toList=([]:List UInt8)
              ·rw [if_pos c24] at H
               have c24b0:=beq_iff_eq.mpr c24
               have c24b1:=bne_eq_false_iff_eq.mpr c24
               clear c24
               simp only [Option.some.injEq,Prod.mk.injEq] at H
               obtain ⟨rfl,rfl,rfl⟩:=H
               go_wp2
               repeat (go_quiet (fail);try go_wp2)
               go_ret3
               exact ⟨_,zb3,zb11,zb0⟩
              rw [if_neg c24] at H
              have c24b0:=beq_eq_false_iff_ne.mpr c24
              have c24b1:=bne_iff_ne.mpr c24
              replace H:=Option.bind_eq_some_iff.mp H
              obtain ⟨⟨t71,t72,t88⟩,A84,H⟩:=H
              try dsimp only at H
              have A25:=Aside0.mk A84
              clear A84
              by_cases c26:t88=true;rotate_left
              ·replace c26:=Bool.eq_false_iff.mpr c26
               subst c26
               rw [if_neg (show ¬ (false=true) by decide)] at H
               simp only [Option.some.injEq,Prod.mk.injEq] at H
               obtain ⟨rfl,rfl,rfl⟩:=H
               go_wp2_with (first|(go_at_call 116;(with_reducible refine (tollbarref04_Parse.calls kj19 t61 t71 t72 false _ A25.out).mono ?_);rintro e w34 ⟨rfl,hb⟩;(try clear A25);have n0_:=Aside0.mk (Kd.R_below zb11 hb);have n1_:=Aside0.mk (below_step zb0 hb);clear HO_7;clear HB;have HO_7:=n0_;have HB:=n1_;clear n0_ n1_;(try clear hb);(try clear hb2);(try clear hk);(try clear hi))|((with_reducible refine gate_dst (N:=22) rfl ?_);refine box_event ?hg (N:=22) ?hd (cs:=#[.string (⟨#[]⟩:ByteArray),.string (⟨#[]⟩:ByteArray)]) (t:=55) ?hr ?_;(case hd=>rfl);(case hg=>rfl);(case hr=>first|(go_simp;done)|(go_simp;rfl));intro gb56 hg w35 hbox hb;have n0_:=Aside0.mk (Kd.R_below zb11 hb);have n1_:=Aside0.mk (below_step zb0 hb);have n2_:=Aside0.mk (hbox);have n3_:=zG hg zb0;have n4_:=zG hg zb0;clear HO_7;clear HB;have HO_7:=n0_;have HB:=n1_;have BK56:=n2_;have GW56:=n3_;have GE56:=n4_;clear n0_ n1_ n2_ n3_ n4_;clear hb hbox hg;have hcz36_0:w35.cell? ⟨gb56,0,none⟩=some (.string (⟨#[]⟩:ByteArray)):=(blk_cell BK56.out 0).trans rfl;have hcz36_1:w35.cell? ⟨gb56,1,none⟩=some (.string (⟨#[]⟩:ByteArray)):=(blk_cell BK56.out 1).trans rfl;have hfz36_0:=blk_frozen BK56.out 0;have hfz36_1:=blk_frozen BK56.out 1))
               repeat (go_quiet (first|(go_at_call 116;(with_reducible refine (tollbarref04_Parse.calls kj19 t61 t71 t72 false _ A25.out).mono ?_);rintro e w34 ⟨rfl,hb⟩;(try clear A25);have n0_:=Aside0.mk (Kd.R_below zb11 hb);have n1_:=Aside0.mk (below_step zb0 hb);clear HO_7;clear HB;have HO_7:=n0_;have HB:=n1_;clear n0_ n1_;(try clear hb);(try clear hb2);(try clear hk);(try clear hi))|((with_reducible refine gate_dst (N:=22) rfl ?_);refine box_event ?hg (N:=22) ?hd (cs:=#[.string (⟨#[]⟩:ByteArray),.string (⟨#[]⟩:ByteArray)]) (t:=55) ?hr ?_;(case hd=>rfl);(case hg=>rfl);(case hr=>first|(go_simp;done)|(go_simp;rfl));intro gb56 hg w35 hbox hb;have n0_:=Aside0.mk (Kd.R_below zb11 hb);have n1_:=Aside0.mk (below_step zb0 hb);have n2_:=Aside0.mk (hbox);have n3_:=zG hg zb0;have n4_:=zG hg zb0;clear HO_7;clear HB;have HO_7:=n0_;have HB:=n1_;have BK56:=n2_;have GW56:=n3_;have GE56:=n4_;clear n0_ n1_ n2_ n3_ n4_;clear hb hbox hg;have hcz36_0:w35.cell? ⟨gb56,0,none⟩=some (.string (⟨#[]⟩:ByteArray)):=(blk_cell BK56.out 0).trans rfl;have hcz36_1:w35.cell? ⟨gb56,1,none⟩=some (.string (⟨#[]⟩:ByteArray)):=(blk_cell BK56.out 1).trans rfl;have hfz36_0:=blk_frozen BK56.out 0;have hfz36_1:=blk_frozen BK56.out 1));try go_wp2_with (first|(go_at_call 116;(with_reducible refine (tollbarref04_Parse.calls kj19 t61 t71 t72 false _ A25.out).mono ?_);rintro e w34 ⟨rfl,hb⟩;(try clear A25);have n0_:=Aside0.mk (Kd.R_below zb11 hb);have n1_:=Aside0.mk (below_step zb0 hb);clear HO_7;clear HB;have HO_7:=n0_;have HB:=n1_;clear n0_ n1_;(try clear hb);(try clear hb2);(try clear hk);(try clear hi))|((with_reducible refine gate_dst (N:=22) rfl ?_);refine box_event ?hg (N:=22) ?hd (cs:=#[.string (⟨#[]⟩:ByteArray),.string (⟨#[]⟩:ByteArray)]) (t:=55) ?hr ?_;(case hd=>rfl);(case hg=>rfl);(case hr=>first|(go_simp;done)|(go_simp;rfl));intro gb56 hg w35 hbox hb;have n0_:=Aside0.mk (Kd.R_below zb11 hb);have n1_:=Aside0.mk (below_step zb0 hb);have n2_:=Aside0.mk (hbox);have n3_:=zG hg zb0;have n4_:=zG hg zb0;clear HO_7;clear HB;have HO_7:=n0_;have HB:=n1_;have BK56:=n2_;have GW56:=n3_;have GE56:=n4_;clear n0_ n1_ n2_ n3_ n4_;clear hb hbox hg;have hcz36_0:w35.cell? ⟨gb56,0,none⟩=some (.string (⟨#[]⟩:ByteArray)):=(blk_cell BK56.out 0).trans rfl;have hcz36_1:w35.cell? ⟨gb56,1,none⟩=some (.string (⟨#[]⟩:ByteArray)):=(blk_cell BK56.out 1).trans rfl;have hfz36_0:=blk_frozen BK56.out 0;have hfz36_1:=blk_frozen BK56.out 1)))
               go_ret3
               exact ⟨_,zb3,zb7,zb79⟩
              subst c26
              rw [if_pos rfl] at H
              by_cases c27:(wrap64 (x18_4 + 1)) > 40
              ·rw [if_pos c27] at H
               have c27b0:decide (40 < (wrap64 (x18_4 + 1)))=true:=decide_eq_true c27
               clear c27
               simp only [Option.some.injEq,Prod.mk.injEq] at H
               obtain ⟨rfl,rfl,rfl⟩:=H
               go_wp2_with (first|(go_at_call 116;(with_reducible refine (tollbarref04_Parse.calls kj19 t61 t71 t72 true _ A25.out).mono ?_);rintro e w28 ⟨rfl,hb⟩;(try clear A25);have n0_:=Aside0.mk (Kd.R_below zb11 hb);have n1_:=Aside0.mk (below_step zb0 hb);clear HO_7;clear HB;have HO_7:=n0_;have HB:=n1_;clear n0_ n1_;(try clear hb);(try clear hb2);(try clear hk);(try clear hi))|((with_reducible refine gate_dst (N:=22) rfl ?_);refine box_event ?hg (N:=22) ?hd (cs:=#[.string (⟨#[]⟩:ByteArray),.string (⟨#[]⟩:ByteArray)]) (t:=55) ?hr ?_;(case hd=>rfl);(case hg=>rfl);(case hr=>first|(go_simp;done)|(go_simp;rfl));intro gb56 hg w29 hbox hb;have n0_:=Aside0.mk (Kd.R_below zb11 hb);have n1_:=Aside0.mk (below_step zb0 hb);have n2_:=Aside0.mk (hbox);have n3_:=zG hg zb0;have n4_:=zG hg zb0;clear HO_7;clear HB;have HO_7:=n0_;have HB:=n1_;have BK56:=n2_;have GW56:=n3_;have GE56:=n4_;clear n0_ n1_ n2_ n3_ n4_;clear hb hbox hg;have hcz30_0:w29.cell? ⟨gb56,0,none⟩=some (.string (⟨#[]⟩:ByteArray)):=(blk_cell BK56.out 0).trans rfl;have hcz30_1:w29.cell? ⟨gb56,1,none⟩=some (.string (⟨#[]⟩:ByteArray)):=(blk_cell BK56.out 1).trans rfl;have hfz30_0:=blk_frozen BK56.out 0;have hfz30_1:=blk_frozen BK56.out 1))
               repeat (go_quiet (first|(go_at_call 116;(with_reducible refine (tollbarref04_Parse.calls kj19 t61 t71 t72 true _ A25.out).mono ?_);rintro e w28 ⟨rfl,hb⟩;(try clear A25);have n0_:=Aside0.mk (Kd.R_below zb11 hb);have n1_:=Aside0.mk (below_step zb0 hb);clear HO_7;clear HB;have HO_7:=n0_;have HB:=n1_;clear n0_ n1_;(try clear hb);(try clear hb2);(try clear hk);(try clear hi))|((with_reducible refine gate_dst (N:=22) rfl ?_);refine box_event ?hg (N:=22) ?hd (cs:=#[.string (⟨#[]⟩:ByteArray),.string (⟨#[]⟩:ByteArray)]) (t:=55) ?hr ?_;(case hd=>rfl);(case hg=>rfl);(case hr=>first|(go_simp;done)|(go_simp;rfl));intro gb56 hg w29 hbox hb;have n0_:=Aside0.mk (Kd.R_below zb11 hb);have n1_:=Aside0.mk (below_step zb0 hb);have n2_:=Aside0.mk (hbox);have n3_:=zG hg zb0;have n4_:=zG hg zb0;clear HO_7;clear HB;have HO_7:=n0_;have HB:=n1_;have BK56:=n2_;have GW56:=n3_;have GE56:=n4_;clear n0_ n1_ n2_ n3_ n4_;clear hb hbox hg;have hcz30_0:w29.cell? ⟨gb56,0,none⟩=some (.string (⟨#[]⟩:ByteArray)):=(blk_cell BK56.out 0).trans rfl;have hcz30_1:w29.cell? ⟨gb56,1,none⟩=some (.string (⟨#[]⟩:ByteArray)):=(blk_cell BK56.out 1).trans rfl;have hfz30_0:=blk_frozen BK56.out 0;have hfz30_1:=blk_frozen BK56.out 1));try go_wp2_with (first|(go_at_call 116;(with_reducible refine (tollbarref04_Parse.calls kj19 t61 t71 t72 true _ A25.out).mono ?_);rintro e w28 ⟨rfl,hb⟩;(try clear A25);have n0_:=Aside0.mk (Kd.R_below zb11 hb);have n1_:=Aside0.mk (below_step zb0 hb);clear HO_7;clear HB;have HO_7:=n0_;have HB:=n1_;clear n0_ n1_;(try clear hb);(try clear hb2);(try clear hk);(try clear hi))|((with_reducible refine gate_dst (N:=22) rfl ?_);refine box_event ?hg (N:=22) ?hd (cs:=#[.string (⟨#[]⟩:ByteArray),.string (⟨#[]⟩:ByteArray)]) (t:=55) ?hr ?_;(case hd=>rfl);(case hg=>rfl);(case hr=>first|(go_simp;done)|(go_simp;rfl));intro gb56 hg w29 hbox hb;have n0_:=Aside0.mk (Kd.R_below zb11 hb);have n1_:=Aside0.mk (below_step zb0 hb);have n2_:=Aside0.mk (hbox);have n3_:=zG hg zb0;have n4_:=zG hg zb0;clear HO_7;clear HB;have HO_7:=n0_;have HB:=n1_;have BK56:=n2_;have GW56:=n3_;have GE56:=n4_;clear n0_ n1_ n2_ n3_ n4_;clear hb hbox hg;have hcz30_0:w29.cell? ⟨gb56,0,none⟩=some (.string (⟨#[]⟩:ByteArray)):=(blk_cell BK56.out 0).trans rfl;have hcz30_1:w29.cell? ⟨gb56,1,none⟩=some (.string (⟨#[]⟩:ByteArray)):=(blk_cell BK56.out 1).trans rfl;have hfz30_0:=blk_frozen BK56.out 0;have hfz30_1:=blk_frozen BK56.out 1)))
               go_ret3
               exact ⟨_,zb3,zb7,zb79⟩
              rw [if_neg c27] at H
              have c27b0:decide (40 < (wrap64 (x18_4 + 1)))=false:=decide_eq_false c27
              clear c27
              have H' := Aside0.mk H
              clear H
              go_wp2_with (first|(go_at_call 116;(with_reducible refine (tollbarref04_Parse.calls kj19 t61 t71 t72 true _ A25.out).mono ?_);rintro e w31 ⟨rfl,hb⟩;(try clear A25);have n0_:=Aside0.mk (Kd.R_below zb11 hb);have n1_:=Aside0.mk (below_step zb0 hb);clear HO_7;clear HB;have HO_7:=n0_;have HB:=n1_;clear n0_ n1_;(try clear hb);(try clear hb2);(try clear hk);(try clear hi))|((with_reducible refine gate_dst (N:=22) rfl ?_);refine box_event ?hg (N:=22) ?hd (cs:=#[.string (⟨#[]⟩:ByteArray),.string (⟨#[]⟩:ByteArray)]) (t:=55) ?hr ?_;(case hd=>rfl);(case hg=>rfl);(case hr=>first|(go_simp;done)|(go_simp;rfl));intro gb56 hg w32 hbox hb;have n0_:=Aside0.mk (Kd.R_below zb11 hb);have n1_:=Aside0.mk (below_step zb0 hb);have n2_:=Aside0.mk (hbox);have n3_:=zG hg zb0;have n4_:=zG hg zb0;clear HO_7;clear HB;have HO_7:=n0_;have HB:=n1_;have BK56:=n2_;have GW56:=n3_;have GE56:=n4_;clear n0_ n1_ n2_ n3_ n4_;clear hb hbox hg;have hcz33_0:w32.cell? ⟨gb56,0,none⟩=some (.string (⟨#[]⟩:ByteArray)):=(blk_cell BK56.out 0).trans rfl;have hcz33_1:w32.cell? ⟨gb56,1,none⟩=some (.string (⟨#[]⟩:ByteArray)):=(blk_cell BK56.out 1).trans rfl;have hfz33_0:=blk_frozen BK56.out 0;have hfz33_1:=blk_frozen BK56.out 1))
              repeat (go_quiet (first|(go_at_call 116;(with_reducible refine (tollbarref04_Parse.calls kj19 t61 t71 t72 true _ A25.out).mono ?_);rintro e w31 ⟨rfl,hb⟩;(try clear A25);have n0_:=Aside0.mk (Kd.R_below zb11 hb);have n1_:=Aside0.mk (below_step zb0 hb);clear HO_7;clear HB;have HO_7:=n0_;have HB:=n1_;clear n0_ n1_;(try clear hb);(try clear hb2);(try clear hk);(try clear hi))|((with_reducible refine gate_dst (N:=22) rfl ?_);refine box_event ?hg (N:=22) ?hd (cs:=#[.string (⟨#[]⟩:ByteArray),.string (⟨#[]⟩:ByteArray)]) (t:=55) ?hr ?_;(case hd=>rfl);(case hg=>rfl);(case hr=>first|(go_simp;done)|(go_simp;rfl));intro gb56 hg w32 hbox hb;have n0_:=Aside0.mk (Kd.R_below zb11 hb);have n1_:=Aside0.mk (below_step zb0 hb);have n2_:=Aside0.mk (hbox);have n3_:=zG hg zb0;have n4_:=zG hg zb0;clear HO_7;clear HB;have HO_7:=n0_;have HB:=n1_;have BK56:=n2_;have GW56:=n3_;have GE56:=n4_;clear n0_ n1_ n2_ n3_ n4_;clear hb hbox hg;have hcz33_0:w32.cell? ⟨gb56,0,none⟩=some (.string (⟨#[]⟩:ByteArray)):=(blk_cell BK56.out 0).trans rfl;have hcz33_1:w32.cell? ⟨gb56,1,none⟩=some (.string (⟨#[]⟩:ByteArray)):=(blk_cell BK56.out 1).trans rfl;have hfz33_0:=blk_frozen BK56.out 0;have hfz33_1:=blk_frozen BK56.out 1));try go_wp2_with (first|(go_at_call 116;(with_reducible refine (tollbarref04_Parse.calls kj19 t61 t71 t72 true _ A25.out).mono ?_);rintro e w31 ⟨rfl,hb⟩;(try clear A25);have n0_:=Aside0.mk (Kd.R_below zb11 hb);have n1_:=Aside0.mk (below_step zb0 hb);clear HO_7;clear HB;have HO_7:=n0_;have HB:=n1_;clear n0_ n1_;(try clear hb);(try clear hb2);(try clear hk);(try clear hi))|((with_reducible refine gate_dst (N:=22) rfl ?_);refine box_event ?hg (N:=22) ?hd (cs:=#[.string (⟨#[]⟩:ByteArray),.string (⟨#[]⟩:ByteArray)]) (t:=55) ?hr ?_;(case hd=>rfl);(case hg=>rfl);(case hr=>first|(go_simp;done)|(go_simp;rfl));intro gb56 hg w32 hbox hb;have n0_:=Aside0.mk (Kd.R_below zb11 hb);have n1_:=Aside0.mk (below_step zb0 hb);have n2_:=Aside0.mk (hbox);have n3_:=zG hg zb0;have n4_:=zG hg zb0;clear HO_7;clear HB;have HO_7:=n0_;have HB:=n1_;have BK56:=n2_;have GW56:=n3_;have GE56:=n4_;clear n0_ n1_ n2_ n3_ n4_;clear hb hbox hg;have hcz33_0:w32.cell? ⟨gb56,0,none⟩=some (.string (⟨#[]⟩:ByteArray)):=(blk_cell BK56.out 0).trans rfl;have hcz33_1:w32.cell? ⟨gb56,1,none⟩=some (.string (⟨#[]⟩:ByteArray)):=(blk_cell BK56.out 1).trans rfl;have hfz33_0:=blk_frozen BK56.out 0;have hfz33_1:=blk_frozen BK56.out 1)))
              go_roundg kj19
              case measure=>have:=HJ2.out;have:=HK2.out;have:=HJ9.out;have:=HK4.out;have:=HJ19.out;omega
              case rel=>exact ⟨(wrap64 (x9_4 + t68)),(wrap64 (x18_4 + 1)),zb4,zb4,H',⟨by have:=HJ2.out;have:=HK2.out;have:=HJ9.out;have:=HK4.out;have:=HJ19.out;omega⟩,⟨by (with_reducible repeat (first|apply Kd.R_alloc|apply Kd.R_drewN|apply Kd.R_drew));exact Kd.R_mono (Kd.R_far (p:=⟨gb56,1,none⟩) (Kd.R_far (p:=⟨gb56,0,none⟩) (Kd.R_types HO_7.out BK56.out (by decide)) (fun _ hk=>hk.2) (.string t71)) (fun _ hk=>hk.2) (.string t72)) (fun _ hk=>trivial)⟩,⟨zb79⟩⟩
           ·rw [if_neg c18] at H
            exact absurd H zb27
        rw [if_neg c16] at H
        have c16b0:=beq_eq_false_iff_ne.mpr c16
        have c16b1:=bne_iff_ne.mpr c16
        by_cases c37:t57 > (wrap64 (x1_2 - x8_2))
        ·rw [if_pos c37] at H
         have c37b0:decide ((wrap64 (x1_2 - x8_2)) < t57)=true:=decide_eq_true c37
         clear c37
         simp only [Option.some.injEq,Prod.mk.injEq] at H
         obtain ⟨rfl,rfl,rfl⟩:=H
         go_wp2_with (first|(go_at_call 145;(with_reducible refine (tollbarref06_size.calls kj9 t62 t57 true _ A14.out).mono ?_);rintro e w' ⟨rfl,⟨nd,rfl⟩⟩;(try clear A14);(try first|exact ⟨rfl,_,World.drewN_drewN _ _ _⟩|exact ⟨rfl,_,Eq.trans (World.drewN_drewN _ _ _) (congrArg (World.drewN _) (Nat.add_assoc _ _ _))⟩)))
         repeat (go_quiet (first|(go_at_call 145;(with_reducible refine (tollbarref06_size.calls kj9 t62 t57 true _ A14.out).mono ?_);rintro e w' ⟨rfl,⟨nd,rfl⟩⟩;(try clear A14);(try first|exact ⟨rfl,_,World.drewN_drewN _ _ _⟩|exact ⟨rfl,_,Eq.trans (World.drewN_drewN _ _ _) (congrArg (World.drewN _) (Nat.add_assoc _ _ _))⟩)));try go_wp2_with (first|(go_at_call 145;(with_reducible refine (tollbarref06_size.calls kj9 t62 t57 true _ A14.out).mono ?_);rintro e w' ⟨rfl,⟨nd,rfl⟩⟩;(try clear A14);(try first|exact ⟨rfl,_,World.drewN_drewN _ _ _⟩|exact ⟨rfl,_,Eq.trans (World.drewN_drewN _ _ _) (congrArg (World.drewN _) (Nat.add_assoc _ _ _))⟩))))
         go_ret3
         exact ⟨_,zb3,zb7,zb0⟩
        rw [if_neg c37] at H
        have c37b0:decide ((wrap64 (x1_2 - x8_2)) < t57)=false:=decide_eq_false c37
        clear c37
        have H' := Aside0.mk H
        clear H
        go_wp2_with (first|(go_at_call 145;(with_reducible refine (tollbarref06_size.calls kj9 t62 t57 true _ A14.out).mono ?_);rintro e w' ⟨rfl,⟨nd,rfl⟩⟩;(try clear A14);(try first|exact ⟨rfl,_,World.drewN_drewN _ _ _⟩|exact ⟨rfl,_,Eq.trans (World.drewN_drewN _ _ _) (congrArg (World.drewN _) (Nat.add_assoc _ _ _))⟩)))
        repeat (go_quiet (first|(go_at_call 145;(with_reducible refine (tollbarref06_size.calls kj9 t62 t57 true _ A14.out).mono ?_);rintro e w' ⟨rfl,⟨nd,rfl⟩⟩;(try clear A14);(try first|exact ⟨rfl,_,World.drewN_drewN _ _ _⟩|exact ⟨rfl,_,Eq.trans (World.drewN_drewN _ _ _) (congrArg (World.drewN _) (Nat.add_assoc _ _ _))⟩)));try go_wp2_with (first|(go_at_call 145;(with_reducible refine (tollbarref06_size.calls kj9 t62 t57 true _ A14.out).mono ?_);rintro e w' ⟨rfl,⟨nd,rfl⟩⟩;(try clear A14);(try first|exact ⟨rfl,_,World.drewN_drewN _ _ _⟩|exact ⟨rfl,_,Eq.trans (World.drewN_drewN _ _ _) (congrArg (World.drewN _) (Nat.add_assoc _ _ _))⟩))))
        go_loopg [7,9,15] kj9 (fun kq v7 v9 v15 w' => ∃ (x7_4:List Int) (x9_4:Int) (x15_4:Int),v9 = .int .i64 x9_4∧v15 = .int .i64 x15_4∧Aside0 (tollbarref06_Decode.l1 kq l0 x1_2 x7_4 (wrap64 (x8_2 + t57)) x9_4 t57 x15_4=some (r1,r2,r3))∧Aside0 (kq ≤ kj9)∧Aside0 (Kd.R (Kd.int .u8) 5 w' w.heap.size (fun _=>True) v7 x7_4)∧Aside0 (Below w.heap.size w w'))
        case atStart=>exact ⟨(x7_2),(wrap64 (x9_2 + t65)),(0),zb4,zb4,H',⟨Nat.le_refl _⟩,⟨zb11⟩,⟨zb0⟩⟩
        case round =>
         clear H'
         try clear c1
         try clear c2
         try clear p2
         try clear c3
         try clear c4
         try clear c4b0
         try clear p6
         try clear c7
         try clear c7b0
         try clear c7b1
         try clear c8
         try clear c8b0
         try clear c8b1
         try clear c9
         try clear c12
         try clear c12b0
         try clear c12b1
         try clear c13
         try clear c15
         try clear c16
         try clear c16b0
         try clear c16b1
         try clear c17
         try clear c17b0
         try clear c17b1
         try clear c18
         try clear c18b0
         try clear c18b1
         try clear c22
         try clear c22b0
         try clear c22b1
         try clear c23
         try clear c24
         try clear c24b0
         try clear c24b1
         try clear c26
         try clear c27
         try clear c27b0
         try clear c37
         try clear c37b0
         try clear hcz30_0
         try clear hcz30_1
         try clear hcz33_0
         try clear hcz33_1
         try clear hcz36_0
         try clear hcz36_1
         try clear hfz30_0
         try clear hfz30_1
         try clear hfz33_0
         try clear hfz33_1
         try clear hfz36_0
         try clear hfz36_1
         try clear p2
         try clear p6
         obtain ⟨x7_4,x9_4,x15_4,rfl,rfl,HA,HK4,HO_7,HB⟩:=hrel
         cases gk with
         | zero=>exact absurd HA.out (by simp [tollbarref06_Decode.l1])
         | succ k4 =>
          have H:=HA.out
          clear HA
          simp only [tollbarref06_Decode.l1] at H
          by_cases c38:x15_4 < t57
          ·rw [if_pos c38] at H
           have c38b0:decide (x15_4 < t57)=true:=decide_eq_true c38
           clear c38
           by_cases c39:x9_4=(l0.length:Int)
           ·rw [if_pos c39] at H
            have c39b0:=beq_iff_eq.mpr c39
            have c39b1:=bne_eq_false_iff_eq.mpr c39
            clear c39
            simp only [Option.some.injEq,Prod.mk.injEq] at H
            obtain ⟨rfl,rfl,rfl⟩:=H
            go_wp2
            repeat (go_quiet (fail);try go_wp2)
            go_ret3
            exact ⟨_,zb3,zb7,zb0⟩
           rw [if_neg c39] at H
           have c39b0:=beq_eq_false_iff_ne.mpr c39
           have c39b1:=bne_iff_ne.mpr c39
           by_cases c40:0 ≤ x9_4;rotate_left
           ·rw [if_neg c40] at H
            exact absurd H zb27
           rw [if_pos c40] at H
           have c40b0:decide (0 ≤ x9_4)=true:=decide_eq_true c40
           clear c40
           by_cases c41:x9_4 < (l0.length:Int)
           ·rw [if_pos c41] at H
            have c41b0:decide (x9_4 < (l0.length:Int))=true:=decide_eq_true c41
            clear c41
            by_cases c42:x7_4.length < 140737488355328;rotate_left
            ·rw [if_neg c42] at H
             exact absurd H zb27
            rw [if_pos c42] at H
            have LMc42:=Aside0.mk c42
            clear c42
            obtain ⟨y70,hy70⟩ : ∃ y_:List Int,y_=(x7_4 ++ [rd l0 x9_4]):=⟨_,rfl⟩
            replace H:(tollbarref06_Decode.l1 k4 l0 x1_2 y70 (wrap64 (x8_2 + t57)) (wrap64 (x9_4 + 1)) t57 (wrap64 (x15_4 + 1)))=some (r1,r2,r3):=by first|(rw [hy70];with_reducible exact H)|(have H2_:=(Option.bind_some _ _).symm.trans H;rw [hy70];with_reducible exact H2_)|(have H2_:=(Option.bind_some _ _).symm.trans H;with_reducible exact H2_)|with_reducible exact H|(rw [hy70];exact H)|exact H
            have Ny70:=Aside0.mk hy70
            clear hy70
            have H' := Aside0.mk H
            clear H
            have p63:0 ≤ (x9_4:Int):=of_decide_eq_true zb2
            have q63:x9_4 < (l0.length:Int):=of_decide_eq_true zb2
            obtain ⟨ad63,e63,hx63_0⟩:=Kd.at_int HR0.out x9_4 p63 q63
            cases e63
            replace hx63_0:=(HB.out.cell (World.block_lt_of_cell? w _ hx63_0)).trans hx63_0
            replace p63:=eq_true p63
            replace q63:=eq_true q63
            go_wp2_with (first|((with_reducible refine gate_builtin (b:=.append) (xs:=#[.tmp 71,.tmp 76]) rfl ?_);at_builtin;refine Kd.R_append (Kd.int .u8) (w0:=w) w.heap.size rfl (.tmp 71) (.tmp 76) 23 5 (.int .u8 0) 1 rfl Tryz.underlying23 info5 rfl zb72 zb25 u7 x7_4 (rd l0 x9_4) [.int .u8 (rd l0 x9_4)] (fun _=>True) (fun _=>False) rfl rfl ?aP (fun _ hk=>hk.elim) ?aF ?aO ?aB ?aS ?aL ?_;(case aP=>exact rfl);(case aB=>exact zb0);(case aF=>exact (fun _ _=>trivial));(case aO=>exact zb11);(case aS=>exact (below_size zb0));(case aL=>have:=LMc42.out;omega);intro v87 w43 ho hb hg hat;rw [← Ny70.out] at ho;have n0_:=Aside0.mk (hb);have n1_:=Aside0.mk (ho);clear HB;clear HO_7;have HB:=n0_;have HO80:=n1_;clear n0_ n1_;clear ho hb hg hat))
            repeat (go_quiet (first|((with_reducible refine gate_builtin (b:=.append) (xs:=#[.tmp 71,.tmp 76]) rfl ?_);at_builtin;refine Kd.R_append (Kd.int .u8) (w0:=w) w.heap.size rfl (.tmp 71) (.tmp 76) 23 5 (.int .u8 0) 1 rfl Tryz.underlying23 info5 rfl zb72 zb25 u7 x7_4 (rd l0 x9_4) [.int .u8 (rd l0 x9_4)] (fun _=>True) (fun _=>False) rfl rfl ?aP (fun _ hk=>hk.elim) ?aF ?aO ?aB ?aS ?aL ?_;(case aP=>exact rfl);(case aB=>exact zb0);(case aF=>exact (fun _ _=>trivial));(case aO=>exact zb11);(case aS=>exact (below_size zb0));(case aL=>have:=LMc42.out;omega);intro v87 w43 ho hb hg hat;rw [← Ny70.out] at ho;have n0_:=Aside0.mk (hb);have n1_:=Aside0.mk (ho);clear HB;clear HO_7;have HB:=n0_;have HO80:=n1_;clear n0_ n1_;clear ho hb hg hat));try go_wp2_with (first|((with_reducible refine gate_builtin (b:=.append) (xs:=#[.tmp 71,.tmp 76]) rfl ?_);at_builtin;refine Kd.R_append (Kd.int .u8) (w0:=w) w.heap.size rfl (.tmp 71) (.tmp 76) 23 5 (.int .u8 0) 1 rfl Tryz.underlying23 info5 rfl zb72 zb25 u7 x7_4 (rd l0 x9_4) [.int .u8 (rd l0 x9_4)] (fun _=>True) (fun _=>False) rfl rfl ?aP (fun _ hk=>hk.elim) ?aF ?aO ?aB ?aS ?aL ?_;(case aP=>exact rfl);(case aB=>exact zb0);(case aF=>exact (fun _ _=>trivial));(case aO=>exact zb11);(case aS=>exact (below_size zb0));(case aL=>have:=LMc42.out;omega);intro v87 w43 ho hb hg hat;rw [← Ny70.out] at ho;have n0_:=Aside0.mk (hb);have n1_:=Aside0.mk (ho);clear HB;clear HO_7;have HB:=n0_;have HO80:=n1_;clear n0_ n1_;clear ho hb hg hat)))
            go_roundg k4
            case measure=>have:=HJ2.out;have:=HK2.out;have:=HJ9.out;have:=HK4.out;omega
            case rel=>exact ⟨(y70),(wrap64 (x9_4 + 1)),(wrap64 (x15_4 + 1)),zb4,zb4,H',⟨by have:=HJ2.out;have:=HK2.out;have:=HJ9.out;have:=HK4.out;omega⟩,⟨by (with_reducible repeat (first|apply Kd.R_alloc|apply Kd.R_drewN|apply Kd.R_drew));exact HO80.out⟩,⟨zb0⟩⟩
           ·rw [if_neg c41] at H
            exact absurd H zb27
          rw [if_neg c38] at H
          have c38b0:decide (x15_4 < t57)=false:=decide_eq_false c38
          clear c38
          obtain ⟨y59,hy59⟩ : ∃ y_:List Int,y_=(([13,10]:List Int)):=⟨_,rfl⟩
          replace H:(tollbarref06_Decode.l2 k4 l0 x1_2 x7_4 (wrap64 (x8_2 + t57)) x9_4 y59 0)=some (r1,r2,r3):=by first|(rw [hy59];with_reducible exact H)|(have H2_:=(Option.bind_some _ _).symm.trans H;rw [hy59];with_reducible exact H2_)|(have H2_:=(Option.bind_some _ _).symm.trans H;with_reducible exact H2_)|with_reducible exact H|(rw [hy59];exact H)|exact H
          have Ny59:=Aside0.mk hy59
          clear hy59
          have H' := Aside0.mk H
          clear H
          go_wp2_with (first|((with_reducible refine gate_dst (N:=80) rfl ?_);refine Kd.R_lit (Kd.int .u8) _ 5 ?hg (N:=80) ?hd (xs:=([13,10]:List Int)) (inner:=[.int .u8 13,.int .u8 10]) (ok:=fun _=>True) (okp:=fun _=>True) ?hr ?hp (fun _ hk=>hk) trivial (Below.refl _ _) (Nat.le_refl _) zb27 ?_;(case hd=>rfl);(case hg=>rfl);(case hr=>first|(go_simp;done)|(go_simp;rfl));(case hp=>exact (Reps.one (show Kd.M (Kd.int .u8) _ _ _ 13 [.int .u8 13] from rfl) (Reps.one (show Kd.M (Kd.int .u8) _ _ _ 10 [.int .u8 10] from rfl) (Reps.none _ _))));intro v76 w44 ho45 hb hg_ hnew_;clear hg_ hnew_;(first|rw [← Ny59.out] at ho45|(simp only [Int.reduceToNat] at ho45;rw [← Ny59.out] at ho45));have n0_:=Aside0.mk (Kd.R_elder' zb11 (Kd.R_base ho45) hb);have n1_:=Aside0.mk (Kd.R_lower (Kd.R_new' ho45 (Kd.R_lt zb11)) (below_size zb0));have n2_:=Aside0.mk (below_step zb0 hb);clear HO_7;clear HB;have HO_7:=n0_;have HO81:=n1_;have HB:=n2_;clear n0_ n1_ n2_;clear hb ho45))
          repeat (go_quiet (first|((with_reducible refine gate_dst (N:=80) rfl ?_);refine Kd.R_lit (Kd.int .u8) _ 5 ?hg (N:=80) ?hd (xs:=([13,10]:List Int)) (inner:=[.int .u8 13,.int .u8 10]) (ok:=fun _=>True) (okp:=fun _=>True) ?hr ?hp (fun _ hk=>hk) trivial (Below.refl _ _) (Nat.le_refl _) zb27 ?_;(case hd=>rfl);(case hg=>rfl);(case hr=>first|(go_simp;done)|(go_simp;rfl));(case hp=>exact (Reps.one (show Kd.M (Kd.int .u8) _ _ _ 13 [.int .u8 13] from rfl) (Reps.one (show Kd.M (Kd.int .u8) _ _ _ 10 [.int .u8 10] from rfl) (Reps.none _ _))));intro v76 w44 ho45 hb hg_ hnew_;clear hg_ hnew_;(first|rw [← Ny59.out] at ho45|(simp only [Int.reduceToNat] at ho45;rw [← Ny59.out] at ho45));have n0_:=Aside0.mk (Kd.R_elder' zb11 (Kd.R_base ho45) hb);have n1_:=Aside0.mk (Kd.R_lower (Kd.R_new' ho45 (Kd.R_lt zb11)) (below_size zb0));have n2_:=Aside0.mk (below_step zb0 hb);clear HO_7;clear HB;have HO_7:=n0_;have HO81:=n1_;have HB:=n2_;clear n0_ n1_ n2_;clear hb ho45));try go_wp2_with (first|((with_reducible refine gate_dst (N:=80) rfl ?_);refine Kd.R_lit (Kd.int .u8) _ 5 ?hg (N:=80) ?hd (xs:=([13,10]:List Int)) (inner:=[.int .u8 13,.int .u8 10]) (ok:=fun _=>True) (okp:=fun _=>True) ?hr ?hp (fun _ hk=>hk) trivial (Below.refl _ _) (Nat.le_refl _) zb27 ?_;(case hd=>rfl);(case hg=>rfl);(case hr=>first|(go_simp;done)|(go_simp;rfl));(case hp=>exact (Reps.one (show Kd.M (Kd.int .u8) _ _ _ 13 [.int .u8 13] from rfl) (Reps.one (show Kd.M (Kd.int .u8) _ _ _ 10 [.int .u8 10] from rfl) (Reps.none _ _))));intro v76 w44 ho45 hb hg_ hnew_;clear hg_ hnew_;(first|rw [← Ny59.out] at ho45|(simp only [Int.reduceToNat] at ho45;rw [← Ny59.out] at ho45));have n0_:=Aside0.mk (Kd.R_elder' zb11 (Kd.R_base ho45) hb);have n1_:=Aside0.mk (Kd.R_lower (Kd.R_new' ho45 (Kd.R_lt zb11)) (below_size zb0));have n2_:=Aside0.mk (below_step zb0 hb);clear HO_7;clear HB;have HO_7:=n0_;have HO81:=n1_;have HB:=n2_;clear n0_ n1_ n2_;clear hb ho45)))
          go_loopg [9,17] k4 (fun kq v9 v17 w' => ∃ (x9_5:Int) (x17_5:Int),v9 = .int .i64 x9_5∧v17 = .int .i64 x17_5∧Aside0 (tollbarref06_Decode.l2 kq l0 x1_2 x7_4 (wrap64 (x8_2 + t57)) x9_5 y59 x17_5=some (r1,r2,r3))∧Aside0 (kq ≤ k4)∧Aside0 (Kd.R (Kd.int .u8) 5 w' w.heap.size (fun k_=>some k_ ≠ (v76:Value).ownBlock) u7 x7_4)∧Aside0 (Kd.R (Kd.int .u8) 5 w' w.heap.size (fun k_=>some k_ ≠ (u7:Value).ownBlock) v76 y59)∧Aside0 (Below w.heap.size w w'))
          case atStart=>exact ⟨(x9_4),(0),zb4,zb4,H',⟨Nat.le_refl _⟩,⟨zb100⟩,⟨by (with_reducible repeat (first|apply Kd.R_alloc|apply Kd.R_drewN|apply Kd.R_drew));exact Kd.R_mono HO81.out (fun _ hk=>hk.2)⟩,⟨zb0⟩⟩
          case round =>
           clear H'
           try clear c1
           try clear c2
           try clear p2
           try clear c3
           try clear c4
           try clear c4b0
           try clear p6
           try clear c7
           try clear c7b0
           try clear c7b1
           try clear p7
           try clear q7
           try clear hx7
           try clear c8
           try clear c8b0
           try clear c8b1
           try clear c9
           try clear c12
           try clear c12b0
           try clear c12b1
           try clear c13
           try clear c15
           try clear c16
           try clear c16b0
           try clear c16b1
           try clear c17
           try clear c17b0
           try clear c17b1
           try clear c18
           try clear c18b0
           try clear c18b1
           try clear c22
           try clear c22b0
           try clear c22b1
           try clear c23
           try clear c24
           try clear c24b0
           try clear c24b1
           try clear c26
           try clear c27
           try clear c27b0
           try clear c37
           try clear c37b0
           try clear c38
           try clear c38b0
           try clear c39
           try clear c39b0
           try clear c39b1
           try clear c40
           try clear c40b0
           try clear c41
           try clear c41b0
           try clear c42
           try clear hcz30_0
           try clear hcz30_1
           try clear hcz33_0
           try clear hcz33_1
           try clear hcz36_0
           try clear hcz36_1
           try clear hfz30_0
           try clear hfz30_1
           try clear hfz33_0
           try clear hfz33_1
           try clear hfz36_0
           try clear hfz36_1
           try clear hx63_0
           try clear p2
           try clear p6
           try clear p63
           try clear q63
           obtain ⟨x9_5,x17_5,rfl,rfl,HA,HK5,HO_7,HO_16,HB⟩:=hrel
           cases gk with
           | zero=>exact absurd HA.out (by simp [tollbarref06_Decode.l2])
           | succ k5 =>
            have H:=HA.out
            clear HA
            simp only [tollbarref06_Decode.l2] at H
            by_cases c46:x17_5 < 2;rotate_left
            ·rw [if_neg c46] at H
             have c46b0:decide (x17_5 < 2)=false:=decide_eq_false c46
             clear c46
             have H' := Aside0.mk H
             clear H
             go_wp2
             repeat (go_quiet (fail);try go_wp2)
             go_roundg k5
             case measure=>have:=HJ2.out;have:=HK2.out;have:=HJ9.out;have:=HK4.out;have:=HK5.out;omega
             case rel=>exact ⟨(x7_4),((wrap64 (x8_2 + t57))),(x9_5),zb4,zb4,H',⟨by have:=HJ2.out;have:=HK2.out;have:=HJ9.out;have:=HK4.out;have:=HK5.out;omega⟩,⟨by (with_reducible repeat (first|apply Kd.R_alloc|apply Kd.R_drewN|apply Kd.R_drew));exact Kd.R_mono HO_7.out (fun _ hk=>trivial)⟩,⟨zb0⟩⟩
            rw [if_pos c46] at H
            have c46b0:decide (x17_5 < 2)=true:=decide_eq_true c46
            clear c46
            by_cases c47:x9_5=(l0.length:Int)
            ·rw [if_pos c47] at H
             have c47b0:=beq_iff_eq.mpr c47
             have c47b1:=bne_eq_false_iff_eq.mpr c47
             clear c47
             simp only [Option.some.injEq,Prod.mk.injEq] at H
             obtain ⟨rfl,rfl,rfl⟩:=H
             go_wp2
             repeat (go_quiet (fail);try go_wp2)
             go_ret3
             exact ⟨_,zb3,zb7,zb0⟩
            rw [if_neg c47] at H
            have c47b0:=beq_eq_false_iff_ne.mpr c47
            have c47b1:=bne_iff_ne.mpr c47
            by_cases c48:0 ≤ x9_5
            ·rw [if_pos c48] at H
             have c48b0:decide (0 ≤ x9_5)=true:=decide_eq_true c48
             clear c48
             by_cases c49:x9_5 < (l0.length:Int)
             ·rw [if_pos c49] at H
              have c49b0:decide (x9_5 < (l0.length:Int))=true:=decide_eq_true c49
              clear c49
              by_cases c50:0 ≤ x17_5
              ·rw [if_pos c50] at H
               have c50b0:decide (0 ≤ x17_5)=true:=decide_eq_true c50
               clear c50
               by_cases c51:x17_5 < (y59.length:Int)
               ·rw [if_pos c51] at H
                have c51b0:decide (x17_5 < (y59.length:Int))=true:=decide_eq_true c51
                clear c51
                by_cases c52:(rd l0 x9_5)=(rd y59 x17_5);rotate_left
                ·rw [if_neg c52] at H
                 have c52b0:=beq_eq_false_iff_ne.mpr c52
                 have c52b1:=bne_iff_ne.mpr c52
                 simp only [Option.some.injEq,Prod.mk.injEq] at H
                 obtain ⟨rfl,rfl,rfl⟩:=H
                 have p58:0 ≤ (x9_5:Int):=of_decide_eq_true zb2
                 have q58:x9_5 < (l0.length:Int):=of_decide_eq_true zb2
                 obtain ⟨ad58,e58,hx58_0⟩:=Kd.at_int HR0.out x9_5 p58 q58
                 cases e58
                 replace hx58_0:=(HB.out.cell (World.block_lt_of_cell? w _ hx58_0)).trans hx58_0
                 replace p58:=eq_true p58
                 replace q58:=eq_true q58
                 obtain ⟨Ao54,co54,eo54⟩:=Kd.R_slice HO_16.out
                 subst eo54
                 have p60:0 ≤ (x17_5:Int):=of_decide_eq_true zb2
                 have q60:x17_5 < (y59.length:Int):=of_decide_eq_true zb2
                 obtain ⟨ad60,e60,hx60_0⟩:=Kd.at_int (Kd.R_reads' HO_16.out).2.2 x17_5 p60 q60
                 cases e60
                 replace p60:=eq_true p60
                 replace q60:=eq_true q60
                 go_wp2
                 repeat (go_quiet (fail);try go_wp2)
                 go_ret3
                 exact ⟨_,zb3,zb7,zb0⟩
                rw [if_pos c52] at H
                have c52b0:=beq_iff_eq.mpr c52
                have c52b1:=bne_eq_false_iff_eq.mpr c52
                clear c52
                have H' := Aside0.mk H
                clear H
                have p58:0 ≤ (x9_5:Int):=of_decide_eq_true zb2
                have q58:x9_5 < (l0.length:Int):=of_decide_eq_true zb2
                obtain ⟨ad58,e58,hx58_0⟩:=Kd.at_int HR0.out x9_5 p58 q58
                cases e58
                replace hx58_0:=(HB.out.cell (World.block_lt_of_cell? w _ hx58_0)).trans hx58_0
                replace p58:=eq_true p58
                replace q58:=eq_true q58
                obtain ⟨Ao53,co53,eo53⟩:=Kd.R_slice HO_16.out
                subst eo53
                have p60:0 ≤ (x17_5:Int):=of_decide_eq_true zb2
                have q60:x17_5 < (y59.length:Int):=of_decide_eq_true zb2
                obtain ⟨ad60,e60,hx60_0⟩:=Kd.at_int (Kd.R_reads' HO_16.out).2.2 x17_5 p60 q60
                cases e60
                replace p60:=eq_true p60
                replace q60:=eq_true q60
                go_wp2
                repeat (go_quiet (fail);try go_wp2)
                go_roundg k5
                case measure=>have:=HJ2.out;have:=HK2.out;have:=HJ9.out;have:=HK4.out;have:=HK5.out;omega
                case rel=>exact ⟨(wrap64 (x9_5 + 1)),(wrap64 (x17_5 + 1)),zb4,zb4,H',⟨by have:=HJ2.out;have:=HK2.out;have:=HJ9.out;have:=HK4.out;have:=HK5.out;omega⟩,⟨zb11⟩,⟨by (with_reducible repeat (first|apply Kd.R_alloc|apply Kd.R_drewN|apply Kd.R_drew));exact HO_16.out⟩,⟨zb0⟩⟩
               ·rw [if_neg c51] at H
                exact absurd H zb27
              ·rw [if_neg c50] at H
               exact absurd H zb27
             ·rw [if_neg c49] at H
              exact absurd H zb27
            ·rw [if_neg c48] at H
             exact absurd H zb27
     ·rw [if_neg c8] at H
      exact absurd H zb27
def tollbarref08_Body.f (k:Nat) (l0:List Int) (a1:Int) (a2:Bool):Option (List Int × Int × Bool × Int):=if a2=true then ((tollbarref06_Decode.f k l0 4096).bind fun bt744=>(some (bt744.1,bt744.2.1,decide (bt744.2.1 > 0),bt744.2.2))) else (if (l0.length:Int) < a1 then (some (([]:List Int),0,false,0)) else (if 0 ≤ a1 then (if a1 ≤ (l0.length:Int) then ((tollbarref01_Join.f k (l0.take (a1:Int).toNat) (([]:List Int))).bind fun t753=>(some (t753,a1,true,0))) else (none)) else (none)))
set_option maxHeartbeats 8000000 in
set_option maxRecDepth 100000 in
theorem tollbarref08_Body.calls (k:Nat) (A0:Option Addr) (c0:Nat) (l0:List Int) (a1:Int) (a2:Bool) (r1:List Int) (r2:Int) (r3:Bool) (r4:Int) (w:World) (hr0:Kd.C (Kd.int .u8) w A0 l0.length l0) (hc0:l0.length ≤ c0) (h:tollbarref08_Body.f k l0 a1 a2=some (r1,r2,r3,r4)) :
  Calls Tryz.prog 57 #[.slice A0 l0.length c0,.int .i64 a1,.bool a2] w fun e w' => ∃ v0_:Value,e = .returned (.tuple #[v0_,.int .i64 r2,.bool r3,.int .i64 r4])∧Kd.R (Kd.int .u8) 5 w' w.heap.size (fun _=>True) v0_ r1∧Below w.heap.size w w' := by
 have HR0:=Aside0.mk hr0
 have HC0:=Aside0.mk hc0
 clear hr0 hc0
 have HB:=Aside0.mk (Below.refl w.heap.size w)
 have H:(if a2=true then ((tollbarref06_Decode.f k l0 4096).bind fun bt744=>(some (bt744.1,bt744.2.1,decide (bt744.2.1 > 0),bt744.2.2))) else (if (l0.length:Int) < a1 then (some (([]:List Int),0,false,0)) else (if 0 ≤ a1 then (if a1 ≤ (l0.length:Int) then ((tollbarref01_Join.f k (l0.take (a1:Int).toNat) (([]:List Int))).bind fun t753=>(some (t753,a1,true,0))) else (none)) else (none))))=some (r1,r2,r3,r4):=h
 clear h
 by_cases c4:a2=true
 ·subst c4
  rw [if_pos rfl] at H
  replace H:=Option.bind_eq_some_iff.mp H
  obtain ⟨⟨t744,t745,t746⟩,A50,H⟩:=H
  try dsimp only at H
  have A5:=Aside0.mk A50
  clear A50
  simp only [Option.some.injEq,Prod.mk.injEq] at H
  obtain ⟨rfl,rfl,rfl,rfl⟩:=H
  go_enter Tryz.func57,Tryz.ntmps57
  go_wp2_with (first|((with_reducible refine gate_callee (f:=98) rfl ?_);refine goesL_ (some 16) rfl rfl Tryz.func98 zb9 rfl #[.slice A0 l0.length c0,.int .i64 4096] rfl zb1 ?_;(with_reducible refine (tollbarref06_Decode.calls k _ _ l0 4096 t744 t745 t746 _ ?side1 ?side2 A5.out).mono ?_);(case side1=>repeat (first|exact HR0.out|(with_reducible refine Kd.C_alloc ?_ _)|(with_reducible refine Kd.C_drewN ?_ _)|(with_reducible refine Kd.C_drew ?_)));(case side2=>exact HC0.out);rintro e w6 ⟨v747,rfl,ho0,hb⟩;(try clear A5);refine ⟨_,rfl,?_⟩;have n0_:=Aside0.mk (Kd.R_lower ho0 (below_size zb0));have n1_:=Aside0.mk (below_step zb0 hb);clear HB;have HO748:=n0_;have HB:=n1_;clear n0_ n1_;(try clear hb);(try clear hb2);(try clear hk);(try clear hi);(try clear ho0)))
  refine bodyPost_ret (results_list (rs:=[.tmp 6,.tmp 7,.tmp 8,.tmp 9]) rfl zb27 (.tmp (.tmp (.tmp (.tmp .nil))))) rfl ?_
  exact ⟨_,zb3,by (with_reducible repeat (first|apply Kd.R_alloc|apply Kd.R_drewN|apply Kd.R_drew));exact HO748.out,zb0⟩
 replace c4:=Bool.eq_false_iff.mpr c4
 subst c4
 rw [if_neg (show ¬ (false=true) by decide)] at H
 by_cases c7:(l0.length:Int) < a1
 ·rw [if_pos c7] at H
  have c7b0:decide ((l0.length:Int) < a1)=true:=decide_eq_true c7
  clear c7
  simp only [Option.some.injEq,Prod.mk.injEq] at H
  obtain ⟨rfl,rfl,rfl,rfl⟩:=H
  go_enter Tryz.func57,Tryz.ntmps57
  go_wp2
  refine bodyPost_ret (results_list (rs:=[.tmp 6,.tmp 7,.tmp 8,.tmp 9]) rfl zb27 (.tmp (.tmp (.tmp (.tmp .nil))))) rfl ?_
  exact ⟨_,zb3,zb7,zb0⟩
 rw [if_neg c7] at H
 have c7b0:decide ((l0.length:Int) < a1)=false:=decide_eq_false c7
 clear c7
 by_cases c8:0 ≤ a1;rotate_left
 ·rw [if_neg c8] at H
  exact absurd H zb27
 rw [if_pos c8] at H
 have c8b0:=eq_true c8
 have c8b1:decide (0 ≤ a1)=true:=decide_eq_true c8
 clear c8
 by_cases c9:a1 ≤ (l0.length:Int)
 ·rw [if_pos c9] at H
  have c9b0:=eq_true c9
  have c9b1:decide (a1 ≤ (l0.length:Int))=true:=decide_eq_true c9
  clear c9
  obtain ⟨y750,hy750⟩ : ∃ y_:List Int,y_=(([]:List Int)):=⟨_,rfl⟩
  replace H:((tollbarref01_Join.f k (l0.take (a1:Int).toNat) y750).bind fun t753=>(some (t753,a1,true,0)))=some (r1,r2,r3,r4):=by first|(rw [hy750];with_reducible exact H)|(have H2_:=(Option.bind_some _ _).symm.trans H;rw [hy750];with_reducible exact H2_)|(have H2_:=(Option.bind_some _ _).symm.trans H;with_reducible exact H2_)|with_reducible exact H|(rw [hy750];exact H)|exact H
  have Ny750:=Aside0.mk hy750
  clear hy750
  replace H:=Option.bind_eq_some_iff.mp H
  obtain ⟨t753,A100,H⟩:=H
  try dsimp only at H
  have A10:=Aside0.mk A100
  clear A100
  simp only [Option.some.injEq,Prod.mk.injEq] at H
  obtain ⟨rfl,rfl,rfl,rfl⟩:=H
  obtain ⟨i011,hi011,_,hsz11,_⟩:=info_parts info5
  obtain ⟨hcut11,hA11,hC11⟩:=print_take_of (P:=Tryz.prog) (Value.int .u8) 0 23 5 .i64 Tryz.underlying23 hi011 hsz11 A0 c0 l0 a1 (of_decide_eq_true zb2) (of_decide_eq_true zb2) HC0.out
  have HR749:=Aside0.mk (Kd.C_of_reads (h1:=fun _=>rfl) (hA11 _ (Kd.reads_of_C HR0.out)))
  have HC749:=Aside0.mk hC11
  clear hA11 hC11 hi011 hsz11
  go_enter Tryz.func57,Tryz.ntmps57
  go_wp2_with (first|((with_reducible refine gate_dst (N:=32) rfl ?_);refine Kd.R_lit (Kd.int .u8) _ 5 ?hg (N:=32) ?hd (xs:=([]:List Int)) (inner:=[]) (ok:=fun _=>True) (okp:=fun _=>True) ?hr ?hp (fun _ hk=>hk) trivial (Below.refl _ _) (Nat.le_refl _) zb27 ?_;(case hd=>rfl);(case hg=>rfl);(case hr=>first|(go_simp;done)|(go_simp;rfl));(case hp=>exact (Reps.none _ _));intro v751 w12 ho13 hb hg_ hnew_;clear hg_ hnew_;(first|rw [← Ny750.out] at ho13|(simp only [Int.reduceToNat] at ho13;rw [← Ny750.out] at ho13));have n0_:=Aside0.mk (Kd.R_lower ho13 (below_size zb0));have n1_:=Aside0.mk (below_step zb0 hb);clear HB;have HO752:=n0_;have HB:=n1_;clear n0_ n1_;clear hb ho13;obtain ⟨Ao14,co14,eo14⟩:=Kd.R_slice HO752.out;subst eo14)|((with_reducible refine gate_callee (f:=50) rfl ?_);refine goesL_ (some 33) rfl rfl Tryz.func50 zb9 rfl #[.slice A0 (l0.take (a1:Int).toNat).length c0,.slice Ao14 y750.length co14] rfl zb67 ?_;(with_reducible refine (tollbarref01_Join.calls k _ _ (l0.take (a1:Int).toNat) _ _ y750 t753 _ ?side1 ?side2 ?side3 ?side4 A10.out).mono ?_);(case side1=>repeat (first|exact (Kd.C_below HR749.out HB.out)|(with_reducible refine Kd.C_alloc ?_ _)|(with_reducible refine Kd.C_drewN ?_ _)|(with_reducible refine Kd.C_drew ?_)));(case side2=>exact HC749.out);(case side3=>repeat (first|exact (Kd.R_reads' HO752.out).2.2|(with_reducible refine Kd.C_alloc ?_ _)|(with_reducible refine Kd.C_drewN ?_ _)|(with_reducible refine Kd.C_drew ?_)));(case side4=>exact (Kd.R_reads' HO752.out).2.1);rintro e w15 ⟨v754,rfl,ho0,hb⟩;(try clear A10);refine ⟨_,rfl,?_⟩;have n0_:=Aside0.mk (Kd.R_elder' (by (with_reducible repeat (first|apply Kd.R_alloc|apply Kd.R_drewN|apply Kd.R_drew));exact HO752.out) (Kd.R_base ho0) hb);have n1_:=Aside0.mk (Kd.R_lower (Kd.R_new' ho0 (Kd.R_lt (by (with_reducible repeat (first|apply Kd.R_alloc|apply Kd.R_drewN|apply Kd.R_drew));exact HO752.out))) (below_size zb0));have n2_:=Aside0.mk (below_step zb0 hb);clear HO752;clear HB;have HO752:=n0_;have HO755:=n1_;have HB:=n2_;clear n0_ n1_ n2_;(try clear hb);(try clear hb2);(try clear hk);(try clear hi);(try clear ho0)))
  refine bodyPost_ret (results_list (rs:=[.tmp 6,.tmp 7,.tmp 8,.tmp 9]) rfl zb27 (.tmp (.tmp (.tmp (.tmp .nil))))) rfl ?_
  exact ⟨_,zb3,by (with_reducible repeat (first|apply Kd.R_alloc|apply Kd.R_drewN|apply Kd.R_drew));exact Kd.R_mono HO755.out (fun _ hk=>trivial),zb0⟩
 ·rw [if_neg c9] at H
  exact absurd H zb27
mutual
def tollbarref08_Lines.l0:Nat → List Int → List ByteArray → Int → Option (List ByteArray × Int × Int)
 | 0,_,_,_=>none
 | k + 1,x0,x5,x6=>if (x0.length:Int) > 2048 then (tollbarref08_Lines.j1 k x0 x5 x6 2048) else (tollbarref08_Lines.j1 k x0 x5 x6 (x0.length:Int))
def tollbarref08_Lines.j1:Nat → List Int → List ByteArray → Int → Int → Option (List ByteArray × Int × Int)
 | 0,_,_,_,_=>none
 | k + 1,x0,x5,x6,x7=>if 0 ≤ x6 then (if x6 ≤ x7 then (if x7 ≤ (x0.length:Int) then ((tollbarref05_Cut.f k ((x0.take (x7:Int).toNat).drop (x6:Int).toNat) 2048).bind fun bt646=>(if bt646.2.2=20 then (some (x5,0,400)) else (if bt646.2.1=0 then (if (x0.length:Int) ≥ 2048 then (some (x5,0,431)) else (some (x5,0,0))) else (if bt646.1.toList=([]:List UInt8) then (if (x5.length:Int) > 0 then (some (x5,wrap64 (x6 + bt646.2.1),0)) else (if x5.length < 8796093022208 then (tollbarref08_Lines.l0 k x0 (x5 ++ [bt646.1]) (wrap64 (x6 + bt646.2.1))) else (none))) else (if x5.length < 8796093022208 then (tollbarref08_Lines.l0 k x0 (x5 ++ [bt646.1]) (wrap64 (x6 + bt646.2.1))) else (none)))))) else (none)) else (none)) else (none)
end
def tollbarref08_Lines.f (k:Nat) (l0:List Int):Option (List ByteArray × Int × Int):=tollbarref08_Lines.l0 k l0 (([]:List ByteArray)) 0
set_option maxHeartbeats 8000000 in
set_option maxRecDepth 100000 in
theorem tollbarref08_Lines.calls (k:Nat) (A0:Option Addr) (c0:Nat) (l0:List Int) (r1:List ByteArray) (r2:Int) (r3:Int) (w:World) (hr0:Kd.C (Kd.int .u8) w A0 l0.length l0) (hc0:l0.length ≤ c0) (h:tollbarref08_Lines.f k l0=some (r1,r2,r3)) :
  Calls Tryz.prog 67 #[.slice A0 l0.length c0] w fun e w' => ∃ v0_:Value,e = .returned (.tuple #[v0_,.int .i64 r2,.int .i64 r3])∧Kd.R Kd.string 9 w' w.heap.size (fun _=>True) v0_ r1∧Below w.heap.size w w' := by
 have HR0:=Aside0.mk hr0
 have HC0:=Aside0.mk hc0
 clear hr0 hc0
 have HB:=Aside0.mk (Below.refl w.heap.size w)
 have H:(tollbarref08_Lines.l0 k l0 (([]:List ByteArray)) 0)=some (r1,r2,r3):=h
 clear h
 obtain ⟨y31,hy31⟩ : ∃ y_:List ByteArray,y_=(([]:List ByteArray)):=⟨_,rfl⟩
 replace H:(tollbarref08_Lines.l0 k l0 y31 0)=some (r1,r2,r3):=by first|(rw [hy31];with_reducible exact H)|(have H2_:=(Option.bind_some _ _).symm.trans H;rw [hy31];with_reducible exact H2_)|(have H2_:=(Option.bind_some _ _).symm.trans H;with_reducible exact H2_)|with_reducible exact H|(rw [hy31];exact H)|exact H
 have Ny31:=Aside0.mk hy31
 clear hy31
 have H' := Aside0.mk H
 clear H
 go_enter Tryz.func67,Tryz.ntmps67
 go_wp2_with (first|((with_reducible refine gate_dst (N:=11) rfl ?_);(try (refine gate_guard zb65 ?_;dsimp only));refine Kd.R_lit Kd.string _ 9 ?hg (N:=11) ?hd (xs:=([]:List ByteArray)) (inner:=[]) (ok:=fun _=>True) (okp:=fun _=>True) ?hr ?hp (fun _ hk=>hk) trivial (Below.refl _ _) (Nat.le_refl _) zb27 ?_;(case hd=>rfl);(case hg=>rfl);(case hr=>first|(go_simp;done)|(go_simp;rfl));(case hp=>exact (Reps.none _ _));intro v45 w2 ho3 hb hg_ hnew_;clear hg_ hnew_;(first|rw [← Ny31.out] at ho3|(simp only [Int.reduceToNat] at ho3;rw [← Ny31.out] at ho3));have n0_:=Aside0.mk (Kd.R_lower ho3 (below_size zb0));have n1_:=Aside0.mk (below_step zb0 hb);clear HB;have HO41:=n0_;have HB:=n1_;clear n0_ n1_;clear hb ho3))
 go_loopg [5,6] k (fun kq v5 v6 w' => ∃ (x5_1:List ByteArray) (x6_1:Int),v6 = .int .i64 x6_1∧Aside0 (tollbarref08_Lines.l0 kq l0 x5_1 x6_1=some (r1,r2,r3))∧Aside0 (kq ≤ k)∧Aside0 (Kd.R Kd.string 9 w' w.heap.size (fun _=>True) v5 x5_1)∧Aside0 (Below w.heap.size w w'))
 case atStart=>exact ⟨(y31),(0),zb4,H',⟨Nat.le_refl _⟩,⟨by (with_reducible repeat (first|apply Kd.R_alloc|apply Kd.R_drewN|apply Kd.R_drew));exact HO41.out⟩,⟨zb0⟩⟩
 case round =>
  clear H'
  try clear p2
  obtain ⟨x5_1,x6_1,rfl,HA,HK1,HO_5,HB⟩:=hrel
  cases gk with
  | zero=>exact absurd HA.out (by simp [tollbarref08_Lines.l0])
  | succ k1 =>
   have H:=HA.out
   clear HA
   simp only [tollbarref08_Lines.l0] at H
   have HC4:=Aside0.mk H
   clear H
   go_upto_if 15 with (fail)
   go_cut [7] (fun v7 wc => ∃ (kq:Nat) (x7_3:Int),v7 = .int .i64 x7_3∧Aside0 (tollbarref08_Lines.j1 kq l0 x5_1 x6_1 x7_3=some (r1,r2,r3))∧Aside0 (kq ≤ k1)∧Aside0 (Kd.R Kd.string 9 wc w.heap.size (fun _=>True) u5 x5_1)∧Aside0 (Below w.heap.size w wc))
   case first =>
    have H:=HC4.out
    clear HC4
    by_cases c5:(l0.length:Int) > 2048
    ·rw [if_pos c5] at H
     have c5b0:decide (2048 < (l0.length:Int))=true:=decide_eq_true c5
     have c5b1:decide (2048 < l0.length)=true:=decide_eq_true zb25
     clear c5
     (first|rw [c5b0]|(simp only [i64_w,i32_w];rw [c5b0])|rw [c5b1]|skip)
     have H' := Aside0.mk H
     clear H
     go_wp2
     go_meet
     case rel=>exact ⟨_,(2048),zb4,H',⟨zb66⟩,⟨zb14⟩,⟨zb0⟩⟩
    rw [if_neg c5] at H
    have c5b0:decide (2048 < (l0.length:Int))=false:=decide_eq_false c5
    have c5b1:decide (2048 < l0.length)=false:=decide_eq_false zb25
    clear c5
    (first|rw [c5b0]|(simp only [i64_w,i32_w];rw [c5b0])|rw [c5b1]|skip)
    have H' := Aside0.mk H
    clear H
    go_wp2
    go_meet
    case rel=>exact ⟨_,((l0.length:Int)),zb4,H',⟨zb66⟩,⟨zb14⟩,⟨zb0⟩⟩
   case rest =>
    clear HC4
    try clear p2
    try clear c5
    try clear c5b0
    try clear c5b1
    try clear p2
    obtain ⟨kq,x7_3,rfl,HA,HJ3,HO_5,HB⟩:=hcut
    cases kq with
    | zero=>exact absurd HA.out (by simp [tollbarref08_Lines.j1])
    | succ kj3 =>
     have H:=HA.out
     clear HA
     simp only [tollbarref08_Lines.j1] at H
     by_cases c6:0 ≤ x6_1;rotate_left
     ·rw [if_neg c6] at H
      exact absurd H zb27
     rw [if_pos c6] at H
     have c6b0:=eq_true c6
     have c6b1:decide (0 ≤ x6_1)=true:=decide_eq_true c6
     clear c6
     by_cases c7:x6_1 ≤ x7_3
     ·rw [if_pos c7] at H
      have c7b0:=eq_true c7
      have c7b1:decide (x6_1 ≤ x7_3)=true:=decide_eq_true c7
      clear c7
      by_cases c8:x7_3 ≤ (l0.length:Int);rotate_left
      ·rw [if_neg c8] at H
       exact absurd H zb27
      rw [if_pos c8] at H
      have c8b0:=eq_true c8
      have c8b1:decide (x7_3 ≤ (l0.length:Int))=true:=decide_eq_true c8
      clear c8
      replace H:=Option.bind_eq_some_iff.mp H
      obtain ⟨⟨t28,t29,t30⟩,A90,H⟩:=H
      try dsimp only at H
      have A9:=Aside0.mk A90
      clear A90
      by_cases c10:t30=20
      ·rw [if_pos c10] at H
       have c10b0:=beq_iff_eq.mpr c10
       have c10b1:=bne_eq_false_iff_eq.mpr c10
       clear c10
       simp only [Option.some.injEq,Prod.mk.injEq] at H
       obtain ⟨rfl,rfl,rfl⟩:=H
       obtain ⟨i35,hi35,_,hsz11,_⟩:=info_parts info5
       obtain ⟨A11,hcut11,hA11,hC11⟩:=print_mid_of (P:=Tryz.prog) (Value.int .u8) 0 23 5 .i64 .i64 Tryz.underlying23 hi35 hsz11 A0 c0 l0 x6_1 x7_3 (of_decide_eq_true zb2) zb75 (of_decide_eq_true zb2) HC0.out
       have HR27:=Aside0.mk (Kd.C_of_reads (h1:=fun _=>rfl) (hA11 _ (Kd.reads_of_C HR0.out)))
       have HC27:=Aside0.mk hC11
       clear hA11 hC11 hi35 hsz11
       go_wp2_with (first|((with_reducible refine gate_callee (f:=114) rfl ?_);refine goesL_ (some 21) rfl rfl Tryz.func114 zb9 rfl #[.slice A11 ((l0.take (x7_3:Int).toNat).drop (x6_1:Int).toNat).length (c0 - x6_1.toNat),.int .i64 2048] rfl zb17 ?_;(with_reducible refine (tollbarref05_Cut.calls kj3 _ _ ((l0.take (x7_3:Int).toNat).drop (x6_1:Int).toNat) 2048 t28 t29 t30 _ ?side1 ?side2 A9.out).mono ?_);(case side1=>repeat (first|exact (Kd.C_below HR27.out HB.out)|(with_reducible refine Kd.C_alloc ?_ _)|(with_reducible refine Kd.C_drewN ?_ _)|(with_reducible refine Kd.C_drew ?_)));(case side2=>exact HC27.out);rintro e w' ⟨rfl,⟨nd,rfl⟩⟩;(try clear A9);refine ⟨_,rfl,?_⟩))
       go_ret3
       exact ⟨_,zb3,zb14,zb0⟩
      rw [if_neg c10] at H
      have c10b0:=beq_eq_false_iff_ne.mpr c10
      have c10b1:=bne_iff_ne.mpr c10
      by_cases c12:t29=0
      ·rw [if_pos c12] at H
       have c12b0:=beq_iff_eq.mpr c12
       have c12b1:=bne_eq_false_iff_eq.mpr c12
       clear c12
       by_cases c13:(l0.length:Int) ≥ 2048
       ·rw [if_pos c13] at H
        have c13b0:decide (2048 ≤ (l0.length:Int))=true:=decide_eq_true c13
        have c13b1:decide (2048 ≤ l0.length)=true:=decide_eq_true zb25
        clear c13
        simp only [Option.some.injEq,Prod.mk.injEq] at H
        obtain ⟨rfl,rfl,rfl⟩:=H
        obtain ⟨i36,hi36,_,hsz14,_⟩:=info_parts info5
        obtain ⟨A14,hcut14,hA14,hC14⟩:=print_mid_of (P:=Tryz.prog) (Value.int .u8) 0 23 5 .i64 .i64 Tryz.underlying23 hi36 hsz14 A0 c0 l0 x6_1 x7_3 (of_decide_eq_true zb2) zb75 (of_decide_eq_true zb2) HC0.out
        have HR27:=Aside0.mk (Kd.C_of_reads (h1:=fun _=>rfl) (hA14 _ (Kd.reads_of_C HR0.out)))
        have HC27:=Aside0.mk hC14
        clear hA14 hC14 hi36 hsz14
        go_wp2_with (first|((with_reducible refine gate_callee (f:=114) rfl ?_);refine goesL_ (some 21) rfl rfl Tryz.func114 zb9 rfl #[.slice A14 ((l0.take (x7_3:Int).toNat).drop (x6_1:Int).toNat).length (c0 - x6_1.toNat),.int .i64 2048] rfl zb17 ?_;(with_reducible refine (tollbarref05_Cut.calls kj3 _ _ ((l0.take (x7_3:Int).toNat).drop (x6_1:Int).toNat) 2048 t28 t29 t30 _ ?side1 ?side2 A9.out).mono ?_);(case side1=>repeat (first|exact (Kd.C_below HR27.out HB.out)|(with_reducible refine Kd.C_alloc ?_ _)|(with_reducible refine Kd.C_drewN ?_ _)|(with_reducible refine Kd.C_drew ?_)));(case side2=>exact HC27.out);rintro e w' ⟨rfl,⟨nd,rfl⟩⟩;(try clear A9);refine ⟨_,rfl,?_⟩))
        go_ret3
        exact ⟨_,zb3,zb14,zb0⟩
       rw [if_neg c13] at H
       have c13b0:decide (2048 ≤ (l0.length:Int))=false:=decide_eq_false c13
       have c13b1:decide (2048 ≤ l0.length)=false:=decide_eq_false zb25
       clear c13
       simp only [Option.some.injEq,Prod.mk.injEq] at H
       obtain ⟨rfl,rfl,rfl⟩:=H
       obtain ⟨i37,hi37,_,hsz15,_⟩:=info_parts info5
       obtain ⟨A15,hcut15,hA15,hC15⟩:=print_mid_of (P:=Tryz.prog) (Value.int .u8) 0 23 5 .i64 .i64 Tryz.underlying23 hi37 hsz15 A0 c0 l0 x6_1 x7_3 (of_decide_eq_true zb2) zb75 (of_decide_eq_true zb2) HC0.out
       have HR27:=Aside0.mk (Kd.C_of_reads (h1:=fun _=>rfl) (hA15 _ (Kd.reads_of_C HR0.out)))
       have HC27:=Aside0.mk hC15
       clear hA15 hC15 hi37 hsz15
       go_wp2_with (first|((with_reducible refine gate_callee (f:=114) rfl ?_);refine goesL_ (some 21) rfl rfl Tryz.func114 zb9 rfl #[.slice A15 ((l0.take (x7_3:Int).toNat).drop (x6_1:Int).toNat).length (c0 - x6_1.toNat),.int .i64 2048] rfl zb17 ?_;(with_reducible refine (tollbarref05_Cut.calls kj3 _ _ ((l0.take (x7_3:Int).toNat).drop (x6_1:Int).toNat) 2048 t28 t29 t30 _ ?side1 ?side2 A9.out).mono ?_);(case side1=>repeat (first|exact (Kd.C_below HR27.out HB.out)|(with_reducible refine Kd.C_alloc ?_ _)|(with_reducible refine Kd.C_drewN ?_ _)|(with_reducible refine Kd.C_drew ?_)));(case side2=>exact HC27.out);rintro e w' ⟨rfl,⟨nd,rfl⟩⟩;(try clear A9);refine ⟨_,rfl,?_⟩))
       go_ret3
       exact ⟨_,zb3,zb14,zb0⟩
      rw [if_neg c12] at H
      have c12b0:=beq_eq_false_iff_ne.mpr c12
      have c12b1:=bne_iff_ne.mpr c12
      by_cases c16:t28.toList=([]:List UInt8);rotate_left
      ·rw [if_neg c16] at H
       have c16b0:=beq_eq_false_iff_ne.mpr c16
       have c16b1:=bne_iff_ne.mpr c16
       by_cases c24:x5_1.length < 8796093022208;rotate_left
       ·rw [if_neg c24] at H
        exact absurd H zb27
       rw [if_pos c24] at H
       have LMc24:=Aside0.mk c24
       clear c24
       obtain ⟨y34,hy34⟩ : ∃ y_:List ByteArray,y_=(x5_1 ++ [t28]):=⟨_,rfl⟩
       replace H:(tollbarref08_Lines.l0 kj3 l0 y34 (wrap64 (x6_1 + t29)))=some (r1,r2,r3):=by first|(rw [hy34];with_reducible exact H)|(have H2_:=(Option.bind_some _ _).symm.trans H;rw [hy34];with_reducible exact H2_)|(have H2_:=(Option.bind_some _ _).symm.trans H;with_reducible exact H2_)|with_reducible exact H|(rw [hy34];exact H)|exact H
       have Ny34:=Aside0.mk hy34
       clear hy34
       have H' := Aside0.mk H
       clear H
       obtain ⟨i40,hi40,_,hsz25,_⟩:=info_parts info5
       obtain ⟨A25,hcut25,hA25,hC25⟩:=print_mid_of (P:=Tryz.prog) (Value.int .u8) 0 23 5 .i64 .i64 Tryz.underlying23 hi40 hsz25 A0 c0 l0 x6_1 x7_3 (of_decide_eq_true zb2) zb75 (of_decide_eq_true zb2) HC0.out
       have HR27:=Aside0.mk (Kd.C_of_reads (h1:=fun _=>rfl) (hA25 _ (Kd.reads_of_C HR0.out)))
       have HC27:=Aside0.mk hC25
       clear hA25 hC25 hi40 hsz25
       go_wp2_with (first|((with_reducible refine gate_callee (f:=114) rfl ?_);refine goesL_ (some 21) rfl rfl Tryz.func114 zb9 rfl #[.slice A25 ((l0.take (x7_3:Int).toNat).drop (x6_1:Int).toNat).length (c0 - x6_1.toNat),.int .i64 2048] rfl zb17 ?_;(with_reducible refine (tollbarref05_Cut.calls kj3 _ _ ((l0.take (x7_3:Int).toNat).drop (x6_1:Int).toNat) 2048 t28 t29 t30 _ ?side1 ?side2 A9.out).mono ?_);(case side1=>repeat (first|exact (Kd.C_below HR27.out HB.out)|(with_reducible refine Kd.C_alloc ?_ _)|(with_reducible refine Kd.C_drewN ?_ _)|(with_reducible refine Kd.C_drew ?_)));(case side2=>exact HC27.out);rintro e w' ⟨rfl,⟨nd,rfl⟩⟩;(try clear A9);refine ⟨_,rfl,?_⟩)|((with_reducible refine gate_builtin (b:=.append) (xs:=#[.tmp 47,.tmp 49]) rfl ?_);(try (refine gate_guard zb65 ?_;dsimp only));at_builtin;refine Kd.R_append Kd.string (w0:=w) w.heap.size rfl (.tmp 47) (.tmp 49) 44 9 (.string ⟨#[]⟩) 16 rfl Tryz.underlying44 info9 rfl zb72 zb25 u5 x5_1 t28 [.string t28] (fun _=>True) (fun _=>False) rfl rfl ?aP (fun _ hk=>hk.elim) ?aF ?aO ?aB ?aS ?aL ?_;(case aP=>exact rfl);(case aB=>exact zb0);(case aF=>exact (fun _ _=>trivial));(case aO=>exact zb14);(case aS=>exact (below_size zb0));(case aL=>have:=LMc24.out;omega);intro v47 w26 ho hb hg hat;rw [← Ny34.out] at ho;have n0_:=Aside0.mk (hb);have n1_:=Aside0.mk (ho);clear HB;clear HO_5;have HB:=n0_;have HO43:=n1_;clear n0_ n1_;clear ho hb hg hat))
       go_roundg kj3
       case measure=>have:=HK1.out;have:=HJ3.out;omega
       case rel=>exact ⟨(y34),(wrap64 (x6_1 + t29)),zb4,H',⟨by have:=HK1.out;have:=HJ3.out;omega⟩,⟨by (with_reducible repeat (first|apply Kd.R_alloc|apply Kd.R_drewN|apply Kd.R_drew));exact HO43.out⟩,⟨zb0⟩⟩
      rw [if_pos c16] at H
      have c16b0:=beq_iff_eq.mpr c16
      have c16b1:=bne_eq_false_iff_eq.mpr c16
      clear c16
      by_cases c17:(x5_1.length:Int) > 0
      ·rw [if_pos c17] at H
       have c17b0:decide (0 < (x5_1.length:Int))=true:=decide_eq_true c17
       have c17b1:decide (0 < x5_1.length)=true:=decide_eq_true zb25
       clear c17
       simp only [Option.some.injEq,Prod.mk.injEq] at H
       obtain ⟨rfl,rfl,rfl⟩:=H
       obtain ⟨i38,hi38,_,hsz18,_⟩:=info_parts info5
       obtain ⟨A18,hcut18,hA18,hC18⟩:=print_mid_of (P:=Tryz.prog) (Value.int .u8) 0 23 5 .i64 .i64 Tryz.underlying23 hi38 hsz18 A0 c0 l0 x6_1 x7_3 (of_decide_eq_true zb2) zb75 (of_decide_eq_true zb2) HC0.out
       have HR27:=Aside0.mk (Kd.C_of_reads (h1:=fun _=>rfl) (hA18 _ (Kd.reads_of_C HR0.out)))
       have HC27:=Aside0.mk hC18
       clear hA18 hC18 hi38 hsz18
       go_wp2_with (first|((with_reducible refine gate_callee (f:=114) rfl ?_);refine goesL_ (some 21) rfl rfl Tryz.func114 zb9 rfl #[.slice A18 ((l0.take (x7_3:Int).toNat).drop (x6_1:Int).toNat).length (c0 - x6_1.toNat),.int .i64 2048] rfl zb17 ?_;(with_reducible refine (tollbarref05_Cut.calls kj3 _ _ ((l0.take (x7_3:Int).toNat).drop (x6_1:Int).toNat) 2048 t28 t29 t30 _ ?side1 ?side2 A9.out).mono ?_);(case side1=>repeat (first|exact (Kd.C_below HR27.out HB.out)|(with_reducible refine Kd.C_alloc ?_ _)|(with_reducible refine Kd.C_drewN ?_ _)|(with_reducible refine Kd.C_drew ?_)));(case side2=>exact HC27.out);rintro e w' ⟨rfl,⟨nd,rfl⟩⟩;(try clear A9);refine ⟨_,rfl,?_⟩;obtain ⟨Ao19,co19,eo19⟩:=Kd.R_slice HO_5.out;subst eo19))
       go_ret3
       exact ⟨_,zb3,zb14,zb0⟩
      rw [if_neg c17] at H
      have c17b0:decide (0 < (x5_1.length:Int))=false:=decide_eq_false c17
      have c17b1:decide (0 < x5_1.length)=false:=decide_eq_false zb25
      clear c17
      by_cases c20:x5_1.length < 8796093022208
      ·rw [if_pos c20] at H
       have LMc20:=Aside0.mk c20
       clear c20
       obtain ⟨y33,hy33⟩ : ∃ y_:List ByteArray,y_=(x5_1 ++ [t28]):=⟨_,rfl⟩
       replace H:(tollbarref08_Lines.l0 kj3 l0 y33 (wrap64 (x6_1 + t29)))=some (r1,r2,r3):=by first|(rw [hy33];with_reducible exact H)|(have H2_:=(Option.bind_some _ _).symm.trans H;rw [hy33];with_reducible exact H2_)|(have H2_:=(Option.bind_some _ _).symm.trans H;with_reducible exact H2_)|with_reducible exact H|(rw [hy33];exact H)|exact H
       have Ny33:=Aside0.mk hy33
       clear hy33
       have H' := Aside0.mk H
       clear H
       obtain ⟨i39,hi39,_,hsz21,_⟩:=info_parts info5
       obtain ⟨A21,hcut21,hA21,hC21⟩:=print_mid_of (P:=Tryz.prog) (Value.int .u8) 0 23 5 .i64 .i64 Tryz.underlying23 hi39 hsz21 A0 c0 l0 x6_1 x7_3 (of_decide_eq_true zb2) zb75 (of_decide_eq_true zb2) HC0.out
       have HR27:=Aside0.mk (Kd.C_of_reads (h1:=fun _=>rfl) (hA21 _ (Kd.reads_of_C HR0.out)))
       have HC27:=Aside0.mk hC21
       clear hA21 hC21 hi39 hsz21
       go_wp2_with (first|((with_reducible refine gate_callee (f:=114) rfl ?_);refine goesL_ (some 21) rfl rfl Tryz.func114 zb9 rfl #[.slice A21 ((l0.take (x7_3:Int).toNat).drop (x6_1:Int).toNat).length (c0 - x6_1.toNat),.int .i64 2048] rfl zb17 ?_;(with_reducible refine (tollbarref05_Cut.calls kj3 _ _ ((l0.take (x7_3:Int).toNat).drop (x6_1:Int).toNat) 2048 t28 t29 t30 _ ?side1 ?side2 A9.out).mono ?_);(case side1=>repeat (first|exact (Kd.C_below HR27.out HB.out)|(with_reducible refine Kd.C_alloc ?_ _)|(with_reducible refine Kd.C_drewN ?_ _)|(with_reducible refine Kd.C_drew ?_)));(case side2=>exact HC27.out);rintro e w' ⟨rfl,⟨nd,rfl⟩⟩;(try clear A9);refine ⟨_,rfl,?_⟩;obtain ⟨Ao22,co22,eo22⟩:=Kd.R_slice HO_5.out;subst eo22)|((with_reducible refine gate_builtin (b:=.append) (xs:=#[.tmp 47,.tmp 49]) rfl ?_);(try (refine gate_guard zb65 ?_;dsimp only));at_builtin;refine Kd.R_append Kd.string (w0:=w) w.heap.size rfl (.tmp 47) (.tmp 49) 44 9 (.string ⟨#[]⟩) 16 rfl Tryz.underlying44 info9 rfl zb72 zb25 (.slice Ao22 x5_1.length co22) x5_1 t28 [.string t28] (fun _=>True) (fun _=>False) rfl rfl ?aP (fun _ hk=>hk.elim) ?aF ?aO ?aB ?aS ?aL ?_;(case aP=>exact rfl);(case aB=>exact zb0);(case aF=>exact (fun _ _=>trivial));(case aO=>exact zb14);(case aS=>exact (below_size zb0));(case aL=>have:=LMc20.out;omega);intro v46 w23 ho hb hg hat;rw [← Ny33.out] at ho;have n0_:=Aside0.mk (hb);have n1_:=Aside0.mk (ho);clear HB;clear HO_5;have HB:=n0_;have HO42:=n1_;clear n0_ n1_;clear ho hb hg hat))
       go_roundg kj3
       case measure=>have:=HK1.out;have:=HJ3.out;omega
       case rel=>exact ⟨(y33),(wrap64 (x6_1 + t29)),zb4,H',⟨by have:=HK1.out;have:=HJ3.out;omega⟩,⟨by (with_reducible repeat (first|apply Kd.R_alloc|apply Kd.R_drewN|apply Kd.R_drew));exact HO42.out⟩,⟨zb0⟩⟩
      ·rw [if_neg c20] at H
       exact absurd H zb27
     ·rw [if_neg c7] at H
      exact absurd H zb27
def tollbarref08_fields.l0:Nat → List ByteArray → List (S55) → Int → Option ((List (S55)) × Int)
 | 0,_,_,_=>none
 | k + 1,x0,x4,x5=>if x5 < (x0.length:Int) then (if 0 ≤ x5 then ((tollbarref04_Parse.f k (rdOf ByteArray.empty x0 x5)).bind fun bt670=>(if bt670.2.2=true then (if (x4.length:Int)=40 then (some (([]:List (S55)),431)) else (if x4.length < 4398046511104 then (tollbarref08_fields.l0 k x0 (x4 ++ [(⟨bt670.1,bt670.2.1⟩:S55)]) (wrap64 (x5 + 1))) else (none))) else (some (([]:List (S55)),400)))) else (none)) else (some (x4,0))
def tollbarref08_fields.f (k:Nat) (l0:List ByteArray):Option ((List (S55)) × Int):=tollbarref08_fields.l0 k l0 (([]:List (S55))) 0
set_option maxHeartbeats 8000000 in
set_option maxRecDepth 100000 in
theorem tollbarref08_fields.calls (k:Nat) (A0:Option Addr) (c0:Nat) (l0:List ByteArray) (r1:List (S55)) (r2:Int) (w:World) (hr0:Kd.C Kd.string w A0 l0.length l0) (hc0:l0.length ≤ c0) (h:tollbarref08_fields.f k l0=some (r1,r2)) :
  Calls Tryz.prog 69 #[.slice A0 l0.length c0] w fun e w' => ∃ v0_:Value,e = .returned (.tuple #[v0_,.int .i64 r2])∧Kd.R k55 55 w' w.heap.size (fun _=>True) v0_ r1∧Below w.heap.size w w' := by
 have hu55:=Tryz.underlying55
 have HR0:=Aside0.mk hr0
 have HC0:=Aside0.mk hc0
 clear hr0 hc0
 have HB:=Aside0.mk (Below.refl w.heap.size w)
 have H:(tollbarref08_fields.l0 k l0 (([]:List (S55))) 0)=some (r1,r2):=h
 clear h
 obtain ⟨y666,hy666⟩ : ∃ y_:List (S55),y_=(([]:List (S55))):=⟨_,rfl⟩
 replace H:(tollbarref08_fields.l0 k l0 y666 0)=some (r1,r2):=by first|(rw [hy666];with_reducible exact H)|(have H2_:=(Option.bind_some _ _).symm.trans H;rw [hy666];with_reducible exact H2_)|(have H2_:=(Option.bind_some _ _).symm.trans H;with_reducible exact H2_)|with_reducible exact H|(rw [hy666];exact H)|exact H
 have Ny666:=Aside0.mk hy666
 clear hy666
 have H' := Aside0.mk H
 clear H
 go_enter Tryz.func69,Tryz.ntmps69
 go_wp2_with (first|((with_reducible refine gate_dst (N:=8) rfl ?_);refine Kd.R_lit k55 _ 55 ?hg (N:=8) ?hd (xs:=([]:List (S55))) (inner:=[]) (ok:=fun _=>True) (okp:=fun _=>True) ?hr ?hp (fun _ hk=>hk) trivial (Below.refl _ _) (Nat.le_refl _) zb27 ?_;(case hd=>rfl);(case hg=>rfl);(case hr=>first|(go_simp;done)|(go_simp;rfl));(case hp=>exact (Reps.none _ _));intro v667 w2 ho3 hb hg_ hnew_;clear hg_ hnew_;(first|rw [← Ny666.out] at ho3|(simp only [Int.reduceToNat] at ho3;rw [← Ny666.out] at ho3));have n0_:=Aside0.mk (Kd.R_lower ho3 (below_size zb0));have n1_:=Aside0.mk (below_step zb0 hb);clear HB;have HO668:=n0_;have HB:=n1_;clear n0_ n1_;clear hb ho3))
 go_loopg [4,5] k (fun kq v4 v5 w' => ∃ (x4_1:List (S55)) (x5_1:Int),v5 = .int .i64 x5_1∧Aside0 (tollbarref08_fields.l0 kq l0 x4_1 x5_1=some (r1,r2))∧Aside0 (kq ≤ k)∧Aside0 (Kd.R k55 55 w' w.heap.size (fun _=>True) v4 x4_1)∧Aside0 (Below w.heap.size w w'))
 case atStart=>exact ⟨(y666),(0),zb4,H',⟨Nat.le_refl _⟩,⟨by (with_reducible repeat (first|apply Kd.R_alloc|apply Kd.R_drewN|apply Kd.R_drew));exact HO668.out⟩,⟨zb0⟩⟩
 case round =>
  clear H'
  try clear p2
  obtain ⟨x4_1,x5_1,rfl,HA,HK1,HO_4,HB⟩:=hrel
  cases gk with
  | zero=>exact absurd HA.out (by simp [tollbarref08_fields.l0])
  | succ k1 =>
   have H:=HA.out
   clear HA
   simp only [tollbarref08_fields.l0] at H
   by_cases c4:x5_1 < (l0.length:Int);rotate_left
   ·rw [if_neg c4] at H
    have c4b0:decide (x5_1 < (l0.length:Int))=false:=decide_eq_false c4
    clear c4
    simp only [Option.some.injEq,Prod.mk.injEq] at H
    obtain ⟨rfl,rfl⟩:=H
    go_wp2
    go_ret2
    exact ⟨_,zb3,zb57,zb0⟩
   rw [if_pos c4] at H
   have c4b0:decide (x5_1 < (l0.length:Int))=true:=decide_eq_true c4
   clear c4
   by_cases c5:0 ≤ x5_1
   ·rw [if_pos c5] at H
    have c5b0:decide (0 ≤ x5_1)=true:=decide_eq_true c5
    clear c5
    replace H:=Option.bind_eq_some_iff.mp H
    obtain ⟨⟨t670,t671,t672⟩,A60,H⟩:=H
    try dsimp only at H
    have A6:=Aside0.mk A60
    clear A60
    by_cases c7:t672=true;rotate_left
    ·replace c7:=Bool.eq_false_iff.mpr c7
     subst c7
     rw [if_neg (show ¬ (false=true) by decide)] at H
     simp only [Option.some.injEq,Prod.mk.injEq] at H
     obtain ⟨rfl,rfl⟩:=H
     have p669:0 ≤ (x5_1:Int):=of_decide_eq_true zb2
     have q669:x5_1 < (l0.length:Int):=of_decide_eq_true zb2
     obtain ⟨ad669,e669,hx669_0⟩:=Kd.at_string HR0.out x5_1 p669 q669
     cases e669
     replace hx669_0:=(HB.out.cell (World.block_lt_of_cell? w _ hx669_0)).trans hx669_0
     replace p669:=eq_true p669
     replace q669:=eq_true q669
     go_wp2_with (first|((with_reducible refine gate_callee (f:=116) rfl ?_);refine goesL_ (some 20) rfl rfl Tryz.func116 zb9 rfl #[.string (rdOf ByteArray.empty l0 x5_1)] rfl zb1 ?_;(with_reducible refine (tollbarref04_Parse.calls k1 (rdOf ByteArray.empty l0 x5_1) t670 t671 false _ A6.out).mono ?_);rintro e w19 ⟨rfl,hb⟩;(try clear A6);refine ⟨_,rfl,?_⟩;have n0_:=Aside0.mk (Kd.R_below zb57 hb);have n1_:=Aside0.mk (below_step zb0 hb);clear HO_4;clear HB;have HO_4:=n0_;have HB:=n1_;clear n0_ n1_;(try clear hb);(try clear hb2);(try clear hk);(try clear hi))|((with_reducible refine gate_dst (N:=6) rfl ?_);refine box_event ?hg (N:=6) ?hd (cs:=#[.string (⟨#[]⟩:ByteArray),.string (⟨#[]⟩:ByteArray)]) (t:=55) ?hr ?_;(case hd=>rfl);(case hg=>rfl);(case hr=>first|(go_simp;done)|(go_simp;rfl));intro gb673 hg w20 hbox hb;have n0_:=Aside0.mk (Kd.R_below (Kd.R_elderB zb57 gb673 (Nat.le_of_eq hg.symm)) hb);have n1_:=Aside0.mk (below_step zb0 hb);have n2_:=Aside0.mk (hbox);have n3_:=zG hg zb0;have n4_:=zG hg zb0;clear HO_4;clear HB;have HO_4:=n0_;have HB:=n1_;have BK673:=n2_;have GW673:=n3_;have GE673:=n4_;clear n0_ n1_ n2_ n3_ n4_;clear hb hbox hg;have hcz21_0:w20.cell? ⟨gb673,0,none⟩=some (.string (⟨#[]⟩:ByteArray)):=(blk_cell BK673.out 0).trans rfl;have hcz21_1:w20.cell? ⟨gb673,1,none⟩=some (.string (⟨#[]⟩:ByteArray)):=(blk_cell BK673.out 1).trans rfl;have hfz21_0:=blk_frozen BK673.out 0;have hfz21_1:=blk_frozen BK673.out 1))
     go_ret2
     exact ⟨_,zb3,zb7,zb59⟩
    subst c7
    rw [if_pos rfl] at H
    by_cases c8:(x4_1.length:Int)=40
    ·rw [if_pos c8] at H
     have c8b0:=beq_iff_eq.mpr c8
     have c8b1:=bne_eq_false_iff_eq.mpr c8
     clear c8
     simp only [Option.some.injEq,Prod.mk.injEq] at H
     obtain ⟨rfl,rfl⟩:=H
     have p669:0 ≤ (x5_1:Int):=of_decide_eq_true zb2
     have q669:x5_1 < (l0.length:Int):=of_decide_eq_true zb2
     obtain ⟨ad669,e669,hx669_0⟩:=Kd.at_string HR0.out x5_1 p669 q669
     cases e669
     replace hx669_0:=(HB.out.cell (World.block_lt_of_cell? w _ hx669_0)).trans hx669_0
     replace p669:=eq_true p669
     replace q669:=eq_true q669
     go_wp2_with (first|((with_reducible refine gate_callee (f:=116) rfl ?_);refine goesL_ (some 20) rfl rfl Tryz.func116 zb9 rfl #[.string (rdOf ByteArray.empty l0 x5_1)] rfl zb1 ?_;(with_reducible refine (tollbarref04_Parse.calls k1 (rdOf ByteArray.empty l0 x5_1) t670 t671 true _ A6.out).mono ?_);rintro e w9 ⟨rfl,hb⟩;(try clear A6);refine ⟨_,rfl,?_⟩;have n0_:=Aside0.mk (Kd.R_below zb57 hb);have n1_:=Aside0.mk (below_step zb0 hb);clear HO_4;clear HB;have HO_4:=n0_;have HB:=n1_;clear n0_ n1_;(try clear hb);(try clear hb2);(try clear hk);(try clear hi))|((with_reducible refine gate_dst (N:=6) rfl ?_);refine box_event ?hg (N:=6) ?hd (cs:=#[.string (⟨#[]⟩:ByteArray),.string (⟨#[]⟩:ByteArray)]) (t:=55) ?hr ?_;(case hd=>rfl);(case hg=>rfl);(case hr=>first|(go_simp;done)|(go_simp;rfl));intro gb673 hg w10 hbox hb;have n0_:=Aside0.mk (Kd.R_below (Kd.R_elderB zb57 gb673 (Nat.le_of_eq hg.symm)) hb);have n1_:=Aside0.mk (below_step zb0 hb);have n2_:=Aside0.mk (hbox);have n3_:=zG hg zb0;have n4_:=zG hg zb0;clear HO_4;clear HB;have HO_4:=n0_;have HB:=n1_;have BK673:=n2_;have GW673:=n3_;have GE673:=n4_;clear n0_ n1_ n2_ n3_ n4_;clear hb hbox hg;have hcz11_0:w10.cell? ⟨gb673,0,none⟩=some (.string (⟨#[]⟩:ByteArray)):=(blk_cell BK673.out 0).trans rfl;have hcz11_1:w10.cell? ⟨gb673,1,none⟩=some (.string (⟨#[]⟩:ByteArray)):=(blk_cell BK673.out 1).trans rfl;have hfz11_0:=blk_frozen BK673.out 0;have hfz11_1:=blk_frozen BK673.out 1;obtain ⟨Ao12,co12,eo12⟩:=Kd.R_slice HO_4.out;subst eo12))
     go_ret2
     exact ⟨_,zb3,zb7,zb59⟩
    rw [if_neg c8] at H
    have c8b0:=beq_eq_false_iff_ne.mpr c8
    have c8b1:=bne_iff_ne.mpr c8
    by_cases c13:x4_1.length < 4398046511104
    ·rw [if_pos c13] at H
     have LMc13:=Aside0.mk c13
     clear c13
     obtain ⟨y674,hy674⟩ : ∃ y_:List (S55),y_=(x4_1 ++ [(⟨t670,t671⟩:S55)]):=⟨_,rfl⟩
     replace H:(tollbarref08_fields.l0 k1 l0 y674 (wrap64 (x5_1 + 1)))=some (r1,r2):=by first|(rw [hy674];with_reducible exact H)|(have H2_:=(Option.bind_some _ _).symm.trans H;rw [hy674];with_reducible exact H2_)|(have H2_:=(Option.bind_some _ _).symm.trans H;with_reducible exact H2_)|with_reducible exact H|(rw [hy674];exact H)|exact H
     have Ny674:=Aside0.mk hy674
     clear hy674
     have H' := Aside0.mk H
     clear H
     have p669:0 ≤ (x5_1:Int):=of_decide_eq_true zb2
     have q669:x5_1 < (l0.length:Int):=of_decide_eq_true zb2
     obtain ⟨ad669,e669,hx669_0⟩:=Kd.at_string HR0.out x5_1 p669 q669
     cases e669
     replace hx669_0:=(HB.out.cell (World.block_lt_of_cell? w _ hx669_0)).trans hx669_0
     replace p669:=eq_true p669
     replace q669:=eq_true q669
     go_wp2_with (first|((with_reducible refine gate_callee (f:=116) rfl ?_);refine goesL_ (some 20) rfl rfl Tryz.func116 zb9 rfl #[.string (rdOf ByteArray.empty l0 x5_1)] rfl zb1 ?_;(with_reducible refine (tollbarref04_Parse.calls k1 (rdOf ByteArray.empty l0 x5_1) t670 t671 true _ A6.out).mono ?_);rintro e w14 ⟨rfl,hb⟩;(try clear A6);refine ⟨_,rfl,?_⟩;have n0_:=Aside0.mk (Kd.R_below zb57 hb);have n1_:=Aside0.mk (below_step zb0 hb);clear HO_4;clear HB;have HO_4:=n0_;have HB:=n1_;clear n0_ n1_;(try clear hb);(try clear hb2);(try clear hk);(try clear hi))|((with_reducible refine gate_dst (N:=6) rfl ?_);refine box_event ?hg (N:=6) ?hd (cs:=#[.string (⟨#[]⟩:ByteArray),.string (⟨#[]⟩:ByteArray)]) (t:=55) ?hr ?_;(case hd=>rfl);(case hg=>rfl);(case hr=>first|(go_simp;done)|(go_simp;rfl));intro gb673 hg w15 hbox hb;have n0_:=Aside0.mk (Kd.R_below (Kd.R_elderB zb57 gb673 (Nat.le_of_eq hg.symm)) hb);have n1_:=Aside0.mk (below_step zb0 hb);have n2_:=Aside0.mk (hbox);have n3_:=zG hg zb0;have n4_:=zG hg zb0;clear HO_4;clear HB;have HO_4:=n0_;have HB:=n1_;have BK673:=n2_;have GW673:=n3_;have GE673:=n4_;clear n0_ n1_ n2_ n3_ n4_;clear hb hbox hg;have hcz16_0:w15.cell? ⟨gb673,0,none⟩=some (.string (⟨#[]⟩:ByteArray)):=(blk_cell BK673.out 0).trans rfl;have hcz16_1:w15.cell? ⟨gb673,1,none⟩=some (.string (⟨#[]⟩:ByteArray)):=(blk_cell BK673.out 1).trans rfl;have hfz16_0:=blk_frozen BK673.out 0;have hfz16_1:=blk_frozen BK673.out 1;obtain ⟨Ao17,co17,eo17⟩:=Kd.R_slice HO_4.out;subst eo17)|((with_reducible refine gate_builtin (b:=.append) (xs:=#[.tmp 28,.tmp 30]) rfl ?_);at_builtin;refine Kd.R_append k55 (w0:=w) w.heap.size rfl (.tmp 28) (.tmp 30) 22 55 (.agg #[(.string ⟨#[]⟩),(.string ⟨#[]⟩)]) 32 rfl Tryz.underlying22 info55 rfl zb72 zb25 (.slice Ao17 x4_1.length co17) x4_1 (⟨t670,t671⟩:S55) [.string t670,.string t671] (fun k_=>k_ ≠ gb673) (fun _=>False) rfl (by first|(go_simp;done)|(go_simp;rfl)) ?aP (fun _ hk=>hk.elim) ?aF ?aO ?aB ?aS ?aL ?_;(case aP=>exact k55_mkM _ _ _ (⟨t670,t671⟩:S55));(case aB=>exact zb59);(case aF=>exact (fun k_ hk=>Kd.freshB (g:=gb673) (o:=.cells #[.string t670,.string t671] 55 (0,0)) zb51 k_ hk));(case aO=>exact (by (with_reducible repeat (first|apply Kd.R_alloc|apply Kd.R_drewN|apply Kd.R_drew));exact Kd.R_mono (Kd.R_far (p:=⟨gb673,1,none⟩) (Kd.R_far (p:=⟨gb673,0,none⟩) (Kd.R_mono HO_4.out (fun k_ hk=>(⟨hk,hk.2⟩:_∧k_ ≠ gb673))) (fun _ hk=>hk.2) (.string t670)) (fun _ hk=>hk.2) (.string t671)) (fun _ hk=>hk.1.2)));(case aS=>exact (below_size zb59));(case aL=>have:=LMc13.out;omega);intro v675 w18 ho hb hg hat;rw [← Ny674.out] at ho;have n0_:=Aside0.mk (blk_grown (g:=gb673) (o:=.cells #[.string t670,.string t671] 55 (0,0)) zb51 hg (Kd.R_away HO_4.out (fun _ hk=>hk.2)));have n1_:=Aside0.mk (hb);have n2_:=Aside0.mk (ho);clear BK673;clear HB;clear HO_4;have BK673:=n0_;have HB:=n1_;have HO676:=n2_;clear n0_ n1_ n2_;clear ho hb hg hat))
     go_roundg k1
     case measure=>have:=HK1.out;omega
     case rel=>exact ⟨(y674),(wrap64 (x5_1 + 1)),zb4,H',⟨zb74⟩,⟨by (with_reducible repeat (first|apply Kd.R_alloc|apply Kd.R_drewN|apply Kd.R_drew));exact Kd.R_mono HO676.out (fun _ hk=>trivial)⟩,⟨zb59⟩⟩
    ·rw [if_neg c13] at H
     exact absurd H zb27
   ·rw [if_neg c5] at H
    exact absurd H zb27
def tollbarref08_Response.f (k:Nat) (l0:List Int) (a1:ByteArray) (a2:Bool):Option (Int × ByteArray × Int × List (S55) × List Int × Int × Bool) :=
 (tollbarref08_Lines.f k l0).bind fun L=>if (L.1.length:Int)=0 then some (0,⟨#[]⟩,0,[],[],0,L.2.2 == 0 && !a2) else (if 0 < (L.1.length:Int) then ((tollbarref05_Status.f k (rdOf ByteArray.empty L.1 0)).bind fun q=>if q.2.2.2.2.2=true then ((tollbarref08_fields.f k (L.1.drop 1)).bind fun g=>if g.2=0 then (if L.2.1=0 then some (0,⟨#[]⟩,0,[],[],0,L.2.2 == 0 && !a2) else
  ((tollbarref07_Response.f k a1 q.1 q.2.1 q.2.2.1 g.1 q.2.2.2.2.1).bind fun y=>if y.2.2=true then (if 0 ≤ L.2.1 then (if L.2.1 ≤ (l0.length:Int) then (if y.1=3 then (if wrap64 ((l0.length:Int) - L.2.1) > 4096 then some (0,⟨#[]⟩,0,[],[],0,false) else (if a2=true then ((tollbarref01_Join.f k (l0.drop L.2.1.toNat) []).bind fun z=>some (q.1,q.2.1,q.2.2.1,g.1,z,(l0.length:Int),true)) else some (0,⟨#[]⟩,0,[],[],0,true))) else
   ((tollbarref08_Body.f k (l0.drop L.2.1.toNat) y.2.1 (y.1 == 2)).bind fun z=>if z.2.2.2=0 then (if z.2.2.1=true then some (q.1,q.2.1,q.2.2.1,g.1,z.1,wrap64 (L.2.1 + z.2.1),true) else some (0,⟨#[]⟩,0,[],[],0,!a2)) else some (0,⟨#[]⟩,0,[],[],0,false))) else none) else none) else some (0,⟨#[]⟩,0,[],[],0,false))) else some (0,⟨#[]⟩,0,[],[],0,false)) else some (0,⟨#[]⟩,0,[],[],0,false)) else none)
set_option maxHeartbeats 16000000 in
set_option maxRecDepth 100000 in
theorem tollbarref08_Response.calls (k:Nat) (A0:Option Addr) (c0:Nat) (l0:List Int) (a1:ByteArray) (a2:Bool) (r1:Int) (r2:ByteArray) (r3:Int) (r4:List (S55)) (r5:List Int) (r6:Int) (r7:Bool) (w:World) (hr0:Kd.C (Kd.int .u8) w A0 l0.length l0) (hc0:l0.length ≤ c0) (h:tollbarref08_Response.f k l0 a1 a2=some (r1,r2,r3,r4,r5,r6,r7)) :
    Calls Tryz.prog 31 #[.slice A0 l0.length c0,.string a1,.bool a2] w fun e w' => ∃ v4_ v5_:Value,e = .returned (.tuple #[.agg #[.int .i64 r1,.string r2,.int .i64 r3,v4_,v5_],.int .i64 r6,.bool r7])∧Kd.R k55 55 w' w.heap.size (fun _=>True) v4_ r4∧Kd.R (Kd.int .u8) 5 w' w.heap.size (fun _=>True) v5_ r5∧Below w.heap.size w w' := by
  show Calls _ _ _ _ (RespPost w r1 r2 r3 r4 r5 r6 r7)
  unfold tollbarref08_Response.f at h
  obtain ⟨⟨ss,n0,cd⟩,hL,h'⟩:=Option.bind_eq_some_iff.1 h
  clear h
  simp only at h'
  have hu:=Tryz.underlying25
  have HC:=Aside0.mk hr0
  have HCC:=Aside0.mk hc0
  have HL:=Aside0.mk hL
  clear hr0 hc0 hL
  by_cases b0:(ss.length:Int)=0
  · rw [if_pos b0] at h'
    have h:=h'
    clear h'
    simp only [Option.some.injEq,Prod.mk.injEq] at h
    obtain ⟨rfl,rfl,rfl,rfl,rfl,rfl,e7⟩:=h
    have d0:((ss.length:Int) == 0)=true:=beq_iff_eq.2 b0
    have d1:(ss.length == 0)=true:=beq_iff_eq.2 zb25
    clear b0
    by_cases bc:cd=0
    · subst bc
      cases a2 <;> subst e7
      all_goals
       go_enter Tryz.func31,Tryz.ntmps31
       go_wp2_with (first
         | ((with_reducible refine gate_dst (N:=6) rfl ?_);refine box_event ?hg (N:=6) ?hd (cs:=#[.int .i64 0,.string (⟨#[]⟩:ByteArray),.int .i64 0,.slice none 0 0,.slice none 0 0]) (t:=25) ?hr ?_;(case hd=>rfl);(case hg=>rfl);(case hr=>first|(go_simp;done)|(go_simp;rfl));intro R hR w5 hBR hb5;have BR:=Aside0.mk hBR;have LR:=Aside0.mk hb5;have ER:=Aside0.mk hR;clear hBR hb5 hR)
         | (go_at_call 67;refine (tollbarref08_Lines.calls k A0 c0 l0 _ _ _ w5 (Kd.C_below HC.out LR.out) HCC.out HL.out).mono ?_;rintro E w6 ⟨v6,rfl,h6,hb6⟩;obtain ⟨As,cs,rfl⟩:=Kd.R_slice h6;have S6:=Aside0.mk h6;have L6:=Aside0.mk (LR.out.trans (hbase LR.out.size hb6));have BR6:=Aside0.mk (blk_below BR.out hb6);obtain ⟨qR0,qR1,qR2,qR3,qR4,fR0,fR1,fR2,fR3,fR4⟩:=zq5 BR6.out;clear h6 hb6))
       refine bodyPost_ret (results_ctt rfl _ _ R 25 #[.int .i64 0,.string (⟨#[]⟩:ByteArray),.int .i64 0,.slice none 0 0,.slice none 0 0] (0,0) _ rfl (blk5 BR6.out _ _ _ _ _) hu rfl zb9) rfl ?_
       exact resp_none (put5 L6.out (Nat.le_of_eq ER.out.symm) _ _ _ _ _)
    · have dz:(cd == 0)=false:=beq_eq_false_iff_ne.2 bc
      clear bc
      rw [dz,Bool.false_and] at e7
      subst e7
      go_enter Tryz.func31,Tryz.ntmps31
      go_wp2_with (first
        | ((with_reducible refine gate_dst (N:=6) rfl ?_);refine box_event ?hg (N:=6) ?hd (cs:=#[.int .i64 0,.string (⟨#[]⟩:ByteArray),.int .i64 0,.slice none 0 0,.slice none 0 0]) (t:=25) ?hr ?_;(case hd=>rfl);(case hg=>rfl);(case hr=>first|(go_simp;done)|(go_simp;rfl));intro R hR w5 hBR hb5;have BR:=Aside0.mk hBR;have LR:=Aside0.mk hb5;have ER:=Aside0.mk hR;clear hBR hb5 hR)
        | (go_at_call 67;refine (tollbarref08_Lines.calls k A0 c0 l0 _ _ _ w5 (Kd.C_below HC.out LR.out) HCC.out HL.out).mono ?_;rintro E w6 ⟨v6,rfl,h6,hb6⟩;obtain ⟨As,cs,rfl⟩:=Kd.R_slice h6;have S6:=Aside0.mk h6;have L6:=Aside0.mk (LR.out.trans (hbase LR.out.size hb6));have BR6:=Aside0.mk (blk_below BR.out hb6);obtain ⟨qR0,qR1,qR2,qR3,qR4,fR0,fR1,fR2,fR3,fR4⟩:=zq5 BR6.out;clear h6 hb6))
      refine bodyPost_ret (results_ctt rfl _ _ R 25 #[.int .i64 0,.string (⟨#[]⟩:ByteArray),.int .i64 0,.slice none 0 0,.slice none 0 0] (0,0) _ rfl (blk5 BR6.out _ _ _ _ _) hu rfl zb9) rfl ?_
      exact resp_none (put5 L6.out (Nat.le_of_eq ER.out.symm) _ _ _ _ _)
  · rw [if_neg b0] at h'
    have d0:((ss.length:Int) == 0)=false:=beq_eq_false_iff_ne.2 b0
    have d1:(ss.length == 0)=false:=beq_eq_false_iff_ne.2 zb25
    clear b0
    by_cases b1:0 < (ss.length:Int)
    · rw [if_pos b1] at h'
      have NE:=Aside0.mk b1
      have e0:(0 < ss.length)=True:=eq_true zb25
      have e00:((0:Int) < (ss.length:Int))=True:=eq_true b1
      clear b1
      obtain ⟨⟨q1,q2,q3,q4,q5,q6⟩,hq,h⟩:=Option.bind_eq_some_iff.1 h'
      clear h'
      try simp only at h
      have HQ:=Aside0.mk hq
      clear hq
      cases q6
      · rw [if_neg zb27] at h
        simp only [Option.some.injEq,Prod.mk.injEq] at h
        obtain ⟨rfl,rfl,rfl,rfl,rfl,rfl,e7⟩:=h
        subst e7
        go_enter Tryz.func31,Tryz.ntmps31
        go_wp2_with (first
          | ((with_reducible refine gate_dst (N:=6) rfl ?_);refine box_event ?hg (N:=6) ?hd (cs:=#[.int .i64 0,.string (⟨#[]⟩:ByteArray),.int .i64 0,.slice none 0 0,.slice none 0 0]) (t:=25) ?hr ?_;(case hd=>rfl);(case hg=>rfl);(case hr=>first|(go_simp;done)|(go_simp;rfl));intro R hR w5 hBR hb5;have BR:=Aside0.mk hBR;have LR:=Aside0.mk hb5;have ER:=Aside0.mk hR;clear hBR hb5 hR)
          | (go_at_call 67;refine (tollbarref08_Lines.calls k A0 c0 l0 _ _ _ w5 (Kd.C_below HC.out LR.out) HCC.out HL.out).mono ?_;rintro E w6 ⟨v6,rfl,h6,hb6⟩;obtain ⟨As,cs,rfl⟩:=Kd.R_slice h6;have S6:=Aside0.mk h6;have L6:=Aside0.mk (LR.out.trans (hbase LR.out.size hb6));have BR6:=Aside0.mk (blk_below BR.out hb6);obtain ⟨qR0,qR1,qR2,qR3,qR4,fR0,fR1,fR2,fR3,fR4⟩:=zq5 BR6.out;obtain ⟨ad,ea,hx⟩:=Kd.at_string (Kd.R_reads' S6.out).2.2 0 zb25 NE.out;cases ea;rw [show ((0:Int)).toNat=0 from rfl] at hx;rw [Addr.add_zero'] at hx;clear h6 hb6)
          | (go_at_call 68;refine (tollbarref05_Status.calls k _ q1 q2 q3 q4 q5 _ w6 HQ.out).mono ?_;rintro E w7 ⟨v3,v4,rfl,h3,h4,hb7⟩;obtain ⟨A3,c3,rfl⟩:=Kd.R_slice h3;obtain ⟨A4,c4,rfl⟩:=Kd.R_slice h4;have S7:=Aside0.mk (Kd.R_alloc (Kd.R_below S6.out hb7) (.cells #[.int .i64 q1,.string q2,.int .i64 q3,.slice A3 q4.length c3,.slice A4 q5.length c4] 25 (0,0)));have SB7:=Aside0.mk (Kd.R_alloc (Kd.R_mono (Kd.R_bound h4) (fun q hq=>(⟨Nat.ne_of_lt hq.2.2.1,fun e=>by have z1:=hq.2.1;have z2:=blk_lt BR6.out;omega⟩:q ≠ w7.heap.size∧q ≠ R))) (.cells #[.int .i64 q1,.string q2,.int .i64 q3,.slice A3 q4.length c3,.slice A4 q5.length c4] 25 (0,0)));have L7:=Aside0.mk (below_alloc (L6.out.trans (hbase L6.out.size hb7)) (.cells #[.int .i64 q1,.string q2,.int .i64 q3,.slice A3 q4.length c3,.slice A4 q5.length c4] 25 (0,0)));have LX:=Aside0.mk (L6.out.trans (hbase L6.out.size hb7)).size;have BR7:=Aside0.mk (blk_alloc (blk_below BR6.out hb7) (.cells #[.int .i64 q1,.string q2,.int .i64 q3,.slice A3 q4.length c3,.slice A4 q5.length c4] 25 (0,0)));have RX:=Aside0.mk (Nat.ne_of_lt (blk_lt (blk_below BR6.out hb7)));have BX7:=Aside0.mk (blk_new w7 (.cells #[.int .i64 q1,.string q2,.int .i64 q3,.slice A3 q4.length c3,.slice A4 q5.length c4] 25 (0,0)));obtain ⟨qR0,qR1,qR2,qR3,qR4,fR0,fR1,fR2,fR3,fR4⟩:=zq5 (w:=(w7.alloc (.cells #[.int .i64 q1,.string q2,.int .i64 q3,.slice A3 q4.length c3,.slice A4 q5.length c4] 25 (0,0)))) (g:=R) (x0:=.int .i64 0) (x1:=.string (⟨#[]⟩:ByteArray)) (x2:=.int .i64 0) (x3:=.slice none 0 0) (x4:=.slice none 0 0) BR7.out;clear h3 h4 hb7))
        refine bodyPost_ret (results_ctt rfl _ _ R 25 #[.int .i64 0,.string (⟨#[]⟩:ByteArray),.int .i64 0,.slice none 0 0,.slice none 0 0] (0,0) _ rfl (blk5 BR7.out _ _ _ _ _) hu rfl zb9) rfl ?_
        exact resp_none (put5 L7.out (Nat.le_of_eq ER.out.symm) _ _ _ _ _)
      · rw [if_pos rfl] at h
        obtain ⟨ds,hds⟩ : ∃ ds,ds=ss.drop (1:Int).toNat:=⟨_,rfl⟩
        obtain ⟨⟨g1,g2⟩,hg,h'⟩:=Option.bind_eq_some_iff.1 h
        clear h
        try simp only at h'
        have HG:=Aside0.mk (show tollbarref08_fields.f k ds=some (g1,g2) by rw [hds];exact hg)
        have HDS:=Aside0.mk hds
        clear hg hds
        obtain ⟨i0,hi0,_,hsz,_⟩:=info_parts info9
        have HI:=Aside0.mk (And.intro hi0 hsz)
        have e1:(1 ≤ (ss.length:Int))=True:=eq_true zb92
        have e2:(1 ≤ ss.length)=True:=eq_true zb92
        clear hi0 hsz
        by_cases b3:g2=0
        · rw [if_pos b3] at h'
          subst b3
          by_cases b4:n0=0
          · rw [if_pos b4] at h'
            have h:=h'
            clear h'
            simp only [Option.some.injEq,Prod.mk.injEq] at h
            obtain ⟨rfl,rfl,rfl,rfl,rfl,rfl,e7⟩:=h
            subst b4
            by_cases bc:cd=0
            · subst bc
              cases a2 <;> subst e7
              all_goals
               go_enter Tryz.func31,Tryz.ntmps31
               go_wp2_with (first
                 | ((with_reducible refine gate_dst (N:=6) rfl ?_);refine box_event ?hg (N:=6) ?hd (cs:=#[.int .i64 0,.string (⟨#[]⟩:ByteArray),.int .i64 0,.slice none 0 0,.slice none 0 0]) (t:=25) ?hr ?_;(case hd=>rfl);(case hg=>rfl);(case hr=>first|(go_simp;done)|(go_simp;rfl));intro R hR w5 hBR hb5;have BR:=Aside0.mk hBR;have LR:=Aside0.mk hb5;have ER:=Aside0.mk hR;clear hBR hb5 hR)
                 | (go_at_call 67;refine (tollbarref08_Lines.calls k A0 c0 l0 _ _ _ w5 (Kd.C_below HC.out LR.out) HCC.out HL.out).mono ?_;rintro E w6 ⟨v6,rfl,h6,hb6⟩;obtain ⟨As,cs,rfl⟩:=Kd.R_slice h6;have S6:=Aside0.mk h6;have L6:=Aside0.mk (LR.out.trans (hbase LR.out.size hb6));have BR6:=Aside0.mk (blk_below BR.out hb6);obtain ⟨qR0,qR1,qR2,qR3,qR4,fR0,fR1,fR2,fR3,fR4⟩:=zq5 BR6.out;obtain ⟨ad,ea,hx⟩:=Kd.at_string (Kd.R_reads' S6.out).2.2 0 zb25 NE.out;cases ea;rw [show ((0:Int)).toNat=0 from rfl] at hx;rw [Addr.add_zero'] at hx;obtain ⟨A1,hsl,hrd,hcc⟩:=print_drop_of (P:=Tryz.prog) Value.string ByteArray.empty 44 9 .i64 Tryz.underlying44 HI.out.1 HI.out.2 (some ad) cs ss 1 zb25 zb92 (Kd.R_reads' S6.out).2.1;rw [← HDS.out] at hsl hrd hcc;have HRD:=Aside0.mk hrd;have HDC:=Aside0.mk hcc;clear hrd hcc;clear h6 hb6)
                 | (go_at_call 68;refine (tollbarref05_Status.calls k _ q1 q2 q3 q4 q5 _ w6 HQ.out).mono ?_;rintro E w7 ⟨v3,v4,rfl,h3,h4,hb7⟩;obtain ⟨A3,c3,rfl⟩:=Kd.R_slice h3;obtain ⟨A4,c4,rfl⟩:=Kd.R_slice h4;have S7:=Aside0.mk (Kd.R_alloc (Kd.R_below S6.out hb7) (.cells #[.int .i64 q1,.string q2,.int .i64 q3,.slice A3 q4.length c3,.slice A4 q5.length c4] 25 (0,0)));have SB7:=Aside0.mk (Kd.R_alloc (Kd.R_mono (Kd.R_bound h4) (fun q hq=>(⟨Nat.ne_of_lt hq.2.2.1,fun e=>by have z1:=hq.2.1;have z2:=blk_lt BR6.out;omega⟩:q ≠ w7.heap.size∧q ≠ R))) (.cells #[.int .i64 q1,.string q2,.int .i64 q3,.slice A3 q4.length c3,.slice A4 q5.length c4] 25 (0,0)));have L7:=Aside0.mk (below_alloc (L6.out.trans (hbase L6.out.size hb7)) (.cells #[.int .i64 q1,.string q2,.int .i64 q3,.slice A3 q4.length c3,.slice A4 q5.length c4] 25 (0,0)));have LX:=Aside0.mk (L6.out.trans (hbase L6.out.size hb7)).size;have BR7:=Aside0.mk (blk_alloc (blk_below BR6.out hb7) (.cells #[.int .i64 q1,.string q2,.int .i64 q3,.slice A3 q4.length c3,.slice A4 q5.length c4] 25 (0,0)));have RX:=Aside0.mk (Nat.ne_of_lt (blk_lt (blk_below BR6.out hb7)));have BX7:=Aside0.mk (blk_new w7 (.cells #[.int .i64 q1,.string q2,.int .i64 q3,.slice A3 q4.length c3,.slice A4 q5.length c4] 25 (0,0)));obtain ⟨qR0,qR1,qR2,qR3,qR4,fR0,fR1,fR2,fR3,fR4⟩:=zq5 (w:=(w7.alloc (.cells #[.int .i64 q1,.string q2,.int .i64 q3,.slice A3 q4.length c3,.slice A4 q5.length c4] 25 (0,0)))) (g:=R) (x0:=.int .i64 0) (x1:=.string (⟨#[]⟩:ByteArray)) (x2:=.int .i64 0) (x3:=.slice none 0 0) (x4:=.slice none 0 0) BR7.out;clear h3 h4 hb7)
                 | (go_at_call 69;refine (tollbarref08_fields.calls k A1 _ ds g1 _ _ (Kd.C_of_reads (h1:=fun _=>rfl) (HRD.out _ (Kd.reads_of_C (d:=ByteArray.empty) (Kd.R_reads' S7.out).2.2))) HDC.out HG.out).mono ?_;rintro E w8 ⟨v8,rfl,h8,hb8⟩;obtain ⟨Af,cf,rfl⟩:=Kd.R_slice h8;have S8:=Aside0.mk (Kd.R_mono (Kd.R_bound h8) (fun q hq=>(⟨fun e=>by have z1:=hq.2.1;have z2:=blk_lt BX7.out;omega,fun e=>by have z1:=hq.2.1;have z2:=blk_lt BR7.out;omega⟩:q ≠ w7.heap.size∧q ≠ R)));have SB8:=Aside0.mk (Kd.R_below SB7.out hb8);have BX8:=Aside0.mk (blk_below BX7.out hb8);have BR8:=Aside0.mk (blk_below BR7.out hb8);have L8:=Aside0.mk (L7.out.trans (hbase L7.out.size hb8));obtain ⟨qR0,qR1,qR2,qR3,qR4,fR0,fR1,fR2,fR3,fR4⟩:=zq5 BR8.out;obtain ⟨qX0,qX1,qX2,qX3,qX4,fX0,fX1,fX2,fX3,fX4⟩:=zq5 (w:=w8) (g:=w7.heap.size) (x0:=.int .i64 q1) (x1:=.string q2) (x2:=.int .i64 q3) (x3:=.slice A3 q4.length c3) (x4:=.slice A4 q5.length c4) BX8.out;clear h8 hb8))
               refine bodyPost_ret (results_ctt rfl _ _ R 25 #[.int .i64 0,.string (⟨#[]⟩:ByteArray),.int .i64 0,.slice none 0 0,.slice none 0 0] (0,0) _ rfl (blk5 BR8.out _ _ _ _ _) hu rfl zb9) rfl ?_
               exact resp_none (put5 L8.out (Nat.le_of_eq ER.out.symm) _ _ _ _ _)
            · have dz:(cd == 0)=false:=beq_eq_false_iff_ne.2 bc
              clear bc
              rw [dz,Bool.false_and] at e7
              subst e7
              go_enter Tryz.func31,Tryz.ntmps31
              go_wp2_with (first
                | ((with_reducible refine gate_dst (N:=6) rfl ?_);refine box_event ?hg (N:=6) ?hd (cs:=#[.int .i64 0,.string (⟨#[]⟩:ByteArray),.int .i64 0,.slice none 0 0,.slice none 0 0]) (t:=25) ?hr ?_;(case hd=>rfl);(case hg=>rfl);(case hr=>first|(go_simp;done)|(go_simp;rfl));intro R hR w5 hBR hb5;have BR:=Aside0.mk hBR;have LR:=Aside0.mk hb5;have ER:=Aside0.mk hR;clear hBR hb5 hR)
                | (go_at_call 67;refine (tollbarref08_Lines.calls k A0 c0 l0 _ _ _ w5 (Kd.C_below HC.out LR.out) HCC.out HL.out).mono ?_;rintro E w6 ⟨v6,rfl,h6,hb6⟩;obtain ⟨As,cs,rfl⟩:=Kd.R_slice h6;have S6:=Aside0.mk h6;have L6:=Aside0.mk (LR.out.trans (hbase LR.out.size hb6));have BR6:=Aside0.mk (blk_below BR.out hb6);obtain ⟨qR0,qR1,qR2,qR3,qR4,fR0,fR1,fR2,fR3,fR4⟩:=zq5 BR6.out;obtain ⟨ad,ea,hx⟩:=Kd.at_string (Kd.R_reads' S6.out).2.2 0 zb25 NE.out;cases ea;rw [show ((0:Int)).toNat=0 from rfl] at hx;rw [Addr.add_zero'] at hx;obtain ⟨A1,hsl,hrd,hcc⟩:=print_drop_of (P:=Tryz.prog) Value.string ByteArray.empty 44 9 .i64 Tryz.underlying44 HI.out.1 HI.out.2 (some ad) cs ss 1 zb25 zb92 (Kd.R_reads' S6.out).2.1;rw [← HDS.out] at hsl hrd hcc;have HRD:=Aside0.mk hrd;have HDC:=Aside0.mk hcc;clear hrd hcc;clear h6 hb6)
                | (go_at_call 68;refine (tollbarref05_Status.calls k _ q1 q2 q3 q4 q5 _ w6 HQ.out).mono ?_;rintro E w7 ⟨v3,v4,rfl,h3,h4,hb7⟩;obtain ⟨A3,c3,rfl⟩:=Kd.R_slice h3;obtain ⟨A4,c4,rfl⟩:=Kd.R_slice h4;have S7:=Aside0.mk (Kd.R_alloc (Kd.R_below S6.out hb7) (.cells #[.int .i64 q1,.string q2,.int .i64 q3,.slice A3 q4.length c3,.slice A4 q5.length c4] 25 (0,0)));have SB7:=Aside0.mk (Kd.R_alloc (Kd.R_mono (Kd.R_bound h4) (fun q hq=>(⟨Nat.ne_of_lt hq.2.2.1,fun e=>by have z1:=hq.2.1;have z2:=blk_lt BR6.out;omega⟩:q ≠ w7.heap.size∧q ≠ R))) (.cells #[.int .i64 q1,.string q2,.int .i64 q3,.slice A3 q4.length c3,.slice A4 q5.length c4] 25 (0,0)));have L7:=Aside0.mk (below_alloc (L6.out.trans (hbase L6.out.size hb7)) (.cells #[.int .i64 q1,.string q2,.int .i64 q3,.slice A3 q4.length c3,.slice A4 q5.length c4] 25 (0,0)));have LX:=Aside0.mk (L6.out.trans (hbase L6.out.size hb7)).size;have BR7:=Aside0.mk (blk_alloc (blk_below BR6.out hb7) (.cells #[.int .i64 q1,.string q2,.int .i64 q3,.slice A3 q4.length c3,.slice A4 q5.length c4] 25 (0,0)));have RX:=Aside0.mk (Nat.ne_of_lt (blk_lt (blk_below BR6.out hb7)));have BX7:=Aside0.mk (blk_new w7 (.cells #[.int .i64 q1,.string q2,.int .i64 q3,.slice A3 q4.length c3,.slice A4 q5.length c4] 25 (0,0)));obtain ⟨qR0,qR1,qR2,qR3,qR4,fR0,fR1,fR2,fR3,fR4⟩:=zq5 (w:=(w7.alloc (.cells #[.int .i64 q1,.string q2,.int .i64 q3,.slice A3 q4.length c3,.slice A4 q5.length c4] 25 (0,0)))) (g:=R) (x0:=.int .i64 0) (x1:=.string (⟨#[]⟩:ByteArray)) (x2:=.int .i64 0) (x3:=.slice none 0 0) (x4:=.slice none 0 0) BR7.out;clear h3 h4 hb7)
                | (go_at_call 69;refine (tollbarref08_fields.calls k A1 _ ds g1 _ _ (Kd.C_of_reads (h1:=fun _=>rfl) (HRD.out _ (Kd.reads_of_C (d:=ByteArray.empty) (Kd.R_reads' S7.out).2.2))) HDC.out HG.out).mono ?_;rintro E w8 ⟨v8,rfl,h8,hb8⟩;obtain ⟨Af,cf,rfl⟩:=Kd.R_slice h8;have S8:=Aside0.mk (Kd.R_mono (Kd.R_bound h8) (fun q hq=>(⟨fun e=>by have z1:=hq.2.1;have z2:=blk_lt BX7.out;omega,fun e=>by have z1:=hq.2.1;have z2:=blk_lt BR7.out;omega⟩:q ≠ w7.heap.size∧q ≠ R)));have SB8:=Aside0.mk (Kd.R_below SB7.out hb8);have BX8:=Aside0.mk (blk_below BX7.out hb8);have BR8:=Aside0.mk (blk_below BR7.out hb8);have L8:=Aside0.mk (L7.out.trans (hbase L7.out.size hb8));obtain ⟨qR0,qR1,qR2,qR3,qR4,fR0,fR1,fR2,fR3,fR4⟩:=zq5 BR8.out;obtain ⟨qX0,qX1,qX2,qX3,qX4,fX0,fX1,fX2,fX3,fX4⟩:=zq5 (w:=w8) (g:=w7.heap.size) (x0:=.int .i64 q1) (x1:=.string q2) (x2:=.int .i64 q3) (x3:=.slice A3 q4.length c3) (x4:=.slice A4 q5.length c4) BX8.out;clear h8 hb8))
              refine bodyPost_ret (results_ctt rfl _ _ R 25 #[.int .i64 0,.string (⟨#[]⟩:ByteArray),.int .i64 0,.slice none 0 0,.slice none 0 0] (0,0) _ rfl (blk5 BR8.out _ _ _ _ _) hu rfl zb9) rfl ?_
              exact resp_none (put5 L8.out (Nat.le_of_eq ER.out.symm) _ _ _ _ _)
          · rw [if_neg b4] at h'
            have d4:(n0 == 0)=false:=beq_eq_false_iff_ne.2 b4
            clear b4
            obtain ⟨⟨y1,y2,y3⟩,hy,h⟩:=Option.bind_eq_some_iff.1 h'
            clear h'
            try simp only at h
            have HY:=Aside0.mk hy
            clear hy
            cases y3
            · rw [if_neg zb27] at h
              simp only [Option.some.injEq,Prod.mk.injEq] at h
              obtain ⟨rfl,rfl,rfl,rfl,rfl,rfl,e7⟩:=h
              subst e7
              go_enter Tryz.func31,Tryz.ntmps31
              go_wp2_with (first
                | ((with_reducible refine gate_dst (N:=6) rfl ?_);refine box_event ?hg (N:=6) ?hd (cs:=#[.int .i64 0,.string (⟨#[]⟩:ByteArray),.int .i64 0,.slice none 0 0,.slice none 0 0]) (t:=25) ?hr ?_;(case hd=>rfl);(case hg=>rfl);(case hr=>first|(go_simp;done)|(go_simp;rfl));intro R hR w5 hBR hb5;have BR:=Aside0.mk hBR;have LR:=Aside0.mk hb5;have ER:=Aside0.mk hR;clear hBR hb5 hR)
                | (go_at_call 67;refine (tollbarref08_Lines.calls k A0 c0 l0 _ _ _ w5 (Kd.C_below HC.out LR.out) HCC.out HL.out).mono ?_;rintro E w6 ⟨v6,rfl,h6,hb6⟩;obtain ⟨As,cs,rfl⟩:=Kd.R_slice h6;have S6:=Aside0.mk h6;have L6:=Aside0.mk (LR.out.trans (hbase LR.out.size hb6));have BR6:=Aside0.mk (blk_below BR.out hb6);obtain ⟨qR0,qR1,qR2,qR3,qR4,fR0,fR1,fR2,fR3,fR4⟩:=zq5 BR6.out;obtain ⟨ad,ea,hx⟩:=Kd.at_string (Kd.R_reads' S6.out).2.2 0 zb25 NE.out;cases ea;rw [show ((0:Int)).toNat=0 from rfl] at hx;rw [Addr.add_zero'] at hx;obtain ⟨A1,hsl,hrd,hcc⟩:=print_drop_of (P:=Tryz.prog) Value.string ByteArray.empty 44 9 .i64 Tryz.underlying44 HI.out.1 HI.out.2 (some ad) cs ss 1 zb25 zb92 (Kd.R_reads' S6.out).2.1;rw [← HDS.out] at hsl hrd hcc;have HRD:=Aside0.mk hrd;have HDC:=Aside0.mk hcc;clear hrd hcc;clear h6 hb6)
                | (go_at_call 68;refine (tollbarref05_Status.calls k _ q1 q2 q3 q4 q5 _ w6 HQ.out).mono ?_;rintro E w7 ⟨v3,v4,rfl,h3,h4,hb7⟩;obtain ⟨A3,c3,rfl⟩:=Kd.R_slice h3;obtain ⟨A4,c4,rfl⟩:=Kd.R_slice h4;have S7:=Aside0.mk (Kd.R_alloc (Kd.R_below S6.out hb7) (.cells #[.int .i64 q1,.string q2,.int .i64 q3,.slice A3 q4.length c3,.slice A4 q5.length c4] 25 (0,0)));have SB7:=Aside0.mk (Kd.R_alloc (Kd.R_mono (Kd.R_bound h4) (fun q hq=>(⟨Nat.ne_of_lt hq.2.2.1,fun e=>by have z1:=hq.2.1;have z2:=blk_lt BR6.out;omega⟩:q ≠ w7.heap.size∧q ≠ R))) (.cells #[.int .i64 q1,.string q2,.int .i64 q3,.slice A3 q4.length c3,.slice A4 q5.length c4] 25 (0,0)));have L7:=Aside0.mk (below_alloc (L6.out.trans (hbase L6.out.size hb7)) (.cells #[.int .i64 q1,.string q2,.int .i64 q3,.slice A3 q4.length c3,.slice A4 q5.length c4] 25 (0,0)));have LX:=Aside0.mk (L6.out.trans (hbase L6.out.size hb7)).size;have BR7:=Aside0.mk (blk_alloc (blk_below BR6.out hb7) (.cells #[.int .i64 q1,.string q2,.int .i64 q3,.slice A3 q4.length c3,.slice A4 q5.length c4] 25 (0,0)));have RX:=Aside0.mk (Nat.ne_of_lt (blk_lt (blk_below BR6.out hb7)));have BX7:=Aside0.mk (blk_new w7 (.cells #[.int .i64 q1,.string q2,.int .i64 q3,.slice A3 q4.length c3,.slice A4 q5.length c4] 25 (0,0)));obtain ⟨qR0,qR1,qR2,qR3,qR4,fR0,fR1,fR2,fR3,fR4⟩:=zq5 (w:=(w7.alloc (.cells #[.int .i64 q1,.string q2,.int .i64 q3,.slice A3 q4.length c3,.slice A4 q5.length c4] 25 (0,0)))) (g:=R) (x0:=.int .i64 0) (x1:=.string (⟨#[]⟩:ByteArray)) (x2:=.int .i64 0) (x3:=.slice none 0 0) (x4:=.slice none 0 0) BR7.out;clear h3 h4 hb7)
                | (go_at_call 69;refine (tollbarref08_fields.calls k A1 _ ds g1 _ _ (Kd.C_of_reads (h1:=fun _=>rfl) (HRD.out _ (Kd.reads_of_C (d:=ByteArray.empty) (Kd.R_reads' S7.out).2.2))) HDC.out HG.out).mono ?_;rintro E w8 ⟨v8,rfl,h8,hb8⟩;obtain ⟨Af,cf,rfl⟩:=Kd.R_slice h8;have S8:=Aside0.mk (Kd.R_mono (Kd.R_bound h8) (fun q hq=>(⟨fun e=>by have z1:=hq.2.1;have z2:=blk_lt BX7.out;omega,fun e=>by have z1:=hq.2.1;have z2:=blk_lt BR7.out;omega⟩:q ≠ w7.heap.size∧q ≠ R)));have SB8:=Aside0.mk (Kd.R_below SB7.out hb8);have BX8:=Aside0.mk (blk_below BX7.out hb8);have BR8:=Aside0.mk (blk_below BR7.out hb8);have L8:=Aside0.mk (L7.out.trans (hbase L7.out.size hb8));obtain ⟨qR0,qR1,qR2,qR3,qR4,fR0,fR1,fR2,fR3,fR4⟩:=zq5 BR8.out;obtain ⟨qX0,qX1,qX2,qX3,qX4,fX0,fX1,fX2,fX3,fX4⟩:=zq5 (w:=w8) (g:=w7.heap.size) (x0:=.int .i64 q1) (x1:=.string q2) (x2:=.int .i64 q3) (x3:=.slice A3 q4.length c3) (x4:=.slice A4 q5.length c4) BX8.out;clear h8 hb8)
                | (go_at_call 49;refine (tollbarref07_Response.calls k a1 q1 q2 q3 Af cf g1 A4 c4 q5 y1 y2 _ _ (Kd.R_reads' (Kd.R_far (p:=⟨w7.heap.size,3,none⟩) S8.out (fun q hq=>hq.1) (.slice Af g1.length cf))).2.2 (Kd.R_reads' S8.out).2.1 (Kd.R_reads' (Kd.R_far (p:=⟨w7.heap.size,3,none⟩) SB8.out (fun q hq=>hq.1) (.slice Af g1.length cf))).2.2 (Kd.R_reads' SB8.out).2.1 HY.out).mono ?_;rintro E w9 ⟨rfl,hb9⟩;have S9:=Aside0.mk (Kd.R_below (Kd.R_far (p:=⟨w7.heap.size,3,none⟩) S8.out (fun q hq=>hq.1) (.slice Af g1.length cf)) hb9);have BX9:=Aside0.mk (blk_below (blk_put BX8.out 3 (.slice Af g1.length cf) rfl) hb9);have BR9:=Aside0.mk (blk_below ((Below.heap_setCell w8 ⟨w7.heap.size,3,none⟩ (.slice Af g1.length cf) R RX.out).trans BR8.out) hb9);have L9:=Aside0.mk ((L8.out.setCell (p:=⟨w7.heap.size,3,none⟩) LX.out (.slice Af g1.length cf)).trans (hbase zb89 hb9));obtain ⟨qR0,qR1,qR2,qR3,qR4,fR0,fR1,fR2,fR3,fR4⟩:=zq5 BR9.out;obtain ⟨qX0,qX1,qX2,qX3,qX4,fX0,fX1,fX2,fX3,fX4⟩:=zq5 (w:=w9) (g:=w7.heap.size) (x0:=.int .i64 q1) (x1:=.string q2) (x2:=.int .i64 q3) (x3:=.slice Af g1.length cf) (x4:=.slice A4 q5.length c4) BX9.out;clear hb9))
              refine bodyPost_ret (results_ctt rfl _ _ R 25 #[.int .i64 0,.string (⟨#[]⟩:ByteArray),.int .i64 0,.slice none 0 0,.slice none 0 0] (0,0) _ rfl (blk5 BR9.out _ _ _ _ _) hu rfl zb9) rfl ?_
              exact resp_none (put5 L9.out (Nat.le_of_eq ER.out.symm) _ _ _ _ _)
            · rw [if_pos rfl] at h
              by_cases b6:0 ≤ n0
              · rw [if_pos b6] at h
                by_cases b7:n0 ≤ (l0.length:Int)
                · rw [if_pos b7] at h
                  by_cases b8:y1=3
                  · rw [if_pos b8] at h
                    have d8:(y1 == 3)=true:=beq_iff_eq.2 b8
                    clear b8
                    by_cases b9:wrap64 ((l0.length:Int) - n0) > 4096
                    · rw [if_pos b9] at h
                      simp only [Option.some.injEq,Prod.mk.injEq] at h
                      obtain ⟨rfl,rfl,rfl,rfl,rfl,rfl,e7⟩:=h
                      subst e7
                      have d9:decide (4096 < wrap64 ((l0.length:Int) - n0))=true:=decide_eq_true b9
                      replace b9:=eq_true b9
                      go_enter Tryz.func31,Tryz.ntmps31
                      go_wp2_with (first
                        | ((with_reducible refine gate_dst (N:=6) rfl ?_);refine box_event ?hg (N:=6) ?hd (cs:=#[.int .i64 0,.string (⟨#[]⟩:ByteArray),.int .i64 0,.slice none 0 0,.slice none 0 0]) (t:=25) ?hr ?_;(case hd=>rfl);(case hg=>rfl);(case hr=>first|(go_simp;done)|(go_simp;rfl));intro R hR w5 hBR hb5;have BR:=Aside0.mk hBR;have LR:=Aside0.mk hb5;have ER:=Aside0.mk hR;clear hBR hb5 hR)
                        | (go_at_call 67;refine (tollbarref08_Lines.calls k A0 c0 l0 _ _ _ w5 (Kd.C_below HC.out LR.out) HCC.out HL.out).mono ?_;rintro E w6 ⟨v6,rfl,h6,hb6⟩;obtain ⟨As,cs,rfl⟩:=Kd.R_slice h6;have S6:=Aside0.mk h6;have L6:=Aside0.mk (LR.out.trans (hbase LR.out.size hb6));have BR6:=Aside0.mk (blk_below BR.out hb6);obtain ⟨qR0,qR1,qR2,qR3,qR4,fR0,fR1,fR2,fR3,fR4⟩:=zq5 BR6.out;obtain ⟨ad,ea,hx⟩:=Kd.at_string (Kd.R_reads' S6.out).2.2 0 zb25 NE.out;cases ea;rw [show ((0:Int)).toNat=0 from rfl] at hx;rw [Addr.add_zero'] at hx;obtain ⟨A1,hsl,hrd,hcc⟩:=print_drop_of (P:=Tryz.prog) Value.string ByteArray.empty 44 9 .i64 Tryz.underlying44 HI.out.1 HI.out.2 (some ad) cs ss 1 zb25 zb92 (Kd.R_reads' S6.out).2.1;rw [← HDS.out] at hsl hrd hcc;have HRD:=Aside0.mk hrd;have HDC:=Aside0.mk hcc;clear hrd hcc;clear h6 hb6)
                        | (go_at_call 68;refine (tollbarref05_Status.calls k _ q1 q2 q3 q4 q5 _ w6 HQ.out).mono ?_;rintro E w7 ⟨v3,v4,rfl,h3,h4,hb7⟩;obtain ⟨A3,c3,rfl⟩:=Kd.R_slice h3;obtain ⟨A4,c4,rfl⟩:=Kd.R_slice h4;have S7:=Aside0.mk (Kd.R_alloc (Kd.R_below S6.out hb7) (.cells #[.int .i64 q1,.string q2,.int .i64 q3,.slice A3 q4.length c3,.slice A4 q5.length c4] 25 (0,0)));have SB7:=Aside0.mk (Kd.R_alloc (Kd.R_mono (Kd.R_bound h4) (fun q hq=>(⟨Nat.ne_of_lt hq.2.2.1,fun e=>by have z1:=hq.2.1;have z2:=blk_lt BR6.out;omega⟩:q ≠ w7.heap.size∧q ≠ R))) (.cells #[.int .i64 q1,.string q2,.int .i64 q3,.slice A3 q4.length c3,.slice A4 q5.length c4] 25 (0,0)));have L7:=Aside0.mk (below_alloc (L6.out.trans (hbase L6.out.size hb7)) (.cells #[.int .i64 q1,.string q2,.int .i64 q3,.slice A3 q4.length c3,.slice A4 q5.length c4] 25 (0,0)));have LX:=Aside0.mk (L6.out.trans (hbase L6.out.size hb7)).size;have BR7:=Aside0.mk (blk_alloc (blk_below BR6.out hb7) (.cells #[.int .i64 q1,.string q2,.int .i64 q3,.slice A3 q4.length c3,.slice A4 q5.length c4] 25 (0,0)));have RX:=Aside0.mk (Nat.ne_of_lt (blk_lt (blk_below BR6.out hb7)));have BX7:=Aside0.mk (blk_new w7 (.cells #[.int .i64 q1,.string q2,.int .i64 q3,.slice A3 q4.length c3,.slice A4 q5.length c4] 25 (0,0)));obtain ⟨qR0,qR1,qR2,qR3,qR4,fR0,fR1,fR2,fR3,fR4⟩:=zq5 (w:=(w7.alloc (.cells #[.int .i64 q1,.string q2,.int .i64 q3,.slice A3 q4.length c3,.slice A4 q5.length c4] 25 (0,0)))) (g:=R) (x0:=.int .i64 0) (x1:=.string (⟨#[]⟩:ByteArray)) (x2:=.int .i64 0) (x3:=.slice none 0 0) (x4:=.slice none 0 0) BR7.out;clear h3 h4 hb7)
                        | (go_at_call 69;refine (tollbarref08_fields.calls k A1 _ ds g1 _ _ (Kd.C_of_reads (h1:=fun _=>rfl) (HRD.out _ (Kd.reads_of_C (d:=ByteArray.empty) (Kd.R_reads' S7.out).2.2))) HDC.out HG.out).mono ?_;rintro E w8 ⟨v8,rfl,h8,hb8⟩;obtain ⟨Af,cf,rfl⟩:=Kd.R_slice h8;have S8:=Aside0.mk (Kd.R_mono (Kd.R_bound h8) (fun q hq=>(⟨fun e=>by have z1:=hq.2.1;have z2:=blk_lt BX7.out;omega,fun e=>by have z1:=hq.2.1;have z2:=blk_lt BR7.out;omega⟩:q ≠ w7.heap.size∧q ≠ R)));have SB8:=Aside0.mk (Kd.R_below SB7.out hb8);have BX8:=Aside0.mk (blk_below BX7.out hb8);have BR8:=Aside0.mk (blk_below BR7.out hb8);have L8:=Aside0.mk (L7.out.trans (hbase L7.out.size hb8));obtain ⟨qR0,qR1,qR2,qR3,qR4,fR0,fR1,fR2,fR3,fR4⟩:=zq5 BR8.out;obtain ⟨qX0,qX1,qX2,qX3,qX4,fX0,fX1,fX2,fX3,fX4⟩:=zq5 (w:=w8) (g:=w7.heap.size) (x0:=.int .i64 q1) (x1:=.string q2) (x2:=.int .i64 q3) (x3:=.slice A3 q4.length c3) (x4:=.slice A4 q5.length c4) BX8.out;clear h8 hb8)
                        | (go_at_call 49;refine (tollbarref07_Response.calls k a1 q1 q2 q3 Af cf g1 A4 c4 q5 y1 y2 _ _ (Kd.R_reads' (Kd.R_far (p:=⟨w7.heap.size,3,none⟩) S8.out (fun q hq=>hq.1) (.slice Af g1.length cf))).2.2 (Kd.R_reads' S8.out).2.1 (Kd.R_reads' (Kd.R_far (p:=⟨w7.heap.size,3,none⟩) SB8.out (fun q hq=>hq.1) (.slice Af g1.length cf))).2.2 (Kd.R_reads' SB8.out).2.1 HY.out).mono ?_;rintro E w9 ⟨rfl,hb9⟩;have S9:=Aside0.mk (Kd.R_below (Kd.R_far (p:=⟨w7.heap.size,3,none⟩) S8.out (fun q hq=>hq.1) (.slice Af g1.length cf)) hb9);have BX9:=Aside0.mk (blk_below (blk_put BX8.out 3 (.slice Af g1.length cf) rfl) hb9);have BR9:=Aside0.mk (blk_below ((Below.heap_setCell w8 ⟨w7.heap.size,3,none⟩ (.slice Af g1.length cf) R RX.out).trans BR8.out) hb9);have L9:=Aside0.mk ((L8.out.setCell (p:=⟨w7.heap.size,3,none⟩) LX.out (.slice Af g1.length cf)).trans (hbase zb89 hb9));obtain ⟨qR0,qR1,qR2,qR3,qR4,fR0,fR1,fR2,fR3,fR4⟩:=zq5 BR9.out;obtain ⟨qX0,qX1,qX2,qX3,qX4,fX0,fX1,fX2,fX3,fX4⟩:=zq5 (w:=w9) (g:=w7.heap.size) (x0:=.int .i64 q1) (x1:=.string q2) (x2:=.int .i64 q3) (x3:=.slice Af g1.length cf) (x4:=.slice A4 q5.length c4) BX9.out;clear hb9))
                      refine bodyPost_ret (results_ctt rfl _ _ R 25 #[.int .i64 0,.string (⟨#[]⟩:ByteArray),.int .i64 0,.slice none 0 0,.slice none 0 0] (0,0) _ rfl (blk5 BR9.out _ _ _ _ _) hu rfl zb9) rfl ?_
                      exact resp_none (put5 L9.out (Nat.le_of_eq ER.out.symm) _ _ _ _ _)
                    · rw [if_neg b9] at h
                      have d9:decide (4096 < wrap64 ((l0.length:Int) - n0))=false:=decide_eq_false b9
                      replace b9:=eq_false b9
                      cases a2
                      · rw [if_neg zb27] at h
                        simp only [Option.some.injEq,Prod.mk.injEq] at h
                        obtain ⟨rfl,rfl,rfl,rfl,rfl,rfl,e7⟩:=h
                        subst e7
                        go_enter Tryz.func31,Tryz.ntmps31
                        go_wp2_with (first
                          | ((with_reducible refine gate_dst (N:=6) rfl ?_);refine box_event ?hg (N:=6) ?hd (cs:=#[.int .i64 0,.string (⟨#[]⟩:ByteArray),.int .i64 0,.slice none 0 0,.slice none 0 0]) (t:=25) ?hr ?_;(case hd=>rfl);(case hg=>rfl);(case hr=>first|(go_simp;done)|(go_simp;rfl));intro R hR w5 hBR hb5;have BR:=Aside0.mk hBR;have LR:=Aside0.mk hb5;have ER:=Aside0.mk hR;clear hBR hb5 hR)
                          | (go_at_call 67;refine (tollbarref08_Lines.calls k A0 c0 l0 _ _ _ w5 (Kd.C_below HC.out LR.out) HCC.out HL.out).mono ?_;rintro E w6 ⟨v6,rfl,h6,hb6⟩;obtain ⟨As,cs,rfl⟩:=Kd.R_slice h6;have S6:=Aside0.mk h6;have L6:=Aside0.mk (LR.out.trans (hbase LR.out.size hb6));have BR6:=Aside0.mk (blk_below BR.out hb6);obtain ⟨qR0,qR1,qR2,qR3,qR4,fR0,fR1,fR2,fR3,fR4⟩:=zq5 BR6.out;obtain ⟨ad,ea,hx⟩:=Kd.at_string (Kd.R_reads' S6.out).2.2 0 zb25 NE.out;cases ea;rw [show ((0:Int)).toNat=0 from rfl] at hx;rw [Addr.add_zero'] at hx;obtain ⟨A1,hsl,hrd,hcc⟩:=print_drop_of (P:=Tryz.prog) Value.string ByteArray.empty 44 9 .i64 Tryz.underlying44 HI.out.1 HI.out.2 (some ad) cs ss 1 zb25 zb92 (Kd.R_reads' S6.out).2.1;rw [← HDS.out] at hsl hrd hcc;have HRD:=Aside0.mk hrd;have HDC:=Aside0.mk hcc;clear hrd hcc;clear h6 hb6)
                          | (go_at_call 68;refine (tollbarref05_Status.calls k _ q1 q2 q3 q4 q5 _ w6 HQ.out).mono ?_;rintro E w7 ⟨v3,v4,rfl,h3,h4,hb7⟩;obtain ⟨A3,c3,rfl⟩:=Kd.R_slice h3;obtain ⟨A4,c4,rfl⟩:=Kd.R_slice h4;have S7:=Aside0.mk (Kd.R_alloc (Kd.R_below S6.out hb7) (.cells #[.int .i64 q1,.string q2,.int .i64 q3,.slice A3 q4.length c3,.slice A4 q5.length c4] 25 (0,0)));have SB7:=Aside0.mk (Kd.R_alloc (Kd.R_mono (Kd.R_bound h4) (fun q hq=>(⟨Nat.ne_of_lt hq.2.2.1,fun e=>by have z1:=hq.2.1;have z2:=blk_lt BR6.out;omega⟩:q ≠ w7.heap.size∧q ≠ R))) (.cells #[.int .i64 q1,.string q2,.int .i64 q3,.slice A3 q4.length c3,.slice A4 q5.length c4] 25 (0,0)));have L7:=Aside0.mk (below_alloc (L6.out.trans (hbase L6.out.size hb7)) (.cells #[.int .i64 q1,.string q2,.int .i64 q3,.slice A3 q4.length c3,.slice A4 q5.length c4] 25 (0,0)));have LX:=Aside0.mk (L6.out.trans (hbase L6.out.size hb7)).size;have BR7:=Aside0.mk (blk_alloc (blk_below BR6.out hb7) (.cells #[.int .i64 q1,.string q2,.int .i64 q3,.slice A3 q4.length c3,.slice A4 q5.length c4] 25 (0,0)));have RX:=Aside0.mk (Nat.ne_of_lt (blk_lt (blk_below BR6.out hb7)));have BX7:=Aside0.mk (blk_new w7 (.cells #[.int .i64 q1,.string q2,.int .i64 q3,.slice A3 q4.length c3,.slice A4 q5.length c4] 25 (0,0)));obtain ⟨qR0,qR1,qR2,qR3,qR4,fR0,fR1,fR2,fR3,fR4⟩:=zq5 (w:=(w7.alloc (.cells #[.int .i64 q1,.string q2,.int .i64 q3,.slice A3 q4.length c3,.slice A4 q5.length c4] 25 (0,0)))) (g:=R) (x0:=.int .i64 0) (x1:=.string (⟨#[]⟩:ByteArray)) (x2:=.int .i64 0) (x3:=.slice none 0 0) (x4:=.slice none 0 0) BR7.out;clear h3 h4 hb7)
                          | (go_at_call 69;refine (tollbarref08_fields.calls k A1 _ ds g1 _ _ (Kd.C_of_reads (h1:=fun _=>rfl) (HRD.out _ (Kd.reads_of_C (d:=ByteArray.empty) (Kd.R_reads' S7.out).2.2))) HDC.out HG.out).mono ?_;rintro E w8 ⟨v8,rfl,h8,hb8⟩;obtain ⟨Af,cf,rfl⟩:=Kd.R_slice h8;have S8:=Aside0.mk (Kd.R_mono (Kd.R_bound h8) (fun q hq=>(⟨fun e=>by have z1:=hq.2.1;have z2:=blk_lt BX7.out;omega,fun e=>by have z1:=hq.2.1;have z2:=blk_lt BR7.out;omega⟩:q ≠ w7.heap.size∧q ≠ R)));have SB8:=Aside0.mk (Kd.R_below SB7.out hb8);have BX8:=Aside0.mk (blk_below BX7.out hb8);have BR8:=Aside0.mk (blk_below BR7.out hb8);have L8:=Aside0.mk (L7.out.trans (hbase L7.out.size hb8));obtain ⟨qR0,qR1,qR2,qR3,qR4,fR0,fR1,fR2,fR3,fR4⟩:=zq5 BR8.out;obtain ⟨qX0,qX1,qX2,qX3,qX4,fX0,fX1,fX2,fX3,fX4⟩:=zq5 (w:=w8) (g:=w7.heap.size) (x0:=.int .i64 q1) (x1:=.string q2) (x2:=.int .i64 q3) (x3:=.slice A3 q4.length c3) (x4:=.slice A4 q5.length c4) BX8.out;clear h8 hb8)
                          | (go_at_call 49;refine (tollbarref07_Response.calls k a1 q1 q2 q3 Af cf g1 A4 c4 q5 y1 y2 _ _ (Kd.R_reads' (Kd.R_far (p:=⟨w7.heap.size,3,none⟩) S8.out (fun q hq=>hq.1) (.slice Af g1.length cf))).2.2 (Kd.R_reads' S8.out).2.1 (Kd.R_reads' (Kd.R_far (p:=⟨w7.heap.size,3,none⟩) SB8.out (fun q hq=>hq.1) (.slice Af g1.length cf))).2.2 (Kd.R_reads' SB8.out).2.1 HY.out).mono ?_;rintro E w9 ⟨rfl,hb9⟩;have S9:=Aside0.mk (Kd.R_below (Kd.R_far (p:=⟨w7.heap.size,3,none⟩) S8.out (fun q hq=>hq.1) (.slice Af g1.length cf)) hb9);have BX9:=Aside0.mk (blk_below (blk_put BX8.out 3 (.slice Af g1.length cf) rfl) hb9);have BR9:=Aside0.mk (blk_below ((Below.heap_setCell w8 ⟨w7.heap.size,3,none⟩ (.slice Af g1.length cf) R RX.out).trans BR8.out) hb9);have L9:=Aside0.mk ((L8.out.setCell (p:=⟨w7.heap.size,3,none⟩) LX.out (.slice Af g1.length cf)).trans (hbase zb89 hb9));obtain ⟨qR0,qR1,qR2,qR3,qR4,fR0,fR1,fR2,fR3,fR4⟩:=zq5 BR9.out;obtain ⟨qX0,qX1,qX2,qX3,qX4,fX0,fX1,fX2,fX3,fX4⟩:=zq5 (w:=w9) (g:=w7.heap.size) (x0:=.int .i64 q1) (x1:=.string q2) (x2:=.int .i64 q3) (x3:=.slice Af g1.length cf) (x4:=.slice A4 q5.length c4) BX9.out;clear hb9))
                        refine bodyPost_ret (results_ctt rfl _ _ R 25 #[.int .i64 0,.string (⟨#[]⟩:ByteArray),.int .i64 0,.slice none 0 0,.slice none 0 0] (0,0) _ rfl (blk5 BR9.out _ _ _ _ _) hu rfl zb9) rfl ?_
                        exact resp_none (put5 L9.out (Nat.le_of_eq ER.out.symm) _ _ _ _ _)
                      · rw [if_pos rfl] at h
                        obtain ⟨z1,hz,h'⟩:=Option.bind_eq_some_iff.1 h
                        clear h
                        try simp only at h'
                        have h:=h'
                        clear h'
                        simp only [Option.some.injEq,Prod.mk.injEq] at h
                        obtain ⟨rfl,rfl,rfl,rfl,rfl,rfl,e7⟩:=h
                        subst e7
                        obtain ⟨i1,hi1,_,hsz1,_⟩:=info_parts info5
                        obtain ⟨A2,hsl2,hrd2,hcc2⟩:=print_drop_of (P:=Tryz.prog) (Value.int .u8) 0 23 5 .i64 Tryz.underlying23 hi1 hsz1 A0 c0 l0 n0 b6 b7 HCC.out
                        have CALL:=Aside0.mk (fun (Ax:Option Addr) (cx:Nat) (V:World) (hV:Below w.heap.size w V)=>tollbarref01_Join.calls k A2 _ (l0.drop n0.toNat) Ax cx [] z1 V (Kd.C_of_reads (h1:=fun _=>rfl) (hrd2 V (Kd.reads_of_C (Kd.C_below HC.out hV)))) hcc2 ⟨rfl,zb27,fun h=>absurd h (Nat.lt_irrefl 0)⟩ (Nat.zero_le _) hz)
                        clear hrd2 hcc2 hz b6 b7 hi1 hsz1
                        go_enter Tryz.func31,Tryz.ntmps31
                        go_wp2_with (first
                          | ((with_reducible refine gate_dst (N:=6) rfl ?_);refine box_event ?hg (N:=6) ?hd (cs:=#[.int .i64 0,.string (⟨#[]⟩:ByteArray),.int .i64 0,.slice none 0 0,.slice none 0 0]) (t:=25) ?hr ?_;(case hd=>rfl);(case hg=>rfl);(case hr=>first|(go_simp;done)|(go_simp;rfl));intro R hR w5 hBR hb5;have BR:=Aside0.mk hBR;have LR:=Aside0.mk hb5;have ER:=Aside0.mk hR;clear hBR hb5 hR)
                          | (go_at_call 67;refine (tollbarref08_Lines.calls k A0 c0 l0 _ _ _ w5 (Kd.C_below HC.out LR.out) HCC.out HL.out).mono ?_;rintro E w6 ⟨v6,rfl,h6,hb6⟩;obtain ⟨As,cs,rfl⟩:=Kd.R_slice h6;have S6:=Aside0.mk h6;have L6:=Aside0.mk (LR.out.trans (hbase LR.out.size hb6));have BR6:=Aside0.mk (blk_below BR.out hb6);obtain ⟨qR0,qR1,qR2,qR3,qR4,fR0,fR1,fR2,fR3,fR4⟩:=zq5 BR6.out;obtain ⟨ad,ea,hx⟩:=Kd.at_string (Kd.R_reads' S6.out).2.2 0 zb25 NE.out;cases ea;rw [show ((0:Int)).toNat=0 from rfl] at hx;rw [Addr.add_zero'] at hx;obtain ⟨A1,hsl,hrd,hcc⟩:=print_drop_of (P:=Tryz.prog) Value.string ByteArray.empty 44 9 .i64 Tryz.underlying44 HI.out.1 HI.out.2 (some ad) cs ss 1 zb25 zb92 (Kd.R_reads' S6.out).2.1;rw [← HDS.out] at hsl hrd hcc;have HRD:=Aside0.mk hrd;have HDC:=Aside0.mk hcc;clear hrd hcc;clear h6 hb6)
                          | (go_at_call 68;refine (tollbarref05_Status.calls k _ q1 q2 q3 q4 q5 _ w6 HQ.out).mono ?_;rintro E w7 ⟨v3,v4,rfl,h3,h4,hb7⟩;obtain ⟨A3,c3,rfl⟩:=Kd.R_slice h3;obtain ⟨A4,c4,rfl⟩:=Kd.R_slice h4;have S7:=Aside0.mk (Kd.R_alloc (Kd.R_below S6.out hb7) (.cells #[.int .i64 q1,.string q2,.int .i64 q3,.slice A3 q4.length c3,.slice A4 q5.length c4] 25 (0,0)));have SB7:=Aside0.mk (Kd.R_alloc (Kd.R_mono (Kd.R_bound h4) (fun q hq=>(⟨Nat.ne_of_lt hq.2.2.1,fun e=>by have z1:=hq.2.1;have z2:=blk_lt BR6.out;omega⟩:q ≠ w7.heap.size∧q ≠ R))) (.cells #[.int .i64 q1,.string q2,.int .i64 q3,.slice A3 q4.length c3,.slice A4 q5.length c4] 25 (0,0)));have L7:=Aside0.mk (below_alloc (L6.out.trans (hbase L6.out.size hb7)) (.cells #[.int .i64 q1,.string q2,.int .i64 q3,.slice A3 q4.length c3,.slice A4 q5.length c4] 25 (0,0)));have LX:=Aside0.mk (L6.out.trans (hbase L6.out.size hb7)).size;have BR7:=Aside0.mk (blk_alloc (blk_below BR6.out hb7) (.cells #[.int .i64 q1,.string q2,.int .i64 q3,.slice A3 q4.length c3,.slice A4 q5.length c4] 25 (0,0)));have RX:=Aside0.mk (Nat.ne_of_lt (blk_lt (blk_below BR6.out hb7)));have BX7:=Aside0.mk (blk_new w7 (.cells #[.int .i64 q1,.string q2,.int .i64 q3,.slice A3 q4.length c3,.slice A4 q5.length c4] 25 (0,0)));obtain ⟨qR0,qR1,qR2,qR3,qR4,fR0,fR1,fR2,fR3,fR4⟩:=zq5 (w:=(w7.alloc (.cells #[.int .i64 q1,.string q2,.int .i64 q3,.slice A3 q4.length c3,.slice A4 q5.length c4] 25 (0,0)))) (g:=R) (x0:=.int .i64 0) (x1:=.string (⟨#[]⟩:ByteArray)) (x2:=.int .i64 0) (x3:=.slice none 0 0) (x4:=.slice none 0 0) BR7.out;clear h3 h4 hb7)
                          | (go_at_call 69;refine (tollbarref08_fields.calls k A1 _ ds g1 _ _ (Kd.C_of_reads (h1:=fun _=>rfl) (HRD.out _ (Kd.reads_of_C (d:=ByteArray.empty) (Kd.R_reads' S7.out).2.2))) HDC.out HG.out).mono ?_;rintro E w8 ⟨v8,rfl,h8,hb8⟩;obtain ⟨Af,cf,rfl⟩:=Kd.R_slice h8;have S8:=Aside0.mk (Kd.R_mono (Kd.R_bound h8) (fun q hq=>(⟨fun e=>by have z1:=hq.2.1;have z2:=blk_lt BX7.out;omega,fun e=>by have z1:=hq.2.1;have z2:=blk_lt BR7.out;omega⟩:q ≠ w7.heap.size∧q ≠ R)));have SB8:=Aside0.mk (Kd.R_below SB7.out hb8);have BX8:=Aside0.mk (blk_below BX7.out hb8);have BR8:=Aside0.mk (blk_below BR7.out hb8);have L8:=Aside0.mk (L7.out.trans (hbase L7.out.size hb8));obtain ⟨qR0,qR1,qR2,qR3,qR4,fR0,fR1,fR2,fR3,fR4⟩:=zq5 BR8.out;obtain ⟨qX0,qX1,qX2,qX3,qX4,fX0,fX1,fX2,fX3,fX4⟩:=zq5 (w:=w8) (g:=w7.heap.size) (x0:=.int .i64 q1) (x1:=.string q2) (x2:=.int .i64 q3) (x3:=.slice A3 q4.length c3) (x4:=.slice A4 q5.length c4) BX8.out;clear h8 hb8)
                          | (go_at_call 49;refine (tollbarref07_Response.calls k a1 q1 q2 q3 Af cf g1 A4 c4 q5 y1 y2 _ _ (Kd.R_reads' (Kd.R_far (p:=⟨w7.heap.size,3,none⟩) S8.out (fun q hq=>hq.1) (.slice Af g1.length cf))).2.2 (Kd.R_reads' S8.out).2.1 (Kd.R_reads' (Kd.R_far (p:=⟨w7.heap.size,3,none⟩) SB8.out (fun q hq=>hq.1) (.slice Af g1.length cf))).2.2 (Kd.R_reads' SB8.out).2.1 HY.out).mono ?_;rintro E w9 ⟨rfl,hb9⟩;have S9:=Aside0.mk (Kd.R_below (Kd.R_far (p:=⟨w7.heap.size,3,none⟩) S8.out (fun q hq=>hq.1) (.slice Af g1.length cf)) hb9);have BX9:=Aside0.mk (blk_below (blk_put BX8.out 3 (.slice Af g1.length cf) rfl) hb9);have BR9:=Aside0.mk (blk_below ((Below.heap_setCell w8 ⟨w7.heap.size,3,none⟩ (.slice Af g1.length cf) R RX.out).trans BR8.out) hb9);have L9:=Aside0.mk ((L8.out.setCell (p:=⟨w7.heap.size,3,none⟩) LX.out (.slice Af g1.length cf)).trans (hbase zb89 hb9));obtain ⟨qR0,qR1,qR2,qR3,qR4,fR0,fR1,fR2,fR3,fR4⟩:=zq5 BR9.out;obtain ⟨qX0,qX1,qX2,qX3,qX4,fX0,fX1,fX2,fX3,fX4⟩:=zq5 (w:=w9) (g:=w7.heap.size) (x0:=.int .i64 q1) (x1:=.string q2) (x2:=.int .i64 q3) (x3:=.slice Af g1.length cf) (x4:=.slice A4 q5.length c4) BX9.out;clear hb9)
                          | (go_at_call 50;(try rw [← List.length_drop]);(refine (CALL.out _ _ _ (below_alloc L9.out _)).mono ?_);rintro E w10 ⟨v10,rfl,h10,hb10⟩;obtain ⟨Ab,cb,rfl⟩:=Kd.R_slice h10;have SB10:=Aside0.mk (Kd.R_mono (Kd.R_bound h10) (fun q hq=>(⟨fun e=>by have z1:=hq.2.1;have z2:=blk_lt (blk_alloc BX9.out (.cells #[] 5 (0,0)));omega,fun e=>by have z1:=hq.2.1;have z2:=blk_lt (blk_alloc BR9.out (.cells #[] 5 (0,0)));omega⟩:q ≠ w7.heap.size∧q ≠ R)));have S10:=Aside0.mk (Kd.R_below (Kd.R_alloc S9.out (.cells #[] 5 (0,0))) hb10);have BX10:=Aside0.mk (blk_below (blk_alloc BX9.out (.cells #[] 5 (0,0))) hb10);have BR10:=Aside0.mk (blk_below (blk_alloc BR9.out (.cells #[] 5 (0,0))) hb10);have L10:=Aside0.mk ((below_alloc L9.out (.cells #[] 5 (0,0))).trans (hbase (below_alloc L9.out (.cells #[] 5 (0,0))).size hb10));obtain ⟨qR0,qR1,qR2,qR3,qR4,fR0,fR1,fR2,fR3,fR4⟩:=zq5 BR10.out;obtain ⟨qX0,qX1,qX2,qX3,qX4,fX0,fX1,fX2,fX3,fX4⟩:=zq5 (w:=w10) (g:=w7.heap.size) (x0:=.int .i64 q1) (x1:=.string q2) (x2:=.int .i64 q3) (x3:=.slice Af g1.length cf) (x4:=.slice A4 q5.length c4) BX10.out;have BX11:=Aside0.mk (blk_put BX10.out 4 (.slice Ab z1.length cb) rfl);have BR11:=Aside0.mk ((Below.heap_setCell w10 ⟨w7.heap.size,4,none⟩ (.slice Ab z1.length cb) R RX.out).trans BR10.out);obtain ⟨qR0,qR1,qR2,qR3,qR4,fR0,fR1,fR2,fR3,fR4⟩:=zq5 (w:=(w10.setCell ⟨w7.heap.size,4,none⟩ (.slice Ab z1.length cb))) (g:=R) (x0:=.int .i64 0) (x1:=.string (⟨#[]⟩:ByteArray)) (x2:=.int .i64 0) (x3:=.slice none 0 0) (x4:=.slice none 0 0) BR11.out;obtain ⟨qX0,qX1,qX2,qX3,qX4,fX0,fX1,fX2,fX3,fX4⟩:=zq5 (w:=(w10.setCell ⟨w7.heap.size,4,none⟩ (.slice Ab z1.length cb))) (g:=w7.heap.size) (x0:=.int .i64 q1) (x1:=.string q2) (x2:=.int .i64 q3) (x3:=.slice Af g1.length cf) (x4:=.slice Ab z1.length cb) BX11.out;clear h10 hb10))
                        refine bodyPost_ret (results_ctt rfl _ _ R 25 #[.int .i64 q1,.string q2,.int .i64 q3,.slice Af g1.length cf,.slice Ab z1.length cb] (0,0) _ rfl (blk5 BR11.out _ _ _ _ _) hu rfl zb9) rfl ?_
                        exact ⟨_,_,rfl,Kd.R_lower (Kd.R_mono (R_put5 (Kd.R_far (p:=⟨w7.heap.size,4,none⟩) S10.out (fun q hq=>hq.1) _) _ _ _ _ _) (fun _ _=>trivial)) L7.out.size,Kd.R_lower (Kd.R_mono (R_put5 (Kd.R_far (p:=⟨w7.heap.size,4,none⟩) SB10.out (fun q hq=>hq.1) _) _ _ _ _ _) (fun _ _=>trivial)) (below_alloc L9.out _).size,put5 (L10.out.setCell (p:=⟨w7.heap.size,4,none⟩) LX.out _) (Nat.le_of_eq ER.out.symm) _ _ _ _ _⟩
                  · rw [if_neg b8] at h
                    have d8:(y1 == 3)=false:=beq_eq_false_iff_ne.2 b8
                    clear b8
                    obtain ⟨⟨z1,z2,z3,z4⟩,hz,h'⟩:=Option.bind_eq_some_iff.1 h
                    clear h
                    try simp only at h'
                    obtain ⟨i1,hi1,_,hsz1,_⟩:=info_parts info5
                    obtain ⟨A2,hsl2,hrd2,hcc2⟩:=print_drop_of (P:=Tryz.prog) (Value.int .u8) 0 23 5 .i64 Tryz.underlying23 hi1 hsz1 A0 c0 l0 n0 b6 b7 HCC.out
                    have CALL:=Aside0.mk (fun (V:World) (hV:Below w.heap.size w V)=>tollbarref08_Body.calls k A2 _ (l0.drop n0.toNat) y2 (y1 == 2) z1 z2 z3 z4 V (Kd.C_of_reads (h1:=fun _=>rfl) (hrd2 V (Kd.reads_of_C (Kd.C_below HC.out hV)))) hcc2 hz)
                    clear hrd2 hcc2 hz b6 b7 hi1 hsz1
                    by_cases b9:z4=0
                    · rw [if_pos b9] at h'
                      subst b9
                      cases z3
                      · rw [if_neg zb27] at h'
                        have h:=h'
                        clear h'
                        simp only [Option.some.injEq,Prod.mk.injEq] at h
                        obtain ⟨rfl,rfl,rfl,rfl,rfl,rfl,e7⟩:=h
                        cases a2 <;> subst e7
                        all_goals
                         go_enter Tryz.func31,Tryz.ntmps31
                         go_wp2_with (first
                           | ((with_reducible refine gate_dst (N:=6) rfl ?_);refine box_event ?hg (N:=6) ?hd (cs:=#[.int .i64 0,.string (⟨#[]⟩:ByteArray),.int .i64 0,.slice none 0 0,.slice none 0 0]) (t:=25) ?hr ?_;(case hd=>rfl);(case hg=>rfl);(case hr=>first|(go_simp;done)|(go_simp;rfl));intro R hR w5 hBR hb5;have BR:=Aside0.mk hBR;have LR:=Aside0.mk hb5;have ER:=Aside0.mk hR;clear hBR hb5 hR)
                           | (go_at_call 67;refine (tollbarref08_Lines.calls k A0 c0 l0 _ _ _ w5 (Kd.C_below HC.out LR.out) HCC.out HL.out).mono ?_;rintro E w6 ⟨v6,rfl,h6,hb6⟩;obtain ⟨As,cs,rfl⟩:=Kd.R_slice h6;have S6:=Aside0.mk h6;have L6:=Aside0.mk (LR.out.trans (hbase LR.out.size hb6));have BR6:=Aside0.mk (blk_below BR.out hb6);obtain ⟨qR0,qR1,qR2,qR3,qR4,fR0,fR1,fR2,fR3,fR4⟩:=zq5 BR6.out;obtain ⟨ad,ea,hx⟩:=Kd.at_string (Kd.R_reads' S6.out).2.2 0 zb25 NE.out;cases ea;rw [show ((0:Int)).toNat=0 from rfl] at hx;rw [Addr.add_zero'] at hx;obtain ⟨A1,hsl,hrd,hcc⟩:=print_drop_of (P:=Tryz.prog) Value.string ByteArray.empty 44 9 .i64 Tryz.underlying44 HI.out.1 HI.out.2 (some ad) cs ss 1 zb25 zb92 (Kd.R_reads' S6.out).2.1;rw [← HDS.out] at hsl hrd hcc;have HRD:=Aside0.mk hrd;have HDC:=Aside0.mk hcc;clear hrd hcc;clear h6 hb6)
                           | (go_at_call 68;refine (tollbarref05_Status.calls k _ q1 q2 q3 q4 q5 _ w6 HQ.out).mono ?_;rintro E w7 ⟨v3,v4,rfl,h3,h4,hb7⟩;obtain ⟨A3,c3,rfl⟩:=Kd.R_slice h3;obtain ⟨A4,c4,rfl⟩:=Kd.R_slice h4;have S7:=Aside0.mk (Kd.R_alloc (Kd.R_below S6.out hb7) (.cells #[.int .i64 q1,.string q2,.int .i64 q3,.slice A3 q4.length c3,.slice A4 q5.length c4] 25 (0,0)));have SB7:=Aside0.mk (Kd.R_alloc (Kd.R_mono (Kd.R_bound h4) (fun q hq=>(⟨Nat.ne_of_lt hq.2.2.1,fun e=>by have z1:=hq.2.1;have z2:=blk_lt BR6.out;omega⟩:q ≠ w7.heap.size∧q ≠ R))) (.cells #[.int .i64 q1,.string q2,.int .i64 q3,.slice A3 q4.length c3,.slice A4 q5.length c4] 25 (0,0)));have L7:=Aside0.mk (below_alloc (L6.out.trans (hbase L6.out.size hb7)) (.cells #[.int .i64 q1,.string q2,.int .i64 q3,.slice A3 q4.length c3,.slice A4 q5.length c4] 25 (0,0)));have LX:=Aside0.mk (L6.out.trans (hbase L6.out.size hb7)).size;have BR7:=Aside0.mk (blk_alloc (blk_below BR6.out hb7) (.cells #[.int .i64 q1,.string q2,.int .i64 q3,.slice A3 q4.length c3,.slice A4 q5.length c4] 25 (0,0)));have RX:=Aside0.mk (Nat.ne_of_lt (blk_lt (blk_below BR6.out hb7)));have BX7:=Aside0.mk (blk_new w7 (.cells #[.int .i64 q1,.string q2,.int .i64 q3,.slice A3 q4.length c3,.slice A4 q5.length c4] 25 (0,0)));obtain ⟨qR0,qR1,qR2,qR3,qR4,fR0,fR1,fR2,fR3,fR4⟩:=zq5 (w:=(w7.alloc (.cells #[.int .i64 q1,.string q2,.int .i64 q3,.slice A3 q4.length c3,.slice A4 q5.length c4] 25 (0,0)))) (g:=R) (x0:=.int .i64 0) (x1:=.string (⟨#[]⟩:ByteArray)) (x2:=.int .i64 0) (x3:=.slice none 0 0) (x4:=.slice none 0 0) BR7.out;clear h3 h4 hb7)
                           | (go_at_call 69;refine (tollbarref08_fields.calls k A1 _ ds g1 _ _ (Kd.C_of_reads (h1:=fun _=>rfl) (HRD.out _ (Kd.reads_of_C (d:=ByteArray.empty) (Kd.R_reads' S7.out).2.2))) HDC.out HG.out).mono ?_;rintro E w8 ⟨v8,rfl,h8,hb8⟩;obtain ⟨Af,cf,rfl⟩:=Kd.R_slice h8;have S8:=Aside0.mk (Kd.R_mono (Kd.R_bound h8) (fun q hq=>(⟨fun e=>by have z1:=hq.2.1;have z2:=blk_lt BX7.out;omega,fun e=>by have z1:=hq.2.1;have z2:=blk_lt BR7.out;omega⟩:q ≠ w7.heap.size∧q ≠ R)));have SB8:=Aside0.mk (Kd.R_below SB7.out hb8);have BX8:=Aside0.mk (blk_below BX7.out hb8);have BR8:=Aside0.mk (blk_below BR7.out hb8);have L8:=Aside0.mk (L7.out.trans (hbase L7.out.size hb8));obtain ⟨qR0,qR1,qR2,qR3,qR4,fR0,fR1,fR2,fR3,fR4⟩:=zq5 BR8.out;obtain ⟨qX0,qX1,qX2,qX3,qX4,fX0,fX1,fX2,fX3,fX4⟩:=zq5 (w:=w8) (g:=w7.heap.size) (x0:=.int .i64 q1) (x1:=.string q2) (x2:=.int .i64 q3) (x3:=.slice A3 q4.length c3) (x4:=.slice A4 q5.length c4) BX8.out;clear h8 hb8)
                           | (go_at_call 49;refine (tollbarref07_Response.calls k a1 q1 q2 q3 Af cf g1 A4 c4 q5 y1 y2 _ _ (Kd.R_reads' (Kd.R_far (p:=⟨w7.heap.size,3,none⟩) S8.out (fun q hq=>hq.1) (.slice Af g1.length cf))).2.2 (Kd.R_reads' S8.out).2.1 (Kd.R_reads' (Kd.R_far (p:=⟨w7.heap.size,3,none⟩) SB8.out (fun q hq=>hq.1) (.slice Af g1.length cf))).2.2 (Kd.R_reads' SB8.out).2.1 HY.out).mono ?_;rintro E w9 ⟨rfl,hb9⟩;have S9:=Aside0.mk (Kd.R_below (Kd.R_far (p:=⟨w7.heap.size,3,none⟩) S8.out (fun q hq=>hq.1) (.slice Af g1.length cf)) hb9);have BX9:=Aside0.mk (blk_below (blk_put BX8.out 3 (.slice Af g1.length cf) rfl) hb9);have BR9:=Aside0.mk (blk_below ((Below.heap_setCell w8 ⟨w7.heap.size,3,none⟩ (.slice Af g1.length cf) R RX.out).trans BR8.out) hb9);have L9:=Aside0.mk ((L8.out.setCell (p:=⟨w7.heap.size,3,none⟩) LX.out (.slice Af g1.length cf)).trans (hbase zb89 hb9));obtain ⟨qR0,qR1,qR2,qR3,qR4,fR0,fR1,fR2,fR3,fR4⟩:=zq5 BR9.out;obtain ⟨qX0,qX1,qX2,qX3,qX4,fX0,fX1,fX2,fX3,fX4⟩:=zq5 (w:=w9) (g:=w7.heap.size) (x0:=.int .i64 q1) (x1:=.string q2) (x2:=.int .i64 q3) (x3:=.slice Af g1.length cf) (x4:=.slice A4 q5.length c4) BX9.out;clear hb9)
                           | (go_at_call 57;(try rw [← List.length_drop]);(with_reducible refine (CALL.out _ L9.out).mono ?_);rintro E w10 ⟨v10,rfl,h10,hb10⟩;obtain ⟨Ab,cb,rfl⟩:=Kd.R_slice h10;have SB10:=Aside0.mk (Kd.R_mono (Kd.R_bound h10) (fun q hq=>(⟨fun e=>by have z1:=hq.2.1;have z2:=blk_lt (BX9.out);omega,fun e=>by have z1:=hq.2.1;have z2:=blk_lt (BR9.out);omega⟩:q ≠ w7.heap.size∧q ≠ R)));have S10:=Aside0.mk (Kd.R_below S9.out hb10);have BX10:=Aside0.mk (blk_below BX9.out hb10);have BR10:=Aside0.mk (blk_below BR9.out hb10);have L10:=Aside0.mk (L9.out.trans (hbase (L9.out).size hb10));obtain ⟨qR0,qR1,qR2,qR3,qR4,fR0,fR1,fR2,fR3,fR4⟩:=zq5 BR10.out;obtain ⟨qX0,qX1,qX2,qX3,qX4,fX0,fX1,fX2,fX3,fX4⟩:=zq5 (w:=w10) (g:=w7.heap.size) (x0:=.int .i64 q1) (x1:=.string q2) (x2:=.int .i64 q3) (x3:=.slice Af g1.length cf) (x4:=.slice A4 q5.length c4) BX10.out;have BX11:=Aside0.mk (blk_put BX10.out 4 (.slice Ab z1.length cb) rfl);have BR11:=Aside0.mk ((Below.heap_setCell w10 ⟨w7.heap.size,4,none⟩ (.slice Ab z1.length cb) R RX.out).trans BR10.out);obtain ⟨qR0,qR1,qR2,qR3,qR4,fR0,fR1,fR2,fR3,fR4⟩:=zq5 (w:=(w10.setCell ⟨w7.heap.size,4,none⟩ (.slice Ab z1.length cb))) (g:=R) (x0:=.int .i64 0) (x1:=.string (⟨#[]⟩:ByteArray)) (x2:=.int .i64 0) (x3:=.slice none 0 0) (x4:=.slice none 0 0) BR11.out;obtain ⟨qX0,qX1,qX2,qX3,qX4,fX0,fX1,fX2,fX3,fX4⟩:=zq5 (w:=(w10.setCell ⟨w7.heap.size,4,none⟩ (.slice Ab z1.length cb))) (g:=w7.heap.size) (x0:=.int .i64 q1) (x1:=.string q2) (x2:=.int .i64 q3) (x3:=.slice Af g1.length cf) (x4:=.slice Ab z1.length cb) BX11.out;clear h10 hb10))
                         refine bodyPost_ret (results_ctt rfl _ _ R 25 #[.int .i64 0,.string (⟨#[]⟩:ByteArray),.int .i64 0,.slice none 0 0,.slice none 0 0] (0,0) _ rfl (blk5 BR10.out _ _ _ _ _) hu rfl zb9) rfl ?_
                         exact resp_none (put5 L10.out (Nat.le_of_eq ER.out.symm) _ _ _ _ _)
                      · rw [if_pos rfl] at h'
                        have h:=h'
                        clear h'
                        simp only [Option.some.injEq,Prod.mk.injEq] at h
                        obtain ⟨rfl,rfl,rfl,rfl,rfl,rfl,e7⟩:=h
                        subst e7
                        go_enter Tryz.func31,Tryz.ntmps31
                        go_wp2_with (first
                          | ((with_reducible refine gate_dst (N:=6) rfl ?_);refine box_event ?hg (N:=6) ?hd (cs:=#[.int .i64 0,.string (⟨#[]⟩:ByteArray),.int .i64 0,.slice none 0 0,.slice none 0 0]) (t:=25) ?hr ?_;(case hd=>rfl);(case hg=>rfl);(case hr=>first|(go_simp;done)|(go_simp;rfl));intro R hR w5 hBR hb5;have BR:=Aside0.mk hBR;have LR:=Aside0.mk hb5;have ER:=Aside0.mk hR;clear hBR hb5 hR)
                          | (go_at_call 67;refine (tollbarref08_Lines.calls k A0 c0 l0 _ _ _ w5 (Kd.C_below HC.out LR.out) HCC.out HL.out).mono ?_;rintro E w6 ⟨v6,rfl,h6,hb6⟩;obtain ⟨As,cs,rfl⟩:=Kd.R_slice h6;have S6:=Aside0.mk h6;have L6:=Aside0.mk (LR.out.trans (hbase LR.out.size hb6));have BR6:=Aside0.mk (blk_below BR.out hb6);obtain ⟨qR0,qR1,qR2,qR3,qR4,fR0,fR1,fR2,fR3,fR4⟩:=zq5 BR6.out;obtain ⟨ad,ea,hx⟩:=Kd.at_string (Kd.R_reads' S6.out).2.2 0 zb25 NE.out;cases ea;rw [show ((0:Int)).toNat=0 from rfl] at hx;rw [Addr.add_zero'] at hx;obtain ⟨A1,hsl,hrd,hcc⟩:=print_drop_of (P:=Tryz.prog) Value.string ByteArray.empty 44 9 .i64 Tryz.underlying44 HI.out.1 HI.out.2 (some ad) cs ss 1 zb25 zb92 (Kd.R_reads' S6.out).2.1;rw [← HDS.out] at hsl hrd hcc;have HRD:=Aside0.mk hrd;have HDC:=Aside0.mk hcc;clear hrd hcc;clear h6 hb6)
                          | (go_at_call 68;refine (tollbarref05_Status.calls k _ q1 q2 q3 q4 q5 _ w6 HQ.out).mono ?_;rintro E w7 ⟨v3,v4,rfl,h3,h4,hb7⟩;obtain ⟨A3,c3,rfl⟩:=Kd.R_slice h3;obtain ⟨A4,c4,rfl⟩:=Kd.R_slice h4;have S7:=Aside0.mk (Kd.R_alloc (Kd.R_below S6.out hb7) (.cells #[.int .i64 q1,.string q2,.int .i64 q3,.slice A3 q4.length c3,.slice A4 q5.length c4] 25 (0,0)));have SB7:=Aside0.mk (Kd.R_alloc (Kd.R_mono (Kd.R_bound h4) (fun q hq=>(⟨Nat.ne_of_lt hq.2.2.1,fun e=>by have z1:=hq.2.1;have z2:=blk_lt BR6.out;omega⟩:q ≠ w7.heap.size∧q ≠ R))) (.cells #[.int .i64 q1,.string q2,.int .i64 q3,.slice A3 q4.length c3,.slice A4 q5.length c4] 25 (0,0)));have L7:=Aside0.mk (below_alloc (L6.out.trans (hbase L6.out.size hb7)) (.cells #[.int .i64 q1,.string q2,.int .i64 q3,.slice A3 q4.length c3,.slice A4 q5.length c4] 25 (0,0)));have LX:=Aside0.mk (L6.out.trans (hbase L6.out.size hb7)).size;have BR7:=Aside0.mk (blk_alloc (blk_below BR6.out hb7) (.cells #[.int .i64 q1,.string q2,.int .i64 q3,.slice A3 q4.length c3,.slice A4 q5.length c4] 25 (0,0)));have RX:=Aside0.mk (Nat.ne_of_lt (blk_lt (blk_below BR6.out hb7)));have BX7:=Aside0.mk (blk_new w7 (.cells #[.int .i64 q1,.string q2,.int .i64 q3,.slice A3 q4.length c3,.slice A4 q5.length c4] 25 (0,0)));obtain ⟨qR0,qR1,qR2,qR3,qR4,fR0,fR1,fR2,fR3,fR4⟩:=zq5 (w:=(w7.alloc (.cells #[.int .i64 q1,.string q2,.int .i64 q3,.slice A3 q4.length c3,.slice A4 q5.length c4] 25 (0,0)))) (g:=R) (x0:=.int .i64 0) (x1:=.string (⟨#[]⟩:ByteArray)) (x2:=.int .i64 0) (x3:=.slice none 0 0) (x4:=.slice none 0 0) BR7.out;clear h3 h4 hb7)
                          | (go_at_call 69;refine (tollbarref08_fields.calls k A1 _ ds g1 _ _ (Kd.C_of_reads (h1:=fun _=>rfl) (HRD.out _ (Kd.reads_of_C (d:=ByteArray.empty) (Kd.R_reads' S7.out).2.2))) HDC.out HG.out).mono ?_;rintro E w8 ⟨v8,rfl,h8,hb8⟩;obtain ⟨Af,cf,rfl⟩:=Kd.R_slice h8;have S8:=Aside0.mk (Kd.R_mono (Kd.R_bound h8) (fun q hq=>(⟨fun e=>by have z1:=hq.2.1;have z2:=blk_lt BX7.out;omega,fun e=>by have z1:=hq.2.1;have z2:=blk_lt BR7.out;omega⟩:q ≠ w7.heap.size∧q ≠ R)));have SB8:=Aside0.mk (Kd.R_below SB7.out hb8);have BX8:=Aside0.mk (blk_below BX7.out hb8);have BR8:=Aside0.mk (blk_below BR7.out hb8);have L8:=Aside0.mk (L7.out.trans (hbase L7.out.size hb8));obtain ⟨qR0,qR1,qR2,qR3,qR4,fR0,fR1,fR2,fR3,fR4⟩:=zq5 BR8.out;obtain ⟨qX0,qX1,qX2,qX3,qX4,fX0,fX1,fX2,fX3,fX4⟩:=zq5 (w:=w8) (g:=w7.heap.size) (x0:=.int .i64 q1) (x1:=.string q2) (x2:=.int .i64 q3) (x3:=.slice A3 q4.length c3) (x4:=.slice A4 q5.length c4) BX8.out;clear h8 hb8)
                          | (go_at_call 49;refine (tollbarref07_Response.calls k a1 q1 q2 q3 Af cf g1 A4 c4 q5 y1 y2 _ _ (Kd.R_reads' (Kd.R_far (p:=⟨w7.heap.size,3,none⟩) S8.out (fun q hq=>hq.1) (.slice Af g1.length cf))).2.2 (Kd.R_reads' S8.out).2.1 (Kd.R_reads' (Kd.R_far (p:=⟨w7.heap.size,3,none⟩) SB8.out (fun q hq=>hq.1) (.slice Af g1.length cf))).2.2 (Kd.R_reads' SB8.out).2.1 HY.out).mono ?_;rintro E w9 ⟨rfl,hb9⟩;have S9:=Aside0.mk (Kd.R_below (Kd.R_far (p:=⟨w7.heap.size,3,none⟩) S8.out (fun q hq=>hq.1) (.slice Af g1.length cf)) hb9);have BX9:=Aside0.mk (blk_below (blk_put BX8.out 3 (.slice Af g1.length cf) rfl) hb9);have BR9:=Aside0.mk (blk_below ((Below.heap_setCell w8 ⟨w7.heap.size,3,none⟩ (.slice Af g1.length cf) R RX.out).trans BR8.out) hb9);have L9:=Aside0.mk ((L8.out.setCell (p:=⟨w7.heap.size,3,none⟩) LX.out (.slice Af g1.length cf)).trans (hbase zb89 hb9));obtain ⟨qR0,qR1,qR2,qR3,qR4,fR0,fR1,fR2,fR3,fR4⟩:=zq5 BR9.out;obtain ⟨qX0,qX1,qX2,qX3,qX4,fX0,fX1,fX2,fX3,fX4⟩:=zq5 (w:=w9) (g:=w7.heap.size) (x0:=.int .i64 q1) (x1:=.string q2) (x2:=.int .i64 q3) (x3:=.slice Af g1.length cf) (x4:=.slice A4 q5.length c4) BX9.out;clear hb9)
                          | (go_at_call 57;(try rw [← List.length_drop]);(with_reducible refine (CALL.out _ L9.out).mono ?_);rintro E w10 ⟨v10,rfl,h10,hb10⟩;obtain ⟨Ab,cb,rfl⟩:=Kd.R_slice h10;have SB10:=Aside0.mk (Kd.R_mono (Kd.R_bound h10) (fun q hq=>(⟨fun e=>by have z1:=hq.2.1;have z2:=blk_lt (BX9.out);omega,fun e=>by have z1:=hq.2.1;have z2:=blk_lt (BR9.out);omega⟩:q ≠ w7.heap.size∧q ≠ R)));have S10:=Aside0.mk (Kd.R_below S9.out hb10);have BX10:=Aside0.mk (blk_below BX9.out hb10);have BR10:=Aside0.mk (blk_below BR9.out hb10);have L10:=Aside0.mk (L9.out.trans (hbase (L9.out).size hb10));obtain ⟨qR0,qR1,qR2,qR3,qR4,fR0,fR1,fR2,fR3,fR4⟩:=zq5 BR10.out;obtain ⟨qX0,qX1,qX2,qX3,qX4,fX0,fX1,fX2,fX3,fX4⟩:=zq5 (w:=w10) (g:=w7.heap.size) (x0:=.int .i64 q1) (x1:=.string q2) (x2:=.int .i64 q3) (x3:=.slice Af g1.length cf) (x4:=.slice A4 q5.length c4) BX10.out;have BX11:=Aside0.mk (blk_put BX10.out 4 (.slice Ab z1.length cb) rfl);have BR11:=Aside0.mk ((Below.heap_setCell w10 ⟨w7.heap.size,4,none⟩ (.slice Ab z1.length cb) R RX.out).trans BR10.out);obtain ⟨qR0,qR1,qR2,qR3,qR4,fR0,fR1,fR2,fR3,fR4⟩:=zq5 (w:=(w10.setCell ⟨w7.heap.size,4,none⟩ (.slice Ab z1.length cb))) (g:=R) (x0:=.int .i64 0) (x1:=.string (⟨#[]⟩:ByteArray)) (x2:=.int .i64 0) (x3:=.slice none 0 0) (x4:=.slice none 0 0) BR11.out;obtain ⟨qX0,qX1,qX2,qX3,qX4,fX0,fX1,fX2,fX3,fX4⟩:=zq5 (w:=(w10.setCell ⟨w7.heap.size,4,none⟩ (.slice Ab z1.length cb))) (g:=w7.heap.size) (x0:=.int .i64 q1) (x1:=.string q2) (x2:=.int .i64 q3) (x3:=.slice Af g1.length cf) (x4:=.slice Ab z1.length cb) BX11.out;clear h10 hb10))
                        refine bodyPost_ret (results_ctt rfl _ _ R 25 #[.int .i64 q1,.string q2,.int .i64 q3,.slice Af g1.length cf,.slice Ab z1.length cb] (0,0) _ rfl (blk5 BR11.out _ _ _ _ _) hu rfl zb9) rfl ?_
                        exact ⟨_,_,rfl,Kd.R_lower (Kd.R_mono (R_put5 (Kd.R_far (p:=⟨w7.heap.size,4,none⟩) S10.out (fun q hq=>hq.1) _) _ _ _ _ _) (fun _ _=>trivial)) L7.out.size,Kd.R_lower (Kd.R_mono (R_put5 (Kd.R_far (p:=⟨w7.heap.size,4,none⟩) SB10.out (fun q hq=>hq.1) _) _ _ _ _ _) (fun _ _=>trivial)) L9.out.size,put5 (L10.out.setCell (p:=⟨w7.heap.size,4,none⟩) LX.out _) (Nat.le_of_eq ER.out.symm) _ _ _ _ _⟩
                    · rw [if_neg b9] at h'
                      have h:=h'
                      clear h'
                      simp only [Option.some.injEq,Prod.mk.injEq] at h
                      obtain ⟨rfl,rfl,rfl,rfl,rfl,rfl,e7⟩:=h
                      subst e7
                      have d9:(z4 != 0)=true:=bne_iff_ne.2 b9
                      have da:(z4 == 0)=false:=beq_eq_false_iff_ne.2 b9
                      clear b9
                      go_enter Tryz.func31,Tryz.ntmps31
                      go_wp2_with (first
                        | ((with_reducible refine gate_dst (N:=6) rfl ?_);refine box_event ?hg (N:=6) ?hd (cs:=#[.int .i64 0,.string (⟨#[]⟩:ByteArray),.int .i64 0,.slice none 0 0,.slice none 0 0]) (t:=25) ?hr ?_;(case hd=>rfl);(case hg=>rfl);(case hr=>first|(go_simp;done)|(go_simp;rfl));intro R hR w5 hBR hb5;have BR:=Aside0.mk hBR;have LR:=Aside0.mk hb5;have ER:=Aside0.mk hR;clear hBR hb5 hR)
                        | (go_at_call 67;refine (tollbarref08_Lines.calls k A0 c0 l0 _ _ _ w5 (Kd.C_below HC.out LR.out) HCC.out HL.out).mono ?_;rintro E w6 ⟨v6,rfl,h6,hb6⟩;obtain ⟨As,cs,rfl⟩:=Kd.R_slice h6;have S6:=Aside0.mk h6;have L6:=Aside0.mk (LR.out.trans (hbase LR.out.size hb6));have BR6:=Aside0.mk (blk_below BR.out hb6);obtain ⟨qR0,qR1,qR2,qR3,qR4,fR0,fR1,fR2,fR3,fR4⟩:=zq5 BR6.out;obtain ⟨ad,ea,hx⟩:=Kd.at_string (Kd.R_reads' S6.out).2.2 0 zb25 NE.out;cases ea;rw [show ((0:Int)).toNat=0 from rfl] at hx;rw [Addr.add_zero'] at hx;obtain ⟨A1,hsl,hrd,hcc⟩:=print_drop_of (P:=Tryz.prog) Value.string ByteArray.empty 44 9 .i64 Tryz.underlying44 HI.out.1 HI.out.2 (some ad) cs ss 1 zb25 zb92 (Kd.R_reads' S6.out).2.1;rw [← HDS.out] at hsl hrd hcc;have HRD:=Aside0.mk hrd;have HDC:=Aside0.mk hcc;clear hrd hcc;clear h6 hb6)
                        | (go_at_call 68;refine (tollbarref05_Status.calls k _ q1 q2 q3 q4 q5 _ w6 HQ.out).mono ?_;rintro E w7 ⟨v3,v4,rfl,h3,h4,hb7⟩;obtain ⟨A3,c3,rfl⟩:=Kd.R_slice h3;obtain ⟨A4,c4,rfl⟩:=Kd.R_slice h4;have S7:=Aside0.mk (Kd.R_alloc (Kd.R_below S6.out hb7) (.cells #[.int .i64 q1,.string q2,.int .i64 q3,.slice A3 q4.length c3,.slice A4 q5.length c4] 25 (0,0)));have SB7:=Aside0.mk (Kd.R_alloc (Kd.R_mono (Kd.R_bound h4) (fun q hq=>(⟨Nat.ne_of_lt hq.2.2.1,fun e=>by have z1:=hq.2.1;have z2:=blk_lt BR6.out;omega⟩:q ≠ w7.heap.size∧q ≠ R))) (.cells #[.int .i64 q1,.string q2,.int .i64 q3,.slice A3 q4.length c3,.slice A4 q5.length c4] 25 (0,0)));have L7:=Aside0.mk (below_alloc (L6.out.trans (hbase L6.out.size hb7)) (.cells #[.int .i64 q1,.string q2,.int .i64 q3,.slice A3 q4.length c3,.slice A4 q5.length c4] 25 (0,0)));have LX:=Aside0.mk (L6.out.trans (hbase L6.out.size hb7)).size;have BR7:=Aside0.mk (blk_alloc (blk_below BR6.out hb7) (.cells #[.int .i64 q1,.string q2,.int .i64 q3,.slice A3 q4.length c3,.slice A4 q5.length c4] 25 (0,0)));have RX:=Aside0.mk (Nat.ne_of_lt (blk_lt (blk_below BR6.out hb7)));have BX7:=Aside0.mk (blk_new w7 (.cells #[.int .i64 q1,.string q2,.int .i64 q3,.slice A3 q4.length c3,.slice A4 q5.length c4] 25 (0,0)));obtain ⟨qR0,qR1,qR2,qR3,qR4,fR0,fR1,fR2,fR3,fR4⟩:=zq5 (w:=(w7.alloc (.cells #[.int .i64 q1,.string q2,.int .i64 q3,.slice A3 q4.length c3,.slice A4 q5.length c4] 25 (0,0)))) (g:=R) (x0:=.int .i64 0) (x1:=.string (⟨#[]⟩:ByteArray)) (x2:=.int .i64 0) (x3:=.slice none 0 0) (x4:=.slice none 0 0) BR7.out;clear h3 h4 hb7)
                        | (go_at_call 69;refine (tollbarref08_fields.calls k A1 _ ds g1 _ _ (Kd.C_of_reads (h1:=fun _=>rfl) (HRD.out _ (Kd.reads_of_C (d:=ByteArray.empty) (Kd.R_reads' S7.out).2.2))) HDC.out HG.out).mono ?_;rintro E w8 ⟨v8,rfl,h8,hb8⟩;obtain ⟨Af,cf,rfl⟩:=Kd.R_slice h8;have S8:=Aside0.mk (Kd.R_mono (Kd.R_bound h8) (fun q hq=>(⟨fun e=>by have z1:=hq.2.1;have z2:=blk_lt BX7.out;omega,fun e=>by have z1:=hq.2.1;have z2:=blk_lt BR7.out;omega⟩:q ≠ w7.heap.size∧q ≠ R)));have SB8:=Aside0.mk (Kd.R_below SB7.out hb8);have BX8:=Aside0.mk (blk_below BX7.out hb8);have BR8:=Aside0.mk (blk_below BR7.out hb8);have L8:=Aside0.mk (L7.out.trans (hbase L7.out.size hb8));obtain ⟨qR0,qR1,qR2,qR3,qR4,fR0,fR1,fR2,fR3,fR4⟩:=zq5 BR8.out;obtain ⟨qX0,qX1,qX2,qX3,qX4,fX0,fX1,fX2,fX3,fX4⟩:=zq5 (w:=w8) (g:=w7.heap.size) (x0:=.int .i64 q1) (x1:=.string q2) (x2:=.int .i64 q3) (x3:=.slice A3 q4.length c3) (x4:=.slice A4 q5.length c4) BX8.out;clear h8 hb8)
                        | (go_at_call 49;refine (tollbarref07_Response.calls k a1 q1 q2 q3 Af cf g1 A4 c4 q5 y1 y2 _ _ (Kd.R_reads' (Kd.R_far (p:=⟨w7.heap.size,3,none⟩) S8.out (fun q hq=>hq.1) (.slice Af g1.length cf))).2.2 (Kd.R_reads' S8.out).2.1 (Kd.R_reads' (Kd.R_far (p:=⟨w7.heap.size,3,none⟩) SB8.out (fun q hq=>hq.1) (.slice Af g1.length cf))).2.2 (Kd.R_reads' SB8.out).2.1 HY.out).mono ?_;rintro E w9 ⟨rfl,hb9⟩;have S9:=Aside0.mk (Kd.R_below (Kd.R_far (p:=⟨w7.heap.size,3,none⟩) S8.out (fun q hq=>hq.1) (.slice Af g1.length cf)) hb9);have BX9:=Aside0.mk (blk_below (blk_put BX8.out 3 (.slice Af g1.length cf) rfl) hb9);have BR9:=Aside0.mk (blk_below ((Below.heap_setCell w8 ⟨w7.heap.size,3,none⟩ (.slice Af g1.length cf) R RX.out).trans BR8.out) hb9);have L9:=Aside0.mk ((L8.out.setCell (p:=⟨w7.heap.size,3,none⟩) LX.out (.slice Af g1.length cf)).trans (hbase zb89 hb9));obtain ⟨qR0,qR1,qR2,qR3,qR4,fR0,fR1,fR2,fR3,fR4⟩:=zq5 BR9.out;obtain ⟨qX0,qX1,qX2,qX3,qX4,fX0,fX1,fX2,fX3,fX4⟩:=zq5 (w:=w9) (g:=w7.heap.size) (x0:=.int .i64 q1) (x1:=.string q2) (x2:=.int .i64 q3) (x3:=.slice Af g1.length cf) (x4:=.slice A4 q5.length c4) BX9.out;clear hb9)
                        | (go_at_call 57;(try rw [← List.length_drop]);(with_reducible refine (CALL.out _ L9.out).mono ?_);rintro E w10 ⟨v10,rfl,h10,hb10⟩;obtain ⟨Ab,cb,rfl⟩:=Kd.R_slice h10;have SB10:=Aside0.mk (Kd.R_mono (Kd.R_bound h10) (fun q hq=>(⟨fun e=>by have z1:=hq.2.1;have z2:=blk_lt (BX9.out);omega,fun e=>by have z1:=hq.2.1;have z2:=blk_lt (BR9.out);omega⟩:q ≠ w7.heap.size∧q ≠ R)));have S10:=Aside0.mk (Kd.R_below S9.out hb10);have BX10:=Aside0.mk (blk_below BX9.out hb10);have BR10:=Aside0.mk (blk_below BR9.out hb10);have L10:=Aside0.mk (L9.out.trans (hbase (L9.out).size hb10));obtain ⟨qR0,qR1,qR2,qR3,qR4,fR0,fR1,fR2,fR3,fR4⟩:=zq5 BR10.out;obtain ⟨qX0,qX1,qX2,qX3,qX4,fX0,fX1,fX2,fX3,fX4⟩:=zq5 (w:=w10) (g:=w7.heap.size) (x0:=.int .i64 q1) (x1:=.string q2) (x2:=.int .i64 q3) (x3:=.slice Af g1.length cf) (x4:=.slice A4 q5.length c4) BX10.out;have BX11:=Aside0.mk (blk_put BX10.out 4 (.slice Ab z1.length cb) rfl);have BR11:=Aside0.mk ((Below.heap_setCell w10 ⟨w7.heap.size,4,none⟩ (.slice Ab z1.length cb) R RX.out).trans BR10.out);obtain ⟨qR0,qR1,qR2,qR3,qR4,fR0,fR1,fR2,fR3,fR4⟩:=zq5 (w:=(w10.setCell ⟨w7.heap.size,4,none⟩ (.slice Ab z1.length cb))) (g:=R) (x0:=.int .i64 0) (x1:=.string (⟨#[]⟩:ByteArray)) (x2:=.int .i64 0) (x3:=.slice none 0 0) (x4:=.slice none 0 0) BR11.out;obtain ⟨qX0,qX1,qX2,qX3,qX4,fX0,fX1,fX2,fX3,fX4⟩:=zq5 (w:=(w10.setCell ⟨w7.heap.size,4,none⟩ (.slice Ab z1.length cb))) (g:=w7.heap.size) (x0:=.int .i64 q1) (x1:=.string q2) (x2:=.int .i64 q3) (x3:=.slice Af g1.length cf) (x4:=.slice Ab z1.length cb) BX11.out;clear h10 hb10))
                      refine bodyPost_ret (results_ctt rfl _ _ R 25 #[.int .i64 0,.string (⟨#[]⟩:ByteArray),.int .i64 0,.slice none 0 0,.slice none 0 0] (0,0) _ rfl (blk5 BR10.out _ _ _ _ _) hu rfl zb9) rfl ?_
                      exact resp_none (put5 L10.out (Nat.le_of_eq ER.out.symm) _ _ _ _ _)
                · rw [if_neg b7] at h
                  cases h
              · rw [if_neg b6] at h
                cases h
        · rw [if_neg b3] at h'
          have h:=h'
          clear h'
          simp only [Option.some.injEq,Prod.mk.injEq] at h
          obtain ⟨rfl,rfl,rfl,rfl,rfl,rfl,e7⟩:=h
          subst e7
          have d3:(g2 != 0)=true:=bne_iff_ne.2 b3
          clear b3
          go_enter Tryz.func31,Tryz.ntmps31
          go_wp2_with (first
            | ((with_reducible refine gate_dst (N:=6) rfl ?_);refine box_event ?hg (N:=6) ?hd (cs:=#[.int .i64 0,.string (⟨#[]⟩:ByteArray),.int .i64 0,.slice none 0 0,.slice none 0 0]) (t:=25) ?hr ?_;(case hd=>rfl);(case hg=>rfl);(case hr=>first|(go_simp;done)|(go_simp;rfl));intro R hR w5 hBR hb5;have BR:=Aside0.mk hBR;have LR:=Aside0.mk hb5;have ER:=Aside0.mk hR;clear hBR hb5 hR)
            | (go_at_call 67;refine (tollbarref08_Lines.calls k A0 c0 l0 _ _ _ w5 (Kd.C_below HC.out LR.out) HCC.out HL.out).mono ?_;rintro E w6 ⟨v6,rfl,h6,hb6⟩;obtain ⟨As,cs,rfl⟩:=Kd.R_slice h6;have S6:=Aside0.mk h6;have L6:=Aside0.mk (LR.out.trans (hbase LR.out.size hb6));have BR6:=Aside0.mk (blk_below BR.out hb6);obtain ⟨qR0,qR1,qR2,qR3,qR4,fR0,fR1,fR2,fR3,fR4⟩:=zq5 BR6.out;obtain ⟨ad,ea,hx⟩:=Kd.at_string (Kd.R_reads' S6.out).2.2 0 zb25 NE.out;cases ea;rw [show ((0:Int)).toNat=0 from rfl] at hx;rw [Addr.add_zero'] at hx;obtain ⟨A1,hsl,hrd,hcc⟩:=print_drop_of (P:=Tryz.prog) Value.string ByteArray.empty 44 9 .i64 Tryz.underlying44 HI.out.1 HI.out.2 (some ad) cs ss 1 zb25 zb92 (Kd.R_reads' S6.out).2.1;rw [← HDS.out] at hsl hrd hcc;have HRD:=Aside0.mk hrd;have HDC:=Aside0.mk hcc;clear hrd hcc;clear h6 hb6)
            | (go_at_call 68;refine (tollbarref05_Status.calls k _ q1 q2 q3 q4 q5 _ w6 HQ.out).mono ?_;rintro E w7 ⟨v3,v4,rfl,h3,h4,hb7⟩;obtain ⟨A3,c3,rfl⟩:=Kd.R_slice h3;obtain ⟨A4,c4,rfl⟩:=Kd.R_slice h4;have S7:=Aside0.mk (Kd.R_alloc (Kd.R_below S6.out hb7) (.cells #[.int .i64 q1,.string q2,.int .i64 q3,.slice A3 q4.length c3,.slice A4 q5.length c4] 25 (0,0)));have SB7:=Aside0.mk (Kd.R_alloc (Kd.R_mono (Kd.R_bound h4) (fun q hq=>(⟨Nat.ne_of_lt hq.2.2.1,fun e=>by have z1:=hq.2.1;have z2:=blk_lt BR6.out;omega⟩:q ≠ w7.heap.size∧q ≠ R))) (.cells #[.int .i64 q1,.string q2,.int .i64 q3,.slice A3 q4.length c3,.slice A4 q5.length c4] 25 (0,0)));have L7:=Aside0.mk (below_alloc (L6.out.trans (hbase L6.out.size hb7)) (.cells #[.int .i64 q1,.string q2,.int .i64 q3,.slice A3 q4.length c3,.slice A4 q5.length c4] 25 (0,0)));have LX:=Aside0.mk (L6.out.trans (hbase L6.out.size hb7)).size;have BR7:=Aside0.mk (blk_alloc (blk_below BR6.out hb7) (.cells #[.int .i64 q1,.string q2,.int .i64 q3,.slice A3 q4.length c3,.slice A4 q5.length c4] 25 (0,0)));have RX:=Aside0.mk (Nat.ne_of_lt (blk_lt (blk_below BR6.out hb7)));have BX7:=Aside0.mk (blk_new w7 (.cells #[.int .i64 q1,.string q2,.int .i64 q3,.slice A3 q4.length c3,.slice A4 q5.length c4] 25 (0,0)));obtain ⟨qR0,qR1,qR2,qR3,qR4,fR0,fR1,fR2,fR3,fR4⟩:=zq5 (w:=(w7.alloc (.cells #[.int .i64 q1,.string q2,.int .i64 q3,.slice A3 q4.length c3,.slice A4 q5.length c4] 25 (0,0)))) (g:=R) (x0:=.int .i64 0) (x1:=.string (⟨#[]⟩:ByteArray)) (x2:=.int .i64 0) (x3:=.slice none 0 0) (x4:=.slice none 0 0) BR7.out;clear h3 h4 hb7)
            | (go_at_call 69;refine (tollbarref08_fields.calls k A1 _ ds g1 _ _ (Kd.C_of_reads (h1:=fun _=>rfl) (HRD.out _ (Kd.reads_of_C (d:=ByteArray.empty) (Kd.R_reads' S7.out).2.2))) HDC.out HG.out).mono ?_;rintro E w8 ⟨v8,rfl,h8,hb8⟩;obtain ⟨Af,cf,rfl⟩:=Kd.R_slice h8;have S8:=Aside0.mk (Kd.R_mono (Kd.R_bound h8) (fun q hq=>(⟨fun e=>by have z1:=hq.2.1;have z2:=blk_lt BX7.out;omega,fun e=>by have z1:=hq.2.1;have z2:=blk_lt BR7.out;omega⟩:q ≠ w7.heap.size∧q ≠ R)));have SB8:=Aside0.mk (Kd.R_below SB7.out hb8);have BX8:=Aside0.mk (blk_below BX7.out hb8);have BR8:=Aside0.mk (blk_below BR7.out hb8);have L8:=Aside0.mk (L7.out.trans (hbase L7.out.size hb8));obtain ⟨qR0,qR1,qR2,qR3,qR4,fR0,fR1,fR2,fR3,fR4⟩:=zq5 BR8.out;obtain ⟨qX0,qX1,qX2,qX3,qX4,fX0,fX1,fX2,fX3,fX4⟩:=zq5 (w:=w8) (g:=w7.heap.size) (x0:=.int .i64 q1) (x1:=.string q2) (x2:=.int .i64 q3) (x3:=.slice A3 q4.length c3) (x4:=.slice A4 q5.length c4) BX8.out;clear h8 hb8))
          refine bodyPost_ret (results_ctt rfl _ _ R 25 #[.int .i64 0,.string (⟨#[]⟩:ByteArray),.int .i64 0,.slice none 0 0,.slice none 0 0] (0,0) _ rfl (blk5 BR8.out _ _ _ _ _) hu rfl zb9) rfl ?_
          exact resp_none (put5 L8.out (Nat.le_of_eq ER.out.symm) _ _ _ _ _)
    · rw [if_neg b1] at h'
      cases h'
def tollbarref04_Same.l0:Nat → List (S55) → List (S55) → Int → Option (Bool)
 | 0,_,_,_=>none
 | k + 1,x0,x1,x5=>if x5 < (x0.length:Int) then (if 0 ≤ x5 then (if x5 < (x1.length:Int) then (if ((rd_T55 x0 x5).f0).toList=((rd_T55 x1 x5).f0).toList then (if ((rd_T55 x0 x5).f1).toList=((rd_T55 x1 x5).f1).toList then (tollbarref04_Same.l0 k x0 x1 (wrap64 (x5 + 1))) else (some false)) else (some false)) else (none)) else (none)) else (some true)
def tollbarref04_Same.f (k:Nat) (l0:List (S55)) (l1:List (S55)):Option (Bool):=if (l0.length:Int)=(l1.length:Int) then (tollbarref04_Same.l0 k l0 l1 0) else (some false)
set_option maxHeartbeats 8000000 in
set_option maxRecDepth 100000 in
theorem tollbarref04_Same.calls (k:Nat) (A0:Option Addr) (c0:Nat) (l0:List (S55)) (A1:Option Addr) (c1:Nat) (l1:List (S55)) (r:Bool) (w:World) (hr0:Kd.C k55 w A0 l0.length l0) (hc0:l0.length ≤ c0) (hr1:Kd.C k55 w A1 l1.length l1) (hc1:l1.length ≤ c1) (h:tollbarref04_Same.f k l0 l1=some r) :
  Calls Tryz.prog 41 #[.slice A0 l0.length c0,.slice A1 l1.length c1] w fun e w' => e = .returned (.bool r)∧Drawn0 w w' := by
 have HR0:=Aside0.mk hr0
 have HC0:=Aside0.mk hc0
 clear hr0 hc0
 have HR1:=Aside0.mk hr1
 have HC1:=Aside0.mk hc1
 clear hr1 hc1
 have H:(if (l0.length:Int)=(l1.length:Int) then (tollbarref04_Same.l0 k l0 l1 0) else (some false))=some r:=h
 clear h
 by_cases c3:(l0.length:Int)=(l1.length:Int);rotate_left
 ·rw [if_neg c3] at H
  have c3b0:=beq_eq_false_iff_ne.mpr c3
  have c3b1:=bne_iff_ne.mpr c3
  have c3b2:(l0.length == l1.length)=false:=by first|simpa using c3|(simp at c3 ⊢;omega)
  obtain rfl:=Option.some.inj H
  go_enter Tryz.func41,Tryz.ntmps41
  go_wp2
  repeat (go_quiet (fail);try go_wp2)
  go_ret
  exact ⟨zb4,zb8⟩
 rw [if_pos c3] at H
 have c3b0:=beq_iff_eq.mpr c3
 have c3b1:=bne_eq_false_iff_eq.mpr c3
 have c3b2:(l0.length == l1.length)=true:=by first|simpa using c3|(simp at c3 ⊢;omega)
 clear c3
 have H' := Aside0.mk H
 clear H
 go_enter Tryz.func41,Tryz.ntmps41
 go_wp2
 repeat (go_quiet (fail);try go_wp2)
 go_loopg [5] k (fun kq v5 w' => ∃ (x5_1:Int),v5 = .int .i64 x5_1∧Aside0 (tollbarref04_Same.l0 kq l0 l1 x5_1=some r)∧Aside0 (kq ≤ k)∧Drawn0 w w')
 case atStart=>exact ⟨(0),zb4,H',⟨Nat.le_refl _⟩,zb8⟩
 case round =>
  clear H'
  try clear c1
  try clear p2
  try clear c3
  try clear c3b0
  try clear c3b1
  try clear c3b2
  obtain ⟨x5_1,rfl,HA,HK1,⟨m1,rfl⟩⟩:=hrel
  cases gk with
  | zero=>exact absurd HA.out (by simp [tollbarref04_Same.l0])
  | succ k1 =>
   have H:=HA.out
   clear HA
   simp only [tollbarref04_Same.l0] at H
   by_cases c4:x5_1 < (l0.length:Int)
   ·rw [if_pos c4] at H
    have c4b0:decide (x5_1 < (l0.length:Int))=true:=decide_eq_true c4
    clear c4
    by_cases c5:0 ≤ x5_1
    ·rw [if_pos c5] at H
     have c5b0:decide (0 ≤ x5_1)=true:=decide_eq_true c5
     clear c5
     by_cases c6:x5_1 < (l1.length:Int);rotate_left
     ·rw [if_neg c6] at H
      exact absurd H zb27
     rw [if_pos c6] at H
     have c6b0:decide (x5_1 < (l1.length:Int))=true:=decide_eq_true c6
     clear c6
     by_cases c7:((rd_T55 l0 x5_1).f0).toList=((rd_T55 l1 x5_1).f0).toList;rotate_left
     ·rw [if_neg c7] at H
      have c7b0:=beq_eq_false_iff_ne.mpr c7
      have c7b1:=bne_iff_ne.mpr c7
      obtain rfl:=Option.some.inj H
      have p336:0 ≤ (x5_1:Int):=of_decide_eq_true zb2
      have q336:x5_1 < (l0.length:Int):=of_decide_eq_true zb2
      obtain ⟨ad336,e336,hx336_0,hx336_1⟩:=at_T55 HR0.out x5_1 p336 q336
      cases e336
      replace p336:=eq_true p336
      replace q336:=eq_true q336
      have p337:0 ≤ (x5_1:Int):=of_decide_eq_true zb2
      have q337:x5_1 < (l1.length:Int):=of_decide_eq_true zb2
      obtain ⟨ad337,e337,hx337_0,hx337_1⟩:=at_T55 HR1.out x5_1 p337 q337
      cases e337
      replace p337:=eq_true p337
      replace q337:=eq_true q337
      go_wp2
      repeat (go_quiet (fail);try go_wp2)
      go_ret
      exact ⟨zb4,zb8⟩
     rw [if_pos c7] at H
     have c7b0:=beq_iff_eq.mpr c7
     have c7b1:=bne_eq_false_iff_eq.mpr c7
     clear c7
     by_cases c8:((rd_T55 l0 x5_1).f1).toList=((rd_T55 l1 x5_1).f1).toList;rotate_left
     ·rw [if_neg c8] at H
      have c8b0:=beq_eq_false_iff_ne.mpr c8
      have c8b1:=bne_iff_ne.mpr c8
      obtain rfl:=Option.some.inj H
      have p336:0 ≤ (x5_1:Int):=of_decide_eq_true zb2
      have q336:x5_1 < (l0.length:Int):=of_decide_eq_true zb2
      obtain ⟨ad336,e336,hx336_0,hx336_1⟩:=at_T55 HR0.out x5_1 p336 q336
      cases e336
      replace p336:=eq_true p336
      replace q336:=eq_true q336
      have p337:0 ≤ (x5_1:Int):=of_decide_eq_true zb2
      have q337:x5_1 < (l1.length:Int):=of_decide_eq_true zb2
      obtain ⟨ad337,e337,hx337_0,hx337_1⟩:=at_T55 HR1.out x5_1 p337 q337
      cases e337
      replace p337:=eq_true p337
      replace q337:=eq_true q337
      have p338:0 ≤ (x5_1:Int):=of_decide_eq_true zb2
      have q338:x5_1 < (l0.length:Int):=of_decide_eq_true zb2
      obtain ⟨ad338,e338,hx338_0,hx338_1⟩:=at_T55 HR0.out x5_1 p338 q338
      obtain rfl:ad336=ad338:=(by injection e338)
      replace p338:=eq_true p338
      replace q338:=eq_true q338
      have p339:0 ≤ (x5_1:Int):=of_decide_eq_true zb2
      have q339:x5_1 < (l1.length:Int):=of_decide_eq_true zb2
      obtain ⟨ad339,e339,hx339_0,hx339_1⟩:=at_T55 HR1.out x5_1 p339 q339
      obtain rfl:ad337=ad339:=(by injection e339)
      replace p339:=eq_true p339
      replace q339:=eq_true q339
      go_wp2
      repeat (go_quiet (fail);try go_wp2)
      go_ret
      exact ⟨zb4,zb8⟩
     rw [if_pos c8] at H
     have c8b0:=beq_iff_eq.mpr c8
     have c8b1:=bne_eq_false_iff_eq.mpr c8
     clear c8
     have H' := Aside0.mk H
     clear H
     have p336:0 ≤ (x5_1:Int):=of_decide_eq_true zb2
     have q336:x5_1 < (l0.length:Int):=of_decide_eq_true zb2
     obtain ⟨ad336,e336,hx336_0,hx336_1⟩:=at_T55 HR0.out x5_1 p336 q336
     cases e336
     replace p336:=eq_true p336
     replace q336:=eq_true q336
     have p337:0 ≤ (x5_1:Int):=of_decide_eq_true zb2
     have q337:x5_1 < (l1.length:Int):=of_decide_eq_true zb2
     obtain ⟨ad337,e337,hx337_0,hx337_1⟩:=at_T55 HR1.out x5_1 p337 q337
     cases e337
     replace p337:=eq_true p337
     replace q337:=eq_true q337
     have p338:0 ≤ (x5_1:Int):=of_decide_eq_true zb2
     have q338:x5_1 < (l0.length:Int):=of_decide_eq_true zb2
     obtain ⟨ad338,e338,hx338_0,hx338_1⟩:=at_T55 HR0.out x5_1 p338 q338
     obtain rfl:ad336=ad338:=(by injection e338)
     replace p338:=eq_true p338
     replace q338:=eq_true q338
     have p339:0 ≤ (x5_1:Int):=of_decide_eq_true zb2
     have q339:x5_1 < (l1.length:Int):=of_decide_eq_true zb2
     obtain ⟨ad339,e339,hx339_0,hx339_1⟩:=at_T55 HR1.out x5_1 p339 q339
     obtain rfl:ad337=ad339:=(by injection e339)
     replace p339:=eq_true p339
     replace q339:=eq_true q339
     go_wp2
     repeat (go_quiet (fail);try go_wp2)
     go_roundg k1
     case measure=>have:=HK1.out;omega
     case rel=>exact ⟨(wrap64 (x5_1 + 1)),zb4,H',⟨zb74⟩,zb8⟩
    ·rw [if_neg c5] at H
     exact absurd H zb27
   ·rw [if_neg c4] at H
    have c4b0:decide (x5_1 < (l0.length:Int))=false:=decide_eq_false c4
    clear c4
    obtain rfl:=Option.some.inj H
    go_wp2
    repeat (go_quiet (fail);try go_wp2)
    go_ret
    exact ⟨zb4,zb8⟩
def tollbarref08_SameResp.f (k:Nat) (a0_0:Int) (a0_1:ByteArray) (a0_2:Int) (l0_3:List (S55)) (l0_4:List Int) (a1_0:Int) (a1_1:ByteArray) (a1_2:Int) (l1_3:List (S55)) (l1_4:List Int):Option (Bool):=if a0_0=a1_0 then (if a0_1.toList=a1_1.toList then (if a0_2=a1_2 then ((tollbarref04_Same.f k l0_3 l1_3).bind fun t344=>(if t344=true then ((tollbarref01_SameBytes.f k l0_4 l1_4).bind fun t345=>(some t345)) else (some false))) else (some false)) else (some false)) else (some false)
set_option maxHeartbeats 8000000 in
set_option maxRecDepth 100000 in
theorem tollbarref08_SameResp.calls (k:Nat) (a0_0:Int) (a0_1:ByteArray) (a0_2:Int) (A0_3:Option Addr) (c0_3:Nat) (l0_3:List (S55)) (A0_4:Option Addr) (c0_4:Nat) (l0_4:List Int) (a1_0:Int) (a1_1:ByteArray) (a1_2:Int) (A1_3:Option Addr) (c1_3:Nat) (l1_3:List (S55)) (A1_4:Option Addr) (c1_4:Nat) (l1_4:List Int) (r:Bool) (w:World) (hr0_3:Kd.C k55 w A0_3 l0_3.length l0_3) (hc0_3:l0_3.length ≤ c0_3) (hr0_4:Kd.C (Kd.int .u8) w A0_4 l0_4.length l0_4) (hc0_4:l0_4.length ≤ c0_4) (hr1_3:Kd.C k55 w A1_3 l1_3.length l1_3) (hc1_3:l1_3.length ≤ c1_3) (hr1_4:Kd.C (Kd.int .u8) w A1_4 l1_4.length l1_4) (hc1_4:l1_4.length ≤ c1_4) (h:tollbarref08_SameResp.f k a0_0 a0_1 a0_2 l0_3 l0_4 a1_0 a1_1 a1_2 l1_3 l1_4=some r) :
  Calls Tryz.prog 14 #[.agg #[.int .i64 a0_0,.string a0_1,.int .i64 a0_2,.slice A0_3 l0_3.length c0_3,.slice A0_4 l0_4.length c0_4],.agg #[.int .i64 a1_0,.string a1_1,.int .i64 a1_2,.slice A1_3 l1_3.length c1_3,.slice A1_4 l1_4.length c1_4]] w fun e w' => e = .returned (.bool r)∧Below w.heap.size w w' := by
 have hu25:=Tryz.underlying25
 have HR0_3:=Aside0.mk hr0_3
 have HC0_3:=Aside0.mk hc0_3
 clear hr0_3 hc0_3
 have HR0_4:=Aside0.mk hr0_4
 have HC0_4:=Aside0.mk hc0_4
 clear hr0_4 hc0_4
 have HR1_3:=Aside0.mk hr1_3
 have HC1_3:=Aside0.mk hc1_3
 clear hr1_3 hc1_3
 have HR1_4:=Aside0.mk hr1_4
 have HC1_4:=Aside0.mk hc1_4
 clear hr1_4 hc1_4
 have HB:=Aside0.mk (Below.refl w.heap.size w)
 have H:(if a0_0=a1_0 then (if a0_1.toList=a1_1.toList then (if a0_2=a1_2 then ((tollbarref04_Same.f k l0_3 l1_3).bind fun t37=>(if t37=true then ((tollbarref01_SameBytes.f k l0_4 l1_4).bind fun t36=>(some t36)) else (some false))) else (some false)) else (some false)) else (some false))=some r:=h
 clear h
 by_cases c3:a0_0=a1_0;rotate_left
 ·rw [if_neg c3] at H
  have c3b0:=beq_eq_false_iff_ne.mpr c3
  have c3b1:=bne_iff_ne.mpr c3
  obtain rfl:=Option.some.inj H
  go_enter Tryz.func14,Tryz.ntmps14
  go_wp2_with (first|((with_reducible refine gate_dst (N:=2) rfl ?_);refine box_event ?hg (N:=2) ?hd (cs:=#[.int .i64 a0_0,.string a0_1,.int .i64 a0_2,.slice A0_3 l0_3.length c0_3,.slice A0_4 l0_4.length c0_4]) (t:=25) ?hr ?_;(case hd=>rfl);(case hg=>rfl);(case hr=>first|(go_simp;done)|(go_simp;rfl));intro gb34 hg w29 hbox hb;have GW34:=zG hg zb0;have GE34:=GW34;have BK34:=Aside0.mk hbox;replace HB:=Aside0.mk (below_step zb0 hb);clear hb hbox hg)|((with_reducible refine gate_dst (N:=3) rfl ?_);refine box_event ?hg (N:=3) ?hd (cs:=#[.int .i64 a1_0,.string a1_1,.int .i64 a1_2,.slice A1_3 l1_3.length c1_3,.slice A1_4 l1_4.length c1_4]) (t:=25) ?hr ?_;(case hd=>rfl);(case hg=>rfl);(case hr=>first|(go_simp;done)|(go_simp;rfl));intro gb35 hg w30 hbox hb;have n0_:=Aside0.mk (blk_below (g:=gb34) (o:=.cells #[.int .i64 a0_0,.string a0_1,.int .i64 a0_2,.slice A0_3 l0_3.length c0_3,.slice A0_4 l0_4.length c0_4] 25 (0,0)) zb28 hb);have n1_:=Aside0.mk (below_step zb19 hb);have n2_:=Aside0.mk (hbox);have n3_:=zG hg zb19;have n4_:=zG hg zb19;have n5_:=Aside0.mk ((by rw [hg];exact Nat.ne_of_lt (blk_lt (g:=gb34) (o:=.cells #[.int .i64 a0_0,.string a0_1,.int .i64 a0_2,.slice A0_3 l0_3.length c0_3,.slice A0_4 l0_4.length c0_4] 25 (0,0)) zb28):gb34 ≠ gb35));have n6_:=Aside0.mk ((by rw [hg];exact Nat.ne_of_gt (blk_lt (g:=gb34) (o:=.cells #[.int .i64 a0_0,.string a0_1,.int .i64 a0_2,.slice A0_3 l0_3.length c0_3,.slice A0_4 l0_4.length c0_4] 25 (0,0)) zb28):gb35 ≠ gb34));clear BK34;clear HB;have BK34:=n0_;have HB:=n1_;have BK35:=n2_;have GW35:=n3_;have GE35:=n4_;have NB34_343:=n5_;have NB35_342:=n6_;clear n0_ n1_ n2_ n3_ n4_ n5_ n6_;clear hb hbox hg;have hnb31:=NB34_343.out;have hnc31:=NB35_342.out;have hcz32_0:w30.cell? ⟨gb34,0,none⟩=some (.int .i64 a0_0):=(blk_cell BK34.out 0).trans rfl;have hcz32_1:w30.cell? ⟨gb34,1,none⟩=some (.string a0_1):=(blk_cell BK34.out 1).trans rfl;have hcz32_2:w30.cell? ⟨gb34,2,none⟩=some (.int .i64 a0_2):=(blk_cell BK34.out 2).trans rfl;have hcz32_3:w30.cell? ⟨gb34,3,none⟩=some (.slice A0_3 l0_3.length c0_3):=(blk_cell BK34.out 3).trans rfl;have hcz32_4:w30.cell? ⟨gb34,4,none⟩=some (.slice A0_4 l0_4.length c0_4):=(blk_cell BK34.out 4).trans rfl;have hfz32_0:=blk_frozen BK34.out 0;have hfz32_1:=blk_frozen BK34.out 1;have hfz32_2:=blk_frozen BK34.out 2;have hfz32_3:=blk_frozen BK34.out 3;have hfz32_4:=blk_frozen BK34.out 4;have hcz33_0:w30.cell? ⟨gb35,0,none⟩=some (.int .i64 a1_0):=(blk_cell BK35.out 0).trans rfl;have hcz33_1:w30.cell? ⟨gb35,1,none⟩=some (.string a1_1):=(blk_cell BK35.out 1).trans rfl;have hcz33_2:w30.cell? ⟨gb35,2,none⟩=some (.int .i64 a1_2):=(blk_cell BK35.out 2).trans rfl;have hcz33_3:w30.cell? ⟨gb35,3,none⟩=some (.slice A1_3 l1_3.length c1_3):=(blk_cell BK35.out 3).trans rfl;have hcz33_4:w30.cell? ⟨gb35,4,none⟩=some (.slice A1_4 l1_4.length c1_4):=(blk_cell BK35.out 4).trans rfl;have hfz33_0:=blk_frozen BK35.out 0;have hfz33_1:=blk_frozen BK35.out 1;have hfz33_2:=blk_frozen BK35.out 2;have hfz33_3:=blk_frozen BK35.out 3;have hfz33_4:=blk_frozen BK35.out 4))
  go_ret
  exact ⟨zb3,zb34⟩
 rw [if_pos c3] at H
 have c3b0:=beq_iff_eq.mpr c3
 have c3b1:=bne_eq_false_iff_eq.mpr c3
 clear c3
 by_cases c4:a0_1.toList=a1_1.toList
 ·rw [if_pos c4] at H
  have c4b0:=beq_iff_eq.mpr c4
  have c4b1:=bne_eq_false_iff_eq.mpr c4
  clear c4
  by_cases c5:a0_2=a1_2;rotate_left
  ·rw [if_neg c5] at H
   have c5b0:=beq_eq_false_iff_ne.mpr c5
   have c5b1:=bne_iff_ne.mpr c5
   obtain rfl:=Option.some.inj H
   go_enter Tryz.func14,Tryz.ntmps14
   go_wp2_with (first|((with_reducible refine gate_dst (N:=2) rfl ?_);refine box_event ?hg (N:=2) ?hd (cs:=#[.int .i64 a0_0,.string a0_1,.int .i64 a0_2,.slice A0_3 l0_3.length c0_3,.slice A0_4 l0_4.length c0_4]) (t:=25) ?hr ?_;(case hd=>rfl);(case hg=>rfl);(case hr=>first|(go_simp;done)|(go_simp;rfl));intro gb34 hg w19 hbox hb;have GW34:=zG hg zb0;have GE34:=GW34;have BK34:=Aside0.mk hbox;replace HB:=Aside0.mk (below_step zb0 hb);clear hb hbox hg)|((with_reducible refine gate_dst (N:=3) rfl ?_);refine box_event ?hg (N:=3) ?hd (cs:=#[.int .i64 a1_0,.string a1_1,.int .i64 a1_2,.slice A1_3 l1_3.length c1_3,.slice A1_4 l1_4.length c1_4]) (t:=25) ?hr ?_;(case hd=>rfl);(case hg=>rfl);(case hr=>first|(go_simp;done)|(go_simp;rfl));intro gb35 hg w20 hbox hb;have n0_:=Aside0.mk (blk_below (g:=gb34) (o:=.cells #[.int .i64 a0_0,.string a0_1,.int .i64 a0_2,.slice A0_3 l0_3.length c0_3,.slice A0_4 l0_4.length c0_4] 25 (0,0)) zb28 hb);have n1_:=Aside0.mk (below_step zb19 hb);have n2_:=Aside0.mk (hbox);have n3_:=zG hg zb19;have n4_:=zG hg zb19;have n5_:=Aside0.mk ((by rw [hg];exact Nat.ne_of_lt (blk_lt (g:=gb34) (o:=.cells #[.int .i64 a0_0,.string a0_1,.int .i64 a0_2,.slice A0_3 l0_3.length c0_3,.slice A0_4 l0_4.length c0_4] 25 (0,0)) zb28):gb34 ≠ gb35));have n6_:=Aside0.mk ((by rw [hg];exact Nat.ne_of_gt (blk_lt (g:=gb34) (o:=.cells #[.int .i64 a0_0,.string a0_1,.int .i64 a0_2,.slice A0_3 l0_3.length c0_3,.slice A0_4 l0_4.length c0_4] 25 (0,0)) zb28):gb35 ≠ gb34));clear BK34;clear HB;have BK34:=n0_;have HB:=n1_;have BK35:=n2_;have GW35:=n3_;have GE35:=n4_;have NB34_343:=n5_;have NB35_342:=n6_;clear n0_ n1_ n2_ n3_ n4_ n5_ n6_;clear hb hbox hg;have hnb21:=NB34_343.out;have hnc21:=NB35_342.out;have hcz22_0:w20.cell? ⟨gb34,0,none⟩=some (.int .i64 a0_0):=(blk_cell BK34.out 0).trans rfl;have hcz22_1:w20.cell? ⟨gb34,1,none⟩=some (.string a0_1):=(blk_cell BK34.out 1).trans rfl;have hcz22_2:w20.cell? ⟨gb34,2,none⟩=some (.int .i64 a0_2):=(blk_cell BK34.out 2).trans rfl;have hcz22_3:w20.cell? ⟨gb34,3,none⟩=some (.slice A0_3 l0_3.length c0_3):=(blk_cell BK34.out 3).trans rfl;have hcz22_4:w20.cell? ⟨gb34,4,none⟩=some (.slice A0_4 l0_4.length c0_4):=(blk_cell BK34.out 4).trans rfl;have hfz22_0:=blk_frozen BK34.out 0;have hfz22_1:=blk_frozen BK34.out 1;have hfz22_2:=blk_frozen BK34.out 2;have hfz22_3:=blk_frozen BK34.out 3;have hfz22_4:=blk_frozen BK34.out 4;have hcz23_0:w20.cell? ⟨gb35,0,none⟩=some (.int .i64 a1_0):=(blk_cell BK35.out 0).trans rfl;have hcz23_1:w20.cell? ⟨gb35,1,none⟩=some (.string a1_1):=(blk_cell BK35.out 1).trans rfl;have hcz23_2:w20.cell? ⟨gb35,2,none⟩=some (.int .i64 a1_2):=(blk_cell BK35.out 2).trans rfl;have hcz23_3:w20.cell? ⟨gb35,3,none⟩=some (.slice A1_3 l1_3.length c1_3):=(blk_cell BK35.out 3).trans rfl;have hcz23_4:w20.cell? ⟨gb35,4,none⟩=some (.slice A1_4 l1_4.length c1_4):=(blk_cell BK35.out 4).trans rfl;have hfz23_0:=blk_frozen BK35.out 0;have hfz23_1:=blk_frozen BK35.out 1;have hfz23_2:=blk_frozen BK35.out 2;have hfz23_3:=blk_frozen BK35.out 3;have hfz23_4:=blk_frozen BK35.out 4))
   go_ret
   exact ⟨zb3,zb34⟩
  rw [if_pos c5] at H
  have c5b0:=beq_iff_eq.mpr c5
  have c5b1:=bne_eq_false_iff_eq.mpr c5
  clear c5
  replace H:=Option.bind_eq_some_iff.mp H
  obtain ⟨t37,A60,H⟩:=H
  try dsimp only at H
  have A6:=Aside0.mk A60
  clear A60
  by_cases c7:t37=true
  ·subst c7
   rw [if_pos rfl] at H
   replace H:=Option.bind_eq_some_iff.mp H
   obtain ⟨t36,A80,H⟩:=H
   try dsimp only at H
   have A8:=Aside0.mk A80
   clear A80
   obtain rfl:=Option.some.inj H
   go_enter Tryz.func14,Tryz.ntmps14
   go_wp2_with (first|((with_reducible refine gate_dst (N:=2) rfl ?_);refine box_event ?hg (N:=2) ?hd (cs:=#[.int .i64 a0_0,.string a0_1,.int .i64 a0_2,.slice A0_3 l0_3.length c0_3,.slice A0_4 l0_4.length c0_4]) (t:=25) ?hr ?_;(case hd=>rfl);(case hg=>rfl);(case hr=>first|(go_simp;done)|(go_simp;rfl));intro gb34 hg w9 hbox hb;have GW34:=zG hg zb0;have GE34:=GW34;have BK34:=Aside0.mk hbox;replace HB:=Aside0.mk (below_step zb0 hb);clear hb hbox hg)|((with_reducible refine gate_dst (N:=3) rfl ?_);refine box_event ?hg (N:=3) ?hd (cs:=#[.int .i64 a1_0,.string a1_1,.int .i64 a1_2,.slice A1_3 l1_3.length c1_3,.slice A1_4 l1_4.length c1_4]) (t:=25) ?hr ?_;(case hd=>rfl);(case hg=>rfl);(case hr=>first|(go_simp;done)|(go_simp;rfl));intro gb35 hg w10 hbox hb;have n0_:=Aside0.mk (blk_below (g:=gb34) (o:=.cells #[.int .i64 a0_0,.string a0_1,.int .i64 a0_2,.slice A0_3 l0_3.length c0_3,.slice A0_4 l0_4.length c0_4] 25 (0,0)) zb28 hb);have n1_:=Aside0.mk (below_step zb19 hb);have n2_:=Aside0.mk (hbox);have n3_:=zG hg zb19;have n4_:=zG hg zb19;have n5_:=Aside0.mk ((by rw [hg];exact Nat.ne_of_lt (blk_lt (g:=gb34) (o:=.cells #[.int .i64 a0_0,.string a0_1,.int .i64 a0_2,.slice A0_3 l0_3.length c0_3,.slice A0_4 l0_4.length c0_4] 25 (0,0)) zb28):gb34 ≠ gb35));have n6_:=Aside0.mk ((by rw [hg];exact Nat.ne_of_gt (blk_lt (g:=gb34) (o:=.cells #[.int .i64 a0_0,.string a0_1,.int .i64 a0_2,.slice A0_3 l0_3.length c0_3,.slice A0_4 l0_4.length c0_4] 25 (0,0)) zb28):gb35 ≠ gb34));clear BK34;clear HB;have BK34:=n0_;have HB:=n1_;have BK35:=n2_;have GW35:=n3_;have GE35:=n4_;have NB34_343:=n5_;have NB35_342:=n6_;clear n0_ n1_ n2_ n3_ n4_ n5_ n6_;clear hb hbox hg;have hnb11:=NB34_343.out;have hnc11:=NB35_342.out;have hcz12_0:w10.cell? ⟨gb34,0,none⟩=some (.int .i64 a0_0):=(blk_cell BK34.out 0).trans rfl;have hcz12_1:w10.cell? ⟨gb34,1,none⟩=some (.string a0_1):=(blk_cell BK34.out 1).trans rfl;have hcz12_2:w10.cell? ⟨gb34,2,none⟩=some (.int .i64 a0_2):=(blk_cell BK34.out 2).trans rfl;have hcz12_3:w10.cell? ⟨gb34,3,none⟩=some (.slice A0_3 l0_3.length c0_3):=(blk_cell BK34.out 3).trans rfl;have hcz12_4:w10.cell? ⟨gb34,4,none⟩=some (.slice A0_4 l0_4.length c0_4):=(blk_cell BK34.out 4).trans rfl;have hfz12_0:=blk_frozen BK34.out 0;have hfz12_1:=blk_frozen BK34.out 1;have hfz12_2:=blk_frozen BK34.out 2;have hfz12_3:=blk_frozen BK34.out 3;have hfz12_4:=blk_frozen BK34.out 4;have hcz13_0:w10.cell? ⟨gb35,0,none⟩=some (.int .i64 a1_0):=(blk_cell BK35.out 0).trans rfl;have hcz13_1:w10.cell? ⟨gb35,1,none⟩=some (.string a1_1):=(blk_cell BK35.out 1).trans rfl;have hcz13_2:w10.cell? ⟨gb35,2,none⟩=some (.int .i64 a1_2):=(blk_cell BK35.out 2).trans rfl;have hcz13_3:w10.cell? ⟨gb35,3,none⟩=some (.slice A1_3 l1_3.length c1_3):=(blk_cell BK35.out 3).trans rfl;have hcz13_4:w10.cell? ⟨gb35,4,none⟩=some (.slice A1_4 l1_4.length c1_4):=(blk_cell BK35.out 4).trans rfl;have hfz13_0:=blk_frozen BK35.out 0;have hfz13_1:=blk_frozen BK35.out 1;have hfz13_2:=blk_frozen BK35.out 2;have hfz13_3:=blk_frozen BK35.out 3;have hfz13_4:=blk_frozen BK35.out 4)|(go_at_call 41;(with_reducible refine (tollbarref04_Same.calls k _ _ l0_3 _ _ l1_3 true _ ?side1 ?side2 ?side3 ?side4 A6.out).mono ?_);(case side1=>repeat (first|exact (Kd.C_below HR0_3.out HB.out)|(with_reducible refine Kd.C_alloc ?_ _)|(with_reducible refine Kd.C_drewN ?_ _)|(with_reducible refine Kd.C_drew ?_)));(case side2=>exact HC0_3.out);(case side3=>repeat (first|exact (Kd.C_below HR1_3.out HB.out)|(with_reducible refine Kd.C_alloc ?_ _)|(with_reducible refine Kd.C_drewN ?_ _)|(with_reducible refine Kd.C_drew ?_)));(case side4=>exact HC1_3.out);rintro e w' ⟨rfl,⟨nd,rfl⟩⟩;(try clear A6))|(go_at_call 35;(with_reducible refine (tollbarref01_SameBytes.calls k _ _ l0_4 _ _ l1_4 t36 _ ?side1 ?side2 ?side3 ?side4 A8.out).mono ?_);(case side1=>repeat (first|exact (Kd.C_below HR0_4.out zb34)|(with_reducible refine Kd.C_alloc ?_ _)|(with_reducible refine Kd.C_drewN ?_ _)|(with_reducible refine Kd.C_drew ?_)));(case side2=>exact HC0_4.out);(case side3=>repeat (first|exact (Kd.C_below HR1_4.out zb34)|(with_reducible refine Kd.C_alloc ?_ _)|(with_reducible refine Kd.C_drewN ?_ _)|(with_reducible refine Kd.C_drew ?_)));(case side4=>exact HC1_4.out);rintro e w' ⟨rfl,⟨nd,rfl⟩⟩;(try clear A8)))
   go_ret
   exact ⟨zb3,zb34⟩
  ·replace c7:=Bool.eq_false_iff.mpr c7
   subst c7
   rw [if_neg (show ¬ (false=true) by decide)] at H
   obtain rfl:=Option.some.inj H
   go_enter Tryz.func14,Tryz.ntmps14
   go_wp2_with (first|((with_reducible refine gate_dst (N:=2) rfl ?_);refine box_event ?hg (N:=2) ?hd (cs:=#[.int .i64 a0_0,.string a0_1,.int .i64 a0_2,.slice A0_3 l0_3.length c0_3,.slice A0_4 l0_4.length c0_4]) (t:=25) ?hr ?_;(case hd=>rfl);(case hg=>rfl);(case hr=>first|(go_simp;done)|(go_simp;rfl));intro gb34 hg w14 hbox hb;have GW34:=zG hg zb0;have GE34:=GW34;have BK34:=Aside0.mk hbox;replace HB:=Aside0.mk (below_step zb0 hb);clear hb hbox hg)|((with_reducible refine gate_dst (N:=3) rfl ?_);refine box_event ?hg (N:=3) ?hd (cs:=#[.int .i64 a1_0,.string a1_1,.int .i64 a1_2,.slice A1_3 l1_3.length c1_3,.slice A1_4 l1_4.length c1_4]) (t:=25) ?hr ?_;(case hd=>rfl);(case hg=>rfl);(case hr=>first|(go_simp;done)|(go_simp;rfl));intro gb35 hg w15 hbox hb;have n0_:=Aside0.mk (blk_below (g:=gb34) (o:=.cells #[.int .i64 a0_0,.string a0_1,.int .i64 a0_2,.slice A0_3 l0_3.length c0_3,.slice A0_4 l0_4.length c0_4] 25 (0,0)) zb28 hb);have n1_:=Aside0.mk (below_step zb19 hb);have n2_:=Aside0.mk (hbox);have n3_:=zG hg zb19;have n4_:=zG hg zb19;have n5_:=Aside0.mk ((by rw [hg];exact Nat.ne_of_lt (blk_lt (g:=gb34) (o:=.cells #[.int .i64 a0_0,.string a0_1,.int .i64 a0_2,.slice A0_3 l0_3.length c0_3,.slice A0_4 l0_4.length c0_4] 25 (0,0)) zb28):gb34 ≠ gb35));have n6_:=Aside0.mk ((by rw [hg];exact Nat.ne_of_gt (blk_lt (g:=gb34) (o:=.cells #[.int .i64 a0_0,.string a0_1,.int .i64 a0_2,.slice A0_3 l0_3.length c0_3,.slice A0_4 l0_4.length c0_4] 25 (0,0)) zb28):gb35 ≠ gb34));clear BK34;clear HB;have BK34:=n0_;have HB:=n1_;have BK35:=n2_;have GW35:=n3_;have GE35:=n4_;have NB34_343:=n5_;have NB35_342:=n6_;clear n0_ n1_ n2_ n3_ n4_ n5_ n6_;clear hb hbox hg;have hnb16:=NB34_343.out;have hnc16:=NB35_342.out;have hcz17_0:w15.cell? ⟨gb34,0,none⟩=some (.int .i64 a0_0):=(blk_cell BK34.out 0).trans rfl;have hcz17_1:w15.cell? ⟨gb34,1,none⟩=some (.string a0_1):=(blk_cell BK34.out 1).trans rfl;have hcz17_2:w15.cell? ⟨gb34,2,none⟩=some (.int .i64 a0_2):=(blk_cell BK34.out 2).trans rfl;have hcz17_3:w15.cell? ⟨gb34,3,none⟩=some (.slice A0_3 l0_3.length c0_3):=(blk_cell BK34.out 3).trans rfl;have hcz17_4:w15.cell? ⟨gb34,4,none⟩=some (.slice A0_4 l0_4.length c0_4):=(blk_cell BK34.out 4).trans rfl;have hfz17_0:=blk_frozen BK34.out 0;have hfz17_1:=blk_frozen BK34.out 1;have hfz17_2:=blk_frozen BK34.out 2;have hfz17_3:=blk_frozen BK34.out 3;have hfz17_4:=blk_frozen BK34.out 4;have hcz18_0:w15.cell? ⟨gb35,0,none⟩=some (.int .i64 a1_0):=(blk_cell BK35.out 0).trans rfl;have hcz18_1:w15.cell? ⟨gb35,1,none⟩=some (.string a1_1):=(blk_cell BK35.out 1).trans rfl;have hcz18_2:w15.cell? ⟨gb35,2,none⟩=some (.int .i64 a1_2):=(blk_cell BK35.out 2).trans rfl;have hcz18_3:w15.cell? ⟨gb35,3,none⟩=some (.slice A1_3 l1_3.length c1_3):=(blk_cell BK35.out 3).trans rfl;have hcz18_4:w15.cell? ⟨gb35,4,none⟩=some (.slice A1_4 l1_4.length c1_4):=(blk_cell BK35.out 4).trans rfl;have hfz18_0:=blk_frozen BK35.out 0;have hfz18_1:=blk_frozen BK35.out 1;have hfz18_2:=blk_frozen BK35.out 2;have hfz18_3:=blk_frozen BK35.out 3;have hfz18_4:=blk_frozen BK35.out 4)|(go_at_call 41;(with_reducible refine (tollbarref04_Same.calls k _ _ l0_3 _ _ l1_3 false _ ?side1 ?side2 ?side3 ?side4 A6.out).mono ?_);(case side1=>repeat (first|exact (Kd.C_below HR0_3.out HB.out)|(with_reducible refine Kd.C_alloc ?_ _)|(with_reducible refine Kd.C_drewN ?_ _)|(with_reducible refine Kd.C_drew ?_)));(case side2=>exact HC0_3.out);(case side3=>repeat (first|exact (Kd.C_below HR1_3.out HB.out)|(with_reducible refine Kd.C_alloc ?_ _)|(with_reducible refine Kd.C_drewN ?_ _)|(with_reducible refine Kd.C_drew ?_)));(case side4=>exact HC1_3.out);rintro e w' ⟨rfl,⟨nd,rfl⟩⟩;(try clear A6)))
   go_ret
   exact ⟨zb3,zb34⟩
 ·rw [if_neg c4] at H
  have c4b0:=beq_eq_false_iff_ne.mpr c4
  have c4b1:=bne_iff_ne.mpr c4
  obtain rfl:=Option.some.inj H
  go_enter Tryz.func14,Tryz.ntmps14
  go_wp2_with (first|((with_reducible refine gate_dst (N:=2) rfl ?_);refine box_event ?hg (N:=2) ?hd (cs:=#[.int .i64 a0_0,.string a0_1,.int .i64 a0_2,.slice A0_3 l0_3.length c0_3,.slice A0_4 l0_4.length c0_4]) (t:=25) ?hr ?_;(case hd=>rfl);(case hg=>rfl);(case hr=>first|(go_simp;done)|(go_simp;rfl));intro gb34 hg w24 hbox hb;have GW34:=zG hg zb0;have GE34:=GW34;have BK34:=Aside0.mk hbox;replace HB:=Aside0.mk (below_step zb0 hb);clear hb hbox hg)|((with_reducible refine gate_dst (N:=3) rfl ?_);refine box_event ?hg (N:=3) ?hd (cs:=#[.int .i64 a1_0,.string a1_1,.int .i64 a1_2,.slice A1_3 l1_3.length c1_3,.slice A1_4 l1_4.length c1_4]) (t:=25) ?hr ?_;(case hd=>rfl);(case hg=>rfl);(case hr=>first|(go_simp;done)|(go_simp;rfl));intro gb35 hg w25 hbox hb;have n0_:=Aside0.mk (blk_below (g:=gb34) (o:=.cells #[.int .i64 a0_0,.string a0_1,.int .i64 a0_2,.slice A0_3 l0_3.length c0_3,.slice A0_4 l0_4.length c0_4] 25 (0,0)) zb28 hb);have n1_:=Aside0.mk (below_step zb19 hb);have n2_:=Aside0.mk (hbox);have n3_:=zG hg zb19;have n4_:=zG hg zb19;have n5_:=Aside0.mk ((by rw [hg];exact Nat.ne_of_lt (blk_lt (g:=gb34) (o:=.cells #[.int .i64 a0_0,.string a0_1,.int .i64 a0_2,.slice A0_3 l0_3.length c0_3,.slice A0_4 l0_4.length c0_4] 25 (0,0)) zb28):gb34 ≠ gb35));have n6_:=Aside0.mk ((by rw [hg];exact Nat.ne_of_gt (blk_lt (g:=gb34) (o:=.cells #[.int .i64 a0_0,.string a0_1,.int .i64 a0_2,.slice A0_3 l0_3.length c0_3,.slice A0_4 l0_4.length c0_4] 25 (0,0)) zb28):gb35 ≠ gb34));clear BK34;clear HB;have BK34:=n0_;have HB:=n1_;have BK35:=n2_;have GW35:=n3_;have GE35:=n4_;have NB34_343:=n5_;have NB35_342:=n6_;clear n0_ n1_ n2_ n3_ n4_ n5_ n6_;clear hb hbox hg;have hnb26:=NB34_343.out;have hnc26:=NB35_342.out;have hcz27_0:w25.cell? ⟨gb34,0,none⟩=some (.int .i64 a0_0):=(blk_cell BK34.out 0).trans rfl;have hcz27_1:w25.cell? ⟨gb34,1,none⟩=some (.string a0_1):=(blk_cell BK34.out 1).trans rfl;have hcz27_2:w25.cell? ⟨gb34,2,none⟩=some (.int .i64 a0_2):=(blk_cell BK34.out 2).trans rfl;have hcz27_3:w25.cell? ⟨gb34,3,none⟩=some (.slice A0_3 l0_3.length c0_3):=(blk_cell BK34.out 3).trans rfl;have hcz27_4:w25.cell? ⟨gb34,4,none⟩=some (.slice A0_4 l0_4.length c0_4):=(blk_cell BK34.out 4).trans rfl;have hfz27_0:=blk_frozen BK34.out 0;have hfz27_1:=blk_frozen BK34.out 1;have hfz27_2:=blk_frozen BK34.out 2;have hfz27_3:=blk_frozen BK34.out 3;have hfz27_4:=blk_frozen BK34.out 4;have hcz28_0:w25.cell? ⟨gb35,0,none⟩=some (.int .i64 a1_0):=(blk_cell BK35.out 0).trans rfl;have hcz28_1:w25.cell? ⟨gb35,1,none⟩=some (.string a1_1):=(blk_cell BK35.out 1).trans rfl;have hcz28_2:w25.cell? ⟨gb35,2,none⟩=some (.int .i64 a1_2):=(blk_cell BK35.out 2).trans rfl;have hcz28_3:w25.cell? ⟨gb35,3,none⟩=some (.slice A1_3 l1_3.length c1_3):=(blk_cell BK35.out 3).trans rfl;have hcz28_4:w25.cell? ⟨gb35,4,none⟩=some (.slice A1_4 l1_4.length c1_4):=(blk_cell BK35.out 4).trans rfl;have hfz28_0:=blk_frozen BK35.out 0;have hfz28_1:=blk_frozen BK35.out 1;have hfz28_2:=blk_frozen BK35.out 2;have hfz28_3:=blk_frozen BK35.out 3;have hfz28_4:=blk_frozen BK35.out 4))
  go_ret
  exact ⟨zb3,zb34⟩
def tollbarlaw08_HttpResponses.f (k:Nat) (l0:List Int) (a1:ByteArray) (a2:Bool):Option (Bool):=(tollbarlaw08_answering.f).bind fun t897=>(if t897=true then (if (l0.length:Int) > 8000 then (some true) else ((http_Response.f k l0 a1 a2).bind fun bt898=>((tollbarref08_Response.f k l0 a1 a2).bind fun bt910=>(if bt898.2.2.2.2.2.1=bt910.2.2.2.2.2.1 then (if (bt898.2.2.2.2.2.2 == bt910.2.2.2.2.2.2)=true then ((tollbarref08_SameResp.f k bt898.1 bt898.2.1 bt898.2.2.1 bt898.2.2.2.1 bt898.2.2.2.2.1 bt910.1 bt910.2.1 bt910.2.2.1 bt910.2.2.2.1 bt910.2.2.2.2.1).bind fun t922=>(some t922)) else (some false)) else (some false))))) else (some false))
set_option maxHeartbeats 8000000 in
set_option maxRecDepth 100000 in
theorem tollbarlaw08_HttpResponses.calls (k:Nat) (A0:Option Addr) (c0:Nat) (l0:List Int) (a1:ByteArray) (a2:Bool) (r:Bool) (w:World) (hr0:Kd.C (Kd.int .u8) w A0 l0.length l0) (hc0:l0.length ≤ c0) (h:tollbarlaw08_HttpResponses.f k l0 a1 a2=some r) (hr:r=true) (ht:Tabs w) :
  Calls Tryz.prog 5 #[.slice A0 l0.length c0,.string a1,.bool a2] w fun e w' => e = .returned (.bool r)∧Below w.heap.size w w' := by
 have HTB:=Aside0.mk ht
 clear ht
 have HRT:=Aside0.mk hr
 clear hr
 have hu25:=Tryz.underlying25
 have HR0:=Aside0.mk hr0
 have HC0:=Aside0.mk hc0
 clear hr0 hc0
 have HB:=Aside0.mk (Below.refl w.heap.size w)
 have H:((tollbarlaw08_answering.f).bind fun t52=>(if t52=true then (if (l0.length:Int) > 8000 then (some true) else ((http_Response.f k l0 a1 a2).bind fun bt33=>((tollbarref08_Response.f k l0 a1 a2).bind fun bt32=>(if bt33.2.2.2.2.2.1=bt32.2.2.2.2.2.1 then (if (bt33.2.2.2.2.2.2 == bt32.2.2.2.2.2.2)=true then ((tollbarref08_SameResp.f k bt33.1 bt33.2.1 bt33.2.2.1 bt33.2.2.2.1 bt33.2.2.2.2.1 bt32.1 bt32.2.1 bt32.2.2.1 bt32.2.2.2.1 bt32.2.2.2.2.1).bind fun t45=>(some t45)) else (some false)) else (some false))))) else (some false)))=some r:=h
 clear h
 replace H:=Option.bind_eq_some_iff.mp H
 obtain ⟨t52,A40,H⟩:=H
 try dsimp only at H
 have A4:=Aside0.mk A40
 clear A40
 by_cases c5:t52=true;rotate_left
 ·replace c5:=Bool.eq_false_iff.mpr c5
  subst c5
  rw [if_neg (show ¬ (false=true) by decide)] at H
  exact absurd ((Option.some.inj H).trans HRT.out) zb72
 subst c5
 rw [if_pos rfl] at H
 by_cases c6:(l0.length:Int) > 8000
 ·rw [if_pos c6] at H
  have c6b0:decide (8000 < (l0.length:Int))=true:=decide_eq_true c6
  have c6b1:decide (8000 < l0.length)=true:=decide_eq_true zb25
  clear c6
  obtain rfl:=Option.some.inj H
  go_enter Tryz.func5,Tryz.ntmps5
  go_wp2_with (first|((with_reducible refine gate_callee (f:=29) rfl ?_);refine goesL_ (some 13) rfl rfl Tryz.func29 zb9 rfl #[] rfl zb1 ?_;(with_reducible refine (tollbarlaw08_answering.calls  true _ A4.out ?hT).mono ?_);(case hT=>exact HTB.out.below zb64);rintro e w7 ⟨rfl,hb⟩;(try clear A4);refine ⟨_,rfl,?_⟩;have n0_:=Aside0.mk (below_step zb0 hb);clear HB;have HB:=n0_;clear n0_;(try clear hb);(try clear hb2);(try clear hk);(try clear hi)))
  go_ret
  exact ⟨zb3,zb0⟩
 rw [if_neg c6] at H
 have c6b0:decide (8000 < (l0.length:Int))=false:=decide_eq_false c6
 have c6b1:decide (8000 < l0.length)=false:=decide_eq_false zb25
 clear c6
 replace H:=Option.bind_eq_some_iff.mp H
 obtain ⟨⟨t33,t34,t36,t35,t38,t50,t46⟩,A80,H⟩:=H
 try dsimp only at H
 have A8:=Aside0.mk A80
 clear A80
 replace H:=Option.bind_eq_some_iff.mp H
 obtain ⟨⟨t32,t41,t43,t42,t44,t51,t47⟩,A90,H⟩:=H
 try dsimp only at H
 have A9:=Aside0.mk A90
 clear A90
 by_cases c10:t50=t51
 ·rw [if_pos c10] at H
  have c10b0:=beq_iff_eq.mpr c10
  have c10b1:=bne_eq_false_iff_eq.mpr c10
  clear c10
  by_cases c11:(t46 == t47)=true;rotate_left
  ·rw [if_neg c11] at H
   have c11b0:(t46 == t47)=false:=by simpa using c11
   (try (have c11b1:decide (t46=t47)=false:=by simpa using c11))
   (try (have c11b2:(t46 == t47)=false:=by simpa using c11))
   (try (have c11b3 : ¬ (t46=t47):=by simpa using c11))
   clear c11
   exact absurd ((Option.some.inj H).trans HRT.out) zb72
  rw [if_pos c11] at H
  have c11b0:(t46 == t47)=true:=c11
  (try (have c11b1:decide (t46=t47)=true:=by simpa using c11))
  (try (have c11b2:(t46 == t47)=true:=by simpa using c11))
  clear c11
  replace H:=Option.bind_eq_some_iff.mp H
  obtain ⟨t45,A53,H⟩:=H
  try dsimp only at H
  have A12:=Aside0.mk A53
  clear A53
  obtain rfl:=Option.some.inj H
  go_enter Tryz.func5,Tryz.ntmps5
  go_wp2_with (first|((with_reducible refine gate_callee (f:=29) rfl ?_);refine goesL_ (some 13) rfl rfl Tryz.func29 zb9 rfl #[] rfl zb1 ?_;(with_reducible refine (tollbarlaw08_answering.calls  true _ A4.out ?hT).mono ?_);(case hT=>exact HTB.out.below zb64);rintro e w13 ⟨rfl,hb⟩;(try clear A4);refine ⟨_,rfl,?_⟩;have n0_:=Aside0.mk (below_step zb0 hb);clear HB;have HB:=n0_;clear n0_;(try clear hb);(try clear hb2);(try clear hk);(try clear hi))|((with_reducible refine gate_callee (f:=30) rfl ?_);refine goesL_ (some 22) rfl rfl Tryz.func30 zb9 rfl #[.slice A0 l0.length c0,.string a1,.bool a2] rfl zb1 ?_;(with_reducible refine (http_Response.calls k _ _ l0 a1 a2 t33 t34 t36 t35 t38 t50 t46 _ ?side1 ?side2 A8.out).mono ?_);(case side1=>repeat (first|exact (Kd.C_below HR0.out HB.out)|(with_reducible refine Kd.C_alloc ?_ _)|(with_reducible refine Kd.C_drewN ?_ _)|(with_reducible refine Kd.C_drew ?_)));(case side2=>exact HC0.out);rintro e w14 ⟨v54,v55,rfl,ho0,ho1,hb⟩;(try clear A8);refine ⟨_,rfl,?_⟩;have n0_:=Aside0.mk (Kd.R_lower ho0 (below_size zb0));have n1_:=Aside0.mk (Kd.R_lower ho1 (below_size zb0));have n2_:=Aside0.mk (below_step zb0 hb);clear HB;have HO37:=n0_;have HO39:=n1_;have HB:=n2_;clear n0_ n1_ n2_;(try clear hb);(try clear hb2);(try clear hk);(try clear hi);(try clear ho0);(try clear ho1))|((with_reducible refine gate_dst (N:=7) rfl ?_);refine box_event ?hg (N:=7) ?hd (cs:=#[.int .i64 0,.string (⟨#[]⟩:ByteArray),.int .i64 0,.slice none 0 0,.slice none 0 0]) (t:=25) ?hr ?_;(case hd=>rfl);(case hg=>rfl);(case hr=>first|(go_simp;done)|(go_simp;rfl));intro gb27 hg w15 hbox hb;have n0_:=Aside0.mk (Kd.R_below (by (with_reducible repeat (first|apply Kd.R_alloc|apply Kd.R_drewN|apply Kd.R_drew));exact HO37.out) hb);have n1_:=Aside0.mk (Kd.R_below (by (with_reducible repeat (first|apply Kd.R_alloc|apply Kd.R_drewN|apply Kd.R_drew));exact HO39.out) hb);have n2_:=Aside0.mk (below_step zb0 hb);have n3_:=Aside0.mk (hbox);have n4_:=zG hg zb0;have n5_:=zG hg zb0;clear HO37;clear HO39;clear HB;have HO37:=n0_;have HO39:=n1_;have HB:=n2_;have BK27:=n3_;have GW27:=n4_;have GE27:=n5_;clear n0_ n1_ n2_ n3_ n4_ n5_;clear hb hbox hg;have hcz16_0:w15.cell? ⟨gb27,0,none⟩=some (.int .i64 0):=(blk_cell BK27.out 0).trans rfl;have hcz16_1:w15.cell? ⟨gb27,1,none⟩=some (.string (⟨#[]⟩:ByteArray)):=(blk_cell BK27.out 1).trans rfl;have hcz16_2:w15.cell? ⟨gb27,2,none⟩=some (.int .i64 0):=(blk_cell BK27.out 2).trans rfl;have hcz16_3:w15.cell? ⟨gb27,3,none⟩=some (.slice none 0 0):=(blk_cell BK27.out 3).trans rfl;have hcz16_4:w15.cell? ⟨gb27,4,none⟩=some (.slice none 0 0):=(blk_cell BK27.out 4).trans rfl;have hfz16_0:=blk_frozen BK27.out 0;have hfz16_1:=blk_frozen BK27.out 1;have hfz16_2:=blk_frozen BK27.out 2;have hfz16_3:=blk_frozen BK27.out 3;have hfz16_4:=blk_frozen BK27.out 4;obtain ⟨Ao17,co17,eo17⟩:=Kd.R_slice HO37.out;subst eo17;obtain ⟨Ao18,co18,eo18⟩:=Kd.R_slice HO39.out;subst eo18)|((with_reducible refine gate_callee (f:=31) rfl ?_);refine goesL_ (some 30) rfl rfl Tryz.func31 zb9 rfl #[.slice A0 l0.length c0,.string a1,.bool a2] rfl zb1 ?_;(with_reducible refine (tollbarref08_Response.calls k _ _ l0 a1 a2 t32 t41 t43 t42 t44 t51 t47 _ ?side1 ?side2 A9.out).mono ?_);(case side1=>exact Kd.C_below HR0.out zb39);(case side2=>exact HC0.out);rintro e w19 ⟨v56,v57,rfl,ho0,ho1,hb⟩;(try clear A9);refine ⟨_,rfl,?_⟩;have n0_:=Aside0.mk (Kd.R_elder' zb41 (Kd.R_base ho0) hb);have n1_:=Aside0.mk (Kd.R_elder' zb42 (Kd.R_base ho1) hb);have n2_:=Aside0.mk (Kd.R_lower (Kd.R_new' ho0 (Kd.R_lt zb41)) (below_size zb39));have n3_:=Aside0.mk (Kd.R_lower (Kd.R_new' ho1 (Kd.R_lt zb42)) (below_size zb39));have n4_:=Aside0.mk (blk_below (g:=gb27) (o:=.cells #[.int .i64 t33,.string t34,.int .i64 t36,.slice Ao17 t35.length co17,.slice Ao18 t38.length co18] 25 (0,0)) (by (with_reducible repeat (first|refine blk_drewN ?_ _|refine blk_drew ?_|refine blk_alloc ?_ _));refine blk_put (cs:=#[.int .i64 t33,.string t34,.int .i64 t36,.slice Ao17 t35.length co17,.slice none 0 0]) ?_ 4 _ rfl;(with_reducible repeat (first|refine blk_drewN ?_ _|refine blk_drew ?_|refine blk_alloc ?_ _));refine blk_put (cs:=#[.int .i64 t33,.string t34,.int .i64 t36,.slice none 0 0,.slice none 0 0]) ?_ 3 _ rfl;(with_reducible repeat (first|refine blk_drewN ?_ _|refine blk_drew ?_|refine blk_alloc ?_ _));refine blk_put (cs:=#[.int .i64 t33,.string t34,.int .i64 0,.slice none 0 0,.slice none 0 0]) ?_ 2 _ rfl;(with_reducible repeat (first|refine blk_drewN ?_ _|refine blk_drew ?_|refine blk_alloc ?_ _));refine blk_put (cs:=#[.int .i64 t33,.string (⟨#[]⟩:ByteArray),.int .i64 0,.slice none 0 0,.slice none 0 0]) ?_ 1 _ rfl;(with_reducible repeat (first|refine blk_drewN ?_ _|refine blk_drew ?_|refine blk_alloc ?_ _));refine blk_put (cs:=#[.int .i64 0,.string (⟨#[]⟩:ByteArray),.int .i64 0,.slice none 0 0,.slice none 0 0]) ?_ 0 _ rfl;(with_reducible repeat (first|refine blk_drewN ?_ _|refine blk_drew ?_|refine blk_alloc ?_ _));exact BK27.out) hb);have n5_:=Aside0.mk (below_step zb39 hb);clear HO37;clear HO39;clear BK27;clear HB;have HO37:=n0_;have HO39:=n1_;have HO48:=n2_;have HO49:=n3_;have BK27:=n4_;have HB:=n5_;clear n0_ n1_ n2_ n3_ n4_ n5_;(try clear hb);(try clear hb2);(try clear hk);(try clear hi);(try clear ho0);(try clear ho1))|((with_reducible refine gate_dst (N:=10) rfl ?_);refine box_event ?hg (N:=10) ?hd (cs:=#[.int .i64 0,.string (⟨#[]⟩:ByteArray),.int .i64 0,.slice none 0 0,.slice none 0 0]) (t:=25) ?hr ?_;(case hd=>rfl);(case hg=>rfl);(case hr=>first|(go_simp;done)|(go_simp;rfl));intro gb28 hg w20 hbox hb;have n0_:=Aside0.mk (Kd.R_below (by (with_reducible repeat (first|apply Kd.R_alloc|apply Kd.R_drewN|apply Kd.R_drew));exact HO37.out) hb);have n1_:=Aside0.mk (Kd.R_below (by (with_reducible repeat (first|apply Kd.R_alloc|apply Kd.R_drewN|apply Kd.R_drew));exact HO39.out) hb);have n2_:=Aside0.mk (Kd.R_below (by (with_reducible repeat (first|apply Kd.R_alloc|apply Kd.R_drewN|apply Kd.R_drew));exact HO48.out) hb);have n3_:=Aside0.mk (Kd.R_below (by (with_reducible repeat (first|apply Kd.R_alloc|apply Kd.R_drewN|apply Kd.R_drew));exact HO49.out) hb);have n4_:=Aside0.mk (blk_below (g:=gb27) (o:=.cells #[.int .i64 t33,.string t34,.int .i64 t36,.slice Ao17 t35.length co17,.slice Ao18 t38.length co18] 25 (0,0)) zb83 hb);have n5_:=Aside0.mk (below_step zb39 hb);have n6_:=Aside0.mk (hbox);have n7_:=zG hg zb39;have n8_:=zG hg zb39;have n9_:=Aside0.mk ((by rw [hg];exact Nat.ne_of_lt (blk_lt (g:=gb27) (o:=.cells #[.int .i64 t33,.string t34,.int .i64 t36,.slice Ao17 t35.length co17,.slice Ao18 t38.length co18] 25 (0,0)) zb83):gb27 ≠ gb28));have n10_:=Aside0.mk ((by rw [hg];exact Nat.ne_of_gt (blk_lt (g:=gb27) (o:=.cells #[.int .i64 t33,.string t34,.int .i64 t36,.slice Ao17 t35.length co17,.slice Ao18 t38.length co18] 25 (0,0)) zb83):gb28 ≠ gb27));clear HO37;clear HO39;clear HO48;clear HO49;clear BK27;clear HB;have HO37:=n0_;have HO39:=n1_;have HO48:=n2_;have HO49:=n3_;have BK27:=n4_;have HB:=n5_;have BK28:=n6_;have GW28:=n7_;have GE28:=n8_;have NB27_921:=n9_;have NB28_909:=n10_;clear n0_ n1_ n2_ n3_ n4_ n5_ n6_ n7_ n8_ n9_ n10_;clear hb hbox hg;have hnb21:=NB28_909.out;have hnc21:=NB27_921.out;have hcz22_0:w20.cell? ⟨gb28,0,none⟩=some (.int .i64 0):=(blk_cell BK28.out 0).trans rfl;have hcz22_1:w20.cell? ⟨gb28,1,none⟩=some (.string (⟨#[]⟩:ByteArray)):=(blk_cell BK28.out 1).trans rfl;have hcz22_2:w20.cell? ⟨gb28,2,none⟩=some (.int .i64 0):=(blk_cell BK28.out 2).trans rfl;have hcz22_3:w20.cell? ⟨gb28,3,none⟩=some (.slice none 0 0):=(blk_cell BK28.out 3).trans rfl;have hcz22_4:w20.cell? ⟨gb28,4,none⟩=some (.slice none 0 0):=(blk_cell BK28.out 4).trans rfl;have hfz22_0:=blk_frozen BK28.out 0;have hfz22_1:=blk_frozen BK28.out 1;have hfz22_2:=blk_frozen BK28.out 2;have hfz22_3:=blk_frozen BK28.out 3;have hfz22_4:=blk_frozen BK28.out 4;obtain ⟨Ao23,co23,eo23⟩:=Kd.R_slice HO48.out;subst eo23;obtain ⟨Ao24,co24,eo24⟩:=Kd.R_slice HO49.out;subst eo24;have hcz25_0:w20.cell? ⟨gb27,0,none⟩=some (.int .i64 t33):=(blk_cell BK27.out 0).trans rfl;have hcz25_1:w20.cell? ⟨gb27,1,none⟩=some (.string t34):=(blk_cell BK27.out 1).trans rfl;have hcz25_2:w20.cell? ⟨gb27,2,none⟩=some (.int .i64 t36):=(blk_cell BK27.out 2).trans rfl;have hcz25_3:w20.cell? ⟨gb27,3,none⟩=some (.slice Ao17 t35.length co17):=(blk_cell BK27.out 3).trans rfl;have hcz25_4:w20.cell? ⟨gb27,4,none⟩=some (.slice Ao18 t38.length co18):=(blk_cell BK27.out 4).trans rfl;have hfz25_0:=blk_frozen BK27.out 0;have hfz25_1:=blk_frozen BK27.out 1;have hfz25_2:=blk_frozen BK27.out 2;have hfz25_3:=blk_frozen BK27.out 3;have hfz25_4:=blk_frozen BK27.out 4)|(go_at_call 14;(with_reducible refine (tollbarref08_SameResp.calls k t33 t34 t36 _ _ t35 _ _ t38 t32 t41 t43 _ _ t42 _ _ t44 t45 _ ?side1 ?side2 ?side3 ?side4 ?side5 ?side6 ?side7 ?side8 A12.out).mono ?_);(case side1=>refine (Kd.R_reads' (e:=55) (base:=w.heap.size) (ok:=fun k_=>(True∧some k_ ≠ (.slice Ao23 t42.length co23:Value).ownBlock)) (n:=t35.length) (c:=co17) ?_).2.2;exact zb43);(case side2=>exact (Kd.R_reads' HO37.out).2.1);(case side3=>refine (Kd.R_reads' (e:=5) (base:=w.heap.size) (ok:=fun k_=>(True∧some k_ ≠ (.slice Ao24 t44.length co24:Value).ownBlock)) (n:=t38.length) (c:=co18) ?_).2.2;exact zb44);(case side4=>exact (Kd.R_reads' HO39.out).2.1);(case side5=>refine (Kd.R_reads' (e:=55) (base:=w.heap.size) (ok:=fun k_=>(True∧some k_ ≠ (.slice Ao17 t35.length co17:Value).ownBlock)) (n:=t42.length) (c:=co23) ?_).2.2;exact zb45);(case side6=>exact (Kd.R_reads' HO48.out).2.1);(case side7=>refine (Kd.R_reads' (e:=5) (base:=w.heap.size) (ok:=fun k_=>(True∧some k_ ≠ (.slice Ao18 t38.length co18:Value).ownBlock)) (n:=t44.length) (c:=co24) ?_).2.2;exact zb46);(case side8=>exact (Kd.R_reads' HO49.out).2.1);rintro e w26 ⟨rfl,hb⟩;(try clear A12);have n0_:=Aside0.mk (Kd.R_below zb43 hb);have n1_:=Aside0.mk (Kd.R_below zb44 hb);have n2_:=Aside0.mk (Kd.R_below zb45 hb);have n3_:=Aside0.mk (Kd.R_below zb46 hb);have n4_:=Aside0.mk (blk_below (g:=gb27) (o:=.cells #[.int .i64 t33,.string t34,.int .i64 t36,.slice Ao17 t35.length co17,.slice Ao18 t38.length co18] 25 (0,0)) (by (with_reducible repeat (first|refine blk_drewN ?_ _|refine blk_drew ?_|refine blk_alloc ?_ _));refine blk_far ?_ NB27_921.out _;(with_reducible repeat (first|refine blk_drewN ?_ _|refine blk_drew ?_|refine blk_alloc ?_ _));refine blk_far ?_ NB27_921.out _;(with_reducible repeat (first|refine blk_drewN ?_ _|refine blk_drew ?_|refine blk_alloc ?_ _));refine blk_far ?_ NB27_921.out _;(with_reducible repeat (first|refine blk_drewN ?_ _|refine blk_drew ?_|refine blk_alloc ?_ _));refine blk_far ?_ NB27_921.out _;(with_reducible repeat (first|refine blk_drewN ?_ _|refine blk_drew ?_|refine blk_alloc ?_ _));refine blk_far ?_ NB27_921.out _;(with_reducible repeat (first|refine blk_drewN ?_ _|refine blk_drew ?_|refine blk_alloc ?_ _));exact BK27.out) hb);have n5_:=Aside0.mk (blk_below (g:=gb28) (o:=.cells #[.int .i64 t32,.string t41,.int .i64 t43,.slice Ao23 t42.length co23,.slice Ao24 t44.length co24] 25 (0,0)) (by (with_reducible repeat (first|refine blk_drewN ?_ _|refine blk_drew ?_|refine blk_alloc ?_ _));refine blk_put (cs:=#[.int .i64 t32,.string t41,.int .i64 t43,.slice Ao23 t42.length co23,.slice none 0 0]) ?_ 4 _ rfl;(with_reducible repeat (first|refine blk_drewN ?_ _|refine blk_drew ?_|refine blk_alloc ?_ _));refine blk_put (cs:=#[.int .i64 t32,.string t41,.int .i64 t43,.slice none 0 0,.slice none 0 0]) ?_ 3 _ rfl;(with_reducible repeat (first|refine blk_drewN ?_ _|refine blk_drew ?_|refine blk_alloc ?_ _));refine blk_put (cs:=#[.int .i64 t32,.string t41,.int .i64 0,.slice none 0 0,.slice none 0 0]) ?_ 2 _ rfl;(with_reducible repeat (first|refine blk_drewN ?_ _|refine blk_drew ?_|refine blk_alloc ?_ _));refine blk_put (cs:=#[.int .i64 t32,.string (⟨#[]⟩:ByteArray),.int .i64 0,.slice none 0 0,.slice none 0 0]) ?_ 1 _ rfl;(with_reducible repeat (first|refine blk_drewN ?_ _|refine blk_drew ?_|refine blk_alloc ?_ _));refine blk_put (cs:=#[.int .i64 0,.string (⟨#[]⟩:ByteArray),.int .i64 0,.slice none 0 0,.slice none 0 0]) ?_ 0 _ rfl;(with_reducible repeat (first|refine blk_drewN ?_ _|refine blk_drew ?_|refine blk_alloc ?_ _));exact BK28.out) hb);have n6_:=Aside0.mk (below_step zb64 hb);clear HO37;clear HO39;clear HO48;clear HO49;clear BK27;clear BK28;clear HB;have HO37:=n0_;have HO39:=n1_;have HO48:=n2_;have HO49:=n3_;have BK27:=n4_;have BK28:=n5_;have HB:=n6_;clear n0_ n1_ n2_ n3_ n4_ n5_ n6_;(try clear hb);(try clear hb2);(try clear hk);(try clear hi)))
  go_ret
  exact ⟨zb3,zb64⟩
 ·rw [if_neg c10] at H
  have c10b0:=beq_eq_false_iff_ne.mpr c10
  have c10b1:=bne_iff_ne.mpr c10
  exact absurd ((Option.some.inj H).trans HRT.out) zb72
/-- THE ONE PURE STATEMENT of tollbarlaw08_HttpResponses: yours. -/
def tollbarlaw08_HttpResponses.Pure:Prop := ∀ (l0:List Int) (a1:ByteArray) (a2:Bool),l0.length ≤ maxLen → l0.length * 1 ≤ 140737488351232 → (∀ x ∈ l0,(Lit.int .u8 x).wf=true) → a1.size ≤ 140737488351232 → ∃ k,tollbarlaw08_HttpResponses.f k l0 a1 a2=some true
end Go.Proofs.YtfjeinnemimjoaaGreatDoor.P
namespace Go.Proofs.YtfjeinnemimjoaaGreatDoor.Pure
open Go.RowKit Go.Proofs.YtfjeinnemimjoaaGreatDoor.P Go.Proofs.YtfjeinnemimjoaaGreatDoorW.PrintWords Go.Proofs.YtfjeinnemimjoaaGreatDoorW.PrintLast Go.Proofs.YtfjeinnemimjoaaGreatDoorW.PrintMore
set_option linter.unusedVariables false
set_option linter.unusedSimpArgs false
theorem str_append (xs ys:List Int):strOfNums (xs ++ ys)=strOfNums xs ++ strOfNums ys:=by
 apply ByteArray.ext
 simp [strOfNums]
theorem str_size (xs:List Int):(strOfNums xs).size=xs.length:=strOfNums_size xs
theorem take_two (l:List Int) (i:Int) (h0:0 ≤ i) (h:i + 1 < (l.length:Int)):l.take (i + 2).toNat=l.take i.toNat ++ [rd l i,rd l (i + 1)]:=by
 obtain ⟨n,rfl⟩:=Int.eq_ofNat_of_zero_le h0
 have e1:((n:Int) + 2).toNat=n + 1 + 1:=by omega
 have h1:n + 1 < l.length:=by omega
 rw [e1,List.take_succ_eq_append_getElem h1,List.take_succ_eq_append_getElem (by omega)]
 have e2:((n:Int) + 1).toNat=n + 1:=by omega
 simp only [Int.toNat_natCast,rd,e2,List.getD_eq_getElem?_getD,List.getElem?_eq_getElem h1,List.getElem?_eq_getElem (show n < l.length by omega),Option.getD_some,List.append_assoc,List.cons_append,List.nil_append]
theorem w64 {i:Int} {n:Nat} (c:Int) (h0:0 ≤ i) (h:i < (n:Int)) (hn:n ≤ 140737488355328) (hc0 : -3 ≤ c) (hc:c ≤ 3):wrap64 (i + c)=i + c:=by
 unfold wrap64;omega
theorem toList_data (s:ByteArray):s.toList=s.data.toList:=by
 simp [ByteArray.toList_eq]
theorem isEmpty_size (s:ByteArray):s.toList.isEmpty=decide (s.size=0):=by
 rw [toList_data,Bool.eq_iff_iff,List.isEmpty_iff,decide_eq_true_eq,← data_length]
 exact List.length_eq_zero_iff.symm
theorem fold_tells (s:ByteArray) (hn:s.size ≤ 140737488355328):sign_Fold.f s=some (strOfNums ((bytesOf s).map foldC)):=if_pos hn
def Bytes (xs:List Int):Prop := ∀ x ∈ xs,0 ≤ x∧x ≤ 255
theorem bytes_of (s:ByteArray):Bytes (bytesOf s):=by
 intro x hx
 obtain ⟨b,_,rfl⟩:=List.mem_map.1 hx
 have:=b.toNat_lt
 omega
theorem foldC_byte (x:Int) (h0:0 ≤ x) (h1:x ≤ 255):0 ≤ foldC x∧foldC x ≤ 255:=by unfold foldC;split <;> omega
theorem bytes_fold {xs:List Int} (h:Bytes xs):Bytes (xs.map foldC):=by
 intro x hx
 obtain ⟨y,hy,rfl⟩:=List.mem_map.1 hx
 exact foldC_byte y (h y hy).1 (h y hy).2
theorem bytes_str {xs:List Int} (h:Bytes xs):bytesOf (strOfNums xs)=xs:=by
 unfold bytesOf
 rw [strOfNums_data,List.map_map]
 conv=>rhs;rw [← List.map_id xs]
 refine List.map_congr_left fun x hx=>?_
 have:=h x hx
 show ((UInt8.ofNat x.toNat).toNat:Int)=x
 rw [UInt8.toNat_ofNat']
 omega
theorem str_inj {xs ys:List Int} (hx:Bytes xs) (hy:Bytes ys):((strOfNums xs).toList == (strOfNums ys).toList)=decide (xs=ys):=by
 rw [Bool.eq_iff_iff,beq_iff_eq,decide_eq_true_eq]
 refine ⟨fun e=>?_,fun e=>by rw [e]⟩
 rw [← bytes_str hx,← bytes_str hy]
 unfold bytesOf
 rw [← toList_data,← toList_data,e]
theorem same_tells (a b:ByteArray) (ha:a.size ≤ 140737488355328) (hb:b.size ≤ 140737488355328):sign_Same.f a b=some (decide ((bytesOf a).map foldC=(bytesOf b).map foldC)):=by
 unfold sign_Same.f
 by_cases h:(a.size:Int)=b.size
 ·rw [if_pos h,fold_tells a ha,Option.bind_some,fold_tells b hb,Option.bind_some,str_inj (bytes_fold (bytes_of a)) (bytes_fold (bytes_of b))]
 ·rw [if_neg h]
  have hne : ¬ ((bytesOf a).map foldC=(bytesOf b).map foldC):=by
   intro e
   have:=congrArg List.length e
   rw [List.length_map,List.length_map,bytesOf_length,bytesOf_length] at this
   omega
  rw [decide_eq_false hne]
def mkS (l:List UInt8):ByteArray:=⟨l.toArray⟩
theorem mkS_data (l:List UInt8):(mkS l).data.toList=l:=by simp [mkS]
theorem mkS_self (s:ByteArray):mkS s.data.toList=s:=by simp [mkS]
theorem mkS_size (l:List UInt8):(mkS l).size=l.length:=by rw [← data_length,mkS_data]
theorem mkS_toList (l:List UInt8):(mkS l).toList=l:=by rw [toList_data,mkS_data]
theorem wn0 (n:Nat) (h:n ≤ 4398046511104):wrap64 ((n:Int) + 0)=(n:Int):=by unfold wrap64;omega
theorem wn1 (n:Nat) (h:n ≤ 4398046511104):wrap64 ((n:Int) + 1)=(n:Int) + 1:=by unfold wrap64;omega
theorem wnm (n:Nat) (h:n ≤ 4398046511104):wrap64 ((n:Int) + 1 - 1)=(n:Int):=by unfold wrap64;omega
theorem wi1 (i:Int) (h0:0 ≤ i) (h:i ≤ 4398046511104):wrap64 (i + 1)=i + 1:=by unfold wrap64;omega
theorem rdOf_mk (ps:List (List UInt8)) (i:Int) (h0:0 ≤ i) (h:i < (ps.length:Int)):rdOf ByteArray.empty (ps.map mkS) i=mkS (ps.getD i.toNat []):=by
 unfold rdOf
 rw [List.getD_eq_getElem?_getD,List.getElem?_map,List.getD_eq_getElem?_getD,List.getElem?_eq_getElem (by omega)]
 rfl
theorem bt_mk (l:List UInt8) (i:Nat) (h:i < l.length):bt (mkS l) i=((l[i]).toNat:Int):=by
 unfold bt
 have hs:(mkS l).size=l.length:=mkS_size l
 rw [dif_pos (by rw [Int.toNat_natCast];omega)]
 have:(mkS l)[((i:Nat):Int).toNat]'(by rw [Int.toNat_natCast];omega)=l[i]:=by simp [mkS,ByteArray.getElem_eq_getElem_data]
 rw [this]
theorem mkS_extract (l:List UInt8) (a b:Nat):(mkS l).extract a b=mkS ((l.drop a).take (b - a)):=by
 rw [← mkS_self ((mkS l).extract a b),Lib.extract_data,mkS_data]
theorem seg_split (l:List UInt8) (f i:Nat) (h:f ≤ i) (hi:i < l.length):l.drop f=(l.drop f).take (i - f) ++ l[i] :: l.drop (i + 1)∧(l.drop f).take (i + 1 - f)=(l.drop f).take (i - f) ++ [l[i]]:=by
 have e1:(l.drop f).drop (i - f)=l.drop i:=by rw [List.drop_drop];congr 1;omega
 have e2:l.drop i=l[i] :: l.drop (i + 1):=List.drop_eq_getElem_cons hi
 refine ⟨?_,?_⟩
 ·rw [← e2,← e1,List.take_append_drop]
 ·have hl:i - f < (l.drop f).length:=by rw [List.length_drop];omega
  rw [show i + 1 - f=i - f + 1 by omega,List.take_succ_eq_append_getElem hl]
  congr 2
  rw [List.getElem_drop]
  congr 1
  omega
theorem mkS_bytes (l:List UInt8):bytesOf (mkS l)=l.map fun b=>(b.toNat:Int):=by unfold bytesOf;rw [mkS_data]
theorem bt_app (p q:List UInt8) (j:Nat) (hj:j < q.length):bt (mkS (p ++ q)) ((p.length + j:Nat):Int)=(q[j].toNat:Int):=by
 rw [bt_mk (p ++ q) (p.length + j) (by rw [List.length_append];omega),List.getElem_append_right (by omega)]
 simp
/-- How many commas. -/
def cntC (sp:UInt8):List UInt8 → Nat
 | []=>0
 | c :: l=>if c=sp then cntC sp l + 1 else cntC sp l
theorem cntC_count {sp:UInt8} (l:List UInt8):l.count sp=cntC sp l:=by
 induction l with
 | nil=>rfl
 | cons c l ih=>rw [List.count_cons,ih];by_cases hc:c=sp <;> simp [cntC,hc]
theorem cntC_append {sp:UInt8} (a b:List UInt8):cntC sp (a ++ b)=cntC sp a + cntC sp b:=by
 rw [← cntC_count,← cntC_count,← cntC_count,List.count_append]
theorem cntC_none {sp:UInt8} (l:List UInt8):cntC sp l=0 ↔ sp ∉ l:=by rw [← cntC_count];exact List.count_eq_zero
theorem cntC_le {sp:UInt8} (l:List UInt8):cntC sp l ≤ l.length:=by rw [← cntC_count];exact List.count_le_length
/-- The parts between commas. -/
def pcs (sp:UInt8):List UInt8 → List (List UInt8)
 | []=>[[]]
 | c :: l=>if c=sp then [] :: pcs sp l else (match pcs sp l with|p :: ps=>(c :: p) :: ps|[]=>[[c]])
theorem pcs_ne {sp:UInt8} (l:List UInt8) : ∃ p ps,pcs sp l=p :: ps:=by
 induction l with
 | nil=>exact ⟨[],[],rfl⟩
 | cons c l ih =>
  obtain ⟨p,ps,h⟩:=ih
  by_cases hc:c=sp
  ·exact ⟨[],pcs sp l,by simp [pcs,hc]⟩
  ·exact ⟨c :: p,ps,by simp [pcs,hc,h]⟩
theorem pcs_none {sp:UInt8} (l:List UInt8) (h:sp ∉ l):pcs sp l=[l]:=by
 induction l with
 | nil=>rfl
 | cons c l ih =>
  have hc:c ≠ sp:=fun e=>h (e ▸ List.mem_cons_self ..)
  simp [pcs,hc,ih (fun e=>h (List.mem_cons_of_mem _ e))]
theorem pcs_append {sp:UInt8} (a b:List UInt8):pcs sp (a ++ sp :: b)=pcs sp a ++ pcs sp b:=by
 induction a with
 | nil=>simp [pcs]
 | cons c a ih =>
  by_cases hc:c=sp
  ·simp [pcs,hc,ih]
  ·obtain ⟨p,ps,hp⟩:=pcs_ne (sp:=sp) a
   simp [pcs,hc,ih,hp]
theorem pcs_length {sp:UInt8} (l:List UInt8):(pcs sp l).length=cntC sp l + 1:=by
 induction l with
 | nil=>rfl
 | cons c l ih =>
  by_cases hc:c=sp
  ·simp [pcs,cntC,hc,ih]
  ·obtain ⟨p,ps,hp⟩:=pcs_ne (sp:=sp) l
   rw [hp] at ih
   simp only [pcs,hc,if_false,hp,cntC]
   simpa using ih
theorem pcs_le {sp:UInt8} (l:List UInt8) : ∀ p ∈ pcs sp l,p.length ≤ l.length:=by
 induction l with
 | nil=>intro p hp;simp [pcs] at hp;simp [hp]
 | cons c l ih =>
  intro p hp
  by_cases hc:c=sp
  ·simp only [pcs,hc,if_true] at hp
   rcases List.mem_cons.1 hp with rfl|hp
   ·simp
   ·have:=ih p hp;simp;omega
  ·obtain ⟨q,qs,hq⟩:=pcs_ne (sp:=sp) l
   simp only [pcs,hc,if_false,hq] at hp
   rcases List.mem_cons.1 hp with rfl|hp
   ·have:=ih q (by rw [hq];exact List.mem_cons_self ..);simp;omega
   ·have:=ih p (by rw [hq];exact List.mem_cons_of_mem _ hp);simp;omega
/-- What Split tells. -/
theorem index_splitC {sp:UInt8} (l:List UInt8) (h:0 < cntC sp l) : ∃ a b,l=a ++ sp :: b∧sp ∉ a∧Lib.indexByte l sp=a.length:=by
 induction l with
 | nil=>simp [cntC] at h
 | cons c l ih =>
  by_cases hc:c=sp
  ·exact ⟨[],l,by simp [hc],by simp,by simp [Lib.indexByte,hc]⟩
  ·have h' : 0 < cntC sp l:=by simpa [cntC,hc] using h
   obtain ⟨a,b,h1,h2,h3⟩:=ih h'
   refine ⟨c :: a,b,by simp [h1],?_,?_⟩
   ·intro hm
    rcases List.mem_cons.1 hm with e|e
    ·exact hc e.symm
    ·exact h2 e
   ·have hb:(c == sp)=false:=by simpa using hc
    have hn:((a.length:Int) == -1)=false:=by simp only [beq_eq_false_iff_ne];omega
    simp [Lib.indexByte,hb,h3,hn]
theorem gs_endC {sp:UInt8} (k:Nat) (s:ByteArray) (x3:Int) (x9:List ByteArray) (i:Nat) (hc:sp ∉ s.data.toList) (hx:x3=i) (hl:x9.length=i + 1) (hi:i ≤ 4398046511104) :
  strings_genSplit.l0 (k + 1) s ⟨#[sp]⟩ 0 x3 x9 i=some (x9.take i ++ (pcs sp s.data.toList).map mkS):=by
 simp only [strings_genSplit.l0]
 rw [if_neg (by omega),if_pos (by omega),if_pos (by omega),wn1 i hi,if_pos (by omega),if_pos (by omega),pcs_none _ hc]
 have e1:((i:Int) + 1).toNat=i + 1:=by omega
 rw [e1,Int.toNat_natCast,List.take_succ_eq_append_getElem (by rw [List.length_set];omega),List.take_set_of_le (Nat.le_refl _)]
 simp [mkS_self]
theorem extract_midC {sp : UInt8} (s : ByteArray) (a b : List UInt8) (hab : s.data.toList = a ++ sp :: b) : (s.extract (a.length + 1) s.size).data.toList = b ∧ s.extract 0 a.length = mkS a ∧ (s.extract (a.length + 1) s.size).size ≤ s.size := by
  have e2 : (s.extract (a.length + 1) s.size).data.toList = b := by
    rw [Lib.extract_to_end, hab, ← List.drop_drop, List.drop_left]; rfl
  refine ⟨e2, ?_, ?_⟩
  · have : (s.extract 0 a.length).data.toList = a := by
      rw [Lib.extract_data, hab, List.drop_zero, Nat.sub_zero, List.take_left]
    rw [← mkS_self (s.extract 0 _), this]
  · have hlen : a.length + b.length + 1 = s.size := by rw [← data_length, hab]; simp; omega
    rw [← data_length, e2]
    omega
theorem gs_stepC {sp:UInt8} (k:Nat) (s:ByteArray) (x3:Int) (x9:List ByteArray) (i:Nat) (a b:List UInt8) (hab:s.data.toList=a ++ sp :: b) (hidx:Lib.indexByte s.data.toList sp=a.length) (hx:(i:Int) < x3) (hl:i < x9.length) (hs:s.size ≤ 4398046511104) (hi:i ≤ 4398046511104) :
  ∀ R,strings_genSplit.l0 k (s.extract (a.length + 1) s.size) ⟨#[sp]⟩ 0 x3 (x9.set i (mkS a)) ((i:Int) + 1)=R → strings_genSplit.l0 (k + 1) s ⟨#[sp]⟩ 0 x3 x9 i=R:=by
 intro R hR
 have hlen:a.length + b.length + 1=s.size:=by rw [← data_length,hab];simp;omega
 have hix:strings_Index.f s ⟨#[sp]⟩=some (a.length:Int):=by
  show some (Lib.indexByte s.data.toList sp)=_
  rw [hidx]
 have hs1:((⟨#[sp]⟩:ByteArray).size:Int)=1:=rfl
 have e1:((a.length:Int) + 1).toNat=a.length + 1:=by omega
 obtain ⟨_,e3,_⟩:=extract_midC s a b hab
 simp only [strings_genSplit.l0]
 rw [if_pos hx,hix]
 rw [Option.bind_some]
 rw [if_neg (by omega),wn0 _ (by omega),hs1,wn1 _ (by omega),if_pos (by omega),if_pos (by omega),if_pos (by omega),if_pos (by omega),if_pos (by omega),if_pos (by omega),wn1 i hi,e1,Int.toNat_natCast,Int.toNat_natCast,e3]
 exact hR
theorem gs_l0C {sp:UInt8} (d:Nat) : ∀ (k:Nat) (s:ByteArray) (x3:Int) (x9:List ByteArray) (i:Nat),cntC sp s.data.toList=d → x3=i + d → x9.length=i + d + 1 → d + 1 ≤ k → s.size ≤ 4398046511104 →
  i + d ≤ 4398046511104 → strings_genSplit.l0 k s ⟨#[sp]⟩ 0 x3 x9 i=some (x9.take i ++ (pcs sp s.data.toList).map mkS):=by
 induction d with
 | zero =>
  intro k s x3 x9 i hc hx hl hk hs hid
  obtain ⟨k,rfl⟩ : ∃ m,k=m + 1:=⟨k - 1,by omega⟩
  exact gs_endC k s x3 x9 i ((cntC_none _).1 hc) (by omega) (by omega) (by omega)
 | succ d ih =>
  intro k s x3 x9 i hc hx hl hk hs hid
  obtain ⟨k,rfl⟩ : ∃ m,k=m + 1:=⟨k - 1,by omega⟩
  obtain ⟨a,b,hab,ha,hidx⟩:=index_splitC (sp:=sp) s.data.toList (by omega)
  obtain ⟨e2,_,e4⟩:=extract_midC s a b hab
  have hcb:cntC sp b=d:=by
   rw [hab,cntC_append,(cntC_none a).2 ha] at hc
   simp only [cntC,if_true] at hc
   omega
  refine gs_stepC k s x3 x9 i a b hab hidx (by omega) (by omega) hs (by omega) _ ?_
  have:=ih k (s.extract (a.length + 1) s.size) x3 (x9.set i (mkS a)) (i + 1) (by rw [e2];exact hcb) (by omega) (by rw [List.length_set];omega) (by omega) (by omega) (by omega)
  rw [show (((i + 1:Nat)):Int)=(i:Int) + 1 by omega] at this
  rw [this,e2,hab,pcs_append,pcs_none a ha,List.take_succ_eq_append_getElem (by rw [List.length_set];omega),List.take_set_of_le (Nat.le_refl _)]
  simp
theorem gs_firstC {sp:UInt8} (k:Nat) (s:ByteArray) (hs:s.size ≤ 4398046511103) :
  ∀ R,strings_genSplit.l0 k s ⟨#[sp]⟩ 0 ((cntC sp s.data.toList:Nat):Int) (List.replicate (cntC sp s.data.toList + 1) (⟨#[]⟩:ByteArray)) 0=R → strings_genSplit.f (k + 1) s ⟨#[sp]⟩ 0 (-1)=R:=by
 intro R hR
 have hcl:=cntC_le (sp:=sp) s.data.toList
 rw [data_length] at hcl
 have hcf:strings_Count.f s ⟨#[sp]⟩=some ((cntC sp s.data.toList:Nat):Int):=by
  rw [← cntC_count];rfl
 obtain ⟨c,hc⟩ : ∃ c,c=cntC sp s.data.toList:=⟨_,rfl⟩
 rw [← hc] at hcf hcl hR
 have hm:mn ((c:Int) + 1) ((s.size:Int) + 1)=(c:Int) + 1:=by unfold mn;split <;> omega
 have e1:((c:Int) + 1).toNat=c + 1:=by omega
 have hne : ¬ ((⟨#[sp]⟩:ByteArray).toList=[]):=by rw [toList_data];simp
 unfold strings_genSplit.f
 rw [if_neg (by decide),if_neg hne,if_pos (by decide),hcf]
 rw [Option.bind_some]
 simp only [strings_genSplit.j0]
 rw [wn1 c (by omega),wn1 s.size (by omega),hm,wnm c (by omega),e1,if_pos (by omega),if_pos (by omega)]
 exact hR
theorem Split_fC {sp:UInt8} (s:ByteArray) (hs:s.size ≤ 4398046511103) (k:Nat) (hk:s.size + 3 ≤ k):strings_Split.f k s ⟨#[sp]⟩=some ((pcs sp s.data.toList).map mkS):=by
 obtain ⟨k,rfl⟩ : ∃ m,k=m + 1:=⟨k - 1,by omega⟩
 have hcl:=cntC_le (sp:=sp) s.data.toList
 rw [data_length] at hcl
 unfold strings_Split.f
 have:=gs_l0C (cntC sp s.data.toList) k s ((cntC sp s.data.toList:Nat):Int) (List.replicate (cntC sp s.data.toList + 1) (⟨#[]⟩:ByteArray)) 0 rfl (by omega) (by rw [List.length_replicate];omega) (by omega) (by omega) (by omega)
 rw [show ((0:Nat):Int)=0 from rfl] at this
 rw [gs_firstC k s hs _ this]
 simp
/-- Is a byte a blank? -/
def blk (b:UInt8):Bool:=([32,9]:List UInt8).contains b
/-- A text without blanks at its ends. -/
def trm (l:List UInt8):List UInt8:=(l.reverse.dropWhile blk).reverse.dropWhile blk
/-- No blank at either end. -/
def Clean (l:List UInt8):Prop:=(∀ a,l.head? = some a → blk a=false) ∧ ∀ a,l.getLast? = some a → blk a=false
theorem dw_self {p:UInt8 → Bool} {l:List UInt8} (h : ∀ a,l.head? = some a → p a=false):l.dropWhile p=l:=by
 cases l with
 | nil=>rfl
 | cons a l=>simp [List.dropWhile,h a rfl]
theorem dw_head (p:UInt8 → Bool) (l:List UInt8) : ∀ a,(l.dropWhile p).head? = some a → p a=false:=by
 induction l with
 | nil=>intro a h;simp at h
 | cons b l ih =>
  intro a h
  cases hb:p b
  ·simp [List.dropWhile,hb] at h;rw [← h];exact hb
  ·simp only [List.dropWhile,hb] at h;exact ih a h
theorem dw_append {p:UInt8 → Bool} (pre t:List UInt8) (h : ∀ a ∈ pre,p a=true):(pre ++ t).dropWhile p=t.dropWhile p:=by
 induction pre with
 | nil=>rfl
 | cons b l ih =>
  simp only [List.cons_append,List.dropWhile,h b (List.mem_cons_self ..)]
  exact ih (fun a ha=>h a (List.mem_cons_of_mem _ ha))
theorem dw_split (p:UInt8 → Bool) (l:List UInt8) : ∃ pre,l=pre ++ l.dropWhile p ∧ ∀ a ∈ pre,p a=true:=by
 induction l with
 | nil=>exact ⟨[],rfl,by simp⟩
 | cons b l ih =>
  obtain ⟨pre,h,hp⟩:=ih
  cases hb:p b
  ·exact ⟨[],by simp [List.dropWhile,hb],by simp⟩
  ·refine ⟨b :: pre,by simp only [List.dropWhile,hb,List.cons_append];rw [← h],?_⟩
   intro a ha
   rcases List.mem_cons.1 ha with rfl|ha
   ·exact hb
   ·exact hp a ha
theorem trm_around (pre t post : List UInt8) (ht : Clean t) (h1 : ∀ a ∈ pre, blk a = true) (h2 : ∀ a ∈ post, blk a = true) : trm (pre ++ t ++ post) = t := by
  unfold trm
  rw [List.reverse_append, dw_append _ _ (by intro a ha; exact h2 a (List.mem_reverse.1 ha)), List.reverse_append]
  by_cases he : t = []
  · subst he
    have := dw_append (p := blk) pre.reverse [] (by intro a ha; exact h1 a (List.mem_reverse.1 ha))
    simp only [List.append_nil] at this
    simp [this]
  · have : (t.reverse ++ pre.reverse).dropWhile blk = t.reverse ++ pre.reverse := dw_self (by
      intro a ha
      rw [List.head?_append] at ha
      obtain ⟨b, hb⟩ : ∃ b, t.reverse.head? = some b := by
        cases hh : t.reverse with
        | nil => exact absurd (List.reverse_eq_nil_iff.1 hh) he
        | cons b _ => exact ⟨b, rfl⟩
      rw [hb] at ha
      obtain rfl : b = a := by simpa using ha
      rw [List.head?_reverse] at hb
      exact ht.2 _ hb)
    rw [this, List.reverse_append, List.reverse_reverse, List.reverse_reverse, dw_append _ _ h1, dw_self ht.1]
theorem trm_length (l:List UInt8):(trm l).length ≤ l.length:=by
 unfold trm
 have h1:((l.reverse.dropWhile blk).reverse.dropWhile blk).length ≤ (l.reverse.dropWhile blk).reverse.length:=(List.dropWhile_suffix _).length_le
 have h2:(l.reverse.dropWhile blk).length ≤ l.reverse.length:=(List.dropWhile_suffix _).length_le
 rw [List.length_reverse] at h1 h2
 omega
theorem Trim_f (s:ByteArray) (h:s.size ≤ 9223372036854775807):sign_Trim.f s=some ⟨(trm s.data.toList).toArray⟩:=by
 unfold sign_Trim.f strings_Trim.f
 rw [if_pos ⟨h,by decide,by decide⟩]
 rfl
/-- The parts of a list: trimmed,the empty ones left out. -/
def commaParts (l:List UInt8):List (List UInt8):=((pcs 44 l).map trm).filter (fun p => !p.isEmpty)
theorem comma_append (a b:List UInt8):commaParts (a ++ 44 :: b)=commaParts a ++ commaParts b:=by
 simp [commaParts,pcs_append]
theorem comma_one (l:List UInt8) (h:44 ∉ l):commaParts l=if (trm l).isEmpty then [] else [trm l]:=by
 rw [commaParts,pcs_none l h]
 cases ht:(trm l).isEmpty <;> simp [ht]
theorem split_step (ps:List (List UInt8)) (i:Int) (h0:0 ≤ i) (hlt:i < (ps.length:Int)):((ps.drop i.toNat).map trm).filter (fun p => !p.isEmpty)=(if trm (ps.getD i.toNat [])=[] then [] else [trm (ps.getD i.toNat [])]) ++ ((ps.drop (i + 1).toNat).map trm).filter (fun p => !p.isEmpty):=by
 have hl:i.toNat < ps.length:=by omega
 have hg:ps.getD i.toNat []=ps[i.toNat]:=by rw [List.getD_eq_getElem?_getD,List.getElem?_eq_getElem hl];rfl
 rw [hg,List.drop_eq_getElem_cons hl,show (i + 1).toNat=i.toNat + 1 by omega,List.map_cons,List.filter_cons]
 by_cases he:trm ps[i.toNat]=[]
 ·rw [if_pos he,he];rfl
 ·rw [if_neg he,if_pos (by simpa using he)];rfl
theorem split_l0 (ps:List (List UInt8)) (hl : ∀ p ∈ ps,p.length ≤ 4398046511104) (hn:ps.length ≤ 4398046511104) (d:Nat) : ∀ (k:Nat) (out:List ByteArray) (i:Int),0 ≤ i → (ps.length:Int) - i=d → d + 1 ≤ k → (out.length:Int) ≤ i →
  sign_Split.l0 k out (ps.map mkS) (ps.length:Int) i=some (out ++ (((ps.drop i.toNat).map trm).filter (fun p => !p.isEmpty)).map mkS):=by
 induction d with
 | zero =>
  intro k out i h0 hd hk ho
  obtain ⟨k,rfl⟩ : ∃ m,k=m + 1:=⟨k - 1,by omega⟩
  simp only [sign_Split.l0]
  rw [if_neg (by omega),List.drop_of_length_le (by omega)]
  simp
 | succ d ih =>
  intro k out i h0 hd hk ho
  obtain ⟨k,rfl⟩ : ∃ m,k=m + 1:=⟨k - 1,by omega⟩
  have hlt:i.toNat < ps.length:=by omega
  have hg:ps.getD i.toNat []=ps[i.toNat]:=by rw [List.getD_eq_getElem?_getD,List.getElem?_eq_getElem hlt];rfl
  have hlp:=hl _ (List.getElem_mem hlt)
  rw [← hg] at hlp
  rw [split_step ps i h0 (by omega)]
  simp only [sign_Split.l0]
  rw [if_pos (by omega),if_pos h0,if_pos (by rw [List.length_map];omega),rdOf_mk ps i h0 (by omega),Trim_f _ (by rw [mkS_size];omega),mkS_data]
  simp only [Option.bind_some,wi1 i h0 (by omega)]
  rw [show (⟨(trm (ps.getD i.toNat [])).toArray⟩:ByteArray)=mkS (trm (ps.getD i.toNat [])) from rfl,mkS_toList]
  by_cases he:trm (ps.getD i.toNat [])=[]
  ·rw [if_pos he,if_pos he,ih k out (i + 1) (by omega) (by omega) (by omega) (by omega)]
   rfl
  ·rw [if_neg he,if_neg he,if_pos (by omega),ih k _ (i + 1) (by omega) (by omega) (by omega) (by rw [List.length_append];simp;omega)]
   simp only [List.map_append,List.map_cons,List.map_nil,List.append_assoc]
theorem signSplit_f (s:ByteArray) (hs:s.size ≤ 4398046511103) (k:Nat) (hk:s.size + 3 ≤ k):sign_Split.f k s=some ((commaParts s.data.toList).map mkS):=by
 unfold sign_Split.f
 have hpl:=pcs_length (sp:=44) s.data.toList
 have hcl:=cntC_le (sp:=44) s.data.toList
 rw [data_length] at hcl
 rw [Split_fC s hs k hk]
 simp only [Option.bind_some,List.length_map]
 rw [split_l0 (pcs 44 s.data.toList) (fun p hp=>by have:=pcs_le _ p hp;rw [data_length] at this;omega) (by omega) (pcs 44 s.data.toList).length k [] 0 (by omega) (by omega) (by omega) (by simp)]
 rfl
theorem rdT_at (xs:List (S55)) (i:Nat) (h:i < xs.length):rd_T55 xs (i:Int)=xs[i]:=by
 unfold rd_T55
 rw [Int.toNat_natCast,List.getD_eq_getElem?_getD,List.getElem?_eq_getElem h];rfl
theorem rdB_at (xs:List ByteArray) (i:Nat) (h:i < xs.length):rdOf ByteArray.empty xs (i:Int)=xs[i]:=by
 unfold rdOf
 rw [Int.toNat_natCast,List.getD_eq_getElem?_getD,List.getElem?_eq_getElem h];rfl
/-- The same names. -/
def sameN (a b:ByteArray):Bool:=decide ((bytesOf a).map foldC=(bytesOf b).map foldC)
theorem same_f (a b:ByteArray) (ha:a.size ≤ 140737488355328) (hb:b.size ≤ 140737488355328):sign_Same.f a b=some (sameN a b):=same_tells a b ha hb
/-- Few fields,of short texts. -/
def FB (fs:List (S55)):Prop:=fs.length ≤ 1000 ∧ ∀ f ∈ fs,f.f0.size ≤ 1048576∧f.f1.size ≤ 1048576
/-- The values of a name. -/
def getS (name:ByteArray):List (S55) → List ByteArray
 | []=>[]
 | f :: r=>if sameN f.f0 name=true then f.f1 :: getS name r else getS name r
theorem getS_len (name:ByteArray) : ∀ fs,(getS name fs).length ≤ fs.length
 | []=>Nat.le_refl _
 | f :: r=>by rw [getS];have:=getS_len name r;split <;> simp only [List.length_cons] <;> omega
theorem getS_mem (name:ByteArray) : ∀ (fs:List (S55)) (v:ByteArray),v ∈ getS name fs → ∃ f ∈ fs,v=f.f1∧sameN f.f0 name=true
 | [],v,h=>by cases h
 | f :: r,v,h=>by
  rw [getS] at h
  by_cases hs:sameN f.f0 name=true
  ·rw [if_pos hs] at h
   rcases List.mem_cons.1 h with rfl|h
   ·exact ⟨f,List.mem_cons_self,rfl,hs⟩
   ·obtain ⟨g,hg,e⟩:=getS_mem name r v h;exact ⟨g,List.mem_cons_of_mem _ hg,e⟩
  ·rw [if_neg hs] at h
   obtain ⟨g,hg,e⟩:=getS_mem name r v h;exact ⟨g,List.mem_cons_of_mem _ hg,e⟩
theorem get_l0 (name:ByteArray) (hn:name.size ≤ 1048576) (fs:List (S55)) (hf:FB fs) (d:Nat) : ∀ (k i:Nat) (out:List ByteArray),i + d=fs.length → d < k → out.length ≤ i →
  field_Get.l0 k name out fs (fs.length:Int) (i:Int)=some (out ++ getS name (fs.drop i)):=by
 have hfl:=hf.1
 induction d with
 | zero =>
  intro k i out hi hk ho
  obtain ⟨k,rfl⟩ : ∃ m,k=m + 1:=⟨k - 1,by omega⟩
  rw [field_Get.l0,if_neg (by omega),List.drop_of_length_le (by omega),getS,List.append_nil]
 | succ d ih =>
  intro k i out hi hk ho
  obtain ⟨k,rfl⟩ : ∃ m,k=m + 1:=⟨k - 1,by omega⟩
  have hlt:i < fs.length:=by omega
  have hb:=hf.2 _ (List.getElem_mem hlt)
  have hw:wrap64 ((i:Int) + 1)=((i + 1:Nat):Int):=by unfold wrap64;omega
  rw [field_Get.l0,if_pos (by omega),if_pos (by omega),if_pos (by omega),rdT_at fs i hlt,same_f _ _ (by omega) (by omega),Option.bind_some,hw,List.drop_eq_getElem_cons hlt,getS]
  by_cases hs:sameN fs[i].f0 name=true
  ·rw [if_pos hs,if_pos hs,if_pos (by omega),ih k (i + 1) _ (by omega) (by omega) (by rw [List.length_append];simp;omega)]
   simp only [List.append_assoc,List.singleton_append]
  ·rw [if_neg hs,if_neg hs,ih k (i + 1) _ (by omega) (by omega) (by omega)]
theorem Get_f (fs:List (S55)) (name:ByteArray) (hf:FB fs) (hn:name.size ≤ 1048576) (k:Nat) (hk:fs.length < k):field_Get.f k fs name=some (getS name fs):=by
 have:=get_l0 name hn fs hf fs.length k 0 [] (by omega) hk (Nat.zero_le _)
 rw [List.drop_zero,List.nil_append] at this
 exact this
/-- A value's parts. -/
def partsS (v:ByteArray):List ByteArray:=(commaParts v.data.toList).map mkS
theorem comma_len (l:List UInt8):(commaParts l).length ≤ l.length + 1:=by
 unfold commaParts
 have h1:=List.length_filter_le (fun p => !p.isEmpty) ((pcs 44 l).map trm)
 rw [List.length_map,pcs_length] at h1
 have h2:=cntC_le (sp:=44) l
 omega
theorem parts_len (v:ByteArray):(partsS v).length ≤ v.size + 1:=by
 unfold partsS
 rw [List.length_map]
 have:=comma_len v.data.toList
 rw [data_length] at this
 exact this
theorem comma_size (l:List UInt8) : ∀ p ∈ commaParts l,p.length ≤ l.length:=by
 intro p hp
 unfold commaParts at hp
 obtain ⟨q,hq,rfl⟩:=List.mem_map.1 (List.mem_filter.1 hp).1
 exact Nat.le_trans (trm_length q) (pcs_le l q hq)
theorem parts_size (v:ByteArray) : ∀ p ∈ partsS v,p.size ≤ v.size:=by
 intro p hp
 obtain ⟨q,hq,rfl⟩:=List.mem_map.1 hp
 rw [mkS_size,← data_length]
 exact comma_size _ q hq
theorem list_l0 (vs:List ByteArray) (hl:vs.length ≤ 1000) (hv : ∀ v ∈ vs,v.size ≤ 1048576) (d:Nat) : ∀ (k i:Nat) (out:List ByteArray),i + d=vs.length → d + 1048580 ≤ k → out.length ≤ 1048577 * i →
  field_List.l0 k out vs (vs.length:Int) (i:Int)=some (out ++ (vs.drop i).flatMap partsS):=by
 induction d with
 | zero =>
  intro k i out hi hk ho
  obtain ⟨k,rfl⟩ : ∃ m,k=m + 1:=⟨k - 1,by omega⟩
  rw [field_List.l0,if_neg (by omega),List.drop_of_length_le (by omega),List.flatMap_nil,List.append_nil]
 | succ d ih =>
  intro k i out hi hk ho
  obtain ⟨k,rfl⟩ : ∃ m,k=m + 1:=⟨k - 1,by omega⟩
  have hlt:i < vs.length:=by omega
  have hb:=hv _ (List.getElem_mem hlt)
  have hp:=parts_len vs[i]
  have hw:wrap64 ((i:Int) + 1)=((i + 1:Nat):Int):=by unfold wrap64;omega
  rw [field_List.l0,if_pos (by omega),if_pos (by omega),if_pos (by omega),rdB_at vs i hlt,signSplit_f _ (by omega) k (by omega),Option.bind_some,hw,List.drop_eq_getElem_cons hlt,List.flatMap_cons]
  have e:(commaParts vs[i].data.toList).map mkS=partsS vs[i]:=rfl
  rw [e,if_pos (by omega),ih k (i + 1) _ (by omega) (by omega) (by rw [List.length_append];omega),List.append_assoc]
/-- All parts of a name's values. -/
def listS (name:ByteArray) (fs:List (S55)):List ByteArray:=(getS name fs).flatMap partsS
theorem get_bounds (fs:List (S55)) (name:ByteArray) (hf:FB fs):(getS name fs).length ≤ 1000 ∧ ∀ v ∈ getS name fs,v.size ≤ 1048576:=by
 refine ⟨Nat.le_trans (getS_len name fs) hf.1,fun v hv=>?_⟩
 obtain ⟨f,hm,rfl,_⟩:=getS_mem name fs v hv
 exact (hf.2 f hm).2
theorem List_f (fs:List (S55)) (name:ByteArray) (hf:FB fs) (hn:name.size ≤ 1048576) (k:Nat) (hk:1049600 ≤ k):field_List.f k fs name=some (listS name fs):=by
 obtain ⟨h1,h2⟩:=get_bounds fs name hf
 have hfl:=hf.1
 unfold field_List.f
 rw [Get_f fs name hf hn k (by omega),Option.bind_some]
 have:=list_l0 (getS name fs) h1 h2 (getS name fs).length k 0 [] (by omega) (by omega) (by simp)
 rw [List.drop_zero,List.nil_append] at this
 exact this
theorem flat_len (B:Nat) : ∀ vs:List ByteArray,(∀ v ∈ vs,v.size ≤ B) → (vs.flatMap partsS).length ≤ vs.length * (B + 1)
 | [],_=>by simp
 | v :: r,h=>by
  rw [List.flatMap_cons,List.length_append,List.length_cons,Nat.succ_mul]
  have h1:=flat_len B r (fun u hu=>h u (List.mem_cons_of_mem _ hu))
  have h2:=parts_len v
  have h3:=h v List.mem_cons_self
  omega
theorem list_bounds (fs:List (S55)) (name:ByteArray) (hf:FB fs):(listS name fs).length ≤ 1048577000 ∧ ∀ p ∈ listS name fs,p.size ≤ 1048576:=by
 obtain ⟨h1,h2⟩:=get_bounds fs name hf
 refine ⟨?_,fun p hp=>?_⟩
 ·have h3:=flat_len 1048576 (getS name fs) h2
  unfold listS
  have h4:(getS name fs).length * 1048577 ≤ 1000 * 1048577:=Nat.mul_le_mul_right _ h1
  omega
 ·unfold listS at hp
  obtain ⟨v,hv,hp⟩:=List.mem_flatMap.1 hp
  exact Nat.le_trans (parts_size v p hp) (h2 v hv)
/-- The value of a digit,or -1. -/
def digV (c:Int):Int:=Lib.indexByte [48,49,50,51,52,53,54,55,56,57,97,98,99,100,101,102] (foldC c).toNat.toUInt8
/-- The number of digits,from n on. -/
def numL (base:Int):List Int → Int → Option Int
 | [],n=>some n
 | c :: r,n=>if 0 ≤ digV c∧digV c < base then numL base r (n * base + digV c) else none
theorem digV_lt (c:Int) (h0:0 ≤ c) (h1:c ≤ 255):digV c < 16:=by
 obtain ⟨n,rfl⟩:=Int.eq_ofNat_of_zero_le h0
 have h : ∀ m:Fin 256,digV (m.val:Int) < 16:=by decide +kernel
 exact h ⟨n,by omega⟩
theorem one_fold (s:ByteArray) (i:Int) (h0:0 ≤ i) (h:i < (s.size:Int)):sign_Fold.f (s.extract i.toNat (i + 1).toNat)=some (strOfNums [foldC (bt s i)]):=by
 have hl:i.toNat < s.data.toList.length:=by rw [data_length];omega
 have e1:(s.extract i.toNat (i + 1).toNat).data.toList=[s.data.toList[i.toNat]]:=by
  rw [Lib.extract_data,show (i + 1).toNat - i.toNat=1 by omega,List.drop_eq_getElem_cons hl]
  rfl
 have hz:(s.extract i.toNat (i + 1).toNat).size=1:=by rw [← data_length,e1];rfl
 rw [fold_tells _ (by omega)]
 unfold bytesOf
 rw [e1]
 have e2:((s.data.toList[i.toNat]).toNat:Int)=bt s i:=by
  unfold bt
  rw [dif_pos (by omega)]
  rfl
 simp only [List.map_cons,List.map_nil,e2]
theorem bt_one (x:Int) (h0:0 ≤ x) (h1:x ≤ 255):bt (strOfNums [x]) 0=x:=by
 have h:=bytes_str (xs:=[x]) (by intro y hy;rw [List.mem_singleton.1 hy];exact ⟨h0,h1⟩)
 rw [← rd_bytesOf,h]
 rfl
theorem index_dig (s:ByteArray) (i:Int):strings_IndexByte.f (⟨#[48,49,50,51,52,53,54,55,56,57,97,98,99,100,101,102]⟩:ByteArray) (bt (strOfNums [foldC (bt s i)]) 0)=some (digV (bt s i)):=by
 have hr:=bt_range s i
 have hf:=foldC_byte _ hr.1 hr.2
 rw [bt_one _ hf.1 hf.2]
 rfl
theorem pow_pos' (b:Int) (hb:1 ≤ b) : ∀ n:Nat,1 ≤ b ^ n
 | 0=>by simp
 | n + 1=>by
  rw [Int.pow_succ]
  have h1:=pow_pos' b hb n
  have h2:=Int.mul_le_mul_of_nonneg_left hb (show 0 ≤ b ^ n by omega)
  rw [Int.mul_one] at h2
  omega
theorem pow_mono' (b:Int) (hb:1 ≤ b) (i:Nat) : ∀ d:Nat,b ^ i ≤ b ^ (i + d)
 | 0=>Int.le_refl _
 | d + 1=>by
  rw [← Nat.add_assoc,Int.pow_succ]
  have h0:=pow_mono' b hb i d
  have h1:=pow_pos' b hb (i + d)
  have h2:=Int.mul_le_mul_of_nonneg_left hb (show 0 ≤ b ^ (i + d) by omega)
  rw [Int.mul_one] at h2
  omega
/-- Too long: none. -/
theorem number_long (s:ByteArray) (base most:Int) (hm:(s.size:Int) > most) (hs:s.size ≤ 140737488355327) (d:Nat) : ∀ (k:Nat) (n i:Int),0 ≤ i → (s.size:Int) - i=d → 2 * d + 1 ≤ k →
  sign_number.l0 k s base most n (s.size:Int) i=some (0,false):=by
 induction d with
 | zero =>
  intro k n i h0 hd hk
  obtain ⟨k,rfl⟩ : ∃ m,k=m + 1:=⟨k - 1,by omega⟩
  simp only [sign_number.l0]
  rw [if_neg (by omega)]
  repeat' split
  all_goals first|rfl|(exfalso;omega)
 | succ d ih =>
  intro k n i h0 hd hk
  obtain ⟨k,rfl⟩ : ∃ m,k=m + 2:=⟨k - 2,by omega⟩
  have hw:wrap64 (i + 1)=i + 1:=by unfold wrap64;omega
  have ih' := fun n=>ih k n (i + 1) (by omega) (by omega) (by omega)
  simp only [sign_number.l0]
  rw [if_pos (by omega),if_pos h0,hw,if_pos (by omega),if_pos (by omega),one_fold s i h0 (by omega),Option.bind_some,if_pos (by rw [str_size];simp),index_dig,Option.bind_some]
  simp only [sign_number.j1]
  rw [hw,ih',ih']
  repeat' split
  all_goals rfl
theorem number_short (s : ByteArray) (base : Int) (most : Nat) (hb0 : 0 ≤ base) (hB : base ^ most ≤ 4611686018427387904) (hb1 : 1 ≤ base) (hm : s.size ≤ most) (hs : s.size ≤ 140737488355327) (d : Nat) : ∀ (k : Nat) (n : Int) (i : Nat), i + d = s.size → 2 * d + 1 ≤ k → 0 ≤ n → n + 1 ≤ base ^ i →
    sign_number.l0 k s base most n (s.size : Int) i = some (match numL base ((bytesOf s).drop i) n with | some v => if s.size = 0 then (0, false) else (v, true) | none => (0, false)) := by
  induction d with
  | zero =>
    intro k n i hi hk h0 hn
    obtain ⟨k, rfl⟩ : ∃ m, k = m + 1 := ⟨k - 1, by omega⟩
    rw [List.drop_of_length_le (by rw [bytesOf_length]; omega)]
    simp only [sign_number.l0, numL]
    rw [if_neg (by omega)]
    by_cases hz : s.size = 0
    · have he : s.toList = [] := by rw [toList_data]; exact List.eq_nil_of_length_eq_zero (by rw [data_length]; exact hz)
      rw [if_pos he, if_pos hz]
    · have he : ¬ (s.toList = []) := by
        intro e
        rw [toList_data] at e
        have := data_length s
        rw [e] at this
        exact hz this.symm
      rw [if_neg he, if_neg hz, if_neg (by omega)]
  | succ d ih =>
    intro k n i hi hk h0 hn
    obtain ⟨k, rfl⟩ : ∃ m, k = m + 2 := ⟨k - 2, by omega⟩
    have hw : wrap64 ((i : Int) + 1) = (i : Int) + 1 := by unfold wrap64; omega
    have hl : i < (bytesOf s).length := by rw [bytesOf_length]; omega
    have hg : (bytesOf s)[i] = bt s i := by rw [← rd_bytesOf]; simp [rd, List.getD_eq_getElem?_getD, List.getElem?_eq_getElem hl]
    have hr := bt_range s i
    have hP : base ^ (i + 1) = base ^ i * base := Int.pow_succ _ _
    have hle : base ^ (i + 1) ≤ base ^ most := by
      have := pow_mono' base hb1 (i + 1) (most - (i + 1))
      rwa [show i + 1 + (most - (i + 1)) = most by omega] at this
    have h1 := Int.mul_le_mul_of_nonneg_right hn hb0
    rw [Int.add_mul, ← hP, Int.one_mul] at h1
    have h2 : 0 ≤ n * base := Int.mul_nonneg h0 hb0
    have h3 : 0 ≤ base := hb0
    have hdl := digV_lt _ hr.1 hr.2
    rw [List.drop_eq_getElem_cons hl, hg]
    simp only [sign_number.l0, numL]
    rw [if_pos (by omega), if_pos (by omega), hw, if_pos (by omega), if_pos (by omega), one_fold s i (by omega) (by omega), Option.bind_some, if_pos (by rw [str_size]; simp), index_dig, Option.bind_some]
    simp only [sign_number.j1]
    obtain ⟨D, hD⟩ : ∃ D, D = digV (bt s i) := ⟨_, rfl⟩
    rw [← hD] at hdl ⊢
    by_cases hv : 0 ≤ D ∧ D < base
    · rw [if_neg (by omega), decide_eq_false (by omega), if_neg (by simp), if_pos (by omega), hw, if_pos hv]
      have e1 : wrap64 (wrap64 (n * base) + D) = n * base + D := by unfold wrap64; omega
      rw [e1]
      have := ih k (n * base + D) (i + 1) (by omega) (by omega) (by omega) (by omega)
      rw [show (((i + 1 : Nat)) : Int) = (i : Int) + 1 by omega] at this
      exact this
    · rw [if_neg hv]
      by_cases hn0 : D < 0
      · rw [if_pos hn0, if_pos trivial]
      · rw [if_neg hn0, decide_eq_true (by omega), if_pos rfl]
/-- What number tells. -/
def numSpec (s:ByteArray) (base:Int) (most:Nat):Int × Bool :=
 if s.size=0 ∨ s.size > most then (0,false) else match numL base (bytesOf s) 0 with|some v=>(v,true)|none=>(0,false)
theorem number_f (s:ByteArray) (base:Int) (most:Nat) (hb1:1 ≤ base) (hB:base ^ most ≤ 4611686018427387904) (hs:s.size ≤ 140737488355327) (k:Nat) (hk:2 * s.size + 1 ≤ k):sign_number.f k s base most=some (numSpec s base most):=by
 unfold sign_number.f numSpec
 by_cases hm:s.size > most
 ·rw [if_pos (Or.inr hm)]
  exact number_long s base most (by omega) hs s.size k 0 0 (by omega) (by omega) hk
 ·have:=number_short s base most (by omega) hB hb1 (by omega) hs s.size k 0 0 (by omega) hk (by omega) (by simp)
  rw [show ((0:Nat):Int)=0 from rfl] at this
  rw [this]
  by_cases hz:s.size=0
  ·rw [if_pos (Or.inl hz),List.drop_zero]
   cases numL base (bytesOf s) 0 <;> simp [hz]
  ·rw [if_neg (by omega),List.drop_zero]
   cases numL base (bytesOf s) 0 <;> simp [hz]
theorem Decimal_f (s:ByteArray) (hs:s.size ≤ 140737488355327) (k:Nat) (hk:2 * s.size + 1 ≤ k):sign_Decimal.f k s=some (numSpec s 10 18):=by
 unfold sign_Decimal.f
 rw [show (18:Int)=((18:Nat):Int) from rfl,number_f s 10 18 (by decide) (by decide) hs k hk,Option.bind_some]
theorem Hex_f (s:ByteArray) (hs:s.size ≤ 140737488355327) (k:Nat) (hk:2 * s.size + 1 ≤ k):sign_Hex.f k s=some (numSpec s 16 15):=by
 unfold sign_Hex.f
 rw [show (15:Int)=((15:Nat):Int) from rfl,number_f s 16 15 (by decide) (by decide) hs k hk,Option.bind_some]
theorem dec_fact (c:Int) (h0:0 ≤ c) (h1:c ≤ 255):tollbarref02_Digit.f c=some (decide (0 ≤ digV c∧digV c < 10))∧((0 ≤ digV c∧digV c < 10) → (c - 48) % 256=digV c):=by
 obtain ⟨n,rfl⟩:=Int.eq_ofNat_of_zero_le h0
 have h : ∀ m:Fin 256,tollbarref02_Digit.f (m.val:Int)=some (decide (0 ≤ digV (m.val:Int)∧digV (m.val:Int) < 10))∧((0 ≤ digV (m.val:Int)∧digV (m.val:Int) < 10) → ((m.val:Int) - 48) % 256=digV (m.val:Int)):=by decide +kernel
 exact h ⟨n,by omega⟩
/-- What a loop over digits tells. -/
def told (r:Option Int):Int × Bool:=match r with|some v=>(v,true)|none=>(0,false)
theorem refDec_l0 (s:ByteArray) (hm:s.size ≤ 18) (d:Nat) : ∀ (k:Nat) (n:Int) (i:Nat),i + d=s.size → d + 1 ≤ k → 0 ≤ n → n + 1 ≤ 10 ^ i →
  tollbarref02_Decimal.l0 k s n i=some (told (numL 10 ((bytesOf s).drop i) n)):=by
 induction d with
 | zero =>
  intro k n i hi hk h0 hn
  obtain ⟨k,rfl⟩ : ∃ m,k=m + 1:=⟨k - 1,by omega⟩
  rw [List.drop_of_length_le (by rw [bytesOf_length];omega)]
  simp only [tollbarref02_Decimal.l0,numL]
  rw [if_neg (by omega)]
  rfl
 | succ d ih =>
  intro k n i hi hk h0 hn
  obtain ⟨k,rfl⟩ : ∃ m,k=m + 1:=⟨k - 1,by omega⟩
  have hw:wrap64 ((i:Int) + 1)=((i + 1:Nat):Int):=by unfold wrap64;omega
  have hl:i < (bytesOf s).length:=by rw [bytesOf_length];omega
  have hg:(bytesOf s)[i]=bt s i:=by rw [← rd_bytesOf];simp [rd,List.getD_eq_getElem?_getD,List.getElem?_eq_getElem hl]
  have hr:=bt_range s i
  obtain ⟨f1,f2⟩:=dec_fact _ hr.1 hr.2
  have hP:(10:Int) ^ (i + 1)=10 ^ i * 10:=Int.pow_succ _ _
  have hle:=pow_mono' 10 (by decide) (i + 1) (18 - (i + 1))
  rw [show i + 1 + (18 - (i + 1))=18 by omega,hP] at hle
  have hc:(10:Int) ^ 18=1000000000000000000:=by decide
  rw [List.drop_eq_getElem_cons hl,hg]
  simp only [tollbarref02_Decimal.l0,numL]
  rw [if_pos (by omega),if_pos (by omega),f1,Option.bind_some]
  by_cases hv:0 ≤ digV (bt s i)∧digV (bt s i) < 10
  ·rw [decide_eq_true hv,if_pos rfl,if_pos hv,f2 hv,hw]
   have e1:wrap64 (wrap64 (n * 10) + digV (bt s i))=n * 10 + digV (bt s i):=by unfold wrap64;omega
   rw [e1]
   exact ih k _ (i + 1) (by omega) (by omega) (by omega) (by omega)
  ·rw [decide_eq_false hv,if_neg (by simp),if_neg hv]
   rfl
theorem refDecimal_f (s:ByteArray) (k:Nat) (hk:40 ≤ k) (hs:s.size ≤ 140737488355327):tollbarref02_Decimal.f k s=some (numSpec s 10 18):=by
 obtain ⟨k,rfl⟩ : ∃ m,k=m + 1:=⟨k - 1,by omega⟩
 unfold tollbarref02_Decimal.f numSpec
 by_cases h0:s.size=0
 ·rw [if_pos (by omega),if_pos (Or.inl h0)]
  simp only [tollbarref02_Decimal.j0]
  rfl
 ·rw [if_neg (by omega)]
  by_cases h1:s.size > 18
  ·rw [decide_eq_true (by omega),if_pos (Or.inr h1)]
   simp only [tollbarref02_Decimal.j0]
   rfl
  ·rw [decide_eq_false (by omega),if_neg (by omega)]
   simp only [tollbarref02_Decimal.j0]
   rw [if_neg (by simp)]
   have:=refDec_l0 s (by omega) s.size k 0 0 (by omega) (by omega) (by omega) (by simp)
   rw [show ((0:Nat):Int)=0 from rfl,List.drop_zero] at this
   exact this
end Go.Proofs.YtfjeinnemimjoaaGreatDoor.Pure
