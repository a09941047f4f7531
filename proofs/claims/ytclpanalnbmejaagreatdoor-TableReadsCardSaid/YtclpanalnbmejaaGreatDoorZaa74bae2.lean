/- Each function below answers as its Lean twin says; plain lemmas; a row where its theorem stands. No further condition. (Laid by this repo's pack.py out of its texts and of the print's words.) -/
import Derived.Test.YtclpanalnbmejaaGreatDoorZ8974a307
namespace Go.Proofs.YtclpanalnbmejaaGreatDoor.P
open Go.RowKit Go.Proofs.YtclpanalnbmejaaGreatDoorW.PrintWords Go.Proofs.YtclpanalnbmejaaGreatDoorW.PrintLast Go.Proofs.YtclpanalnbmejaaGreatDoorW.PrintMore
attribute [local go_sem] max2_int min2_int max_two min_two max_three min_three max_four min_four
set_option linter.unusedVariables false
set_option linter.unusedSimpArgs false
def tollbarref02_Digit.f (a0:Int):Option (Bool):=if a0 ≥ 48 then (some (decide (a0 ≤ 57))) else (some false)
set_option maxHeartbeats 8000000 in
set_option maxRecDepth 100000 in
theorem tollbarref02_Digit.calls (a0:Int) (r:Bool) (w:World) (h:tollbarref02_Digit.f a0=some r) :
 Calls Tryz.prog 43 #[.int .u8 a0] w fun e w' => e = .returned (.bool r)∧Drawn0 w w' := by
 unfold tollbarref02_Digit.f at h
 have H:=h
 clear h
 by_cases c2:a0 ≥ 48
 ·rw [if_pos c2] at H
  have c2b0:decide (48 ≤ a0)=true:=decide_eq_true c2
  clear c2
  obtain rfl:=Option.some.inj H
  go_enter Tryz.func43,Tryz.ntmps43
  go_wp2
  go_ret
  exact ⟨zb5,zb13⟩
 rw [if_neg c2] at H
 have c2b0:decide (48 ≤ a0)=false:=decide_eq_false c2
 clear c2
 obtain rfl:=Option.some.inj H
 go_enter Tryz.func43,Tryz.ntmps43
 go_wp2
 go_ret
 exact ⟨zb5,zb13⟩
def tollbarref09_Name.l0:Nat → ByteArray → Int → Option (Bool)
 | 0,_,_=>none
 | k + 1,x0,x3=>if x3 < (x0.size:Int) then (if 0 ≤ x3 then (if (bt x0 x3) ≥ 97 then (if ((bt x0 x3) ≤ 122) then (tollbarref09_Name.l0 k x0 (wrap64 (x3 + 1))) else (if x3=0 then (some false) else ((tollbarref02_Digit.f (bt x0 x3)).bind fun t265=>(if t265=true then (tollbarref09_Name.l0 k x0 (wrap64 (x3 + 1))) else (if (bt x0 x3)=45 then (tollbarref09_Name.l0 k x0 (wrap64 (x3 + 1))) else (some false)))))) else (if x3=0 then (some false) else ((tollbarref02_Digit.f (bt x0 x3)).bind fun t266=>(if t266=true then (tollbarref09_Name.l0 k x0 (wrap64 (x3 + 1))) else (if (bt x0 x3)=45 then (tollbarref09_Name.l0 k x0 (wrap64 (x3 + 1))) else (some false)))))) else (none)) else (if (x0.size:Int) ≥ 1 then (some (decide ((x0.size:Int) ≤ 30))) else (some false))
def tollbarref09_Name.f (k:Nat) (a0:ByteArray):Option (Bool):=tollbarref09_Name.l0 k a0 0
set_option maxHeartbeats 8000000 in
set_option maxRecDepth 100000 in
theorem tollbarref09_Name.calls (k:Nat) (a0:ByteArray) (r:Bool) (w:World) (h:tollbarref09_Name.f k a0=some r) :
 Calls Tryz.prog 15 #[.string a0] w fun e w' => e = .returned (.bool r)∧Drawn0 w w' := by
 unfold tollbarref09_Name.f at h
 have H:=h
 clear h
 have H' := Aside0.mk H
 clear H
 go_enter Tryz.func15,Tryz.ntmps15
 go_wp2
 go_loopg [3] k (fun kq v3 w' => ∃ (x3_1:Int),v3 = .int .i64 x3_1∧Aside0 (tollbarref09_Name.l0 kq a0 x3_1=some r)∧Aside0 (kq ≤ k)∧Drawn0 w w')
 case atStart=>exact ⟨(0),zb5,H',⟨Nat.le_refl _⟩,zb13⟩
 case round =>
  clear H'
  try clear c1
  obtain ⟨x3_1,rfl,HA,HK1,⟨m1,rfl⟩⟩:=hrel
  cases gk with
  | zero=>exact absurd HA.out (by simp [tollbarref09_Name.l0])
  | succ k1 =>
   have H:=HA.out
   clear HA
   simp only [tollbarref09_Name.l0] at H
   by_cases c2:x3_1 < (a0.size:Int);rotate_left
   ·rw [if_neg c2] at H
    have c2b0:=decide_eq_false c2
    clear c2
    by_cases c20:(a0.size:Int) ≥ 1
    ·rw [if_pos c20] at H
     have c20b0:decide (1 ≤ (a0.size:Int))=true:=decide_eq_true c20
     have c20b1:decide (1 ≤ a0.size)=true:=decide_eq_true zb16
     clear c20
     obtain rfl:=Option.some.inj H
     go_wp2
     go_ret
     exact ⟨zb5,zb13⟩
    rw [if_neg c20] at H
    have c20b0:decide (1 ≤ (a0.size:Int))=false:=decide_eq_false c20
    have c20b1:decide (1 ≤ a0.size)=false:=decide_eq_false zb16
    clear c20
    obtain rfl:=Option.some.inj H
    go_wp2
    go_ret
    exact ⟨zb5,zb13⟩
   rw [if_pos c2] at H
   have c2b0:=decide_eq_true c2
   clear c2
   by_cases c3:0 ≤ x3_1
   ·rw [if_pos c3] at H
    have c3b0:=decide_eq_true c3
    clear c3
    by_cases c5:(bt a0 x3_1) ≥ 97;rotate_left
    ·rw [if_neg c5] at H
     have c5b0:decide (97 ≤ (bt a0 x3_1))=false:=decide_eq_false c5
     clear c5
     by_cases c14:x3_1=0
     ·rw [if_pos c14] at H
      have c14b0:=beq_iff_eq.mpr c14
      have c14b1:=bne_eq_false_iff_eq.mpr c14
      clear c14
      obtain rfl:=Option.some.inj H
      have p4:0 ≤ (x3_1:Int):=of_decide_eq_true zb1
      have q4:x3_1 < (a0.size:Int):=of_decide_eq_true zb1
      have hx4:=bt_at a0 x3_1
      replace p4:=eq_true p4
      replace q4:=eq_true q4
      go_wp2
      go_ret
      exact ⟨zb5,zb13⟩
     rw [if_neg c14] at H
     have c14b0:=beq_eq_false_iff_ne.mpr c14
     have c14b1:=bne_iff_ne.mpr c14
     replace H:=Option.bind_eq_some_iff.mp H
     obtain ⟨t266,A160,H⟩:=H
     try dsimp only at H
     have A16:=Aside0.mk A160
     clear A160
     by_cases c17:t266=true
     ·subst c17
      rw [if_pos rfl] at H
      have H' := Aside0.mk H
      clear H
      have p4:0 ≤ (x3_1:Int):=of_decide_eq_true zb1
      have q4:x3_1 < (a0.size:Int):=of_decide_eq_true zb1
      have hx4:=bt_at a0 x3_1
      replace p4:=eq_true p4
      replace q4:=eq_true q4
      have p15:0 ≤ (x3_1:Int):=of_decide_eq_true zb1
      have q15:x3_1 < (a0.size:Int):=of_decide_eq_true zb1
      have hx15:=bt_at a0 x3_1
      replace p15:=eq_true p15
      replace q15:=eq_true q15
      go_wp2_with (first|(go_at_call 43;(with_reducible refine (tollbarref02_Digit.calls (bt a0 x3_1) true _ A16.out).mono ?_);rintro e w' ⟨rfl,⟨nd,rfl⟩⟩;(try clear A16)))
      go_roundg k1
      case measure=>have:=HK1.out;omega
      case rel=>exact ⟨(wrap64 (x3_1 + 1)),zb5,H',⟨zb54⟩,zb13⟩
     replace c17:=Bool.eq_false_iff.mpr c17
     subst c17
     rw [if_neg (show ¬ (false=true) by decide)] at H
     by_cases c19:(bt a0 x3_1)=45;rotate_left
     ·rw [if_neg c19] at H
      have c19b0:=beq_eq_false_iff_ne.mpr c19
      have c19b1:=bne_iff_ne.mpr c19
      obtain rfl:=Option.some.inj H
      have p4:0 ≤ (x3_1:Int):=of_decide_eq_true zb1
      have q4:x3_1 < (a0.size:Int):=of_decide_eq_true zb1
      have hx4:=bt_at a0 x3_1
      replace p4:=eq_true p4
      replace q4:=eq_true q4
      have p15:0 ≤ (x3_1:Int):=of_decide_eq_true zb1
      have q15:x3_1 < (a0.size:Int):=of_decide_eq_true zb1
      have hx15:=bt_at a0 x3_1
      replace p15:=eq_true p15
      replace q15:=eq_true q15
      go_wp2_with (first|(go_at_call 43;(with_reducible refine (tollbarref02_Digit.calls (bt a0 x3_1) false _ A16.out).mono ?_);rintro e w' ⟨rfl,⟨nd,rfl⟩⟩;(try clear A16);have p18:0 ≤ (x3_1:Int):=of_decide_eq_true zb1;have q18:x3_1 < (a0.size:Int):=of_decide_eq_true zb1;have hx18:=bt_at a0 x3_1;replace p18:=eq_true p18;replace q18:=eq_true q18))
      go_ret
      exact ⟨zb5,zb13⟩
     rw [if_pos c19] at H
     have c19b0:=beq_iff_eq.mpr c19
     have c19b1:=bne_eq_false_iff_eq.mpr c19
     clear c19
     have H' := Aside0.mk H
     clear H
     have p4:0 ≤ (x3_1:Int):=of_decide_eq_true zb1
     have q4:x3_1 < (a0.size:Int):=of_decide_eq_true zb1
     have hx4:=bt_at a0 x3_1
     replace p4:=eq_true p4
     replace q4:=eq_true q4
     have p15:0 ≤ (x3_1:Int):=of_decide_eq_true zb1
     have q15:x3_1 < (a0.size:Int):=of_decide_eq_true zb1
     have hx15:=bt_at a0 x3_1
     replace p15:=eq_true p15
     replace q15:=eq_true q15
     go_wp2_with (first|(go_at_call 43;(with_reducible refine (tollbarref02_Digit.calls (bt a0 x3_1) false _ A16.out).mono ?_);rintro e w' ⟨rfl,⟨nd,rfl⟩⟩;(try clear A16);have p18:0 ≤ (x3_1:Int):=of_decide_eq_true zb1;have q18:x3_1 < (a0.size:Int):=of_decide_eq_true zb1;have hx18:=bt_at a0 x3_1;replace p18:=eq_true p18;replace q18:=eq_true q18))
     go_roundg k1
     case measure=>have:=HK1.out;omega
     case rel=>exact ⟨(wrap64 (x3_1 + 1)),zb5,H',⟨zb54⟩,zb13⟩
    rw [if_pos c5] at H
    have c5b0:decide (97 ≤ (bt a0 x3_1))=true:=decide_eq_true c5
    clear c5
    by_cases c7:((bt a0 x3_1) ≤ 122)
    ·rw [if_pos c7] at H
     have c7b0:decide ((bt a0 x3_1) ≤ 122)=true:=decide_eq_true c7
     clear c7
     have H' := Aside0.mk H
     clear H
     have p4:0 ≤ (x3_1:Int):=of_decide_eq_true zb1
     have q4:x3_1 < (a0.size:Int):=of_decide_eq_true zb1
     have hx4:=bt_at a0 x3_1
     replace p4:=eq_true p4
     replace q4:=eq_true q4
     have p6:0 ≤ (x3_1:Int):=of_decide_eq_true zb1
     have q6:x3_1 < (a0.size:Int):=of_decide_eq_true zb1
     have hx6:=bt_at a0 x3_1
     replace p6:=eq_true p6
     replace q6:=eq_true q6
     go_wp2
     go_roundg k1
     case measure=>have:=HK1.out;omega
     case rel=>exact ⟨(wrap64 (x3_1 + 1)),zb5,H',⟨zb54⟩,zb13⟩
    rw [if_neg c7] at H
    have c7b0:decide ((bt a0 x3_1) ≤ 122)=false:=decide_eq_false c7
    clear c7
    by_cases c8:x3_1=0
    ·rw [if_pos c8] at H
     have c8b0:=beq_iff_eq.mpr c8
     have c8b1:=bne_eq_false_iff_eq.mpr c8
     clear c8
     obtain rfl:=Option.some.inj H
     have p4:0 ≤ (x3_1:Int):=of_decide_eq_true zb1
     have q4:x3_1 < (a0.size:Int):=of_decide_eq_true zb1
     have hx4:=bt_at a0 x3_1
     replace p4:=eq_true p4
     replace q4:=eq_true q4
     have p6:0 ≤ (x3_1:Int):=of_decide_eq_true zb1
     have q6:x3_1 < (a0.size:Int):=of_decide_eq_true zb1
     have hx6:=bt_at a0 x3_1
     replace p6:=eq_true p6
     replace q6:=eq_true q6
     go_wp2
     go_ret
     exact ⟨zb5,zb13⟩
    ·rw [if_neg c8] at H
     have c8b0:=beq_eq_false_iff_ne.mpr c8
     have c8b1:=bne_iff_ne.mpr c8
     replace H:=Option.bind_eq_some_iff.mp H
     obtain ⟨t265,A100,H⟩:=H
     try dsimp only at H
     have A10:=Aside0.mk A100
     clear A100
     by_cases c11:t265=true
     ·subst c11
      rw [if_pos rfl] at H
      have H' := Aside0.mk H
      clear H
      have p4:0 ≤ (x3_1:Int):=of_decide_eq_true zb1
      have q4:x3_1 < (a0.size:Int):=of_decide_eq_true zb1
      have hx4:=bt_at a0 x3_1
      replace p4:=eq_true p4
      replace q4:=eq_true q4
      have p6:0 ≤ (x3_1:Int):=of_decide_eq_true zb1
      have q6:x3_1 < (a0.size:Int):=of_decide_eq_true zb1
      have hx6:=bt_at a0 x3_1
      replace p6:=eq_true p6
      replace q6:=eq_true q6
      have p9:0 ≤ (x3_1:Int):=of_decide_eq_true zb1
      have q9:x3_1 < (a0.size:Int):=of_decide_eq_true zb1
      have hx9:=bt_at a0 x3_1
      replace p9:=eq_true p9
      replace q9:=eq_true q9
      go_wp2_with (first|(go_at_call 43;(with_reducible refine (tollbarref02_Digit.calls (bt a0 x3_1) true _ A10.out).mono ?_);rintro e w' ⟨rfl,⟨nd,rfl⟩⟩;(try clear A10)))
      go_roundg k1
      case measure=>have:=HK1.out;omega
      case rel=>exact ⟨(wrap64 (x3_1 + 1)),zb5,H',⟨zb54⟩,zb13⟩
     ·replace c11:=Bool.eq_false_iff.mpr c11
      subst c11
      rw [if_neg (show ¬ (false=true) by decide)] at H
      by_cases c13:(bt a0 x3_1)=45
      ·rw [if_pos c13] at H
       have c13b0:=beq_iff_eq.mpr c13
       have c13b1:=bne_eq_false_iff_eq.mpr c13
       clear c13
       have H' := Aside0.mk H
       clear H
       have p4:0 ≤ (x3_1:Int):=of_decide_eq_true zb1
       have q4:x3_1 < (a0.size:Int):=of_decide_eq_true zb1
       have hx4:=bt_at a0 x3_1
       replace p4:=eq_true p4
       replace q4:=eq_true q4
       have p6:0 ≤ (x3_1:Int):=of_decide_eq_true zb1
       have q6:x3_1 < (a0.size:Int):=of_decide_eq_true zb1
       have hx6:=bt_at a0 x3_1
       replace p6:=eq_true p6
       replace q6:=eq_true q6
       have p9:0 ≤ (x3_1:Int):=of_decide_eq_true zb1
       have q9:x3_1 < (a0.size:Int):=of_decide_eq_true zb1
       have hx9:=bt_at a0 x3_1
       replace p9:=eq_true p9
       replace q9:=eq_true q9
       go_wp2_with (first|(go_at_call 43;(with_reducible refine (tollbarref02_Digit.calls (bt a0 x3_1) false _ A10.out).mono ?_);rintro e w' ⟨rfl,⟨nd,rfl⟩⟩;(try clear A10);have p12:0 ≤ (x3_1:Int):=of_decide_eq_true zb1;have q12:x3_1 < (a0.size:Int):=of_decide_eq_true zb1;have hx12:=bt_at a0 x3_1;replace p12:=eq_true p12;replace q12:=eq_true q12))
       go_roundg k1
       case measure=>have:=HK1.out;omega
       case rel=>exact ⟨(wrap64 (x3_1 + 1)),zb5,H',⟨zb54⟩,zb13⟩
      ·rw [if_neg c13] at H
       have c13b0:=beq_eq_false_iff_ne.mpr c13
       have c13b1:=bne_iff_ne.mpr c13
       obtain rfl:=Option.some.inj H
       have p4:0 ≤ (x3_1:Int):=of_decide_eq_true zb1
       have q4:x3_1 < (a0.size:Int):=of_decide_eq_true zb1
       have hx4:=bt_at a0 x3_1
       replace p4:=eq_true p4
       replace q4:=eq_true q4
       have p6:0 ≤ (x3_1:Int):=of_decide_eq_true zb1
       have q6:x3_1 < (a0.size:Int):=of_decide_eq_true zb1
       have hx6:=bt_at a0 x3_1
       replace p6:=eq_true p6
       replace q6:=eq_true q6
       have p9:0 ≤ (x3_1:Int):=of_decide_eq_true zb1
       have q9:x3_1 < (a0.size:Int):=of_decide_eq_true zb1
       have hx9:=bt_at a0 x3_1
       replace p9:=eq_true p9
       replace q9:=eq_true q9
       go_wp2_with (first|(go_at_call 43;(with_reducible refine (tollbarref02_Digit.calls (bt a0 x3_1) false _ A10.out).mono ?_);rintro e w' ⟨rfl,⟨nd,rfl⟩⟩;(try clear A10);have p12:0 ≤ (x3_1:Int):=of_decide_eq_true zb1;have q12:x3_1 < (a0.size:Int):=of_decide_eq_true zb1;have hx12:=bt_at a0 x3_1;replace p12:=eq_true p12;replace q12:=eq_true q12))
       go_ret
       exact ⟨zb5,zb13⟩
   ·rw [if_neg c3] at H
    exact absurd H zb24
def tollbarref09_Lines.l0:Nat → ByteArray → List ByteArray → Int → Int → Option (List ByteArray × Bool)
 | 0,_,_,_,_=>none
 | k + 1,x0,x4,x5,x6=>if x6 < (x0.size:Int) then (if 0 ≤ x6 then (if (bt x0 x6)=10 then (if 0 ≤ x5 then (if x5 ≤ x6 then (if x6 ≤ (x0.size:Int) then (if x4.length < 8796093022208 then (tollbarref09_Lines.l0 k x0 (x4 ++ [x0.extract (x5:Int).toNat (x6:Int).toNat]) (wrap64 (x6 + 1)) (wrap64 (x6 + 1))) else (none)) else (none)) else (none)) else (none)) else (tollbarref09_Lines.l0 k x0 x4 x5 (wrap64 (x6 + 1)))) else (none)) else (some (x4,(x5 == (x0.size:Int))))
def tollbarref09_Lines.f (k:Nat) (a0:ByteArray):Option (List ByteArray × Bool):=tollbarref09_Lines.l0 k a0 (([]:List ByteArray)) 0 0
set_option maxHeartbeats 8000000 in
set_option maxRecDepth 100000 in
theorem tollbarref09_Lines.calls (k:Nat) (a0:ByteArray) (r1:List ByteArray) (r2:Bool) (w:World) (h:tollbarref09_Lines.f k a0=some (r1,r2)) :
 Calls Tryz.prog 36 #[.string a0] w fun e w' => ∃ v0_:Value,e = .returned (.tuple #[v0_,.bool r2])∧Kd.R Kd.string 9 w' w.heap.size (fun _=>True) v0_ r1∧Below w.heap.size w w' := by
 have HB:=Aside0.mk (Below.refl w.heap.size w)
 unfold tollbarref09_Lines.f at h
 have H:=h
 clear h
 obtain ⟨y239,hy239⟩ : ∃ y_:List ByteArray,y_=(([]:List ByteArray)):=⟨_,rfl⟩
 replace H:(tollbarref09_Lines.l0 k a0 y239 0 0)=some (r1,r2):=by first|(rw [hy239];with_reducible exact H)|(have H2_:=(Option.bind_some _ _).symm.trans H;rw [hy239];with_reducible exact H2_)|(have H2_:=(Option.bind_some _ _).symm.trans H;with_reducible exact H2_)|with_reducible exact H|(rw [hy239];exact H)|exact H
 have Ny239:=Aside0.mk hy239
 clear hy239
 have H' := Aside0.mk H
 clear H
 go_enter Tryz.func36,Tryz.ntmps36
 go_wp2_with (first|((with_reducible refine gate_dst (N:=7) rfl ?_);refine Kd.R_lit Kd.string _ 9 ?hg (N:=7) ?hd (xs:=([]:List ByteArray)) (inner:=[]) (ok:=fun _=>True) (okp:=fun _=>True) ?hr ?hp (fun _ hk=>hk) trivial (Below.refl _ _) (Nat.le_refl _) zb24 ?_;(case hd=>rfl);(case hg=>rfl);(case hr=>first|(go_simp;done)|(go_simp;rfl));(case hp=>exact (Reps.none _ _));intro v240 w2 ho3 hb hg_ hnew_;clear hg_ hnew_;(first|rw [← Ny239.out] at ho3|(simp only [Int.reduceToNat] at ho3;rw [← Ny239.out] at ho3));have HO241:=Aside0.mk (Kd.R_lower ho3 (below_size zb0));replace HB:=Aside0.mk (below_step zb0 hb);clear hb ho3))
 go_loopg [4,5,6] k (fun kq v4 v5 v6 w' => ∃ (x4_1:List ByteArray) (x5_1:Int) (x6_1:Int),v5 = .int .i64 x5_1∧v6 = .int .i64 x6_1∧Aside0 (tollbarref09_Lines.l0 kq a0 x4_1 x5_1 x6_1=some (r1,r2))∧Aside0 (kq ≤ k)∧Aside0 (Kd.R Kd.string 9 w' w.heap.size (fun _=>True) v4 x4_1)∧Aside0 (Below w.heap.size w w'))
 case atStart=>exact ⟨(y239),(0),(0),zb5,zb5,H',⟨Nat.le_refl _⟩,⟨by (with_reducible repeat (first|apply Kd.R_alloc|apply Kd.R_drewN|apply Kd.R_drew));exact HO241.out⟩,⟨zb0⟩⟩
 case round =>
  clear H'
  try clear p2
  try clear c3
  obtain ⟨x4_1,x5_1,x6_1,rfl,rfl,HA,HK1,HO_4,HB⟩:=hrel
  cases gk with
  | zero=>exact absurd HA.out (by simp [tollbarref09_Lines.l0])
  | succ k1 =>
   have H:=HA.out
   clear HA
   simp only [tollbarref09_Lines.l0] at H
   by_cases c4:x6_1 < (a0.size:Int);rotate_left
   ·rw [if_neg c4] at H
    have c4b0:=decide_eq_false c4
    clear c4
    simp only [Option.some.injEq,Prod.mk.injEq] at H
    obtain ⟨rfl,rfl⟩:=H
    go_wp2
    go_ret2
    exact ⟨_,zb6,zb4,zb0⟩
   rw [if_pos c4] at H
   have c4b0:=decide_eq_true c4
   clear c4
   by_cases c5:0 ≤ x6_1
   ·rw [if_pos c5] at H
    have c5b0:=decide_eq_true c5
    clear c5
    by_cases c7:(bt a0 x6_1)=10;rotate_left
    ·rw [if_neg c7] at H
     have c7b0:=beq_eq_false_iff_ne.mpr c7
     have c7b1:=bne_iff_ne.mpr c7
     have H' := Aside0.mk H
     clear H
     have p6:0 ≤ (x6_1:Int):=of_decide_eq_true zb1
     have q6:x6_1 < (a0.size:Int):=of_decide_eq_true zb1
     have hx6:=bt_at a0 x6_1
     replace p6:=eq_true p6
     replace q6:=eq_true q6
     go_wp2
     go_roundg k1
     case measure=>have:=HK1.out;omega
     case rel=>exact ⟨(x4_1),(x5_1),(wrap64 (x6_1 + 1)),zb5,zb5,H',⟨zb54⟩,⟨zb4⟩,⟨zb0⟩⟩
    rw [if_pos c7] at H
    have c7b0:=beq_iff_eq.mpr c7
    have c7b1:=bne_eq_false_iff_eq.mpr c7
    clear c7
    by_cases c8:0 ≤ x5_1
    ·rw [if_pos c8] at H
     have c8b0:=eq_true c8
     have c8b1:=decide_eq_true c8
     clear c8
     by_cases c9:x5_1 ≤ x6_1
     ·rw [if_pos c9] at H
      have c9b0:=eq_true c9
      have c9b1:=decide_eq_true c9
      clear c9
      by_cases c10:x6_1 ≤ (a0.size:Int)
      ·rw [if_pos c10] at H
       have c10b0:=eq_true c10
       have c10b1:=decide_eq_true c10
       clear c10
       by_cases c11:x4_1.length < 8796093022208
       ·rw [if_pos c11] at H
        have LMc11:=Aside0.mk c11
        clear c11
        obtain ⟨y242,hy242⟩ : ∃ y_:List ByteArray,y_=(x4_1 ++ [a0.extract (x5_1:Int).toNat (x6_1:Int).toNat]):=⟨_,rfl⟩
        replace H:(tollbarref09_Lines.l0 k1 a0 y242 (wrap64 (x6_1 + 1)) (wrap64 (x6_1 + 1)))=some (r1,r2):=by first|(rw [hy242];with_reducible exact H)|(have H2_:=(Option.bind_some _ _).symm.trans H;rw [hy242];with_reducible exact H2_)|(have H2_:=(Option.bind_some _ _).symm.trans H;with_reducible exact H2_)|with_reducible exact H|(rw [hy242];exact H)|exact H
        have Ny242:=Aside0.mk hy242
        clear hy242
        have H' := Aside0.mk H
        clear H
        have p6:0 ≤ (x6_1:Int):=of_decide_eq_true zb1
        have q6:x6_1 < (a0.size:Int):=of_decide_eq_true zb1
        have hx6:=bt_at a0 x6_1
        replace p6:=eq_true p6
        replace q6:=eq_true q6
        go_wp2_with (first|((with_reducible refine gate_builtin (b:=.append) (xs:=#[.tmp 18,.tmp 23]) rfl ?_);at_builtin;refine Kd.R_append Kd.string (w0:=w) w.heap.size rfl (.tmp 18) (.tmp 23) 34 9 (.string ⟨#[]⟩) 16 rfl Tryz.underlying34 info9 rfl zb22 zb16 u4 x4_1 (a0.extract (x5_1:Int).toNat (x6_1:Int).toNat) [.string (a0.extract (x5_1:Int).toNat (x6_1:Int).toNat)] (fun _=>True) (fun _=>False) rfl rfl ?aP (fun _ hk=>hk.elim) ?aF ?aO ?aB ?aS ?aL ?_;(case aP=>exact rfl);(case aB=>exact zb26);(case aF=>exact (fun _ _=>trivial));(case aO=>exact zb4);(case aS=>exact zb23);(case aL=>have:=LMc11.out;omega);intro v243 w12 ho hb hg hat;rw [← Ny242.out] at ho;replace HB:=Aside0.mk (hb);have HO244:=Aside0.mk (ho);clear ho hb hg hat))
        go_roundg k1
        case measure=>have:=HK1.out;omega
        case rel=>exact ⟨(y242),(wrap64 (x6_1 + 1)),(wrap64 (x6_1 + 1)),zb5,zb5,H',⟨zb54⟩,⟨by (with_reducible repeat (first|apply Kd.R_alloc|apply Kd.R_drewN|apply Kd.R_drew));exact HO244.out⟩,⟨zb0⟩⟩
       ·rw [if_neg c11] at H
        exact absurd H zb24
      ·rw [if_neg c10] at H
       exact absurd H zb24
     ·rw [if_neg c9] at H
      exact absurd H zb24
    ·rw [if_neg c8] at H
     exact absurd H zb24
   ·rw [if_neg c5] at H
    exact absurd H zb24
mutual
def tollbarref02_Decimal.j0:Nat → ByteArray → Bool → Option (Int × Bool)
 | 0,_,_=>none
 | k + 1,x0,x13=>if x13=true then (some (0,false)) else (tollbarref02_Decimal.l0 k x0 0 0)
def tollbarref02_Decimal.l0:Nat → ByteArray → Int → Int → Option (Int × Bool)
 | 0,_,_,_=>none
 | k + 1,x0,x4,x5=>if x5 < (x0.size:Int) then (if 0 ≤ x5 then ((tollbarref02_Digit.f (bt x0 x5)).bind fun t261=>(if t261=true then (tollbarref02_Decimal.l0 k x0 (wrap64 ((wrap64 (x4 * 10)) + (((bt x0 x5) - 48) % 256))) (wrap64 (x5 + 1))) else (some (0,false)))) else (none)) else (some (x4,true))
end
def tollbarref02_Decimal.f (k:Nat) (a0:ByteArray):Option (Int × Bool):=if (a0.size:Int) < 1 then (tollbarref02_Decimal.j0 k a0 true) else (tollbarref02_Decimal.j0 k a0 (decide ((a0.size:Int) > 18)))
set_option maxHeartbeats 8000000 in
set_option maxRecDepth 100000 in
theorem tollbarref02_Decimal.calls (k:Nat) (a0:ByteArray) (r1:Int) (r2:Bool) (w:World) (h:tollbarref02_Decimal.f k a0=some (r1,r2)) :
 Calls Tryz.prog 75 #[.string a0] w fun e w' => e = .returned (.tuple #[.int .i64 r1,.bool r2])∧Drawn0 w w' := by
 unfold tollbarref02_Decimal.f at h
 have H:=h
 clear h
 have HC2:=Aside0.mk H
 clear H
 go_enter Tryz.func75,Tryz.ntmps75
 go_upto_region 1 with (fail)
 go_cut [13] (fun v13 wc => ∃ (kq:Nat) (x13_1:Bool),v13 = .bool x13_1∧Aside0 (tollbarref02_Decimal.j0 kq a0 x13_1=some (r1,r2))∧Aside0 (kq ≤ k)∧Drawn0 w wc)
 case first =>
  have H:=HC2.out
  clear HC2
  by_cases c3:(a0.size:Int) < 1
  ·rw [if_pos c3] at H
   have c3b0:=decide_eq_true c3
   have c3b1:decide (a0.size < 1)=true:=decide_eq_true zb16
   clear c3
   (first|rw [c3b0]|(simp only [i64_w,i32_w];rw [c3b0])|rw [c3b1]|skip)
   have H' := Aside0.mk H
   clear H
   go_wp2
   go_meet
   case rel=>exact ⟨_,(true),zb5,H',⟨zb60⟩,zb13⟩
  rw [if_neg c3] at H
  have c3b0:=decide_eq_false c3
  have c3b1:decide (a0.size < 1)=false:=decide_eq_false zb16
  clear c3
  (first|rw [c3b0]|(simp only [i64_w,i32_w];rw [c3b0])|rw [c3b1]|skip)
  have H' := Aside0.mk H
  clear H
  go_wp2
  go_meet
  case rel=>exact ⟨_,(decide ((a0.size:Int) > 18)),zb5,H',⟨zb60⟩,zb13⟩
 case rest =>
  clear HC2
  try clear p2
  try clear c3
  try clear c3b0
  try clear c3b1
  obtain ⟨kq,x13_1,rfl,HA,HJ1,⟨mc1,rfl⟩⟩:=hcut
  cases kq with
  | zero=>exact absurd HA.out (by simp [tollbarref02_Decimal.j0])
  | succ kj1 =>
   have H:=HA.out
   clear HA
   simp only [tollbarref02_Decimal.j0] at H
   by_cases c4:x13_1=true
   ·subst c4
    rw [if_pos rfl] at H
    simp only [Option.some.injEq,Prod.mk.injEq] at H
    obtain ⟨rfl,rfl⟩:=H
    go_wp2
    go_ret2
    exact ⟨zb5,zb13⟩
   replace c4:=Bool.eq_false_iff.mpr c4
   subst c4
   rw [if_neg (show ¬ (false=true) by decide)] at H
   have H' := Aside0.mk H
   clear H
   go_wp2
   go_loopg [4,5] kj1 (fun kq v4 v5 w' => ∃ (x4_2:Int) (x5_2:Int),v4 = .int .i64 x4_2∧v5 = .int .i64 x5_2∧Aside0 (tollbarref02_Decimal.l0 kq a0 x4_2 x5_2=some (r1,r2))∧Aside0 (kq ≤ kj1)∧Drawn0 w w')
   case atStart=>exact ⟨(0),(0),zb5,zb5,H',⟨Nat.le_refl _⟩,zb13⟩
   case round =>
    clear H'
    try clear c1
    try clear p2
    try clear c3
    try clear c3b0
    try clear c3b1
    try clear c4
    try clear p2
    obtain ⟨x4_2,x5_2,rfl,rfl,HA,HK2,⟨m2,rfl⟩⟩:=hrel
    cases gk with
    | zero=>exact absurd HA.out (by simp [tollbarref02_Decimal.l0])
    | succ k2 =>
     have H:=HA.out
     clear HA
     simp only [tollbarref02_Decimal.l0] at H
     by_cases c5:x5_2 < (a0.size:Int);rotate_left
     ·rw [if_neg c5] at H
      have c5b0:=decide_eq_false c5
      clear c5
      simp only [Option.some.injEq,Prod.mk.injEq] at H
      obtain ⟨rfl,rfl⟩:=H
      go_wp2
      go_ret2
      exact ⟨zb5,zb13⟩
     rw [if_pos c5] at H
     have c5b0:=decide_eq_true c5
     clear c5
     by_cases c6:0 ≤ x5_2
     ·rw [if_pos c6] at H
      have c6b0:=decide_eq_true c6
      clear c6
      replace H:=Option.bind_eq_some_iff.mp H
      obtain ⟨t261,A80,H⟩:=H
      try dsimp only at H
      have A8:=Aside0.mk A80
      clear A80
      by_cases c9:t261=true
      ·subst c9
       rw [if_pos rfl] at H
       have H' := Aside0.mk H
       clear H
       have p7:0 ≤ (x5_2:Int):=of_decide_eq_true zb1
       have q7:x5_2 < (a0.size:Int):=of_decide_eq_true zb1
       have hx7:=bt_at a0 x5_2
       replace p7:=eq_true p7
       replace q7:=eq_true q7
       go_wp2_with (first|((with_reducible refine gate_callee (f:=43) rfl ?_);refine goesL_ (some 23) rfl rfl Tryz.func43 zb14 rfl #[.int .u8 (bt a0 x5_2)] rfl zb2 ?_;(with_reducible refine (tollbarref02_Digit.calls (bt a0 x5_2) true _ A8.out).mono ?_);rintro e w' ⟨rfl,⟨nd,rfl⟩⟩;(try clear A8);refine ⟨_,rfl,?_⟩;have p10:0 ≤ (x5_2:Int):=of_decide_eq_true zb1;have q10:x5_2 < (a0.size:Int):=of_decide_eq_true zb1;have hx10:=bt_at a0 x5_2;replace p10:=eq_true p10;replace q10:=eq_true q10))
       go_roundg k2
       case measure=>have:=HJ1.out;have:=HK2.out;omega
       case rel=>exact ⟨(wrap64 ((wrap64 (x4_2 * 10)) + (((bt a0 x5_2) - 48) % 256))),(wrap64 (x5_2 + 1)),zb5,zb5,H',⟨zb68⟩,zb13⟩
      replace c9:=Bool.eq_false_iff.mpr c9
      subst c9
      rw [if_neg (show ¬ (false=true) by decide)] at H
      simp only [Option.some.injEq,Prod.mk.injEq] at H
      obtain ⟨rfl,rfl⟩:=H
      have p7:0 ≤ (x5_2:Int):=of_decide_eq_true zb1
      have q7:x5_2 < (a0.size:Int):=of_decide_eq_true zb1
      have hx7:=bt_at a0 x5_2
      replace p7:=eq_true p7
      replace q7:=eq_true q7
      go_wp2_with (first|((with_reducible refine gate_callee (f:=43) rfl ?_);refine goesL_ (some 23) rfl rfl Tryz.func43 zb14 rfl #[.int .u8 (bt a0 x5_2)] rfl zb2 ?_;(with_reducible refine (tollbarref02_Digit.calls (bt a0 x5_2) false _ A8.out).mono ?_);rintro e w' ⟨rfl,⟨nd,rfl⟩⟩;(try clear A8);refine ⟨_,rfl,?_⟩))
      go_ret2
      exact ⟨zb5,zb13⟩
     ·rw [if_neg c6] at H
      exact absurd H zb24
mutual
def tollbarref02_Text.l0:Nat → Int → ByteArray → Option (ByteArray)
 | 0,_,_=>none
 | k + 1,x0,x3=>if x3.toList=([]:List UInt8) then ((some (([(wrap64 (48 + (Int.tmod x0 10))) % 256]:List Int):List Int)).bind fun y255=>(if (strOfNums y255).size + x3.size ≤ 9223372036854775807 then (tollbarref02_Text.l0 k (wrap64 (Int.tdiv x0 10)) ((strOfNums y255) ++ x3)) else (none))) else (if x0 > 0 then ((some (([(wrap64 (48 + (Int.tmod x0 10))) % 256]:List Int):List Int)).bind fun y258=>(if (strOfNums y258).size + x3.size ≤ 9223372036854775807 then (tollbarref02_Text.l0 k (wrap64 (Int.tdiv x0 10)) ((strOfNums y258) ++ x3)) else (none))) else (some x3))
def tollbarref02_Text.f:Nat → Int → Option (ByteArray)
 | 0,_=>none
 | k + 1,a0=>if a0=(-9223372036854775808) then (some (⟨#[45,57,50,50,51,51,55,50,48,51,54,56,53,52,55,55,53,56,48,56]⟩:ByteArray)) else (if a0 < 0 then ((tollbarref02_Text.f k (wrap64 (-a0))).bind fun t254=>(if 1 + t254.size ≤ 9223372036854775807 then (some ((⟨#[45]⟩:ByteArray) ++ t254)) else (none))) else (tollbarref02_Text.l0 k a0 (⟨#[]⟩:ByteArray)))
end
set_option maxHeartbeats 8000000 in
set_option maxRecDepth 100000 in
theorem tollbarref02_Text.calls (k:Nat) : ∀ (a0:Int) (r:ByteArray) (w:World) (h:tollbarref02_Text.f k a0=some r),
 Calls Tryz.prog 64 #[.int .i64 a0] w fun e w' => e = .returned (.string r)∧Below w.heap.size w w' := by
 induction k using Nat.strongRecOn with
 | _ k ih =>
 intro a0 r w h
 cases k with
 | zero=>exact absurd h (by simp [tollbarref02_Text.f])
 | succ k =>
 simp only [tollbarref02_Text.f] at h
 have HB:=Aside0.mk (Below.refl w.heap.size w)
 have H:(if a0=(-9223372036854775808) then (some (⟨#[45,57,50,50,51,51,55,50,48,51,54,56,53,52,55,55,53,56,48,56]⟩:ByteArray)) else (if a0 < 0 then ((tollbarref02_Text.f k (wrap64 (-a0))).bind fun t254=>(if 1 + t254.size ≤ 9223372036854775807 then (some ((⟨#[45]⟩:ByteArray) ++ t254)) else (none))) else (tollbarref02_Text.l0 k a0 (⟨#[]⟩:ByteArray))))=some r:=h
 clear h
 by_cases c2:a0=(-9223372036854775808)
 ·rw [if_pos c2] at H
  have c2b0:=beq_iff_eq.mpr c2
  have c2b1:=bne_eq_false_iff_eq.mpr c2
  clear c2
  obtain rfl:=Option.some.inj H
  go_enter Tryz.func64,Tryz.ntmps64
  go_wp2
  go_ret
  exact ⟨zb6,zb0⟩
 rw [if_neg c2] at H
 have c2b0:=beq_eq_false_iff_ne.mpr c2
 have c2b1:=bne_iff_ne.mpr c2
 by_cases c3:a0 < 0
 ·rw [if_pos c3] at H
  have c3b0:=decide_eq_true c3
  clear c3
  replace H:=Option.bind_eq_some_iff.mp H
  obtain ⟨t254,A40,H⟩:=H
  try dsimp only at H
  have A4:=Aside0.mk A40
  clear A40
  by_cases c5:1 + t254.size ≤ 9223372036854775807;rotate_left
  ·rw [if_neg c5] at H
   exact absurd H zb24
  rw [if_pos c5] at H
  have c5b0:=eq_true c5
  have c5b1:=decide_eq_true c5
  try have c5b2:(9223372036854775807 < 1 + t254.size)=False:=eq_false (Nat.not_lt.2 c5)
  obtain rfl:=Option.some.inj H
  go_enter Tryz.func64,Tryz.ntmps64
  go_wp2_with (first|((with_reducible refine gate_callee (f:=64) rfl ?_);refine goesL_ (some 10) rfl rfl Tryz.func64 zb14 rfl #[.int .i64 (wrap64 (-a0))] rfl zb2 ?_;(with_reducible refine (ih k (by omega) (wrap64 (-a0)) t254 _ A4.out).mono ?_);rintro e w6 ⟨rfl,hb⟩;(try clear A4);refine ⟨_,rfl,?_⟩;replace HB:=Aside0.mk (below_step zb0 hb);(try clear hb)))
  go_ret
  exact ⟨zb6,zb0⟩
 rw [if_neg c3] at H
 have c3b0:=decide_eq_false c3
 clear c3
 have H' := Aside0.mk H
 clear H
 go_enter Tryz.func64,Tryz.ntmps64
 go_wp2
 go_loopg [0,3] k (fun kq v0 v3 w' => ∃ (x0_1:Int) (x3_1:ByteArray),v0 = .int .i64 x0_1∧v3 = .string x3_1∧Aside0 (tollbarref02_Text.l0 kq x0_1 x3_1=some r)∧Aside0 (kq ≤ k)∧Aside0 (Below w.heap.size w w'))
 case atStart=>exact ⟨(a0),((⟨#[]⟩:ByteArray)),zb5,zb5,H',⟨Nat.le_refl _⟩,⟨zb0⟩⟩
 case round =>
  clear H'
  try clear c2
  try clear c2b0
  try clear c2b1
  try clear p2
  try clear c3
  try clear c3b0
  try clear c5
  try clear c5b0
  try clear c5b1
  try clear c5b2
  try clear c6
  try clear p6
  obtain ⟨x0_1,x3_1,rfl,rfl,HA,HK1,HB⟩:=hrel
  cases gk with
  | zero=>exact absurd HA.out (by simp [tollbarref02_Text.l0])
  | succ k1 =>
   have H:=HA.out
   clear HA
   simp only [tollbarref02_Text.l0] at H
   by_cases c7:x3_1.toList=([]:List UInt8)
   ·rw [if_pos c7] at H
    have c7b0:=beq_iff_eq.mpr c7
    have c7b1:=bne_eq_false_iff_eq.mpr c7
    clear c7
    obtain ⟨y255,hy255⟩ : ∃ y_:List Int,y_=(([(wrap64 (48 + (Int.tmod x0_1 10))) % 256]:List Int)):=⟨_,rfl⟩
    replace H:(if (strOfNums y255).size + x3_1.size ≤ 9223372036854775807 then (tollbarref02_Text.l0 k1 (wrap64 (Int.tdiv x0_1 10)) ((strOfNums y255) ++ x3_1)) else (none))=some r:=by first|(rw [hy255];with_reducible exact H)|(have H2_:=(Option.bind_some _ _).symm.trans H;rw [hy255];with_reducible exact H2_)|(have H2_:=(Option.bind_some _ _).symm.trans H;with_reducible exact H2_)|with_reducible exact H|(rw [hy255];exact H)|exact H
    have Ny255:=Aside0.mk hy255
    clear hy255
    by_cases c8:(strOfNums y255).size + x3_1.size ≤ 9223372036854775807;rotate_left
    ·rw [if_neg c8] at H
     exact absurd H zb24
    rw [if_pos c8] at H
    have c8b0:=eq_true c8
    have c8b1:=decide_eq_true c8
    try have c8b2:(9223372036854775807 < (strOfNums y255).size + x3_1.size)=False:=eq_false (Nat.not_lt.2 c8)
    have H' := Aside0.mk H
    clear H
    go_wp2_with (first|((with_reducible refine gate_dst (N:=22) rfl ?_);refine Kd.R_lit (Kd.int .u8) _ 5 ?hg (N:=22) ?hd (xs:=([(wrap64 (48 + (Int.tmod x0_1 10))) % 256]:List Int)) (inner:=[.int .u8 ((wrap64 (48 + (Int.tmod x0_1 10))) % 256)]) (ok:=fun _=>True) (okp:=fun _=>True) ?hr ?hp (fun _ hk=>hk) trivial (Below.refl _ _) (Nat.le_refl _) zb24 ?_;(case hd=>rfl);(case hg=>rfl);(case hr=>first|(go_simp;done)|(go_simp;rfl));(case hp=>exact (Reps.one (show Kd.M (Kd.int .u8) _ _ _ ((wrap64 (48 + (Int.tmod x0_1 10))) % 256) [.int .u8 ((wrap64 (48 + (Int.tmod x0_1 10))) % 256)] from rfl) (Reps.none _ _)));intro v256 w9 ho10 hb hg_ hnew_;clear hg_ hnew_;(first|rw [← Ny255.out] at ho10|(simp only [Int.reduceToNat] at ho10;rw [← Ny255.out] at ho10));have HO257:=Aside0.mk (Kd.R_lower ho10 (below_size zb0));replace HB:=Aside0.mk (below_step zb0 hb);clear hb ho10;have hcv11:=own_string (P:=Tryz.prog) Tryz.underlying50 Tryz.underlying5 Tryz.underlying9 (Kd.own_of_R HO257.out)))
    go_roundg k1
    case measure=>have:=HK1.out;omega
    case rel=>exact ⟨(wrap64 (Int.tdiv x0_1 10)),((strOfNums y255) ++ x3_1),zb5,zb5,H',⟨zb54⟩,⟨zb0⟩⟩
   rw [if_neg c7] at H
   have c7b0:=beq_eq_false_iff_ne.mpr c7
   have c7b1:=bne_iff_ne.mpr c7
   by_cases c12:x0_1 > 0;rotate_left
   ·rw [if_neg c12] at H
    have c12b0:decide (0 < x0_1)=false:=decide_eq_false c12
    clear c12
    obtain rfl:=Option.some.inj H
    go_wp2
    go_ret
    exact ⟨zb6,zb0⟩
   rw [if_pos c12] at H
   have c12b0:decide (0 < x0_1)=true:=decide_eq_true c12
   clear c12
   obtain ⟨y258,hy258⟩ : ∃ y_:List Int,y_=(([(wrap64 (48 + (Int.tmod x0_1 10))) % 256]:List Int)):=⟨_,rfl⟩
   replace H:(if (strOfNums y258).size + x3_1.size ≤ 9223372036854775807 then (tollbarref02_Text.l0 k1 (wrap64 (Int.tdiv x0_1 10)) ((strOfNums y258) ++ x3_1)) else (none))=some r:=by first|(rw [hy258];with_reducible exact H)|(have H2_:=(Option.bind_some _ _).symm.trans H;rw [hy258];with_reducible exact H2_)|(have H2_:=(Option.bind_some _ _).symm.trans H;with_reducible exact H2_)|with_reducible exact H|(rw [hy258];exact H)|exact H
   have Ny258:=Aside0.mk hy258
   clear hy258
   by_cases c13:(strOfNums y258).size + x3_1.size ≤ 9223372036854775807
   ·rw [if_pos c13] at H
    have c13b0:=eq_true c13
    have c13b1:=decide_eq_true c13
    try have c13b2:(9223372036854775807 < (strOfNums y258).size + x3_1.size)=False:=eq_false (Nat.not_lt.2 c13)
    have H' := Aside0.mk H
    clear H
    go_wp2_with (first|((with_reducible refine gate_dst (N:=22) rfl ?_);refine Kd.R_lit (Kd.int .u8) _ 5 ?hg (N:=22) ?hd (xs:=([(wrap64 (48 + (Int.tmod x0_1 10))) % 256]:List Int)) (inner:=[.int .u8 ((wrap64 (48 + (Int.tmod x0_1 10))) % 256)]) (ok:=fun _=>True) (okp:=fun _=>True) ?hr ?hp (fun _ hk=>hk) trivial (Below.refl _ _) (Nat.le_refl _) zb24 ?_;(case hd=>rfl);(case hg=>rfl);(case hr=>first|(go_simp;done)|(go_simp;rfl));(case hp=>exact (Reps.one (show Kd.M (Kd.int .u8) _ _ _ ((wrap64 (48 + (Int.tmod x0_1 10))) % 256) [.int .u8 ((wrap64 (48 + (Int.tmod x0_1 10))) % 256)] from rfl) (Reps.none _ _)));intro v259 w14 ho15 hb hg_ hnew_;clear hg_ hnew_;(first|rw [← Ny258.out] at ho15|(simp only [Int.reduceToNat] at ho15;rw [← Ny258.out] at ho15));have HO260:=Aside0.mk (Kd.R_lower ho15 (below_size zb0));replace HB:=Aside0.mk (below_step zb0 hb);clear hb ho15;have hcv16:=own_string (P:=Tryz.prog) Tryz.underlying50 Tryz.underlying5 Tryz.underlying9 (Kd.own_of_R HO260.out)))
    go_roundg k1
    case measure=>have:=HK1.out;omega
    case rel=>exact ⟨(wrap64 (Int.tdiv x0_1 10)),((strOfNums y258) ++ x3_1),zb5,zb5,H',⟨zb54⟩,⟨zb0⟩⟩
   ·rw [if_neg c13] at H
    exact absurd H zb24
def tollbarref09_Number.f (k:Nat) (a0:ByteArray):Option (Int × Bool):=(tollbarref02_Decimal.f k a0).bind fun bt262=>(if bt262.2=true then ((tollbarref02_Text.f k bt262.1).bind fun t264=>(some (bt262.1,(t264.toList == a0.toList)))) else (some (bt262.1,false)))
set_option maxHeartbeats 8000000 in
set_option maxRecDepth 100000 in
theorem tollbarref09_Number.calls (k:Nat) (a0:ByteArray) (r1:Int) (r2:Bool) (w:World) (h:tollbarref09_Number.f k a0=some (r1,r2)) :
 Calls Tryz.prog 38 #[.string a0] w fun e w' => e = .returned (.tuple #[.int .i64 r1,.bool r2])∧Below w.heap.size w w' := by
 have HB:=Aside0.mk (Below.refl w.heap.size w)
 unfold tollbarref09_Number.f at h
 have H:=h
 clear h
 replace H:=Option.bind_eq_some_iff.mp H
 obtain ⟨⟨t262,t263⟩,A20,H⟩:=H
 try dsimp only at H
 have A2:=Aside0.mk A20
 clear A20
 by_cases c3:t263=true;rotate_left
 ·replace c3:=Bool.eq_false_iff.mpr c3
  subst c3
  rw [if_neg (show ¬ (false=true) by decide)] at H
  simp only [Option.some.injEq,Prod.mk.injEq] at H
  obtain ⟨rfl,rfl⟩:=H
  go_enter Tryz.func38,Tryz.ntmps38
  go_wp2_with (first|((with_reducible refine gate_callee (f:=75) rfl ?_);refine goesL_ (some 8) rfl rfl Tryz.func75 zb14 rfl #[.string a0] rfl zb2 ?_;(with_reducible refine (tollbarref02_Decimal.calls k a0 t262 false _ A2.out).mono ?_);rintro e w' ⟨rfl,⟨nd,rfl⟩⟩;(try clear A2);refine ⟨_,rfl,?_⟩))
  go_ret2
  exact ⟨zb6,zb0⟩
 subst c3
 rw [if_pos rfl] at H
 replace H:=Option.bind_eq_some_iff.mp H
 obtain ⟨t264,A40,H⟩:=H
 try dsimp only at H
 have A4:=Aside0.mk A40
 clear A40
 simp only [Option.some.injEq,Prod.mk.injEq] at H
 obtain ⟨rfl,rfl⟩:=H
 go_enter Tryz.func38,Tryz.ntmps38
 go_wp2_with (first|((with_reducible refine gate_callee (f:=75) rfl ?_);refine goesL_ (some 8) rfl rfl Tryz.func75 zb14 rfl #[.string a0] rfl zb2 ?_;(with_reducible refine (tollbarref02_Decimal.calls k a0 t262 true _ A2.out).mono ?_);rintro e w' ⟨rfl,⟨nd,rfl⟩⟩;(try clear A2);refine ⟨_,rfl,?_⟩)|(go_at_call 64;(with_reducible refine (tollbarref02_Text.calls k t262 t264 _ A4.out).mono ?_);rintro e w5 ⟨rfl,hb⟩;(try clear A4);replace HB:=Aside0.mk (below_step zb0 hb);(try clear hb)))
 go_ret2
 exact ⟨zb6,zb0⟩
def tollbarref02_Fold.l0:Nat → ByteArray → List Int → Int → Option (ByteArray)
 | 0,_,_,_=>none
 | k + 1,x0,x3,x4=>if x4 < (x0.size:Int) then (if 0 ≤ x4 then (if (bt x0 x4) ≥ 65 then (if (bt x0 x4) ≤ 90 then (if x3.length < 140737488355328 then (tollbarref02_Fold.l0 k x0 (x3 ++ [((bt x0 x4) + 32) % 256]) (wrap64 (x4 + 1))) else (none)) else (if x3.length < 140737488355328 then (tollbarref02_Fold.l0 k x0 (x3 ++ [bt x0 x4]) (wrap64 (x4 + 1))) else (none))) else (if x3.length < 140737488355328 then (tollbarref02_Fold.l0 k x0 (x3 ++ [bt x0 x4]) (wrap64 (x4 + 1))) else (none))) else (none)) else (some (strOfNums x3))
def tollbarref02_Fold.f (k:Nat) (a0:ByteArray):Option (ByteArray):=tollbarref02_Fold.l0 k a0 (([]:List Int)) 0
set_option maxHeartbeats 8000000 in
set_option maxRecDepth 100000 in
theorem tollbarref02_Fold.calls (k:Nat) (a0:ByteArray) (r:ByteArray) (w:World) (h:tollbarref02_Fold.f k a0=some r) :
 Calls Tryz.prog 106 #[.string a0] w fun e w' => e = .returned (.string r)∧Below w.heap.size w w' := by
 have HB:=Aside0.mk (Below.refl w.heap.size w)
 unfold tollbarref02_Fold.f at h
 have H:=h
 clear h
 obtain ⟨y271,hy271⟩ : ∃ y_:List Int,y_=(([]:List Int)):=⟨_,rfl⟩
 replace H:(tollbarref02_Fold.l0 k a0 y271 0)=some r:=by first|(rw [hy271];with_reducible exact H)|(have H2_:=(Option.bind_some _ _).symm.trans H;rw [hy271];with_reducible exact H2_)|(have H2_:=(Option.bind_some _ _).symm.trans H;with_reducible exact H2_)|with_reducible exact H|(rw [hy271];exact H)|exact H
 have Ny271:=Aside0.mk hy271
 clear hy271
 have H' := Aside0.mk H
 clear H
 go_enter Tryz.func106,Tryz.ntmps106
 go_wp2_with (first|((with_reducible refine gate_dst (N:=6) rfl ?_);refine Kd.R_lit (Kd.int .u8) _ 5 ?hg (N:=6) ?hd (xs:=([]:List Int)) (inner:=[]) (ok:=fun _=>True) (okp:=fun _=>True) ?hr ?hp (fun _ hk=>hk) trivial (Below.refl _ _) (Nat.le_refl _) zb24 ?_;(case hd=>rfl);(case hg=>rfl);(case hr=>first|(go_simp;done)|(go_simp;rfl));(case hp=>exact (Reps.none _ _));intro v272 w2 ho3 hb hg_ hnew_;clear hg_ hnew_;(first|rw [← Ny271.out] at ho3|(simp only [Int.reduceToNat] at ho3;rw [← Ny271.out] at ho3));have HO273:=Aside0.mk (Kd.R_lower ho3 (below_size zb0));replace HB:=Aside0.mk (below_step zb0 hb);clear hb ho3))
 go_loopg [3,4] k (fun kq v3 v4 w' => ∃ (x3_1:List Int) (x4_1:Int),v4 = .int .i64 x4_1∧Aside0 (tollbarref02_Fold.l0 kq a0 x3_1 x4_1=some r)∧Aside0 (kq ≤ k)∧Aside0 (Kd.R (Kd.int .u8) 5 w' w.heap.size (fun _=>True) v3 x3_1)∧Aside0 (Below w.heap.size w w'))
 case atStart=>exact ⟨(y271),(0),zb5,H',⟨Nat.le_refl _⟩,⟨by (with_reducible repeat (first|apply Kd.R_alloc|apply Kd.R_drewN|apply Kd.R_drew));exact HO273.out⟩,⟨zb0⟩⟩
 case round =>
  clear H'
  try clear c1
  try clear p2
  obtain ⟨x3_1,x4_1,rfl,HA,HK1,HO_3,HB⟩:=hrel
  cases gk with
  | zero=>exact absurd HA.out (by simp [tollbarref02_Fold.l0])
  | succ k1 =>
   have H:=HA.out
   clear HA
   simp only [tollbarref02_Fold.l0] at H
   by_cases c4:x4_1 < (a0.size:Int);rotate_left
   ·rw [if_neg c4] at H
    have c4b0:=decide_eq_false c4
    clear c4
    obtain rfl:=Option.some.inj H
    have hcv15:=own_string (P:=Tryz.prog) Tryz.underlying50 Tryz.underlying5 Tryz.underlying9 (Kd.own_of_R HO_3.out)
    go_wp2
    go_ret
    exact ⟨zb6,zb0⟩
   rw [if_pos c4] at H
   have c4b0:=decide_eq_true c4
   clear c4
   by_cases c5:0 ≤ x4_1
   ·rw [if_pos c5] at H
    have c5b0:=decide_eq_true c5
    clear c5
    by_cases c7:(bt a0 x4_1) ≥ 65;rotate_left
    ·rw [if_neg c7] at H
     have c7b0:decide (65 ≤ (bt a0 x4_1))=false:=decide_eq_false c7
     clear c7
     by_cases c13:x3_1.length < 140737488355328;rotate_left
     ·rw [if_neg c13] at H
      exact absurd H zb24
     rw [if_pos c13] at H
     have LMc13:=Aside0.mk c13
     clear c13
     obtain ⟨y280,hy280⟩ : ∃ y_:List Int,y_=(x3_1 ++ [bt a0 x4_1]):=⟨_,rfl⟩
     replace H:(tollbarref02_Fold.l0 k1 a0 y280 (wrap64 (x4_1 + 1)))=some r:=by first|(rw [hy280];with_reducible exact H)|(have H2_:=(Option.bind_some _ _).symm.trans H;rw [hy280];with_reducible exact H2_)|(have H2_:=(Option.bind_some _ _).symm.trans H;with_reducible exact H2_)|with_reducible exact H|(rw [hy280];exact H)|exact H
     have Ny280:=Aside0.mk hy280
     clear hy280
     have H' := Aside0.mk H
     clear H
     have p6:0 ≤ (x4_1:Int):=of_decide_eq_true zb1
     have q6:x4_1 < (a0.size:Int):=of_decide_eq_true zb1
     have hx6:=bt_at a0 x4_1
     replace p6:=eq_true p6
     replace q6:=eq_true q6
     go_wp2_with (first|((with_reducible refine gate_builtin (b:=.append) (xs:=#[.tmp 24,.tmp 26]) rfl ?_);at_builtin;refine Kd.R_append (Kd.int .u8) (w0:=w) w.heap.size rfl (.tmp 24) (.tmp 26) 50 5 (.int .u8 0) 1 rfl Tryz.underlying50 info5 rfl zb22 zb16 u3 x3_1 (bt a0 x4_1) [.int .u8 (bt a0 x4_1)] (fun _=>True) (fun _=>False) rfl rfl ?aP (fun _ hk=>hk.elim) ?aF ?aO ?aB ?aS ?aL ?_;(case aP=>exact rfl);(case aB=>exact zb26);(case aF=>exact (fun _ _=>trivial));(case aO=>exact zb31);(case aS=>exact zb23);(case aL=>have:=LMc13.out;omega);intro v281 w14 ho hb hg hat;rw [← Ny280.out] at ho;replace HB:=Aside0.mk (hb);have HO282:=Aside0.mk (ho);clear ho hb hg hat))
     go_roundg k1
     case measure=>have:=HK1.out;omega
     case rel=>exact ⟨(y280),(wrap64 (x4_1 + 1)),zb5,H',⟨zb54⟩,⟨by (with_reducible repeat (first|apply Kd.R_alloc|apply Kd.R_drewN|apply Kd.R_drew));exact HO282.out⟩,⟨zb0⟩⟩
    rw [if_pos c7] at H
    have c7b0:decide (65 ≤ (bt a0 x4_1))=true:=decide_eq_true c7
    clear c7
    by_cases c8:(bt a0 x4_1) ≤ 90
    ·rw [if_pos c8] at H
     have c8b0:=decide_eq_true c8
     clear c8
     by_cases c9:x3_1.length < 140737488355328;rotate_left
     ·rw [if_neg c9] at H
      exact absurd H zb24
     rw [if_pos c9] at H
     have LMc9:=Aside0.mk c9
     clear c9
     obtain ⟨y274,hy274⟩ : ∃ y_:List Int,y_=(x3_1 ++ [((bt a0 x4_1) + 32) % 256]):=⟨_,rfl⟩
     replace H:(tollbarref02_Fold.l0 k1 a0 y274 (wrap64 (x4_1 + 1)))=some r:=by first|(rw [hy274];with_reducible exact H)|(have H2_:=(Option.bind_some _ _).symm.trans H;rw [hy274];with_reducible exact H2_)|(have H2_:=(Option.bind_some _ _).symm.trans H;with_reducible exact H2_)|with_reducible exact H|(rw [hy274];exact H)|exact H
     have Ny274:=Aside0.mk hy274
     clear hy274
     have H' := Aside0.mk H
     clear H
     have p6:0 ≤ (x4_1:Int):=of_decide_eq_true zb1
     have q6:x4_1 < (a0.size:Int):=of_decide_eq_true zb1
     have hx6:=bt_at a0 x4_1
     replace p6:=eq_true p6
     replace q6:=eq_true q6
     go_wp2_with (first|((with_reducible refine gate_builtin (b:=.append) (xs:=#[.tmp 24,.tmp 26]) rfl ?_);at_builtin;refine Kd.R_append (Kd.int .u8) (w0:=w) w.heap.size rfl (.tmp 24) (.tmp 26) 50 5 (.int .u8 0) 1 rfl Tryz.underlying50 info5 rfl zb22 zb16 u3 x3_1 (((bt a0 x4_1) + 32) % 256) [.int .u8 (((bt a0 x4_1) + 32) % 256)] (fun _=>True) (fun _=>False) rfl rfl ?aP (fun _ hk=>hk.elim) ?aF ?aO ?aB ?aS ?aL ?_;(case aP=>exact rfl);(case aB=>exact zb26);(case aF=>exact (fun _ _=>trivial));(case aO=>exact zb31);(case aS=>exact zb23);(case aL=>have:=LMc9.out;omega);intro v275 w10 ho hb hg hat;rw [← Ny274.out] at ho;replace HB:=Aside0.mk (hb);have HO276:=Aside0.mk (ho);clear ho hb hg hat))
     go_roundg k1
     case measure=>have:=HK1.out;omega
     case rel=>exact ⟨(y274),(wrap64 (x4_1 + 1)),zb5,H',⟨zb54⟩,⟨by (with_reducible repeat (first|apply Kd.R_alloc|apply Kd.R_drewN|apply Kd.R_drew));exact HO276.out⟩,⟨zb0⟩⟩
    ·rw [if_neg c8] at H
     have c8b0:=decide_eq_false c8
     clear c8
     by_cases c11:x3_1.length < 140737488355328
     ·rw [if_pos c11] at H
      have LMc11:=Aside0.mk c11
      clear c11
      obtain ⟨y277,hy277⟩ : ∃ y_:List Int,y_=(x3_1 ++ [bt a0 x4_1]):=⟨_,rfl⟩
      replace H:(tollbarref02_Fold.l0 k1 a0 y277 (wrap64 (x4_1 + 1)))=some r:=by first|(rw [hy277];with_reducible exact H)|(have H2_:=(Option.bind_some _ _).symm.trans H;rw [hy277];with_reducible exact H2_)|(have H2_:=(Option.bind_some _ _).symm.trans H;with_reducible exact H2_)|with_reducible exact H|(rw [hy277];exact H)|exact H
      have Ny277:=Aside0.mk hy277
      clear hy277
      have H' := Aside0.mk H
      clear H
      have p6:0 ≤ (x4_1:Int):=of_decide_eq_true zb1
      have q6:x4_1 < (a0.size:Int):=of_decide_eq_true zb1
      have hx6:=bt_at a0 x4_1
      replace p6:=eq_true p6
      replace q6:=eq_true q6
      go_wp2_with (first|((with_reducible refine gate_builtin (b:=.append) (xs:=#[.tmp 24,.tmp 26]) rfl ?_);at_builtin;refine Kd.R_append (Kd.int .u8) (w0:=w) w.heap.size rfl (.tmp 24) (.tmp 26) 50 5 (.int .u8 0) 1 rfl Tryz.underlying50 info5 rfl zb22 zb16 u3 x3_1 (bt a0 x4_1) [.int .u8 (bt a0 x4_1)] (fun _=>True) (fun _=>False) rfl rfl ?aP (fun _ hk=>hk.elim) ?aF ?aO ?aB ?aS ?aL ?_;(case aP=>exact rfl);(case aB=>exact zb26);(case aF=>exact (fun _ _=>trivial));(case aO=>exact zb31);(case aS=>exact zb23);(case aL=>have:=LMc11.out;omega);intro v278 w12 ho hb hg hat;rw [← Ny277.out] at ho;replace HB:=Aside0.mk (hb);have HO279:=Aside0.mk (ho);clear ho hb hg hat))
      go_roundg k1
      case measure=>have:=HK1.out;omega
      case rel=>exact ⟨(y277),(wrap64 (x4_1 + 1)),zb5,H',⟨zb54⟩,⟨by (with_reducible repeat (first|apply Kd.R_alloc|apply Kd.R_drewN|apply Kd.R_drew));exact HO279.out⟩,⟨zb0⟩⟩
     ·rw [if_neg c11] at H
      exact absurd H zb24
   ·rw [if_neg c5] at H
    exact absurd H zb24
mutual
def tollbarref05_Host.j1:Nat → ByteArray → Int → Int → Option (ByteArray × Bool)
 | 0,_,_,_=>none
 | k + 1,x0,x4,x5=>if x5 ≥ 0 then (if 0 ≤ x5 then (if x5 < (x0.size:Int) then (tollbarref05_Host.j2 k x0 x4 x5 ((bt x0 x5) == 58)) else (none)) else (none)) else (tollbarref05_Host.j2 k x0 x4 x5 false)
def tollbarref05_Host.j2:Nat → ByteArray → Int → Int → Bool → Option (ByteArray × Bool)
 | 0,_,_,_,_=>none
 | k + 1,x0,x4,x5,x31=>if x31=true then (tollbarref05_Host.j3 k x0 x5) else (tollbarref05_Host.j3 k x0 x4)
def tollbarref05_Host.j3:Nat → ByteArray → Int → Option (ByteArray × Bool)
 | 0,_,_=>none
 | k + 1,x0,x4=>if 0 ≤ x4 then (if x4 ≤ (x0.size:Int) then ((tollbarref02_Fold.f k (x0.extract 0 (x4:Int).toNat)).bind fun t284=>(tollbarref05_Host.l1 k t284 0)) else (none)) else (none)
def tollbarref05_Host.l1:Nat → ByteArray → Int → Option (ByteArray × Bool)
 | 0,_,_=>none
 | k + 1,x6,x7=>if x7 < (x6.size:Int) then (if 0 ≤ x7 then (if (bt x6 x7) ≥ 97 then (if ((bt x6 x7) ≤ 122) then (tollbarref05_Host.l1 k x6 (wrap64 (x7 + 1))) else ((tollbarref02_Digit.f (bt x6 x7)).bind fun t285=>(if t285=true then (tollbarref05_Host.l1 k x6 (wrap64 (x7 + 1))) else (if (bt x6 x7)=45 then (tollbarref05_Host.l1 k x6 (wrap64 (x7 + 1))) else (if (bt x6 x7)=46 then (tollbarref05_Host.l1 k x6 (wrap64 (x7 + 1))) else (some ((⟨#[]⟩:ByteArray),false))))))) else ((tollbarref02_Digit.f (bt x6 x7)).bind fun t286=>(if t286=true then (tollbarref05_Host.l1 k x6 (wrap64 (x7 + 1))) else (if (bt x6 x7)=45 then (tollbarref05_Host.l1 k x6 (wrap64 (x7 + 1))) else (if (bt x6 x7)=46 then (tollbarref05_Host.l1 k x6 (wrap64 (x7 + 1))) else (some ((⟨#[]⟩:ByteArray),false))))))) else (none)) else (if (x6.size:Int)=0 then (some ((⟨#[]⟩:ByteArray),false)) else (if (x6.size:Int) > 64 then (some ((⟨#[]⟩:ByteArray),false)) else (some (x6,true))))
def tollbarref05_Host.l0:Nat → ByteArray → Int → Int → Option (ByteArray × Bool)
 | 0,_,_,_=>none
 | k + 1,x0,x4,x5=>if x5 ≥ 0 then (if 0 ≤ x5 then (if x5 < (x0.size:Int) then ((tollbarref02_Digit.f (bt x0 x5)).bind fun t283=>(if t283=true then (tollbarref05_Host.l0 k x0 x4 (wrap64 (x5 - 1))) else (tollbarref05_Host.j1 k x0 x4 x5))) else (none)) else (none)) else (tollbarref05_Host.j1 k x0 x4 x5)
end
def tollbarref05_Host.f (k:Nat) (a0:ByteArray):Option (ByteArray × Bool):=tollbarref05_Host.l0 k a0 (a0.size:Int) (wrap64 ((a0.size:Int) - 1))
set_option maxHeartbeats 8000000 in
set_option maxRecDepth 100000 in
theorem tollbarref05_Host.calls (k:Nat) (a0:ByteArray) (r1:ByteArray) (r2:Bool) (w:World) (h:tollbarref05_Host.f k a0=some (r1,r2)) :
 Calls Tryz.prog 102 #[.string a0] w fun e w' => e = .returned (.tuple #[.string r1,.bool r2])∧Below w.heap.size w w' := by
 have HB:=Aside0.mk (Below.refl w.heap.size w)
 unfold tollbarref05_Host.f at h
 have H:=h
 clear h
 have HC2:=Aside0.mk H
 clear H
 go_enter Tryz.func102,Tryz.ntmps102
 go_upto_block 0 with (fail)
 go_cut [5] (fun v5 wc => ∃ (kq:Nat) (x5_1:Int),v5 = .int .i64 x5_1∧Aside0 (tollbarref05_Host.j1 kq a0 (a0.size:Int) x5_1=some (r1,r2))∧Aside0 (kq ≤ k)∧Aside0 (Below w.heap.size w wc))
 case first =>
  have H:=HC2.out
  clear HC2
  have H' := Aside0.mk H
  clear H
  go_wp2
  go_loopg [5] k (fun kq v5 w' => ∃ (x5_1:Int),v5 = .int .i64 x5_1∧Aside0 (tollbarref05_Host.l0 kq a0 (a0.size:Int) x5_1=some (r1,r2))∧Aside0 (kq ≤ k)∧Aside0 (Below w.heap.size w w'))
  case atStart=>exact ⟨(wrap64 ((a0.size:Int) - 1)),zb5,H',⟨Nat.le_refl _⟩,⟨zb0⟩⟩
  case round =>
   clear H'
   try clear c1
   try clear p2
   obtain ⟨x5_1,rfl,HA,HK1,HB⟩:=hrel
   cases gk with
   | zero=>exact absurd HA.out (by simp [tollbarref05_Host.l0])
   | succ k1 =>
    have H:=HA.out
    clear HA
    simp only [tollbarref05_Host.l0] at H
    by_cases c3:x5_1 ≥ 0;rotate_left
    ·rw [if_neg c3] at H
     have c3b0:decide (0 ≤ x5_1)=false:=decide_eq_false c3
     clear c3
     (first|rw [c3b0]|(simp only [i64_w,i32_w];rw [c3b0])|skip)
     have H' := Aside0.mk H
     clear H
     go_wp2
     go_meet
     case rel=>exact ⟨_,(x5_1),zb5,H',⟨zb56⟩,⟨zb0⟩⟩
    rw [if_pos c3] at H
    have c3b0:decide (0 ≤ x5_1)=true:=decide_eq_true c3
    clear c3
    (first|rw [c3b0]|(simp only [i64_w,i32_w];rw [c3b0])|skip)
    by_cases c4:0 ≤ x5_1
    ·rw [if_pos c4] at H
     have c4b0:=decide_eq_true c4
     clear c4
     by_cases c5:x5_1 < (a0.size:Int)
     ·rw [if_pos c5] at H
      have c5b0:=decide_eq_true c5
      clear c5
      replace H:=Option.bind_eq_some_iff.mp H
      obtain ⟨t38,A70,H⟩:=H
      try dsimp only at H
      have A7:=Aside0.mk A70
      clear A70
      by_cases c8:t38=true
      ·subst c8
       rw [if_pos rfl] at H
       have H' := Aside0.mk H
       clear H
       have p6:0 ≤ (x5_1:Int):=of_decide_eq_true zb1
       have q6:x5_1 < (a0.size:Int):=of_decide_eq_true zb1
       have hx6:=bt_at a0 x5_1
       replace p6:=eq_true p6
       replace q6:=eq_true q6
       go_wp2_with (first|(go_at_call 43;(with_reducible refine (tollbarref02_Digit.calls (bt a0 x5_1) true _ A7.out).mono ?_);rintro e w' ⟨rfl,⟨nd,rfl⟩⟩;(try clear A7)))
       go_roundg k1
       case measure=>have:=HK1.out;omega
       case rel=>exact ⟨(wrap64 (x5_1 - 1)),zb5,H',⟨zb54⟩,⟨zb0⟩⟩
      replace c8:=Bool.eq_false_iff.mpr c8
      subst c8
      rw [if_neg (show ¬ (false=true) by decide)] at H
      have H' := Aside0.mk H
      clear H
      have p6:0 ≤ (x5_1:Int):=of_decide_eq_true zb1
      have q6:x5_1 < (a0.size:Int):=of_decide_eq_true zb1
      have hx6:=bt_at a0 x5_1
      replace p6:=eq_true p6
      replace q6:=eq_true q6
      go_wp2_with (first|(go_at_call 43;(with_reducible refine (tollbarref02_Digit.calls (bt a0 x5_1) false _ A7.out).mono ?_);rintro e w' ⟨rfl,⟨nd,rfl⟩⟩;(try clear A7)))
      go_meet
      case rel=>exact ⟨_,(x5_1),zb5,H',⟨zb56⟩,⟨zb0⟩⟩
     ·rw [if_neg c5] at H
      exact absurd H zb24
    ·rw [if_neg c4] at H
     exact absurd H zb24
 case rest =>
  clear HC2
  try clear c1
  try clear p2
  try clear c3
  try clear c3b0
  try clear c4
  try clear c4b0
  try clear c5
  try clear c5b0
  try clear p6
  try clear q6
  try clear hx6
  try clear c8
  try clear p2
  try clear p6
  try clear q6
  obtain ⟨kq,x5_1,rfl,HA,HJ1,HB⟩:=hcut
  cases kq with
  | zero=>exact absurd HA.out (by simp [tollbarref05_Host.j1])
  | succ kj1 =>
   have H:=HA.out
   clear HA
   simp only [tollbarref05_Host.j1] at H
   have HC9:=Aside0.mk H
   clear H
   go_upto_region 5 with (fail)
   go_cut [31] (fun v31 wc => ∃ (kq:Nat) (x31_8:Bool),v31 = .bool x31_8∧Aside0 (tollbarref05_Host.j2 kq a0 (a0.size:Int) x5_1 x31_8=some (r1,r2))∧Aside0 (kq ≤ kj1)∧Aside0 (Below w.heap.size w wc))
   case first =>
    have H:=HC9.out
    clear HC9
    by_cases c10:x5_1 ≥ 0;rotate_left
    ·rw [if_neg c10] at H
     have c10b0:decide (0 ≤ x5_1)=false:=decide_eq_false c10
     clear c10
     (first|rw [c10b0]|(simp only [i64_w,i32_w];rw [c10b0])|skip)
     have H' := Aside0.mk H
     clear H
     go_wp2
     go_meet
     case rel=>exact ⟨_,(false),zb5,H',⟨by have:=HJ1.out;first|omega|exact Nat.le_refl _⟩,⟨zb0⟩⟩
    rw [if_pos c10] at H
    have c10b0:decide (0 ≤ x5_1)=true:=decide_eq_true c10
    clear c10
    (first|rw [c10b0]|(simp only [i64_w,i32_w];rw [c10b0])|skip)
    by_cases c11:0 ≤ x5_1
    ·rw [if_pos c11] at H
     have c11b0:=decide_eq_true c11
     clear c11
     by_cases c12:x5_1 < (a0.size:Int)
     ·rw [if_pos c12] at H
      have c12b0:=decide_eq_true c12
      clear c12
      have H' := Aside0.mk H
      clear H
      have p13:0 ≤ (x5_1:Int):=of_decide_eq_true zb1
      have q13:x5_1 < (a0.size:Int):=of_decide_eq_true zb1
      have hx13:=bt_at a0 x5_1
      replace p13:=eq_true p13
      replace q13:=eq_true q13
      go_wp2
      go_meet
      case rel=>exact ⟨_,(((bt a0 x5_1) == 58)),zb5,H',⟨by have:=HJ1.out;first|omega|exact Nat.le_refl _⟩,⟨zb0⟩⟩
     ·rw [if_neg c12] at H
      exact absurd H zb24
    ·rw [if_neg c11] at H
     exact absurd H zb24
   case rest =>
    clear HC9
    try clear c1
    try clear p1
    try clear q1
    try clear hx1
    try clear p2
    try clear c3
    try clear c3b0
    try clear c4
    try clear c4b0
    try clear c5
    try clear c5b0
    try clear p6
    try clear q6
    try clear hx6
    try clear c8
    try clear c10
    try clear c10b0
    try clear c11
    try clear c11b0
    try clear c12
    try clear c12b0
    try clear p13
    try clear q13
    try clear hx13
    try clear p13
    try clear p2
    try clear p6
    try clear q13
    try clear q6
    obtain ⟨kq,x31_8,rfl,HA,HJ8,HB⟩:=hcut
    cases kq with
    | zero=>exact absurd HA.out (by simp [tollbarref05_Host.j2])
    | succ kj8 =>
     have H:=HA.out
     clear HA
     simp only [tollbarref05_Host.j2] at H
     have HC14:=Aside0.mk H
     clear H
     go_upto_if 31 with (fail)
     go_cut [4] (fun v4 wc => ∃ (kq:Nat) (x4_13:Int),v4 = .int .i64 x4_13∧Aside0 (tollbarref05_Host.j3 kq a0 x4_13=some (r1,r2))∧Aside0 (kq ≤ kj8)∧Aside0 (Below w.heap.size w wc))
     case first =>
      have H:=HC14.out
      clear HC14
      by_cases c15:x31_8=true
      ·subst c15
       rw [if_pos rfl] at H
       have H' := Aside0.mk H
       clear H
       go_wp2
       go_meet
       case rel=>exact ⟨_,(x5_1),zb5,H',⟨by have:=HJ1.out;have:=HJ8.out;first|omega|exact Nat.le_refl _⟩,⟨zb0⟩⟩
      replace c15:=Bool.eq_false_iff.mpr c15
      subst c15
      rw [if_neg (show ¬ (false=true) by decide)] at H
      have H' := Aside0.mk H
      clear H
      go_wp2
      go_meet
      case rel=>exact ⟨_,((a0.size:Int)),zb5,H',⟨by have:=HJ1.out;have:=HJ8.out;first|omega|exact Nat.le_refl _⟩,⟨zb0⟩⟩
     case rest =>
      clear HC14
      try clear c1
      try clear p1
      try clear q1
      try clear hx1
      try clear p2
      try clear c3
      try clear c3b0
      try clear c4
      try clear c4b0
      try clear c5
      try clear c5b0
      try clear p6
      try clear q6
      try clear hx6
      try clear c8
      try clear c10
      try clear c10b0
      try clear c11
      try clear c11b0
      try clear c12
      try clear c12b0
      try clear p13
      try clear q13
      try clear hx13
      try clear c15
      try clear p1
      try clear p13
      try clear p2
      try clear p6
      try clear q1
      try clear q13
      try clear q6
      obtain ⟨kq,x4_13,rfl,HA,HJ13,HB⟩:=hcut
      cases kq with
      | zero=>exact absurd HA.out (by simp [tollbarref05_Host.j3])
      | succ kj13 =>
       have H:=HA.out
       clear HA
       simp only [tollbarref05_Host.j3] at H
       by_cases c16:0 ≤ x4_13;rotate_left
       ·rw [if_neg c16] at H
        exact absurd H zb24
       rw [if_pos c16] at H
       have c16b0:=eq_true c16
       have c16b1:=decide_eq_true c16
       clear c16
       by_cases c17:x4_13 ≤ (a0.size:Int)
       ·rw [if_pos c17] at H
        have c17b0:=eq_true c17
        have c17b1:=decide_eq_true c17
        clear c17
        replace H:=Option.bind_eq_some_iff.mp H
        obtain ⟨t35,A36,H⟩:=H
        try dsimp only at H
        have A18:=Aside0.mk A36
        clear A36
        have H' := Aside0.mk H
        clear H
        go_wp2_with (first|((with_reducible refine gate_callee (f:=106) rfl ?_);refine goesL_ (some 36) rfl rfl Tryz.func106 zb14 rfl #[.string (a0.extract 0 (x4_13:Int).toNat)] rfl zb2 ?_;(with_reducible refine (tollbarref02_Fold.calls kj13 (a0.extract 0 (x4_13:Int).toNat) t35 _ A18.out).mono ?_);rintro e w19 ⟨rfl,hb⟩;(try clear A18);refine ⟨_,rfl,?_⟩;replace HB:=Aside0.mk (below_step zb0 hb);(try clear hb)))
        go_loopg [7] kj13 (fun kq v7 w' => ∃ (x7_4:Int),v7 = .int .i64 x7_4∧Aside0 (tollbarref05_Host.l1 kq t35 x7_4=some (r1,r2))∧Aside0 (kq ≤ kj13)∧Aside0 (Below w.heap.size w w'))
        case atStart=>exact ⟨(0),zb5,H',⟨Nat.le_refl _⟩,⟨zb0⟩⟩
        case round =>
         clear H'
         try clear c1
         try clear p1
         try clear q1
         try clear hx1
         try clear p2
         try clear c3
         try clear c3b0
         try clear c4
         try clear c4b0
         try clear c5
         try clear c5b0
         try clear p6
         try clear q6
         try clear hx6
         try clear c8
         try clear c10
         try clear c10b0
         try clear c11
         try clear c11b0
         try clear c12
         try clear c12b0
         try clear p13
         try clear q13
         try clear hx13
         try clear c15
         try clear c16
         try clear c16b0
         try clear c16b1
         try clear c17
         try clear c17b0
         try clear c17b1
         try clear p1
         try clear p13
         try clear p2
         try clear p6
         try clear q1
         try clear q13
         try clear q6
         obtain ⟨x7_4,rfl,HA,HK4,HB⟩:=hrel
         cases gk with
         | zero=>exact absurd HA.out (by simp [tollbarref05_Host.l1])
         | succ k4 =>
          have H:=HA.out
          clear HA
          simp only [tollbarref05_Host.l1] at H
          by_cases c20:x7_4 < (t35.size:Int);rotate_left
          ·rw [if_neg c20] at H
           have c20b0:=decide_eq_false c20
           clear c20
           by_cases c33:(t35.size:Int)=0
           ·rw [if_pos c33] at H
            have c33b0:=beq_iff_eq.mpr c33
            have c33b1:=bne_eq_false_iff_eq.mpr c33
            clear c33
            simp only [Option.some.injEq,Prod.mk.injEq] at H
            obtain ⟨rfl,rfl⟩:=H
            go_wp2
            go_ret2
            exact ⟨zb6,zb0⟩
           rw [if_neg c33] at H
           have c33b0:=beq_eq_false_iff_ne.mpr c33
           have c33b1:=bne_iff_ne.mpr c33
           by_cases c34:(t35.size:Int) > 64
           ·rw [if_pos c34] at H
            have c34b0:decide (64 < (t35.size:Int))=true:=decide_eq_true c34
            have c34b1:decide (64 < t35.size)=true:=decide_eq_true zb16
            clear c34
            simp only [Option.some.injEq,Prod.mk.injEq] at H
            obtain ⟨rfl,rfl⟩:=H
            go_wp2
            go_ret2
            exact ⟨zb6,zb0⟩
           rw [if_neg c34] at H
           have c34b0:decide (64 < (t35.size:Int))=false:=decide_eq_false c34
           have c34b1:decide (64 < t35.size)=false:=decide_eq_false zb16
           clear c34
           simp only [Option.some.injEq,Prod.mk.injEq] at H
           obtain ⟨rfl,rfl⟩:=H
           go_wp2
           go_ret2
           exact ⟨zb6,zb0⟩
          rw [if_pos c20] at H
          have c20b0:=decide_eq_true c20
          clear c20
          by_cases c21:0 ≤ x7_4
          ·rw [if_pos c21] at H
           have c21b0:=decide_eq_true c21
           clear c21
           by_cases c23:(bt t35 x7_4) ≥ 97;rotate_left
           ·rw [if_neg c23] at H
            have c23b0:decide (97 ≤ (bt t35 x7_4))=false:=decide_eq_false c23
            clear c23
            replace H:=Option.bind_eq_some_iff.mp H
            obtain ⟨t40,A41,H⟩:=H
            try dsimp only at H
            have A29:=Aside0.mk A41
            clear A41
            by_cases c30:t40=true
            ·subst c30
             rw [if_pos rfl] at H
             have H' := Aside0.mk H
             clear H
             have p22:0 ≤ (x7_4:Int):=of_decide_eq_true zb1
             have q22:x7_4 < (t35.size:Int):=of_decide_eq_true zb1
             have hx22:=bt_at t35 x7_4
             replace p22:=eq_true p22
             replace q22:=eq_true q22
             go_wp2_with (first|(go_at_call 43;(with_reducible refine (tollbarref02_Digit.calls (bt t35 x7_4) true _ A29.out).mono ?_);rintro e w' ⟨rfl,⟨nd,rfl⟩⟩;(try clear A29)))
             go_roundg k4
             case measure=>have:=HJ1.out;have:=HJ8.out;have:=HJ13.out;have:=HK4.out;omega
             case rel=>exact ⟨(wrap64 (x7_4 + 1)),zb5,H',⟨zb59⟩,⟨zb0⟩⟩
            replace c30:=Bool.eq_false_iff.mpr c30
            subst c30
            rw [if_neg (show ¬ (false=true) by decide)] at H
            by_cases c31:(bt t35 x7_4)=45
            ·rw [if_pos c31] at H
             have c31b0:=beq_iff_eq.mpr c31
             have c31b1:=bne_eq_false_iff_eq.mpr c31
             clear c31
             have H' := Aside0.mk H
             clear H
             have p22:0 ≤ (x7_4:Int):=of_decide_eq_true zb1
             have q22:x7_4 < (t35.size:Int):=of_decide_eq_true zb1
             have hx22:=bt_at t35 x7_4
             replace p22:=eq_true p22
             replace q22:=eq_true q22
             go_wp2_with (first|(go_at_call 43;(with_reducible refine (tollbarref02_Digit.calls (bt t35 x7_4) false _ A29.out).mono ?_);rintro e w' ⟨rfl,⟨nd,rfl⟩⟩;(try clear A29)))
             go_roundg k4
             case measure=>have:=HJ1.out;have:=HJ8.out;have:=HJ13.out;have:=HK4.out;omega
             case rel=>exact ⟨(wrap64 (x7_4 + 1)),zb5,H',⟨zb59⟩,⟨zb0⟩⟩
            rw [if_neg c31] at H
            have c31b0:=beq_eq_false_iff_ne.mpr c31
            have c31b1:=bne_iff_ne.mpr c31
            by_cases c32:(bt t35 x7_4)=46;rotate_left
            ·rw [if_neg c32] at H
             have c32b0:=beq_eq_false_iff_ne.mpr c32
             have c32b1:=bne_iff_ne.mpr c32
             simp only [Option.some.injEq,Prod.mk.injEq] at H
             obtain ⟨rfl,rfl⟩:=H
             have p22:0 ≤ (x7_4:Int):=of_decide_eq_true zb1
             have q22:x7_4 < (t35.size:Int):=of_decide_eq_true zb1
             have hx22:=bt_at t35 x7_4
             replace p22:=eq_true p22
             replace q22:=eq_true q22
             go_wp2_with (first|(go_at_call 43;(with_reducible refine (tollbarref02_Digit.calls (bt t35 x7_4) false _ A29.out).mono ?_);rintro e w' ⟨rfl,⟨nd,rfl⟩⟩;(try clear A29)))
             go_ret2
             exact ⟨zb6,zb0⟩
            rw [if_pos c32] at H
            have c32b0:=beq_iff_eq.mpr c32
            have c32b1:=bne_eq_false_iff_eq.mpr c32
            clear c32
            have H' := Aside0.mk H
            clear H
            have p22:0 ≤ (x7_4:Int):=of_decide_eq_true zb1
            have q22:x7_4 < (t35.size:Int):=of_decide_eq_true zb1
            have hx22:=bt_at t35 x7_4
            replace p22:=eq_true p22
            replace q22:=eq_true q22
            go_wp2_with (first|(go_at_call 43;(with_reducible refine (tollbarref02_Digit.calls (bt t35 x7_4) false _ A29.out).mono ?_);rintro e w' ⟨rfl,⟨nd,rfl⟩⟩;(try clear A29)))
            go_roundg k4
            case measure=>have:=HJ1.out;have:=HJ8.out;have:=HJ13.out;have:=HK4.out;omega
            case rel=>exact ⟨(wrap64 (x7_4 + 1)),zb5,H',⟨zb59⟩,⟨zb0⟩⟩
           rw [if_pos c23] at H
           have c23b0:decide (97 ≤ (bt t35 x7_4))=true:=decide_eq_true c23
           clear c23
           by_cases c24:((bt t35 x7_4) ≤ 122)
           ·rw [if_pos c24] at H
            have c24b0:decide ((bt t35 x7_4) ≤ 122)=true:=decide_eq_true c24
            clear c24
            have H' := Aside0.mk H
            clear H
            have p22:0 ≤ (x7_4:Int):=of_decide_eq_true zb1
            have q22:x7_4 < (t35.size:Int):=of_decide_eq_true zb1
            have hx22:=bt_at t35 x7_4
            replace p22:=eq_true p22
            replace q22:=eq_true q22
            go_wp2
            go_roundg k4
            case measure=>have:=HJ1.out;have:=HJ8.out;have:=HJ13.out;have:=HK4.out;omega
            case rel=>exact ⟨(wrap64 (x7_4 + 1)),zb5,H',⟨zb59⟩,⟨zb0⟩⟩
           ·rw [if_neg c24] at H
            have c24b0:decide ((bt t35 x7_4) ≤ 122)=false:=decide_eq_false c24
            clear c24
            replace H:=Option.bind_eq_some_iff.mp H
            obtain ⟨t39,A37,H⟩:=H
            try dsimp only at H
            have A25:=Aside0.mk A37
            clear A37
            by_cases c26:t39=true
            ·subst c26
             rw [if_pos rfl] at H
             have H' := Aside0.mk H
             clear H
             have p22:0 ≤ (x7_4:Int):=of_decide_eq_true zb1
             have q22:x7_4 < (t35.size:Int):=of_decide_eq_true zb1
             have hx22:=bt_at t35 x7_4
             replace p22:=eq_true p22
             replace q22:=eq_true q22
             go_wp2_with (first|(go_at_call 43;(with_reducible refine (tollbarref02_Digit.calls (bt t35 x7_4) true _ A25.out).mono ?_);rintro e w' ⟨rfl,⟨nd,rfl⟩⟩;(try clear A25)))
             go_roundg k4
             case measure=>have:=HJ1.out;have:=HJ8.out;have:=HJ13.out;have:=HK4.out;omega
             case rel=>exact ⟨(wrap64 (x7_4 + 1)),zb5,H',⟨zb59⟩,⟨zb0⟩⟩
            ·replace c26:=Bool.eq_false_iff.mpr c26
             subst c26
             rw [if_neg (show ¬ (false=true) by decide)] at H
             by_cases c27:(bt t35 x7_4)=45
             ·rw [if_pos c27] at H
              have c27b0:=beq_iff_eq.mpr c27
              have c27b1:=bne_eq_false_iff_eq.mpr c27
              clear c27
              have H' := Aside0.mk H
              clear H
              have p22:0 ≤ (x7_4:Int):=of_decide_eq_true zb1
              have q22:x7_4 < (t35.size:Int):=of_decide_eq_true zb1
              have hx22:=bt_at t35 x7_4
              replace p22:=eq_true p22
              replace q22:=eq_true q22
              go_wp2_with (first|(go_at_call 43;(with_reducible refine (tollbarref02_Digit.calls (bt t35 x7_4) false _ A25.out).mono ?_);rintro e w' ⟨rfl,⟨nd,rfl⟩⟩;(try clear A25)))
              go_roundg k4
              case measure=>have:=HJ1.out;have:=HJ8.out;have:=HJ13.out;have:=HK4.out;omega
              case rel=>exact ⟨(wrap64 (x7_4 + 1)),zb5,H',⟨zb59⟩,⟨zb0⟩⟩
             ·rw [if_neg c27] at H
              have c27b0:=beq_eq_false_iff_ne.mpr c27
              have c27b1:=bne_iff_ne.mpr c27
              by_cases c28:(bt t35 x7_4)=46
              ·rw [if_pos c28] at H
               have c28b0:=beq_iff_eq.mpr c28
               have c28b1:=bne_eq_false_iff_eq.mpr c28
               clear c28
               have H' := Aside0.mk H
               clear H
               have p22:0 ≤ (x7_4:Int):=of_decide_eq_true zb1
               have q22:x7_4 < (t35.size:Int):=of_decide_eq_true zb1
               have hx22:=bt_at t35 x7_4
               replace p22:=eq_true p22
               replace q22:=eq_true q22
               go_wp2_with (first|(go_at_call 43;(with_reducible refine (tollbarref02_Digit.calls (bt t35 x7_4) false _ A25.out).mono ?_);rintro e w' ⟨rfl,⟨nd,rfl⟩⟩;(try clear A25)))
               go_roundg k4
               case measure=>have:=HJ1.out;have:=HJ8.out;have:=HJ13.out;have:=HK4.out;omega
               case rel=>exact ⟨(wrap64 (x7_4 + 1)),zb5,H',⟨zb59⟩,⟨zb0⟩⟩
              ·rw [if_neg c28] at H
               have c28b0:=beq_eq_false_iff_ne.mpr c28
               have c28b1:=bne_iff_ne.mpr c28
               simp only [Option.some.injEq,Prod.mk.injEq] at H
               obtain ⟨rfl,rfl⟩:=H
               have p22:0 ≤ (x7_4:Int):=of_decide_eq_true zb1
               have q22:x7_4 < (t35.size:Int):=of_decide_eq_true zb1
               have hx22:=bt_at t35 x7_4
               replace p22:=eq_true p22
               replace q22:=eq_true q22
               go_wp2_with (first|(go_at_call 43;(with_reducible refine (tollbarref02_Digit.calls (bt t35 x7_4) false _ A25.out).mono ?_);rintro e w' ⟨rfl,⟨nd,rfl⟩⟩;(try clear A25)))
               go_ret2
               exact ⟨zb6,zb0⟩
          ·rw [if_neg c21] at H
           exact absurd H zb24
       ·rw [if_neg c17] at H
        exact absurd H zb24
def tollbarref09_numbers.f (a0_0:ByteArray) (l0_1:List ByteArray) (a0_2:Int) (a0_3:Int) (a0_4:Int) (a0_5:Int) (a0_6:Int) (a0_7:Int):Option (List Int):=some (([a0_2,a0_3,a0_4,a0_5,a0_6,a0_7]:List Int))
set_option maxHeartbeats 8000000 in
set_option maxRecDepth 100000 in
theorem tollbarref09_numbers.calls (a0_0:ByteArray) (A0_1:Option Addr) (c0_1:Nat) (l0_1:List ByteArray) (a0_2:Int) (a0_3:Int) (a0_4:Int) (a0_5:Int) (a0_6:Int) (a0_7:Int) (r:List Int) (w:World) (hr0_1:Kd.C Kd.string w A0_1 l0_1.length l0_1) (hc0_1:l0_1.length ≤ c0_1) (h:tollbarref09_numbers.f a0_0 l0_1 a0_2 a0_3 a0_4 a0_5 a0_6 a0_7=some r) :
 Calls Tryz.prog 42 #[.agg #[.string a0_0,.slice A0_1 l0_1.length c0_1,.int .i64 a0_2,.int .i64 a0_3,.int .i64 a0_4,.int .i64 a0_5,.int .i64 a0_6,.int .i64 a0_7]] w fun e w' => ∃ v0_:Value,e = .returned (v0_)∧Kd.R (Kd.int .i64) 3 w' w.heap.size (fun _=>True) v0_ r∧Below w.heap.size w w' := by
 have hu64:=Tryz.underlying64
 have HR0_1:=Aside0.mk hr0_1
 have HC0_1:=Aside0.mk hc0_1
 clear hr0_1 hc0_1
 have HB:=Aside0.mk (Below.refl w.heap.size w)
 unfold tollbarref09_numbers.f at h
 have H:=h
 clear h
 obtain ⟨y268,hy268⟩ : ∃ y_:List Int,y_=(([a0_2,a0_3,a0_4,a0_5,a0_6,a0_7]:List Int)):=⟨_,rfl⟩
 replace H:(some y268)=some r:=by first|(rw [hy268];with_reducible exact H)|(have H2_:=(Option.bind_some _ _).symm.trans H;rw [hy268];with_reducible exact H2_)|(have H2_:=(Option.bind_some _ _).symm.trans H;with_reducible exact H2_)|with_reducible exact H|(rw [hy268];exact H)|exact H
 have Ny268:=Aside0.mk hy268
 clear hy268
 obtain rfl:=Option.some.inj H
 go_enter Tryz.func42,Tryz.ntmps42
 go_wp2_with (first|((with_reducible refine gate_dst (N:=1) rfl ?_);refine box_event rfl (N:=1) rfl (cs:=#[.string a0_0,.slice A0_1 l0_1.length c0_1,.int .i64 a0_2,.int .i64 a0_3,.int .i64 a0_4,.int .i64 a0_5,.int .i64 a0_6,.int .i64 a0_7]) (t:=64) zS ?_;intro gb267 hg w2 hbox hb;have GW267:=zG hg zb0;have GE267:=GW267;have BK267:=Aside0.mk hbox;replace HB:=Aside0.mk (below_step zb0 hb);clear hb hbox hg;have hcz3_0:w2.cell? ⟨gb267,0,none⟩=some (.string a0_0):=(blk_cell BK267.out 0).trans rfl;have hcz3_1:w2.cell? ⟨gb267,1,none⟩=some (.slice A0_1 l0_1.length c0_1):=(blk_cell BK267.out 1).trans rfl;have hcz3_2:w2.cell? ⟨gb267,2,none⟩=some (.int .i64 a0_2):=(blk_cell BK267.out 2).trans rfl;have hcz3_3:w2.cell? ⟨gb267,3,none⟩=some (.int .i64 a0_3):=(blk_cell BK267.out 3).trans rfl;have hcz3_4:w2.cell? ⟨gb267,4,none⟩=some (.int .i64 a0_4):=(blk_cell BK267.out 4).trans rfl;have hcz3_5:w2.cell? ⟨gb267,5,none⟩=some (.int .i64 a0_5):=(blk_cell BK267.out 5).trans rfl;have hcz3_6:w2.cell? ⟨gb267,6,none⟩=some (.int .i64 a0_6):=(blk_cell BK267.out 6).trans rfl;have hcz3_7:w2.cell? ⟨gb267,7,none⟩=some (.int .i64 a0_7):=(blk_cell BK267.out 7).trans rfl;have hfz3_0:=blk_frozen BK267.out 0;have hfz3_1:=blk_frozen BK267.out 1;have hfz3_2:=blk_frozen BK267.out 2;have hfz3_3:=blk_frozen BK267.out 3;have hfz3_4:=blk_frozen BK267.out 4;have hfz3_5:=blk_frozen BK267.out 5;have hfz3_6:=blk_frozen BK267.out 6;have hfz3_7:=blk_frozen BK267.out 7)|((with_reducible refine gate_dst (N:=15) rfl ?_);refine Kd.R_lit (Kd.int .i64) _ 3 ?hg (N:=15) ?hd (xs:=([a0_2,a0_3,a0_4,a0_5,a0_6,a0_7]:List Int)) (inner:=[.int .i64 a0_2,.int .i64 a0_3,.int .i64 a0_4,.int .i64 a0_5,.int .i64 a0_6,.int .i64 a0_7]) (ok:=fun _=>True) (okp:=fun _=>True) ?hr ?hp (fun _ hk=>hk) trivial (Below.refl _ _) (Nat.le_refl _) zb24 ?_;(case hd=>rfl);(case hg=>rfl);(case hr=>first|(go_simp;done)|(go_simp;rfl));(case hp=>exact (Reps.one (show Kd.M (Kd.int .i64) _ _ _ a0_2 [.int .i64 a0_2] from rfl) (Reps.one (show Kd.M (Kd.int .i64) _ _ _ a0_3 [.int .i64 a0_3] from rfl) (Reps.one (show Kd.M (Kd.int .i64) _ _ _ a0_4 [.int .i64 a0_4] from rfl) (Reps.one (show Kd.M (Kd.int .i64) _ _ _ a0_5 [.int .i64 a0_5] from rfl) (Reps.one (show Kd.M (Kd.int .i64) _ _ _ a0_6 [.int .i64 a0_6] from rfl) (Reps.one (show Kd.M (Kd.int .i64) _ _ _ a0_7 [.int .i64 a0_7] from rfl) (Reps.none _ _))))))));intro v269 w4 ho5 hb hg_ hnew_;clear hg_ hnew_;(first|rw [← Ny268.out] at ho5|(simp only [Int.reduceToNat] at ho5;rw [← Ny268.out] at ho5));have HO270:=Aside0.mk (Kd.R_lower ho5 (below_size zb58));replace BK267:=Aside0.mk (blk_below (g:=gb267) (o:=.cells #[.string a0_0,.slice A0_1 l0_1.length c0_1,.int .i64 a0_2,.int .i64 a0_3,.int .i64 a0_4,.int .i64 a0_5,.int .i64 a0_6,.int .i64 a0_7] 64 (0,0)) (by (with_reducible repeat (first|refine blk_drewN ?_ _|refine blk_drew ?_|refine blk_alloc ?_ _));exact BK267.out) hb);replace HB:=Aside0.mk (below_step zb58 hb);clear hb ho5))
 go_ret
 exact ⟨_,zb6,by (with_reducible repeat (first|apply Kd.R_alloc|apply Kd.R_drewN|apply Kd.R_drew));exact HO270.out,zb58⟩
mutual
def tollbarref09_One.l0:Nat → List Int → List Int → Int → ByteArray → List ByteArray → Int → Int → Int → Int → Int → Int → Option (Bool)
 | 0,_,_,_,_,_,_,_,_,_,_,_=>none
 | k + 1,x3,x4,x5,x288000,x288001,x288002,x288003,x288004,x288005,x288006,x288007=>if x5 < 6 then (if 0 ≤ x5 then (if x5 < (x4.length:Int) then (if (rd x4 x5) < 1 then (some false) else (if x5 < (x3.length:Int) then (if (rd x4 x5) > (rd x3 x5) then (some false) else (tollbarref09_One.l0 k x3 x4 (wrap64 (x5 + 1)) x288000 x288001 x288002 x288003 x288004 x288005 x288006 x288007)) else (none))) else (none)) else (none)) else (if x288002 < 256 then (tollbarref09_One.j1 k true x288000 x288001 x288002 x288003 x288004 x288005 x288006 x288007) else ((tollbarref09_Name.f k x288000).bind fun t297=>(if t297=true then (if (x288001.length:Int) < 1 then (tollbarref09_One.j1 k true x288000 x288001 x288002 x288003 x288004 x288005 x288006 x288007) else (tollbarref09_One.j1 k (decide ((x288001.length:Int) > 8)) x288000 x288001 x288002 x288003 x288004 x288005 x288006 x288007)) else (tollbarref09_One.j1 k true x288000 x288001 x288002 x288003 x288004 x288005 x288006 x288007))))
def tollbarref09_One.j1:Nat → Bool → ByteArray → List ByteArray → Int → Int → Int → Int → Int → Int → Option (Bool)
 | 0,_,_,_,_,_,_,_,_,_=>none
 | k + 1,x52,x288000,x288001,x288002,x288003,x288004,x288005,x288006,x288007=>if x52=true then (some false) else (tollbarref09_One.l1 k 0 x288000 x288001 x288002 x288003 x288004 x288005 x288006 x288007)
def tollbarref09_One.l1:Nat → Int → ByteArray → List ByteArray → Int → Int → Int → Int → Int → Int → Option (Bool)
 | 0,_,_,_,_,_,_,_,_,_=>none
 | k + 1,x6,x288000,x288001,x288002,x288003,x288004,x288005,x288006,x288007=>if x6 < (x288001.length:Int) then (if 0 ≤ x6 then ((tollbarref05_Host.f k (rdOf ByteArray.empty x288001 x6)).bind fun bt299=>(if bt299.2=true then (if bt299.1.toList=(rdOf ByteArray.empty x288001 x6).toList then (tollbarref09_One.l1 k (wrap64 (x6 + 1)) x288000 x288001 x288002 x288003 x288004 x288005 x288006 x288007) else (some false)) else (some false))) else (none)) else (some true)
end
def tollbarref09_One.f (k:Nat) (a0_0:ByteArray) (l0_1:List ByteArray) (a0_2:Int) (a0_3:Int) (a0_4:Int) (a0_5:Int) (a0_6:Int) (a0_7:Int):Option (Bool):=(tollbarref09_numbers.f a0_0 l0_1 a0_2 a0_3 a0_4 a0_5 a0_6 a0_7).bind fun t291=>(tollbarref09_One.l0 k (([1048576,64,64,1048576,1048576,1048576]:List Int)) t291 0 a0_0 l0_1 a0_2 a0_3 a0_4 a0_5 a0_6 a0_7)
set_option maxHeartbeats 8000000 in
set_option maxRecDepth 100000 in
theorem tollbarref09_One.calls (k:Nat) (a0_0:ByteArray) (A0_1:Option Addr) (c0_1:Nat) (l0_1:List ByteArray) (a0_2:Int) (a0_3:Int) (a0_4:Int) (a0_5:Int) (a0_6:Int) (a0_7:Int) (r:Bool) (w:World) (hr0_1:Kd.C Kd.string w A0_1 l0_1.length l0_1) (hc0_1:l0_1.length ≤ c0_1) (h:tollbarref09_One.f k a0_0 l0_1 a0_2 a0_3 a0_4 a0_5 a0_6 a0_7=some r) :
 Calls Tryz.prog 76 #[.agg #[.string a0_0,.slice A0_1 l0_1.length c0_1,.int .i64 a0_2,.int .i64 a0_3,.int .i64 a0_4,.int .i64 a0_5,.int .i64 a0_6,.int .i64 a0_7]] w fun e w' => e = .returned (.bool r)∧Below w.heap.size w w' := by
 have hu64:=Tryz.underlying64
 have HR0_1:=Aside0.mk hr0_1
 have HC0_1:=Aside0.mk hc0_1
 clear hr0_1 hc0_1
 have HB:=Aside0.mk (Below.refl w.heap.size w)
 unfold tollbarref09_One.f at h
 have H:=h
 clear h
 obtain ⟨y49,hy49⟩ : ∃ y_:List Int,y_=(([1048576,64,64,1048576,1048576,1048576]:List Int)):=⟨_,rfl⟩
 replace H:((tollbarref09_numbers.f a0_0 l0_1 a0_2 a0_3 a0_4 a0_5 a0_6 a0_7).bind fun t50=>(tollbarref09_One.l0 k y49 t50 0 a0_0 l0_1 a0_2 a0_3 a0_4 a0_5 a0_6 a0_7))=some r:=by first|(rw [hy49];with_reducible exact H)|(have H2_:=(Option.bind_some _ _).symm.trans H;rw [hy49];with_reducible exact H2_)|(have H2_:=(Option.bind_some _ _).symm.trans H;with_reducible exact H2_)|with_reducible exact H|(rw [hy49];exact H)|exact H
 have Ny49:=Aside0.mk hy49
 clear hy49
 replace H:=Option.bind_eq_some_iff.mp H
 obtain ⟨t50,A20,H⟩:=H
 try dsimp only at H
 have A2:=Aside0.mk A20
 clear A20
 have H' := Aside0.mk H
 clear H
 go_enter Tryz.func76,Tryz.ntmps76
 go_wp2_with (first|((with_reducible refine gate_dst (N:=1) rfl ?_);(try (refine gate_guard zb45 ?_;dsimp only));refine box_event rfl (N:=1) rfl (cs:=#[.string a0_0,.slice A0_1 l0_1.length c0_1,.int .i64 a0_2,.int .i64 a0_3,.int .i64 a0_4,.int .i64 a0_5,.int .i64 a0_6,.int .i64 a0_7]) (t:=64) zS ?_;intro gb43 hg w3 hbox hb;have GW43:=zG hg zb0;have GE43:=GW43;have BK43:=Aside0.mk hbox;replace HB:=Aside0.mk (below_step zb0 hb);clear hb hbox hg)|((with_reducible refine gate_dst (N:=9) rfl ?_);(try (refine gate_guard zb45 ?_;dsimp only));refine Kd.R_lit (Kd.int .i64) _ 3 ?hg (N:=9) ?hd (xs:=([1048576,64,64,1048576,1048576,1048576]:List Int)) (inner:=[.int .i64 1048576,.int .i64 64,.int .i64 64,.int .i64 1048576,.int .i64 1048576,.int .i64 1048576]) (ok:=fun _=>True) (okp:=fun _=>True) ?hr ?hp (fun _ hk=>hk) trivial (Below.refl _ _) (Nat.le_refl _) zb24 ?_;(case hd=>rfl);(case hg=>rfl);(case hr=>first|(go_simp;done)|(go_simp;rfl));(case hp=>exact (Reps.one (show Kd.M (Kd.int .i64) _ _ _ 1048576 [.int .i64 1048576] from rfl) (Reps.one (show Kd.M (Kd.int .i64) _ _ _ 64 [.int .i64 64] from rfl) (Reps.one (show Kd.M (Kd.int .i64) _ _ _ 64 [.int .i64 64] from rfl) (Reps.one (show Kd.M (Kd.int .i64) _ _ _ 1048576 [.int .i64 1048576] from rfl) (Reps.one (show Kd.M (Kd.int .i64) _ _ _ 1048576 [.int .i64 1048576] from rfl) (Reps.one (show Kd.M (Kd.int .i64) _ _ _ 1048576 [.int .i64 1048576] from rfl) (Reps.none _ _))))))));intro v54 w4 ho5 hb hg_ hnew_;clear hg_ hnew_;(first|rw [← Ny49.out] at ho5|(simp only [Int.reduceToNat] at ho5;rw [← Ny49.out] at ho5));have HO53:=Aside0.mk (Kd.R_lower ho5 (below_size zb7));replace BK43:=Aside0.mk (blk_below (g:=gb43) (o:=.cells #[.string a0_0,.slice A0_1 l0_1.length c0_1,.int .i64 a0_2,.int .i64 a0_3,.int .i64 a0_4,.int .i64 a0_5,.int .i64 a0_6,.int .i64 a0_7] 64 (0,0)) zb17 hb);replace HB:=Aside0.mk (below_step zb7 hb);clear hb ho5;have hcz6_0:w4.cell? ⟨gb43,0,none⟩=some (.string a0_0):=(blk_cell BK43.out 0).trans rfl;have hcz6_1:w4.cell? ⟨gb43,1,none⟩=some (.slice A0_1 l0_1.length c0_1):=(blk_cell BK43.out 1).trans rfl;have hcz6_2:w4.cell? ⟨gb43,2,none⟩=some (.int .i64 a0_2):=(blk_cell BK43.out 2).trans rfl;have hcz6_3:w4.cell? ⟨gb43,3,none⟩=some (.int .i64 a0_3):=(blk_cell BK43.out 3).trans rfl;have hcz6_4:w4.cell? ⟨gb43,4,none⟩=some (.int .i64 a0_4):=(blk_cell BK43.out 4).trans rfl;have hcz6_5:w4.cell? ⟨gb43,5,none⟩=some (.int .i64 a0_5):=(blk_cell BK43.out 5).trans rfl;have hcz6_6:w4.cell? ⟨gb43,6,none⟩=some (.int .i64 a0_6):=(blk_cell BK43.out 6).trans rfl;have hcz6_7:w4.cell? ⟨gb43,7,none⟩=some (.int .i64 a0_7):=(blk_cell BK43.out 7).trans rfl;have hfz6_0:=blk_frozen BK43.out 0;have hfz6_1:=blk_frozen BK43.out 1;have hfz6_2:=blk_frozen BK43.out 2;have hfz6_3:=blk_frozen BK43.out 3;have hfz6_4:=blk_frozen BK43.out 4;have hfz6_5:=blk_frozen BK43.out 5;have hfz6_6:=blk_frozen BK43.out 6;have hfz6_7:=blk_frozen BK43.out 7)|(go_at_call 42;(with_reducible refine (tollbarref09_numbers.calls a0_0 _ _ l0_1 a0_2 a0_3 a0_4 a0_5 a0_6 a0_7 t50 _ ?side1 ?side2 A2.out).mono ?_);(case side1=>exact zb55);(case side2=>exact HC0_1.out);rintro e w7 ⟨v55,rfl,ho0,hb⟩;(try clear A2);have HO56:=Aside0.mk (Kd.R_lower (Kd.R_new' ho0 (Kd.R_lt zb47)) (below_size zb7));replace HO53:=Aside0.mk (Kd.R_elder' zb47 (Kd.R_base ho0) hb);replace BK43:=Aside0.mk (blk_below (g:=gb43) (o:=.cells #[.string a0_0,.slice A0_1 l0_1.length c0_1,.int .i64 a0_2,.int .i64 a0_3,.int .i64 a0_4,.int .i64 a0_5,.int .i64 a0_6,.int .i64 a0_7] 64 (0,0)) zb17 hb);replace HB:=Aside0.mk (below_step zb7 hb);try clear hb ho0))
 repeat (go_quiet (first|((with_reducible refine gate_dst (N:=1) rfl ?_);(try (refine gate_guard zb45 ?_;dsimp only));refine box_event rfl (N:=1) rfl (cs:=#[.string a0_0,.slice A0_1 l0_1.length c0_1,.int .i64 a0_2,.int .i64 a0_3,.int .i64 a0_4,.int .i64 a0_5,.int .i64 a0_6,.int .i64 a0_7]) (t:=64) zS ?_;intro gb43 hg w3 hbox hb;have GW43:=zG hg zb0;have GE43:=GW43;have BK43:=Aside0.mk hbox;replace HB:=Aside0.mk (below_step zb0 hb);clear hb hbox hg)|((with_reducible refine gate_dst (N:=9) rfl ?_);(try (refine gate_guard zb45 ?_;dsimp only));refine Kd.R_lit (Kd.int .i64) _ 3 ?hg (N:=9) ?hd (xs:=([1048576,64,64,1048576,1048576,1048576]:List Int)) (inner:=[.int .i64 1048576,.int .i64 64,.int .i64 64,.int .i64 1048576,.int .i64 1048576,.int .i64 1048576]) (ok:=fun _=>True) (okp:=fun _=>True) ?hr ?hp (fun _ hk=>hk) trivial (Below.refl _ _) (Nat.le_refl _) zb24 ?_;(case hd=>rfl);(case hg=>rfl);(case hr=>first|(go_simp;done)|(go_simp;rfl));(case hp=>exact (Reps.one (show Kd.M (Kd.int .i64) _ _ _ 1048576 [.int .i64 1048576] from rfl) (Reps.one (show Kd.M (Kd.int .i64) _ _ _ 64 [.int .i64 64] from rfl) (Reps.one (show Kd.M (Kd.int .i64) _ _ _ 64 [.int .i64 64] from rfl) (Reps.one (show Kd.M (Kd.int .i64) _ _ _ 1048576 [.int .i64 1048576] from rfl) (Reps.one (show Kd.M (Kd.int .i64) _ _ _ 1048576 [.int .i64 1048576] from rfl) (Reps.one (show Kd.M (Kd.int .i64) _ _ _ 1048576 [.int .i64 1048576] from rfl) (Reps.none _ _))))))));intro v54 w4 ho5 hb hg_ hnew_;clear hg_ hnew_;(first|rw [← Ny49.out] at ho5|(simp only [Int.reduceToNat] at ho5;rw [← Ny49.out] at ho5));have HO53:=Aside0.mk (Kd.R_lower ho5 (below_size zb7));replace BK43:=Aside0.mk (blk_below (g:=gb43) (o:=.cells #[.string a0_0,.slice A0_1 l0_1.length c0_1,.int .i64 a0_2,.int .i64 a0_3,.int .i64 a0_4,.int .i64 a0_5,.int .i64 a0_6,.int .i64 a0_7] 64 (0,0)) zb17 hb);replace HB:=Aside0.mk (below_step zb7 hb);clear hb ho5;have hcz6_0:w4.cell? ⟨gb43,0,none⟩=some (.string a0_0):=(blk_cell BK43.out 0).trans rfl;have hcz6_1:w4.cell? ⟨gb43,1,none⟩=some (.slice A0_1 l0_1.length c0_1):=(blk_cell BK43.out 1).trans rfl;have hcz6_2:w4.cell? ⟨gb43,2,none⟩=some (.int .i64 a0_2):=(blk_cell BK43.out 2).trans rfl;have hcz6_3:w4.cell? ⟨gb43,3,none⟩=some (.int .i64 a0_3):=(blk_cell BK43.out 3).trans rfl;have hcz6_4:w4.cell? ⟨gb43,4,none⟩=some (.int .i64 a0_4):=(blk_cell BK43.out 4).trans rfl;have hcz6_5:w4.cell? ⟨gb43,5,none⟩=some (.int .i64 a0_5):=(blk_cell BK43.out 5).trans rfl;have hcz6_6:w4.cell? ⟨gb43,6,none⟩=some (.int .i64 a0_6):=(blk_cell BK43.out 6).trans rfl;have hcz6_7:w4.cell? ⟨gb43,7,none⟩=some (.int .i64 a0_7):=(blk_cell BK43.out 7).trans rfl;have hfz6_0:=blk_frozen BK43.out 0;have hfz6_1:=blk_frozen BK43.out 1;have hfz6_2:=blk_frozen BK43.out 2;have hfz6_3:=blk_frozen BK43.out 3;have hfz6_4:=blk_frozen BK43.out 4;have hfz6_5:=blk_frozen BK43.out 5;have hfz6_6:=blk_frozen BK43.out 6;have hfz6_7:=blk_frozen BK43.out 7)|(go_at_call 42;(with_reducible refine (tollbarref09_numbers.calls a0_0 _ _ l0_1 a0_2 a0_3 a0_4 a0_5 a0_6 a0_7 t50 _ ?side1 ?side2 A2.out).mono ?_);(case side1=>exact zb55);(case side2=>exact HC0_1.out);rintro e w7 ⟨v55,rfl,ho0,hb⟩;(try clear A2);have HO56:=Aside0.mk (Kd.R_lower (Kd.R_new' ho0 (Kd.R_lt zb47)) (below_size zb7));replace HO53:=Aside0.mk (Kd.R_elder' zb47 (Kd.R_base ho0) hb);replace BK43:=Aside0.mk (blk_below (g:=gb43) (o:=.cells #[.string a0_0,.slice A0_1 l0_1.length c0_1,.int .i64 a0_2,.int .i64 a0_3,.int .i64 a0_4,.int .i64 a0_5,.int .i64 a0_6,.int .i64 a0_7] 64 (0,0)) zb17 hb);replace HB:=Aside0.mk (below_step zb7 hb);try clear hb ho0));try go_wp2_with (first|((with_reducible refine gate_dst (N:=1) rfl ?_);(try (refine gate_guard zb45 ?_;dsimp only));refine box_event rfl (N:=1) rfl (cs:=#[.string a0_0,.slice A0_1 l0_1.length c0_1,.int .i64 a0_2,.int .i64 a0_3,.int .i64 a0_4,.int .i64 a0_5,.int .i64 a0_6,.int .i64 a0_7]) (t:=64) zS ?_;intro gb43 hg w3 hbox hb;have GW43:=zG hg zb0;have GE43:=GW43;have BK43:=Aside0.mk hbox;replace HB:=Aside0.mk (below_step zb0 hb);clear hb hbox hg)|((with_reducible refine gate_dst (N:=9) rfl ?_);(try (refine gate_guard zb45 ?_;dsimp only));refine Kd.R_lit (Kd.int .i64) _ 3 ?hg (N:=9) ?hd (xs:=([1048576,64,64,1048576,1048576,1048576]:List Int)) (inner:=[.int .i64 1048576,.int .i64 64,.int .i64 64,.int .i64 1048576,.int .i64 1048576,.int .i64 1048576]) (ok:=fun _=>True) (okp:=fun _=>True) ?hr ?hp (fun _ hk=>hk) trivial (Below.refl _ _) (Nat.le_refl _) zb24 ?_;(case hd=>rfl);(case hg=>rfl);(case hr=>first|(go_simp;done)|(go_simp;rfl));(case hp=>exact (Reps.one (show Kd.M (Kd.int .i64) _ _ _ 1048576 [.int .i64 1048576] from rfl) (Reps.one (show Kd.M (Kd.int .i64) _ _ _ 64 [.int .i64 64] from rfl) (Reps.one (show Kd.M (Kd.int .i64) _ _ _ 64 [.int .i64 64] from rfl) (Reps.one (show Kd.M (Kd.int .i64) _ _ _ 1048576 [.int .i64 1048576] from rfl) (Reps.one (show Kd.M (Kd.int .i64) _ _ _ 1048576 [.int .i64 1048576] from rfl) (Reps.one (show Kd.M (Kd.int .i64) _ _ _ 1048576 [.int .i64 1048576] from rfl) (Reps.none _ _))))))));intro v54 w4 ho5 hb hg_ hnew_;clear hg_ hnew_;(first|rw [← Ny49.out] at ho5|(simp only [Int.reduceToNat] at ho5;rw [← Ny49.out] at ho5));have HO53:=Aside0.mk (Kd.R_lower ho5 (below_size zb7));replace BK43:=Aside0.mk (blk_below (g:=gb43) (o:=.cells #[.string a0_0,.slice A0_1 l0_1.length c0_1,.int .i64 a0_2,.int .i64 a0_3,.int .i64 a0_4,.int .i64 a0_5,.int .i64 a0_6,.int .i64 a0_7] 64 (0,0)) zb17 hb);replace HB:=Aside0.mk (below_step zb7 hb);clear hb ho5;have hcz6_0:w4.cell? ⟨gb43,0,none⟩=some (.string a0_0):=(blk_cell BK43.out 0).trans rfl;have hcz6_1:w4.cell? ⟨gb43,1,none⟩=some (.slice A0_1 l0_1.length c0_1):=(blk_cell BK43.out 1).trans rfl;have hcz6_2:w4.cell? ⟨gb43,2,none⟩=some (.int .i64 a0_2):=(blk_cell BK43.out 2).trans rfl;have hcz6_3:w4.cell? ⟨gb43,3,none⟩=some (.int .i64 a0_3):=(blk_cell BK43.out 3).trans rfl;have hcz6_4:w4.cell? ⟨gb43,4,none⟩=some (.int .i64 a0_4):=(blk_cell BK43.out 4).trans rfl;have hcz6_5:w4.cell? ⟨gb43,5,none⟩=some (.int .i64 a0_5):=(blk_cell BK43.out 5).trans rfl;have hcz6_6:w4.cell? ⟨gb43,6,none⟩=some (.int .i64 a0_6):=(blk_cell BK43.out 6).trans rfl;have hcz6_7:w4.cell? ⟨gb43,7,none⟩=some (.int .i64 a0_7):=(blk_cell BK43.out 7).trans rfl;have hfz6_0:=blk_frozen BK43.out 0;have hfz6_1:=blk_frozen BK43.out 1;have hfz6_2:=blk_frozen BK43.out 2;have hfz6_3:=blk_frozen BK43.out 3;have hfz6_4:=blk_frozen BK43.out 4;have hfz6_5:=blk_frozen BK43.out 5;have hfz6_6:=blk_frozen BK43.out 6;have hfz6_7:=blk_frozen BK43.out 7)|(go_at_call 42;(with_reducible refine (tollbarref09_numbers.calls a0_0 _ _ l0_1 a0_2 a0_3 a0_4 a0_5 a0_6 a0_7 t50 _ ?side1 ?side2 A2.out).mono ?_);(case side1=>exact zb55);(case side2=>exact HC0_1.out);rintro e w7 ⟨v55,rfl,ho0,hb⟩;(try clear A2);have HO56:=Aside0.mk (Kd.R_lower (Kd.R_new' ho0 (Kd.R_lt zb47)) (below_size zb7));replace HO53:=Aside0.mk (Kd.R_elder' zb47 (Kd.R_base ho0) hb);replace BK43:=Aside0.mk (blk_below (g:=gb43) (o:=.cells #[.string a0_0,.slice A0_1 l0_1.length c0_1,.int .i64 a0_2,.int .i64 a0_3,.int .i64 a0_4,.int .i64 a0_5,.int .i64 a0_6,.int .i64 a0_7] 64 (0,0)) zb17 hb);replace HB:=Aside0.mk (below_step zb7 hb);try clear hb ho0)))
 go_loopg [5] k (fun kq v5 w' => ∃ (x5_1:Int),v5 = .int .i64 x5_1∧Aside0 (tollbarref09_One.l0 kq y49 t50 x5_1 a0_0 l0_1 a0_2 a0_3 a0_4 a0_5 a0_6 a0_7=some r)∧Aside0 (kq ≤ k)∧Aside0 (Kd.R (Kd.int .i64) 3 w' w.heap.size (fun k_=>some k_ ≠ (v55:Value).ownBlock) v54 y49)∧Aside0 (Kd.R (Kd.int .i64) 3 w' w.heap.size (fun k_=>some k_ ≠ (v54:Value).ownBlock) v55 t50)∧Aside0 (w'.heap[gb43]? = some (.cells #[.string a0_0,(.slice A0_1 l0_1.length c0_1),.int .i64 a0_2,.int .i64 a0_3,.int .i64 a0_4,.int .i64 a0_5,.int .i64 a0_6,.int .i64 a0_7] 64 (0,0)))∧Aside0 (Below w.heap.size w w'))
 case atStart=>exact ⟨(0),zb5,H',⟨Nat.le_refl _⟩,⟨by (with_reducible repeat (first|apply Kd.R_alloc|apply Kd.R_drewN|apply Kd.R_drew));exact Kd.R_mono HO53.out (fun _ hk=>hk.2)⟩,⟨by (with_reducible repeat (first|apply Kd.R_alloc|apply Kd.R_drewN|apply Kd.R_drew));exact Kd.R_mono HO56.out (fun _ hk=>hk.2)⟩,⟨zb17⟩,⟨zb7⟩⟩
 case round =>
  clear H'
  try clear p2
  try clear c7
  try clear hcz6_0
  try clear hcz6_1
  try clear hcz6_2
  try clear hcz6_3
  try clear hcz6_4
  try clear hcz6_5
  try clear hcz6_6
  try clear hcz6_7
  try clear hfz6_0
  try clear hfz6_1
  try clear hfz6_2
  try clear hfz6_3
  try clear hfz6_4
  try clear hfz6_5
  try clear hfz6_6
  try clear hfz6_7
  obtain ⟨x5_1,rfl,HA,HK1,HO_3,HO_4,BK43,HB⟩:=hrel
  cases gk with
  | zero=>exact absurd HA.out (by simp [tollbarref09_One.l0])
  | succ k1 =>
   have H:=HA.out
   clear HA
   simp only [tollbarref09_One.l0] at H
   by_cases c8:x5_1 < 6
   ·rw [if_pos c8] at H
    have c8b0:=decide_eq_true c8
    clear c8
    by_cases c9:0 ≤ x5_1;rotate_left
    ·rw [if_neg c9] at H
     exact absurd H zb24
    rw [if_pos c9] at H
    have c9b0:=decide_eq_true c9
    clear c9
    by_cases c10:x5_1 < (t50.length:Int)
    ·rw [if_pos c10] at H
     have c10b0:=decide_eq_true c10
     clear c10
     by_cases c11:(rd t50 x5_1) < 1
     ·rw [if_pos c11] at H
      have c11b0:=decide_eq_true c11
      clear c11
      obtain rfl:=Option.some.inj H
      obtain ⟨Ao12,co12,eo12⟩:=Kd.R_slice HO_4.out
      subst eo12
      have p46:0 ≤ (x5_1:Int):=of_decide_eq_true zb1
      have q46:x5_1 < (t50.length:Int):=of_decide_eq_true zb1
      obtain ⟨ad46,e46,hx46_0⟩:=Kd.at_int (Kd.R_reads' HO_4.out).2.2 x5_1 p46 q46
      cases e46
      replace p46:=eq_true p46
      replace q46:=eq_true q46
      go_wp2
      repeat (go_quiet (fail);try go_wp2)
      go_ret
      exact ⟨zb6,zb7⟩
     rw [if_neg c11] at H
     have c11b0:=decide_eq_false c11
     clear c11
     by_cases c13:x5_1 < (y49.length:Int);rotate_left
     ·rw [if_neg c13] at H
      exact absurd H zb24
     rw [if_pos c13] at H
     have c13b0:=decide_eq_true c13
     clear c13
     by_cases c14:(rd t50 x5_1) > (rd y49 x5_1)
     ·rw [if_pos c14] at H
      have c14b0:decide ((rd y49 x5_1) < (rd t50 x5_1))=true:=decide_eq_true c14
      clear c14
      obtain rfl:=Option.some.inj H
      obtain ⟨Ao15,co15,eo15⟩:=Kd.R_slice HO_4.out
      subst eo15
      have p46:0 ≤ (x5_1:Int):=of_decide_eq_true zb1
      have q46:x5_1 < (t50.length:Int):=of_decide_eq_true zb1
      obtain ⟨ad46,e46,hx46_0⟩:=Kd.at_int (Kd.R_reads' HO_4.out).2.2 x5_1 p46 q46
      cases e46
      replace p46:=eq_true p46
      replace q46:=eq_true q46
      have p47:0 ≤ (x5_1:Int):=of_decide_eq_true zb1
      have q47:x5_1 < (t50.length:Int):=of_decide_eq_true zb1
      obtain ⟨ad47,e47,hx47_0⟩:=Kd.at_int (Kd.R_reads' HO_4.out).2.2 x5_1 p47 q47
      obtain rfl:ad46=ad47:=(by injection e47)
      replace p47:=eq_true p47
      replace q47:=eq_true q47
      obtain ⟨Ao16,co16,eo16⟩:=Kd.R_slice HO_3.out
      subst eo16
      have p48:0 ≤ (x5_1:Int):=of_decide_eq_true zb1
      have q48:x5_1 < (y49.length:Int):=of_decide_eq_true zb1
      obtain ⟨ad48,e48,hx48_0⟩:=Kd.at_int (Kd.R_reads' HO_3.out).2.2 x5_1 p48 q48
      cases e48
      replace p48:=eq_true p48
      replace q48:=eq_true q48
      go_wp2
      repeat (go_quiet (fail);try go_wp2)
      go_ret
      exact ⟨zb6,zb7⟩
     rw [if_neg c14] at H
     have c14b0:decide ((rd y49 x5_1) < (rd t50 x5_1))=false:=decide_eq_false c14
     clear c14
     have H' := Aside0.mk H
     clear H
     obtain ⟨Ao17,co17,eo17⟩:=Kd.R_slice HO_4.out
     subst eo17
     have p46:0 ≤ (x5_1:Int):=of_decide_eq_true zb1
     have q46:x5_1 < (t50.length:Int):=of_decide_eq_true zb1
     obtain ⟨ad46,e46,hx46_0⟩:=Kd.at_int (Kd.R_reads' HO_4.out).2.2 x5_1 p46 q46
     cases e46
     replace p46:=eq_true p46
     replace q46:=eq_true q46
     have p47:0 ≤ (x5_1:Int):=of_decide_eq_true zb1
     have q47:x5_1 < (t50.length:Int):=of_decide_eq_true zb1
     obtain ⟨ad47,e47,hx47_0⟩:=Kd.at_int (Kd.R_reads' HO_4.out).2.2 x5_1 p47 q47
     obtain rfl:ad46=ad47:=(by injection e47)
     replace p47:=eq_true p47
     replace q47:=eq_true q47
     obtain ⟨Ao18,co18,eo18⟩:=Kd.R_slice HO_3.out
     subst eo18
     have p48:0 ≤ (x5_1:Int):=of_decide_eq_true zb1
     have q48:x5_1 < (y49.length:Int):=of_decide_eq_true zb1
     obtain ⟨ad48,e48,hx48_0⟩:=Kd.at_int (Kd.R_reads' HO_3.out).2.2 x5_1 p48 q48
     cases e48
     replace p48:=eq_true p48
     replace q48:=eq_true q48
     go_wp2
     repeat (go_quiet (fail);try go_wp2)
     go_roundg k1
     case measure=>have:=HK1.out;omega
     case rel=>exact ⟨(wrap64 (x5_1 + 1)),zb5,H',⟨zb54⟩,⟨zb15⟩,⟨zb4⟩,⟨zb17⟩,⟨zb7⟩⟩
    ·rw [if_neg c10] at H
     exact absurd H zb24
   rw [if_neg c8] at H
   have c8b0:=decide_eq_false c8
   clear c8
   have HC19:=Aside0.mk H
   clear H
   go_upto_region 8 with (fail)
   repeat (go_quiet (fail);go_upto_region 8 with (fail))
   go_cut [52] (fun v52 wc => ∃ (kq:Nat) (x52_18:Bool),v52 = .bool x52_18∧Aside0 (tollbarref09_One.j1 kq x52_18 a0_0 l0_1 a0_2 a0_3 a0_4 a0_5 a0_6 a0_7=some r)∧Aside0 (kq ≤ k1)∧Aside0 (wc.heap[gb43]? = some (.cells #[.string a0_0,(.slice A0_1 l0_1.length c0_1),.int .i64 a0_2,.int .i64 a0_3,.int .i64 a0_4,.int .i64 a0_5,.int .i64 a0_6,.int .i64 a0_7] 64 (0,0)))∧Aside0 (Below w.heap.size w wc))
   case first =>
    have H:=HC19.out
    clear HC19
    by_cases c20:a0_2 < 256
    ·rw [if_pos c20] at H
     have c20b0:=decide_eq_true c20
     clear c20
     (first|rw [c20b0]|(simp only [i64_w,i32_w];rw [c20b0])|skip)
     have H' := Aside0.mk H
     clear H
     have hcz21_0:wr.cell? ⟨gb43,0,none⟩=some (.string a0_0):=(blk_cell BK43.out 0).trans rfl
     have hcz21_1:wr.cell? ⟨gb43,1,none⟩=some (.slice A0_1 l0_1.length c0_1):=(blk_cell BK43.out 1).trans rfl
     have hcz21_2:wr.cell? ⟨gb43,2,none⟩=some (.int .i64 a0_2):=(blk_cell BK43.out 2).trans rfl
     have hcz21_3:wr.cell? ⟨gb43,3,none⟩=some (.int .i64 a0_3):=(blk_cell BK43.out 3).trans rfl
     have hcz21_4:wr.cell? ⟨gb43,4,none⟩=some (.int .i64 a0_4):=(blk_cell BK43.out 4).trans rfl
     have hcz21_5:wr.cell? ⟨gb43,5,none⟩=some (.int .i64 a0_5):=(blk_cell BK43.out 5).trans rfl
     have hcz21_6:wr.cell? ⟨gb43,6,none⟩=some (.int .i64 a0_6):=(blk_cell BK43.out 6).trans rfl
     have hcz21_7:wr.cell? ⟨gb43,7,none⟩=some (.int .i64 a0_7):=(blk_cell BK43.out 7).trans rfl
     have hfz21_0:=blk_frozen BK43.out 0
     have hfz21_1:=blk_frozen BK43.out 1
     have hfz21_2:=blk_frozen BK43.out 2
     have hfz21_3:=blk_frozen BK43.out 3
     have hfz21_4:=blk_frozen BK43.out 4
     have hfz21_5:=blk_frozen BK43.out 5
     have hfz21_6:=blk_frozen BK43.out 6
     have hfz21_7:=blk_frozen BK43.out 7
     go_wp2
     repeat (go_quiet (fail);try go_wp2)
     go_meet
     case rel=>exact ⟨_,(true),zb5,H',⟨zb56⟩,⟨zb17⟩,⟨zb7⟩⟩
    rw [if_neg c20] at H
    have c20b0:=decide_eq_false c20
    clear c20
    (first|rw [c20b0]|(simp only [i64_w,i32_w];rw [c20b0])|skip)
    replace H:=Option.bind_eq_some_iff.mp H
    obtain ⟨t58,A57,H⟩:=H
    try dsimp only at H
    have A22:=Aside0.mk A57
    clear A57
    by_cases c23:t58=true;rotate_left
    ·replace c23:=Bool.eq_false_iff.mpr c23
     subst c23
     rw [if_neg (show ¬ (false=true) by decide)] at H
     have H' := Aside0.mk H
     clear H
     have hcz27_0:wr.cell? ⟨gb43,0,none⟩=some (.string a0_0):=(blk_cell BK43.out 0).trans rfl
     have hcz27_1:wr.cell? ⟨gb43,1,none⟩=some (.slice A0_1 l0_1.length c0_1):=(blk_cell BK43.out 1).trans rfl
     have hcz27_2:wr.cell? ⟨gb43,2,none⟩=some (.int .i64 a0_2):=(blk_cell BK43.out 2).trans rfl
     have hcz27_3:wr.cell? ⟨gb43,3,none⟩=some (.int .i64 a0_3):=(blk_cell BK43.out 3).trans rfl
     have hcz27_4:wr.cell? ⟨gb43,4,none⟩=some (.int .i64 a0_4):=(blk_cell BK43.out 4).trans rfl
     have hcz27_5:wr.cell? ⟨gb43,5,none⟩=some (.int .i64 a0_5):=(blk_cell BK43.out 5).trans rfl
     have hcz27_6:wr.cell? ⟨gb43,6,none⟩=some (.int .i64 a0_6):=(blk_cell BK43.out 6).trans rfl
     have hcz27_7:wr.cell? ⟨gb43,7,none⟩=some (.int .i64 a0_7):=(blk_cell BK43.out 7).trans rfl
     have hfz27_0:=blk_frozen BK43.out 0
     have hfz27_1:=blk_frozen BK43.out 1
     have hfz27_2:=blk_frozen BK43.out 2
     have hfz27_3:=blk_frozen BK43.out 3
     have hfz27_4:=blk_frozen BK43.out 4
     have hfz27_5:=blk_frozen BK43.out 5
     have hfz27_6:=blk_frozen BK43.out 6
     have hfz27_7:=blk_frozen BK43.out 7
     go_wp2_with (first|(go_at_call 15;(with_reducible refine (tollbarref09_Name.calls k1 a0_0 false _ A22.out).mono ?_);rintro e w' ⟨rfl,⟨nd,rfl⟩⟩;(try clear A22);(try first|exact ⟨rfl,_,World.drewN_drewN _ _ _⟩|exact ⟨rfl,_,Eq.trans (World.drewN_drewN _ _ _) (congrArg (World.drewN _) (Nat.add_assoc _ _ _))⟩)))
     repeat (go_quiet (first|(go_at_call 15;(with_reducible refine (tollbarref09_Name.calls k1 a0_0 false _ A22.out).mono ?_);rintro e w' ⟨rfl,⟨nd,rfl⟩⟩;(try clear A22);(try first|exact ⟨rfl,_,World.drewN_drewN _ _ _⟩|exact ⟨rfl,_,Eq.trans (World.drewN_drewN _ _ _) (congrArg (World.drewN _) (Nat.add_assoc _ _ _))⟩)));try go_wp2_with (first|(go_at_call 15;(with_reducible refine (tollbarref09_Name.calls k1 a0_0 false _ A22.out).mono ?_);rintro e w' ⟨rfl,⟨nd,rfl⟩⟩;(try clear A22);(try first|exact ⟨rfl,_,World.drewN_drewN _ _ _⟩|exact ⟨rfl,_,Eq.trans (World.drewN_drewN _ _ _) (congrArg (World.drewN _) (Nat.add_assoc _ _ _))⟩))))
     go_meet
     case rel=>exact ⟨_,(true),zb5,H',⟨zb56⟩,⟨zb17⟩,⟨zb7⟩⟩
    subst c23
    rw [if_pos rfl] at H
    by_cases c24:(l0_1.length:Int) < 1
    ·rw [if_pos c24] at H
     have c24b0:=decide_eq_true c24
     have c24b1:decide (l0_1.length < 1)=true:=decide_eq_true zb16
     clear c24
     have H' := Aside0.mk H
     clear H
     have hcz25_0:wr.cell? ⟨gb43,0,none⟩=some (.string a0_0):=(blk_cell BK43.out 0).trans rfl
     have hcz25_1:wr.cell? ⟨gb43,1,none⟩=some (.slice A0_1 l0_1.length c0_1):=(blk_cell BK43.out 1).trans rfl
     have hcz25_2:wr.cell? ⟨gb43,2,none⟩=some (.int .i64 a0_2):=(blk_cell BK43.out 2).trans rfl
     have hcz25_3:wr.cell? ⟨gb43,3,none⟩=some (.int .i64 a0_3):=(blk_cell BK43.out 3).trans rfl
     have hcz25_4:wr.cell? ⟨gb43,4,none⟩=some (.int .i64 a0_4):=(blk_cell BK43.out 4).trans rfl
     have hcz25_5:wr.cell? ⟨gb43,5,none⟩=some (.int .i64 a0_5):=(blk_cell BK43.out 5).trans rfl
     have hcz25_6:wr.cell? ⟨gb43,6,none⟩=some (.int .i64 a0_6):=(blk_cell BK43.out 6).trans rfl
     have hcz25_7:wr.cell? ⟨gb43,7,none⟩=some (.int .i64 a0_7):=(blk_cell BK43.out 7).trans rfl
     have hfz25_0:=blk_frozen BK43.out 0
     have hfz25_1:=blk_frozen BK43.out 1
     have hfz25_2:=blk_frozen BK43.out 2
     have hfz25_3:=blk_frozen BK43.out 3
     have hfz25_4:=blk_frozen BK43.out 4
     have hfz25_5:=blk_frozen BK43.out 5
     have hfz25_6:=blk_frozen BK43.out 6
     have hfz25_7:=blk_frozen BK43.out 7
     go_wp2_with (first|(go_at_call 15;(with_reducible refine (tollbarref09_Name.calls k1 a0_0 true _ A22.out).mono ?_);rintro e w' ⟨rfl,⟨nd,rfl⟩⟩;(try clear A22);(try first|exact ⟨rfl,_,World.drewN_drewN _ _ _⟩|exact ⟨rfl,_,Eq.trans (World.drewN_drewN _ _ _) (congrArg (World.drewN _) (Nat.add_assoc _ _ _))⟩)))
     repeat (go_quiet (first|(go_at_call 15;(with_reducible refine (tollbarref09_Name.calls k1 a0_0 true _ A22.out).mono ?_);rintro e w' ⟨rfl,⟨nd,rfl⟩⟩;(try clear A22);(try first|exact ⟨rfl,_,World.drewN_drewN _ _ _⟩|exact ⟨rfl,_,Eq.trans (World.drewN_drewN _ _ _) (congrArg (World.drewN _) (Nat.add_assoc _ _ _))⟩)));try go_wp2_with (first|(go_at_call 15;(with_reducible refine (tollbarref09_Name.calls k1 a0_0 true _ A22.out).mono ?_);rintro e w' ⟨rfl,⟨nd,rfl⟩⟩;(try clear A22);(try first|exact ⟨rfl,_,World.drewN_drewN _ _ _⟩|exact ⟨rfl,_,Eq.trans (World.drewN_drewN _ _ _) (congrArg (World.drewN _) (Nat.add_assoc _ _ _))⟩))))
     go_meet
     case rel=>exact ⟨_,(true),zb5,H',⟨zb56⟩,⟨zb17⟩,⟨zb7⟩⟩
    rw [if_neg c24] at H
    have c24b0:=decide_eq_false c24
    have c24b1:decide (l0_1.length < 1)=false:=decide_eq_false zb16
    clear c24
    have H' := Aside0.mk H
    clear H
    have hcz26_0:wr.cell? ⟨gb43,0,none⟩=some (.string a0_0):=(blk_cell BK43.out 0).trans rfl
    have hcz26_1:wr.cell? ⟨gb43,1,none⟩=some (.slice A0_1 l0_1.length c0_1):=(blk_cell BK43.out 1).trans rfl
    have hcz26_2:wr.cell? ⟨gb43,2,none⟩=some (.int .i64 a0_2):=(blk_cell BK43.out 2).trans rfl
    have hcz26_3:wr.cell? ⟨gb43,3,none⟩=some (.int .i64 a0_3):=(blk_cell BK43.out 3).trans rfl
    have hcz26_4:wr.cell? ⟨gb43,4,none⟩=some (.int .i64 a0_4):=(blk_cell BK43.out 4).trans rfl
    have hcz26_5:wr.cell? ⟨gb43,5,none⟩=some (.int .i64 a0_5):=(blk_cell BK43.out 5).trans rfl
    have hcz26_6:wr.cell? ⟨gb43,6,none⟩=some (.int .i64 a0_6):=(blk_cell BK43.out 6).trans rfl
    have hcz26_7:wr.cell? ⟨gb43,7,none⟩=some (.int .i64 a0_7):=(blk_cell BK43.out 7).trans rfl
    have hfz26_0:=blk_frozen BK43.out 0
    have hfz26_1:=blk_frozen BK43.out 1
    have hfz26_2:=blk_frozen BK43.out 2
    have hfz26_3:=blk_frozen BK43.out 3
    have hfz26_4:=blk_frozen BK43.out 4
    have hfz26_5:=blk_frozen BK43.out 5
    have hfz26_6:=blk_frozen BK43.out 6
    have hfz26_7:=blk_frozen BK43.out 7
    go_wp2_with (first|(go_at_call 15;(with_reducible refine (tollbarref09_Name.calls k1 a0_0 true _ A22.out).mono ?_);rintro e w' ⟨rfl,⟨nd,rfl⟩⟩;(try clear A22);(try first|exact ⟨rfl,_,World.drewN_drewN _ _ _⟩|exact ⟨rfl,_,Eq.trans (World.drewN_drewN _ _ _) (congrArg (World.drewN _) (Nat.add_assoc _ _ _))⟩)))
    repeat (go_quiet (first|(go_at_call 15;(with_reducible refine (tollbarref09_Name.calls k1 a0_0 true _ A22.out).mono ?_);rintro e w' ⟨rfl,⟨nd,rfl⟩⟩;(try clear A22);(try first|exact ⟨rfl,_,World.drewN_drewN _ _ _⟩|exact ⟨rfl,_,Eq.trans (World.drewN_drewN _ _ _) (congrArg (World.drewN _) (Nat.add_assoc _ _ _))⟩)));try go_wp2_with (first|(go_at_call 15;(with_reducible refine (tollbarref09_Name.calls k1 a0_0 true _ A22.out).mono ?_);rintro e w' ⟨rfl,⟨nd,rfl⟩⟩;(try clear A22);(try first|exact ⟨rfl,_,World.drewN_drewN _ _ _⟩|exact ⟨rfl,_,Eq.trans (World.drewN_drewN _ _ _) (congrArg (World.drewN _) (Nat.add_assoc _ _ _))⟩))))
    go_meet
    case rel=>exact ⟨_,(decide ((l0_1.length:Int) > 8)),zb5,H',⟨zb56⟩,⟨zb17⟩,⟨zb7⟩⟩
   case rest =>
    clear HC19
    try clear c1
    try clear c2
    try clear p2
    try clear q2
    try clear hx2
    try clear p6
    try clear c7
    try clear c8
    try clear c8b0
    try clear c9
    try clear c9b0
    try clear c10
    try clear c10b0
    try clear c11
    try clear c11b0
    try clear c13
    try clear c13b0
    try clear c14
    try clear c14b0
    try clear c20
    try clear c20b0
    try clear c23
    try clear c24
    try clear c24b0
    try clear c24b1
    try clear hcz21_0
    try clear hcz21_1
    try clear hcz21_2
    try clear hcz21_3
    try clear hcz21_4
    try clear hcz21_5
    try clear hcz21_6
    try clear hcz21_7
    try clear hcz25_0
    try clear hcz25_1
    try clear hcz25_2
    try clear hcz25_3
    try clear hcz25_4
    try clear hcz25_5
    try clear hcz25_6
    try clear hcz25_7
    try clear hcz26_0
    try clear hcz26_1
    try clear hcz26_2
    try clear hcz26_3
    try clear hcz26_4
    try clear hcz26_5
    try clear hcz26_6
    try clear hcz26_7
    try clear hcz27_0
    try clear hcz27_1
    try clear hcz27_2
    try clear hcz27_3
    try clear hcz27_4
    try clear hcz27_5
    try clear hcz27_6
    try clear hcz27_7
    try clear hcz6_0
    try clear hcz6_1
    try clear hcz6_2
    try clear hcz6_3
    try clear hcz6_4
    try clear hcz6_5
    try clear hcz6_6
    try clear hcz6_7
    try clear hfz21_0
    try clear hfz21_1
    try clear hfz21_2
    try clear hfz21_3
    try clear hfz21_4
    try clear hfz21_5
    try clear hfz21_6
    try clear hfz21_7
    try clear hfz25_0
    try clear hfz25_1
    try clear hfz25_2
    try clear hfz25_3
    try clear hfz25_4
    try clear hfz25_5
    try clear hfz25_6
    try clear hfz25_7
    try clear hfz26_0
    try clear hfz26_1
    try clear hfz26_2
    try clear hfz26_3
    try clear hfz26_4
    try clear hfz26_5
    try clear hfz26_6
    try clear hfz26_7
    try clear hfz27_0
    try clear hfz27_1
    try clear hfz27_2
    try clear hfz27_3
    try clear hfz27_4
    try clear hfz27_5
    try clear hfz27_6
    try clear hfz27_7
    try clear hfz6_0
    try clear hfz6_1
    try clear hfz6_2
    try clear hfz6_3
    try clear hfz6_4
    try clear hfz6_5
    try clear hfz6_6
    try clear hfz6_7
    try clear hx46_0
    try clear hx47_0
    try clear hx48_0
    try clear p2
    try clear p46
    try clear p47
    try clear p48
    try clear q46
    try clear q47
    try clear q48
    obtain ⟨kq,x52_18,rfl,HA,HJ18,BK43,HB⟩:=hcut
    cases kq with
    | zero=>exact absurd HA.out (by simp [tollbarref09_One.j1])
    | succ kj18 =>
     have H:=HA.out
     clear HA
     simp only [tollbarref09_One.j1] at H
     by_cases c28:x52_18=true
     ·subst c28
      rw [if_pos rfl] at H
      obtain rfl:=Option.some.inj H
      go_wp2
      repeat (go_quiet (fail);try go_wp2)
      go_ret
      exact ⟨zb6,zb7⟩
     replace c28:=Bool.eq_false_iff.mpr c28
     subst c28
     rw [if_neg (show ¬ (false=true) by decide)] at H
     have H' := Aside0.mk H
     clear H
     go_wp2
     repeat (go_quiet (fail);try go_wp2)
     go_loopg [6] kj18 (fun kq v6 w' => ∃ (x6_3:Int),v6 = .int .i64 x6_3∧Aside0 (tollbarref09_One.l1 kq x6_3 a0_0 l0_1 a0_2 a0_3 a0_4 a0_5 a0_6 a0_7=some r)∧Aside0 (kq ≤ kj18)∧Aside0 (w'.heap[gb43]? = some (.cells #[.string a0_0,(.slice A0_1 l0_1.length c0_1),.int .i64 a0_2,.int .i64 a0_3,.int .i64 a0_4,.int .i64 a0_5,.int .i64 a0_6,.int .i64 a0_7] 64 (0,0)))∧Aside0 (Below w.heap.size w w'))
     case atStart=>exact ⟨(0),zb5,H',⟨Nat.le_refl _⟩,⟨zb17⟩,⟨zb7⟩⟩
     case round =>
      clear H'
      try clear c1
      try clear c2
      try clear p2
      try clear q2
      try clear hx2
      try clear p6
      try clear c7
      try clear c8
      try clear c8b0
      try clear c9
      try clear c9b0
      try clear c10
      try clear c10b0
      try clear c11
      try clear c11b0
      try clear c13
      try clear c13b0
      try clear c14
      try clear c14b0
      try clear c20
      try clear c20b0
      try clear c23
      try clear c24
      try clear c24b0
      try clear c24b1
      try clear c28
      try clear hcz21_0
      try clear hcz21_1
      try clear hcz21_2
      try clear hcz21_3
      try clear hcz21_4
      try clear hcz21_5
      try clear hcz21_6
      try clear hcz21_7
      try clear hcz25_0
      try clear hcz25_1
      try clear hcz25_2
      try clear hcz25_3
      try clear hcz25_4
      try clear hcz25_5
      try clear hcz25_6
      try clear hcz25_7
      try clear hcz26_0
      try clear hcz26_1
      try clear hcz26_2
      try clear hcz26_3
      try clear hcz26_4
      try clear hcz26_5
      try clear hcz26_6
      try clear hcz26_7
      try clear hcz27_0
      try clear hcz27_1
      try clear hcz27_2
      try clear hcz27_3
      try clear hcz27_4
      try clear hcz27_5
      try clear hcz27_6
      try clear hcz27_7
      try clear hcz6_0
      try clear hcz6_1
      try clear hcz6_2
      try clear hcz6_3
      try clear hcz6_4
      try clear hcz6_5
      try clear hcz6_6
      try clear hcz6_7
      try clear hfz21_0
      try clear hfz21_1
      try clear hfz21_2
      try clear hfz21_3
      try clear hfz21_4
      try clear hfz21_5
      try clear hfz21_6
      try clear hfz21_7
      try clear hfz25_0
      try clear hfz25_1
      try clear hfz25_2
      try clear hfz25_3
      try clear hfz25_4
      try clear hfz25_5
      try clear hfz25_6
      try clear hfz25_7
      try clear hfz26_0
      try clear hfz26_1
      try clear hfz26_2
      try clear hfz26_3
      try clear hfz26_4
      try clear hfz26_5
      try clear hfz26_6
      try clear hfz26_7
      try clear hfz27_0
      try clear hfz27_1
      try clear hfz27_2
      try clear hfz27_3
      try clear hfz27_4
      try clear hfz27_5
      try clear hfz27_6
      try clear hfz27_7
      try clear hfz6_0
      try clear hfz6_1
      try clear hfz6_2
      try clear hfz6_3
      try clear hfz6_4
      try clear hfz6_5
      try clear hfz6_6
      try clear hfz6_7
      try clear hx46_0
      try clear hx47_0
      try clear hx48_0
      try clear p2
      try clear p46
      try clear p47
      try clear p48
      try clear p6
      try clear q2
      try clear q46
      try clear q47
      try clear q48
      obtain ⟨x6_3,rfl,HA,HK3,BK43,HB⟩:=hrel
      cases gk with
      | zero=>exact absurd HA.out (by simp [tollbarref09_One.l1])
      | succ k3 =>
       have H:=HA.out
       clear HA
       simp only [tollbarref09_One.l1] at H
       by_cases c29:x6_3 < (l0_1.length:Int);rotate_left
       ·rw [if_neg c29] at H
        have c29b0:=decide_eq_false c29
        clear c29
        obtain rfl:=Option.some.inj H
        have hcz42_0:wr.cell? ⟨gb43,0,none⟩=some (.string a0_0):=(blk_cell BK43.out 0).trans rfl
        have hcz42_1:wr.cell? ⟨gb43,1,none⟩=some (.slice A0_1 l0_1.length c0_1):=(blk_cell BK43.out 1).trans rfl
        have hcz42_2:wr.cell? ⟨gb43,2,none⟩=some (.int .i64 a0_2):=(blk_cell BK43.out 2).trans rfl
        have hcz42_3:wr.cell? ⟨gb43,3,none⟩=some (.int .i64 a0_3):=(blk_cell BK43.out 3).trans rfl
        have hcz42_4:wr.cell? ⟨gb43,4,none⟩=some (.int .i64 a0_4):=(blk_cell BK43.out 4).trans rfl
        have hcz42_5:wr.cell? ⟨gb43,5,none⟩=some (.int .i64 a0_5):=(blk_cell BK43.out 5).trans rfl
        have hcz42_6:wr.cell? ⟨gb43,6,none⟩=some (.int .i64 a0_6):=(blk_cell BK43.out 6).trans rfl
        have hcz42_7:wr.cell? ⟨gb43,7,none⟩=some (.int .i64 a0_7):=(blk_cell BK43.out 7).trans rfl
        have hfz42_0:=blk_frozen BK43.out 0
        have hfz42_1:=blk_frozen BK43.out 1
        have hfz42_2:=blk_frozen BK43.out 2
        have hfz42_3:=blk_frozen BK43.out 3
        have hfz42_4:=blk_frozen BK43.out 4
        have hfz42_5:=blk_frozen BK43.out 5
        have hfz42_6:=blk_frozen BK43.out 6
        have hfz42_7:=blk_frozen BK43.out 7
        go_wp2
        repeat (go_quiet (fail);try go_wp2)
        go_ret
        exact ⟨zb6,zb7⟩
       rw [if_pos c29] at H
       have c29b0:=decide_eq_true c29
       clear c29
       by_cases c30:0 ≤ x6_3
       ·rw [if_pos c30] at H
        have c30b0:=decide_eq_true c30
        clear c30
        replace H:=Option.bind_eq_some_iff.mp H
        obtain ⟨⟨t51,t59⟩,A60,H⟩:=H
        try dsimp only at H
        have A31:=Aside0.mk A60
        clear A60
        by_cases c32:t59=true;rotate_left
        ·replace c32:=Bool.eq_false_iff.mpr c32
         subst c32
         rw [if_neg (show ¬ (false=true) by decide)] at H
         obtain rfl:=Option.some.inj H
         have hcz40_0:wr.cell? ⟨gb43,0,none⟩=some (.string a0_0):=(blk_cell BK43.out 0).trans rfl
         have hcz40_1:wr.cell? ⟨gb43,1,none⟩=some (.slice A0_1 l0_1.length c0_1):=(blk_cell BK43.out 1).trans rfl
         have hcz40_2:wr.cell? ⟨gb43,2,none⟩=some (.int .i64 a0_2):=(blk_cell BK43.out 2).trans rfl
         have hcz40_3:wr.cell? ⟨gb43,3,none⟩=some (.int .i64 a0_3):=(blk_cell BK43.out 3).trans rfl
         have hcz40_4:wr.cell? ⟨gb43,4,none⟩=some (.int .i64 a0_4):=(blk_cell BK43.out 4).trans rfl
         have hcz40_5:wr.cell? ⟨gb43,5,none⟩=some (.int .i64 a0_5):=(blk_cell BK43.out 5).trans rfl
         have hcz40_6:wr.cell? ⟨gb43,6,none⟩=some (.int .i64 a0_6):=(blk_cell BK43.out 6).trans rfl
         have hcz40_7:wr.cell? ⟨gb43,7,none⟩=some (.int .i64 a0_7):=(blk_cell BK43.out 7).trans rfl
         have hfz40_0:=blk_frozen BK43.out 0
         have hfz40_1:=blk_frozen BK43.out 1
         have hfz40_2:=blk_frozen BK43.out 2
         have hfz40_3:=blk_frozen BK43.out 3
         have hfz40_4:=blk_frozen BK43.out 4
         have hfz40_5:=blk_frozen BK43.out 5
         have hfz40_6:=blk_frozen BK43.out 6
         have hfz40_7:=blk_frozen BK43.out 7
         have p45:0 ≤ (x6_3:Int):=of_decide_eq_true zb1
         have q45:x6_3 < (l0_1.length:Int):=of_decide_eq_true zb1
         obtain ⟨ad45,e45,hx45_0⟩:=Kd.at_string HR0_1.out x6_3 p45 q45
         cases e45
         replace hx45_0:=(HB.out.cell (World.block_lt_of_cell? w _ hx45_0)).trans hx45_0
         replace p45:=eq_true p45
         replace q45:=eq_true q45
         go_wp2_with (first|(go_at_call 102;(with_reducible refine (tollbarref05_Host.calls k3 (rdOf ByteArray.empty l0_1 x6_3) t51 false _ A31.out).mono ?_);rintro e w41 ⟨rfl,hb⟩;(try clear A31);replace BK43:=Aside0.mk (blk_below (g:=gb43) (o:=.cells #[.string a0_0,.slice (some ad45) l0_1.length c0_1,.int .i64 a0_2,.int .i64 a0_3,.int .i64 a0_4,.int .i64 a0_5,.int .i64 a0_6,.int .i64 a0_7] 64 (0,0)) zb17 hb);replace HB:=Aside0.mk (below_step zb7 hb);(try clear hb)))
         repeat (go_quiet (first|(go_at_call 102;(with_reducible refine (tollbarref05_Host.calls k3 (rdOf ByteArray.empty l0_1 x6_3) t51 false _ A31.out).mono ?_);rintro e w41 ⟨rfl,hb⟩;(try clear A31);replace BK43:=Aside0.mk (blk_below (g:=gb43) (o:=.cells #[.string a0_0,.slice (some ad45) l0_1.length c0_1,.int .i64 a0_2,.int .i64 a0_3,.int .i64 a0_4,.int .i64 a0_5,.int .i64 a0_6,.int .i64 a0_7] 64 (0,0)) zb17 hb);replace HB:=Aside0.mk (below_step zb7 hb);(try clear hb)));try go_wp2_with (first|(go_at_call 102;(with_reducible refine (tollbarref05_Host.calls k3 (rdOf ByteArray.empty l0_1 x6_3) t51 false _ A31.out).mono ?_);rintro e w41 ⟨rfl,hb⟩;(try clear A31);replace BK43:=Aside0.mk (blk_below (g:=gb43) (o:=.cells #[.string a0_0,.slice (some ad45) l0_1.length c0_1,.int .i64 a0_2,.int .i64 a0_3,.int .i64 a0_4,.int .i64 a0_5,.int .i64 a0_6,.int .i64 a0_7] 64 (0,0)) zb17 hb);replace HB:=Aside0.mk (below_step zb7 hb);(try clear hb))))
         go_ret
         exact ⟨zb6,zb7⟩
        subst c32
        rw [if_pos rfl] at H
        by_cases c33:t51.toList=(rdOf ByteArray.empty l0_1 x6_3).toList
        ·rw [if_pos c33] at H
         have c33b0:=beq_iff_eq.mpr c33
         have c33b1:=bne_eq_false_iff_eq.mpr c33
         clear c33
         have H' := Aside0.mk H
         clear H
         have hcz34_0:wr.cell? ⟨gb43,0,none⟩=some (.string a0_0):=(blk_cell BK43.out 0).trans rfl
         have hcz34_1:wr.cell? ⟨gb43,1,none⟩=some (.slice A0_1 l0_1.length c0_1):=(blk_cell BK43.out 1).trans rfl
         have hcz34_2:wr.cell? ⟨gb43,2,none⟩=some (.int .i64 a0_2):=(blk_cell BK43.out 2).trans rfl
         have hcz34_3:wr.cell? ⟨gb43,3,none⟩=some (.int .i64 a0_3):=(blk_cell BK43.out 3).trans rfl
         have hcz34_4:wr.cell? ⟨gb43,4,none⟩=some (.int .i64 a0_4):=(blk_cell BK43.out 4).trans rfl
         have hcz34_5:wr.cell? ⟨gb43,5,none⟩=some (.int .i64 a0_5):=(blk_cell BK43.out 5).trans rfl
         have hcz34_6:wr.cell? ⟨gb43,6,none⟩=some (.int .i64 a0_6):=(blk_cell BK43.out 6).trans rfl
         have hcz34_7:wr.cell? ⟨gb43,7,none⟩=some (.int .i64 a0_7):=(blk_cell BK43.out 7).trans rfl
         have hfz34_0:=blk_frozen BK43.out 0
         have hfz34_1:=blk_frozen BK43.out 1
         have hfz34_2:=blk_frozen BK43.out 2
         have hfz34_3:=blk_frozen BK43.out 3
         have hfz34_4:=blk_frozen BK43.out 4
         have hfz34_5:=blk_frozen BK43.out 5
         have hfz34_6:=blk_frozen BK43.out 6
         have hfz34_7:=blk_frozen BK43.out 7
         have p45:0 ≤ (x6_3:Int):=of_decide_eq_true zb1
         have q45:x6_3 < (l0_1.length:Int):=of_decide_eq_true zb1
         obtain ⟨ad45,e45,hx45_0⟩:=Kd.at_string HR0_1.out x6_3 p45 q45
         cases e45
         replace hx45_0:=(HB.out.cell (World.block_lt_of_cell? w _ hx45_0)).trans hx45_0
         replace p45:=eq_true p45
         replace q45:=eq_true q45
         go_wp2_with (first|(go_at_call 102;(with_reducible refine (tollbarref05_Host.calls k3 (rdOf ByteArray.empty l0_1 x6_3) t51 true _ A31.out).mono ?_);rintro e w35 ⟨rfl,hb⟩;(try clear A31);replace BK43:=Aside0.mk (blk_below (g:=gb43) (o:=.cells #[.string a0_0,.slice (some ad45) l0_1.length c0_1,.int .i64 a0_2,.int .i64 a0_3,.int .i64 a0_4,.int .i64 a0_5,.int .i64 a0_6,.int .i64 a0_7] 64 (0,0)) zb17 hb);replace HB:=Aside0.mk (below_step zb7 hb);(try clear hb);have hcz36_0:w35.cell? ⟨gb43,0,none⟩=some (.string a0_0):=(blk_cell BK43.out 0).trans rfl;have hcz36_1:w35.cell? ⟨gb43,1,none⟩=some (.slice (some ad45) l0_1.length c0_1):=(blk_cell BK43.out 1).trans rfl;have hcz36_2:w35.cell? ⟨gb43,2,none⟩=some (.int .i64 a0_2):=(blk_cell BK43.out 2).trans rfl;have hcz36_3:w35.cell? ⟨gb43,3,none⟩=some (.int .i64 a0_3):=(blk_cell BK43.out 3).trans rfl;have hcz36_4:w35.cell? ⟨gb43,4,none⟩=some (.int .i64 a0_4):=(blk_cell BK43.out 4).trans rfl;have hcz36_5:w35.cell? ⟨gb43,5,none⟩=some (.int .i64 a0_5):=(blk_cell BK43.out 5).trans rfl;have hcz36_6:w35.cell? ⟨gb43,6,none⟩=some (.int .i64 a0_6):=(blk_cell BK43.out 6).trans rfl;have hcz36_7:w35.cell? ⟨gb43,7,none⟩=some (.int .i64 a0_7):=(blk_cell BK43.out 7).trans rfl;have hfz36_0:=blk_frozen BK43.out 0;have hfz36_1:=blk_frozen BK43.out 1;have hfz36_2:=blk_frozen BK43.out 2;have hfz36_3:=blk_frozen BK43.out 3;have hfz36_4:=blk_frozen BK43.out 4;have hfz36_5:=blk_frozen BK43.out 5;have hfz36_6:=blk_frozen BK43.out 6;have hfz36_7:=blk_frozen BK43.out 7;have p44:0 ≤ (x6_3:Int):=of_decide_eq_true zb1;have q44:x6_3 < (l0_1.length:Int):=of_decide_eq_true zb1;obtain ⟨ad44,e44,hx44_0⟩:=Kd.at_string HR0_1.out x6_3 p44 q44;obtain rfl:ad45=ad44:=(by injection e44);replace hx44_0:=(HB.out.cell (World.block_lt_of_cell? w _ hx44_0)).trans hx44_0;replace p44:=eq_true p44;replace q44:=eq_true q44))
         repeat (go_quiet (first|(go_at_call 102;(with_reducible refine (tollbarref05_Host.calls k3 (rdOf ByteArray.empty l0_1 x6_3) t51 true _ A31.out).mono ?_);rintro e w35 ⟨rfl,hb⟩;(try clear A31);replace BK43:=Aside0.mk (blk_below (g:=gb43) (o:=.cells #[.string a0_0,.slice (some ad45) l0_1.length c0_1,.int .i64 a0_2,.int .i64 a0_3,.int .i64 a0_4,.int .i64 a0_5,.int .i64 a0_6,.int .i64 a0_7] 64 (0,0)) zb17 hb);replace HB:=Aside0.mk (below_step zb7 hb);(try clear hb);have hcz36_0:w35.cell? ⟨gb43,0,none⟩=some (.string a0_0):=(blk_cell BK43.out 0).trans rfl;have hcz36_1:w35.cell? ⟨gb43,1,none⟩=some (.slice (some ad45) l0_1.length c0_1):=(blk_cell BK43.out 1).trans rfl;have hcz36_2:w35.cell? ⟨gb43,2,none⟩=some (.int .i64 a0_2):=(blk_cell BK43.out 2).trans rfl;have hcz36_3:w35.cell? ⟨gb43,3,none⟩=some (.int .i64 a0_3):=(blk_cell BK43.out 3).trans rfl;have hcz36_4:w35.cell? ⟨gb43,4,none⟩=some (.int .i64 a0_4):=(blk_cell BK43.out 4).trans rfl;have hcz36_5:w35.cell? ⟨gb43,5,none⟩=some (.int .i64 a0_5):=(blk_cell BK43.out 5).trans rfl;have hcz36_6:w35.cell? ⟨gb43,6,none⟩=some (.int .i64 a0_6):=(blk_cell BK43.out 6).trans rfl;have hcz36_7:w35.cell? ⟨gb43,7,none⟩=some (.int .i64 a0_7):=(blk_cell BK43.out 7).trans rfl;have hfz36_0:=blk_frozen BK43.out 0;have hfz36_1:=blk_frozen BK43.out 1;have hfz36_2:=blk_frozen BK43.out 2;have hfz36_3:=blk_frozen BK43.out 3;have hfz36_4:=blk_frozen BK43.out 4;have hfz36_5:=blk_frozen BK43.out 5;have hfz36_6:=blk_frozen BK43.out 6;have hfz36_7:=blk_frozen BK43.out 7;have p44:0 ≤ (x6_3:Int):=of_decide_eq_true zb1;have q44:x6_3 < (l0_1.length:Int):=of_decide_eq_true zb1;obtain ⟨ad44,e44,hx44_0⟩:=Kd.at_string HR0_1.out x6_3 p44 q44;obtain rfl:ad45=ad44:=(by injection e44);replace hx44_0:=(HB.out.cell (World.block_lt_of_cell? w _ hx44_0)).trans hx44_0;replace p44:=eq_true p44;replace q44:=eq_true q44));try go_wp2_with (first|(go_at_call 102;(with_reducible refine (tollbarref05_Host.calls k3 (rdOf ByteArray.empty l0_1 x6_3) t51 true _ A31.out).mono ?_);rintro e w35 ⟨rfl,hb⟩;(try clear A31);replace BK43:=Aside0.mk (blk_below (g:=gb43) (o:=.cells #[.string a0_0,.slice (some ad45) l0_1.length c0_1,.int .i64 a0_2,.int .i64 a0_3,.int .i64 a0_4,.int .i64 a0_5,.int .i64 a0_6,.int .i64 a0_7] 64 (0,0)) zb17 hb);replace HB:=Aside0.mk (below_step zb7 hb);(try clear hb);have hcz36_0:w35.cell? ⟨gb43,0,none⟩=some (.string a0_0):=(blk_cell BK43.out 0).trans rfl;have hcz36_1:w35.cell? ⟨gb43,1,none⟩=some (.slice (some ad45) l0_1.length c0_1):=(blk_cell BK43.out 1).trans rfl;have hcz36_2:w35.cell? ⟨gb43,2,none⟩=some (.int .i64 a0_2):=(blk_cell BK43.out 2).trans rfl;have hcz36_3:w35.cell? ⟨gb43,3,none⟩=some (.int .i64 a0_3):=(blk_cell BK43.out 3).trans rfl;have hcz36_4:w35.cell? ⟨gb43,4,none⟩=some (.int .i64 a0_4):=(blk_cell BK43.out 4).trans rfl;have hcz36_5:w35.cell? ⟨gb43,5,none⟩=some (.int .i64 a0_5):=(blk_cell BK43.out 5).trans rfl;have hcz36_6:w35.cell? ⟨gb43,6,none⟩=some (.int .i64 a0_6):=(blk_cell BK43.out 6).trans rfl;have hcz36_7:w35.cell? ⟨gb43,7,none⟩=some (.int .i64 a0_7):=(blk_cell BK43.out 7).trans rfl;have hfz36_0:=blk_frozen BK43.out 0;have hfz36_1:=blk_frozen BK43.out 1;have hfz36_2:=blk_frozen BK43.out 2;have hfz36_3:=blk_frozen BK43.out 3;have hfz36_4:=blk_frozen BK43.out 4;have hfz36_5:=blk_frozen BK43.out 5;have hfz36_6:=blk_frozen BK43.out 6;have hfz36_7:=blk_frozen BK43.out 7;have p44:0 ≤ (x6_3:Int):=of_decide_eq_true zb1;have q44:x6_3 < (l0_1.length:Int):=of_decide_eq_true zb1;obtain ⟨ad44,e44,hx44_0⟩:=Kd.at_string HR0_1.out x6_3 p44 q44;obtain rfl:ad45=ad44:=(by injection e44);replace hx44_0:=(HB.out.cell (World.block_lt_of_cell? w _ hx44_0)).trans hx44_0;replace p44:=eq_true p44;replace q44:=eq_true q44)))
         go_roundg k3
         case measure=>have:=HK1.out;have:=HJ18.out;have:=HK3.out;omega
         case rel=>exact ⟨(wrap64 (x6_3 + 1)),zb5,H',⟨by have:=HK1.out;have:=HJ18.out;have:=HK3.out;omega⟩,⟨zb17⟩,⟨zb7⟩⟩
        ·rw [if_neg c33] at H
         have c33b0:=beq_eq_false_iff_ne.mpr c33
         have c33b1:=bne_iff_ne.mpr c33
         obtain rfl:=Option.some.inj H
         have hcz37_0:wr.cell? ⟨gb43,0,none⟩=some (.string a0_0):=(blk_cell BK43.out 0).trans rfl
         have hcz37_1:wr.cell? ⟨gb43,1,none⟩=some (.slice A0_1 l0_1.length c0_1):=(blk_cell BK43.out 1).trans rfl
         have hcz37_2:wr.cell? ⟨gb43,2,none⟩=some (.int .i64 a0_2):=(blk_cell BK43.out 2).trans rfl
         have hcz37_3:wr.cell? ⟨gb43,3,none⟩=some (.int .i64 a0_3):=(blk_cell BK43.out 3).trans rfl
         have hcz37_4:wr.cell? ⟨gb43,4,none⟩=some (.int .i64 a0_4):=(blk_cell BK43.out 4).trans rfl
         have hcz37_5:wr.cell? ⟨gb43,5,none⟩=some (.int .i64 a0_5):=(blk_cell BK43.out 5).trans rfl
         have hcz37_6:wr.cell? ⟨gb43,6,none⟩=some (.int .i64 a0_6):=(blk_cell BK43.out 6).trans rfl
         have hcz37_7:wr.cell? ⟨gb43,7,none⟩=some (.int .i64 a0_7):=(blk_cell BK43.out 7).trans rfl
         have hfz37_0:=blk_frozen BK43.out 0
         have hfz37_1:=blk_frozen BK43.out 1
         have hfz37_2:=blk_frozen BK43.out 2
         have hfz37_3:=blk_frozen BK43.out 3
         have hfz37_4:=blk_frozen BK43.out 4
         have hfz37_5:=blk_frozen BK43.out 5
         have hfz37_6:=blk_frozen BK43.out 6
         have hfz37_7:=blk_frozen BK43.out 7
         have p45:0 ≤ (x6_3:Int):=of_decide_eq_true zb1
         have q45:x6_3 < (l0_1.length:Int):=of_decide_eq_true zb1
         obtain ⟨ad45,e45,hx45_0⟩:=Kd.at_string HR0_1.out x6_3 p45 q45
         cases e45
         replace hx45_0:=(HB.out.cell (World.block_lt_of_cell? w _ hx45_0)).trans hx45_0
         replace p45:=eq_true p45
         replace q45:=eq_true q45
         go_wp2_with (first|(go_at_call 102;(with_reducible refine (tollbarref05_Host.calls k3 (rdOf ByteArray.empty l0_1 x6_3) t51 true _ A31.out).mono ?_);rintro e w38 ⟨rfl,hb⟩;(try clear A31);replace BK43:=Aside0.mk (blk_below (g:=gb43) (o:=.cells #[.string a0_0,.slice (some ad45) l0_1.length c0_1,.int .i64 a0_2,.int .i64 a0_3,.int .i64 a0_4,.int .i64 a0_5,.int .i64 a0_6,.int .i64 a0_7] 64 (0,0)) zb17 hb);replace HB:=Aside0.mk (below_step zb7 hb);(try clear hb);have hcz39_0:w38.cell? ⟨gb43,0,none⟩=some (.string a0_0):=(blk_cell BK43.out 0).trans rfl;have hcz39_1:w38.cell? ⟨gb43,1,none⟩=some (.slice (some ad45) l0_1.length c0_1):=(blk_cell BK43.out 1).trans rfl;have hcz39_2:w38.cell? ⟨gb43,2,none⟩=some (.int .i64 a0_2):=(blk_cell BK43.out 2).trans rfl;have hcz39_3:w38.cell? ⟨gb43,3,none⟩=some (.int .i64 a0_3):=(blk_cell BK43.out 3).trans rfl;have hcz39_4:w38.cell? ⟨gb43,4,none⟩=some (.int .i64 a0_4):=(blk_cell BK43.out 4).trans rfl;have hcz39_5:w38.cell? ⟨gb43,5,none⟩=some (.int .i64 a0_5):=(blk_cell BK43.out 5).trans rfl;have hcz39_6:w38.cell? ⟨gb43,6,none⟩=some (.int .i64 a0_6):=(blk_cell BK43.out 6).trans rfl;have hcz39_7:w38.cell? ⟨gb43,7,none⟩=some (.int .i64 a0_7):=(blk_cell BK43.out 7).trans rfl;have hfz39_0:=blk_frozen BK43.out 0;have hfz39_1:=blk_frozen BK43.out 1;have hfz39_2:=blk_frozen BK43.out 2;have hfz39_3:=blk_frozen BK43.out 3;have hfz39_4:=blk_frozen BK43.out 4;have hfz39_5:=blk_frozen BK43.out 5;have hfz39_6:=blk_frozen BK43.out 6;have hfz39_7:=blk_frozen BK43.out 7;have p44:0 ≤ (x6_3:Int):=of_decide_eq_true zb1;have q44:x6_3 < (l0_1.length:Int):=of_decide_eq_true zb1;obtain ⟨ad44,e44,hx44_0⟩:=Kd.at_string HR0_1.out x6_3 p44 q44;obtain rfl:ad45=ad44:=(by injection e44);replace hx44_0:=(HB.out.cell (World.block_lt_of_cell? w _ hx44_0)).trans hx44_0;replace p44:=eq_true p44;replace q44:=eq_true q44))
         repeat (go_quiet (first|(go_at_call 102;(with_reducible refine (tollbarref05_Host.calls k3 (rdOf ByteArray.empty l0_1 x6_3) t51 true _ A31.out).mono ?_);rintro e w38 ⟨rfl,hb⟩;(try clear A31);replace BK43:=Aside0.mk (blk_below (g:=gb43) (o:=.cells #[.string a0_0,.slice (some ad45) l0_1.length c0_1,.int .i64 a0_2,.int .i64 a0_3,.int .i64 a0_4,.int .i64 a0_5,.int .i64 a0_6,.int .i64 a0_7] 64 (0,0)) zb17 hb);replace HB:=Aside0.mk (below_step zb7 hb);(try clear hb);have hcz39_0:w38.cell? ⟨gb43,0,none⟩=some (.string a0_0):=(blk_cell BK43.out 0).trans rfl;have hcz39_1:w38.cell? ⟨gb43,1,none⟩=some (.slice (some ad45) l0_1.length c0_1):=(blk_cell BK43.out 1).trans rfl;have hcz39_2:w38.cell? ⟨gb43,2,none⟩=some (.int .i64 a0_2):=(blk_cell BK43.out 2).trans rfl;have hcz39_3:w38.cell? ⟨gb43,3,none⟩=some (.int .i64 a0_3):=(blk_cell BK43.out 3).trans rfl;have hcz39_4:w38.cell? ⟨gb43,4,none⟩=some (.int .i64 a0_4):=(blk_cell BK43.out 4).trans rfl;have hcz39_5:w38.cell? ⟨gb43,5,none⟩=some (.int .i64 a0_5):=(blk_cell BK43.out 5).trans rfl;have hcz39_6:w38.cell? ⟨gb43,6,none⟩=some (.int .i64 a0_6):=(blk_cell BK43.out 6).trans rfl;have hcz39_7:w38.cell? ⟨gb43,7,none⟩=some (.int .i64 a0_7):=(blk_cell BK43.out 7).trans rfl;have hfz39_0:=blk_frozen BK43.out 0;have hfz39_1:=blk_frozen BK43.out 1;have hfz39_2:=blk_frozen BK43.out 2;have hfz39_3:=blk_frozen BK43.out 3;have hfz39_4:=blk_frozen BK43.out 4;have hfz39_5:=blk_frozen BK43.out 5;have hfz39_6:=blk_frozen BK43.out 6;have hfz39_7:=blk_frozen BK43.out 7;have p44:0 ≤ (x6_3:Int):=of_decide_eq_true zb1;have q44:x6_3 < (l0_1.length:Int):=of_decide_eq_true zb1;obtain ⟨ad44,e44,hx44_0⟩:=Kd.at_string HR0_1.out x6_3 p44 q44;obtain rfl:ad45=ad44:=(by injection e44);replace hx44_0:=(HB.out.cell (World.block_lt_of_cell? w _ hx44_0)).trans hx44_0;replace p44:=eq_true p44;replace q44:=eq_true q44));try go_wp2_with (first|(go_at_call 102;(with_reducible refine (tollbarref05_Host.calls k3 (rdOf ByteArray.empty l0_1 x6_3) t51 true _ A31.out).mono ?_);rintro e w38 ⟨rfl,hb⟩;(try clear A31);replace BK43:=Aside0.mk (blk_below (g:=gb43) (o:=.cells #[.string a0_0,.slice (some ad45) l0_1.length c0_1,.int .i64 a0_2,.int .i64 a0_3,.int .i64 a0_4,.int .i64 a0_5,.int .i64 a0_6,.int .i64 a0_7] 64 (0,0)) zb17 hb);replace HB:=Aside0.mk (below_step zb7 hb);(try clear hb);have hcz39_0:w38.cell? ⟨gb43,0,none⟩=some (.string a0_0):=(blk_cell BK43.out 0).trans rfl;have hcz39_1:w38.cell? ⟨gb43,1,none⟩=some (.slice (some ad45) l0_1.length c0_1):=(blk_cell BK43.out 1).trans rfl;have hcz39_2:w38.cell? ⟨gb43,2,none⟩=some (.int .i64 a0_2):=(blk_cell BK43.out 2).trans rfl;have hcz39_3:w38.cell? ⟨gb43,3,none⟩=some (.int .i64 a0_3):=(blk_cell BK43.out 3).trans rfl;have hcz39_4:w38.cell? ⟨gb43,4,none⟩=some (.int .i64 a0_4):=(blk_cell BK43.out 4).trans rfl;have hcz39_5:w38.cell? ⟨gb43,5,none⟩=some (.int .i64 a0_5):=(blk_cell BK43.out 5).trans rfl;have hcz39_6:w38.cell? ⟨gb43,6,none⟩=some (.int .i64 a0_6):=(blk_cell BK43.out 6).trans rfl;have hcz39_7:w38.cell? ⟨gb43,7,none⟩=some (.int .i64 a0_7):=(blk_cell BK43.out 7).trans rfl;have hfz39_0:=blk_frozen BK43.out 0;have hfz39_1:=blk_frozen BK43.out 1;have hfz39_2:=blk_frozen BK43.out 2;have hfz39_3:=blk_frozen BK43.out 3;have hfz39_4:=blk_frozen BK43.out 4;have hfz39_5:=blk_frozen BK43.out 5;have hfz39_6:=blk_frozen BK43.out 6;have hfz39_7:=blk_frozen BK43.out 7;have p44:0 ≤ (x6_3:Int):=of_decide_eq_true zb1;have q44:x6_3 < (l0_1.length:Int):=of_decide_eq_true zb1;obtain ⟨ad44,e44,hx44_0⟩:=Kd.at_string HR0_1.out x6_3 p44 q44;obtain rfl:ad45=ad44:=(by injection e44);replace hx44_0:=(HB.out.cell (World.block_lt_of_cell? w _ hx44_0)).trans hx44_0;replace p44:=eq_true p44;replace q44:=eq_true q44)))
         go_ret
         exact ⟨zb6,zb7⟩
       ·rw [if_neg c30] at H
        exact absurd H zb24
mutual
def tollbarref09_Right.j0:Nat → List (S64) → Bool → Option (Bool)
 | 0,_,_=>none
 | k + 1,x0,x15=>if x15=true then (some false) else (tollbarref09_Right.l0 k x0 (([]:List ByteArray)) 0)
def tollbarref09_Right.l0:Nat → List (S64) → List ByteArray → Int → Option (Bool)
 | 0,_,_,_=>none
 | k + 1,x0,x3,x4=>if x4 < (x0.length:Int) then (if 0 ≤ x4 then ((tollbarref09_One.f k ((rd_T64 x0 x4).f0) ((rd_T64 x0 x4).f1) ((rd_T64 x0 x4).f2) ((rd_T64 x0 x4).f3) ((rd_T64 x0 x4).f4) ((rd_T64 x0 x4).f5) ((rd_T64 x0 x4).f6) ((rd_T64 x0 x4).f7)).bind fun t306=>(if t306=true then (tollbarref09_Right.l1 k x0 x3 x4 0) else (some false))) else (none)) else (some true)
def tollbarref09_Right.l1:Nat → List (S64) → List ByteArray → Int → Int → Option (Bool)
 | 0,_,_,_,_=>none
 | k + 1,x0,x3,x4,x5=>if x5 < x4 then (if 0 ≤ x5 then (if x5 < (x0.length:Int) then (if 0 ≤ x4 then (if x4 < (x0.length:Int) then (if ((rd_T64 x0 x5).f0).toList=((rd_T64 x0 x4).f0).toList then (some false) else (tollbarref09_Right.l1 k x0 x3 x4 (wrap64 (x5 + 1)))) else (none)) else (none)) else (none)) else (none)) else (tollbarref09_Right.l2 k x0 x3 x4 0)
def tollbarref09_Right.l2:Nat → List (S64) → List ByteArray → Int → Int → Option (Bool)
 | 0,_,_,_,_=>none
 | k + 1,x0,x3,x4,x6=>if 0 ≤ x4 then (if x4 < (x0.length:Int) then (if x6 < (((rd_T64 x0 x4).f1).length:Int) then (tollbarref09_Right.l3 k x0 x3 x4 x6 0) else (tollbarref09_Right.l0 k x0 x3 (wrap64 (x4 + 1)))) else (none)) else (none)
def tollbarref09_Right.l3:Nat → List (S64) → List ByteArray → Int → Int → Int → Option (Bool)
 | 0,_,_,_,_,_=>none
 | k + 1,x0,x3,x4,x6,x7=>if x7 < (x3.length:Int) then (if 0 ≤ x7 then (if 0 ≤ x4 then (if x4 < (x0.length:Int) then (if 0 ≤ x6 then (if x6 < (((rd_T64 x0 x4).f1).length:Int) then (if (rdOf ByteArray.empty x3 x7).toList=(rdOf ByteArray.empty ((rd_T64 x0 x4).f1) x6).toList then (some false) else (tollbarref09_Right.l3 k x0 x3 x4 x6 (wrap64 (x7 + 1)))) else (none)) else (none)) else (none)) else (none)) else (none)) else (if 0 ≤ x4 then (if x4 < (x0.length:Int) then (if 0 ≤ x6 then (if x6 < (((rd_T64 x0 x4).f1).length:Int) then (if x3.length < 8796093022208 then (tollbarref09_Right.l2 k x0 (x3 ++ [rdOf ByteArray.empty ((rd_T64 x0 x4).f1) x6]) x4 (wrap64 (x6 + 1))) else (none)) else (none)) else (none)) else (none)) else (none))
end
def tollbarref09_Right.f (k:Nat) (l0:List (S64)):Option (Bool):=if (l0.length:Int) < 1 then (tollbarref09_Right.j0 k l0 true) else (tollbarref09_Right.j0 k l0 (decide ((l0.length:Int) > 16)))
set_option maxHeartbeats 8000000 in
set_option maxRecDepth 100000 in
theorem tollbarref09_Right.calls (k:Nat) (A0:Option Addr) (c0:Nat) (l0:List (S64)) (r:Bool) (w:World) (hr0:Kd.C k64 w A0 l0.length l0) (hc0:l0.length ≤ c0) (h:tollbarref09_Right.f k l0=some r) :
 Calls Tryz.prog 39 #[.slice A0 l0.length c0] w fun e w' => e = .returned (.bool r)∧Below w.heap.size w w' := by
 have hu64:=Tryz.underlying64
 have HR0:=Aside0.mk hr0
 have HC0:=Aside0.mk hc0
 clear hr0 hc0
 have HB:=Aside0.mk (Below.refl w.heap.size w)
 unfold tollbarref09_Right.f at h
 have H:=h
 clear h
 have HC2:=Aside0.mk H
 clear H
 go_enter Tryz.func39,Tryz.ntmps39
 go_upto_region 1 with (fail)
 repeat (go_quiet (fail);go_upto_region 1 with (fail))
 go_cut [15] (fun v15 wc => ∃ (kq:Nat) (x15_1:Bool),v15 = .bool x15_1∧Aside0 (tollbarref09_Right.j0 kq l0 x15_1=some r)∧Aside0 (kq ≤ k)∧Aside0 (Below w.heap.size w wc))
 case first =>
  have H:=HC2.out
  clear HC2
  by_cases c3:(l0.length:Int) < 1
  ·rw [if_pos c3] at H
   have c3b0:=decide_eq_true c3
   have c3b1:decide (l0.length < 1)=true:=decide_eq_true zb16
   clear c3
   (first|rw [c3b0]|(simp only [i64_w,i32_w];rw [c3b0])|rw [c3b1]|skip)
   have H' := Aside0.mk H
   clear H
   go_wp2
   repeat (go_quiet (fail);try go_wp2)
   go_meet
   case rel=>exact ⟨_,(true),zb5,H',⟨zb60⟩,⟨zb0⟩⟩
  rw [if_neg c3] at H
  have c3b0:=decide_eq_false c3
  have c3b1:decide (l0.length < 1)=false:=decide_eq_false zb16
  clear c3
  (first|rw [c3b0]|(simp only [i64_w,i32_w];rw [c3b0])|rw [c3b1]|skip)
  have H' := Aside0.mk H
  clear H
  go_wp2
  repeat (go_quiet (fail);try go_wp2)
  go_meet
  case rel=>exact ⟨_,(decide ((l0.length:Int) > 16)),zb5,H',⟨zb60⟩,⟨zb0⟩⟩
 case rest =>
  clear HC2
  try clear p2
  try clear c3
  try clear c3b0
  try clear c3b1
  obtain ⟨kq,x15_1,rfl,HA,HJ1,HB⟩:=hcut
  cases kq with
  | zero=>exact absurd HA.out (by simp [tollbarref09_Right.j0])
  | succ kj1 =>
   have H:=HA.out
   clear HA
   simp only [tollbarref09_Right.j0] at H
   by_cases c4:x15_1=true
   ·subst c4
    rw [if_pos rfl] at H
    obtain rfl:=Option.some.inj H
    go_wp2
    repeat (go_quiet (fail);try go_wp2)
    go_ret
    exact ⟨zb6,zb0⟩
   replace c4:=Bool.eq_false_iff.mpr c4
   subst c4
   rw [if_neg (show ¬ (false=true) by decide)] at H
   obtain ⟨y47,hy47⟩ : ∃ y_:List ByteArray,y_=(([]:List ByteArray)):=⟨_,rfl⟩
   replace H:(tollbarref09_Right.l0 kj1 l0 y47 0)=some r:=by first|(rw [hy47];with_reducible exact H)|(have H2_:=(Option.bind_some _ _).symm.trans H;rw [hy47];with_reducible exact H2_)|(have H2_:=(Option.bind_some _ _).symm.trans H;with_reducible exact H2_)|with_reducible exact H|(rw [hy47];exact H)|exact H
   have Ny47:=Aside0.mk hy47
   clear hy47
   have H' := Aside0.mk H
   clear H
   go_wp2_with (first|((with_reducible refine gate_dst (N:=16) rfl ?_);(try (refine gate_guard zb45 ?_;dsimp only));refine Kd.R_lit Kd.string _ 9 ?hg (N:=16) ?hd (xs:=([]:List ByteArray)) (inner:=[]) (ok:=fun _=>True) (okp:=fun _=>True) ?hr ?hp (fun _ hk=>hk) trivial (Below.refl _ _) (Nat.le_refl _) zb24 ?_;(case hd=>rfl);(case hg=>rfl);(case hr=>first|(go_simp;done)|(go_simp;rfl));(case hp=>exact (Reps.none _ _));intro v52 w5 ho6 hb hg_ hnew_;clear hg_ hnew_;(first|rw [← Ny47.out] at ho6|(simp only [Int.reduceToNat] at ho6;rw [← Ny47.out] at ho6));have HO50:=Aside0.mk (Kd.R_lower ho6 (below_size zb0));replace HB:=Aside0.mk (below_step zb0 hb);clear hb ho6))
   repeat (go_quiet (first|((with_reducible refine gate_dst (N:=16) rfl ?_);(try (refine gate_guard zb45 ?_;dsimp only));refine Kd.R_lit Kd.string _ 9 ?hg (N:=16) ?hd (xs:=([]:List ByteArray)) (inner:=[]) (ok:=fun _=>True) (okp:=fun _=>True) ?hr ?hp (fun _ hk=>hk) trivial (Below.refl _ _) (Nat.le_refl _) zb24 ?_;(case hd=>rfl);(case hg=>rfl);(case hr=>first|(go_simp;done)|(go_simp;rfl));(case hp=>exact (Reps.none _ _));intro v52 w5 ho6 hb hg_ hnew_;clear hg_ hnew_;(first|rw [← Ny47.out] at ho6|(simp only [Int.reduceToNat] at ho6;rw [← Ny47.out] at ho6));have HO50:=Aside0.mk (Kd.R_lower ho6 (below_size zb0));replace HB:=Aside0.mk (below_step zb0 hb);clear hb ho6));try go_wp2_with (first|((with_reducible refine gate_dst (N:=16) rfl ?_);(try (refine gate_guard zb45 ?_;dsimp only));refine Kd.R_lit Kd.string _ 9 ?hg (N:=16) ?hd (xs:=([]:List ByteArray)) (inner:=[]) (ok:=fun _=>True) (okp:=fun _=>True) ?hr ?hp (fun _ hk=>hk) trivial (Below.refl _ _) (Nat.le_refl _) zb24 ?_;(case hd=>rfl);(case hg=>rfl);(case hr=>first|(go_simp;done)|(go_simp;rfl));(case hp=>exact (Reps.none _ _));intro v52 w5 ho6 hb hg_ hnew_;clear hg_ hnew_;(first|rw [← Ny47.out] at ho6|(simp only [Int.reduceToNat] at ho6;rw [← Ny47.out] at ho6));have HO50:=Aside0.mk (Kd.R_lower ho6 (below_size zb0));replace HB:=Aside0.mk (below_step zb0 hb);clear hb ho6)))
   go_loopg [3,4] kj1 (fun kq v3 v4 w' => ∃ (x3_2:List ByteArray) (x4_2:Int),v4 = .int .i64 x4_2∧Aside0 (tollbarref09_Right.l0 kq l0 x3_2 x4_2=some r)∧Aside0 (kq ≤ kj1)∧Aside0 (Kd.R Kd.string 9 w' w.heap.size (fun _=>True) v3 x3_2)∧Aside0 (Below w.heap.size w w'))
   case atStart=>exact ⟨(y47),(0),zb5,H',⟨Nat.le_refl _⟩,⟨by (with_reducible repeat (first|apply Kd.R_alloc|apply Kd.R_drewN|apply Kd.R_drew));exact HO50.out⟩,⟨zb0⟩⟩
   case round =>
    clear H'
    try clear p2
    try clear c3
    try clear c3b0
    try clear c3b1
    try clear c4
    try clear p2
    obtain ⟨x3_2,x4_2,rfl,HA,HK2,HO_3,HB⟩:=hrel
    cases gk with
    | zero=>exact absurd HA.out (by simp [tollbarref09_Right.l0])
    | succ k2 =>
     have H:=HA.out
     clear HA
     simp only [tollbarref09_Right.l0] at H
     by_cases c7:x4_2 < (l0.length:Int);rotate_left
     ·rw [if_neg c7] at H
      have c7b0:=decide_eq_false c7
      clear c7
      obtain rfl:=Option.some.inj H
      go_wp2
      repeat (go_quiet (fail);try go_wp2)
      go_ret
      exact ⟨zb6,zb0⟩
     rw [if_pos c7] at H
     have c7b0:=decide_eq_true c7
     clear c7
     by_cases c8:0 ≤ x4_2
     ·rw [if_pos c8] at H
      have c8b0:=decide_eq_true c8
      clear c8
      replace H:=Option.bind_eq_some_iff.mp H
      obtain ⟨t53,A90,H⟩:=H
      try dsimp only at H
      have A9:=Aside0.mk A90
      clear A90
      by_cases c10:t53=true;rotate_left
      ·replace c10:=Bool.eq_false_iff.mpr c10
       subst c10
       rw [if_neg (show ¬ (false=true) by decide)] at H
       obtain rfl:=Option.some.inj H
       have p38:0 ≤ (x4_2:Int):=of_decide_eq_true zb1
       have q38:x4_2 < (l0.length:Int):=of_decide_eq_true zb1
       obtain ⟨ad38,A38_1,c38_1,e38,hx38_0,hx38_1,hx38_2,hx38_3,hx38_4,hx38_5,hx38_6,hx38_7,hl38_1,hi38_1⟩:=at_T64 HR0.out x4_2 p38 q38
       cases e38
       replace hx38_0:=(HB.out.cell (World.block_lt_of_cell? w _ hx38_0)).trans hx38_0
       replace hx38_1:=(HB.out.cell (World.block_lt_of_cell? w _ hx38_1)).trans hx38_1
       replace hx38_2:=(HB.out.cell (World.block_lt_of_cell? w _ hx38_2)).trans hx38_2
       replace hx38_3:=(HB.out.cell (World.block_lt_of_cell? w _ hx38_3)).trans hx38_3
       replace hx38_4:=(HB.out.cell (World.block_lt_of_cell? w _ hx38_4)).trans hx38_4
       replace hx38_5:=(HB.out.cell (World.block_lt_of_cell? w _ hx38_5)).trans hx38_5
       replace hx38_6:=(HB.out.cell (World.block_lt_of_cell? w _ hx38_6)).trans hx38_6
       replace hx38_7:=(HB.out.cell (World.block_lt_of_cell? w _ hx38_7)).trans hx38_7
       have HR38_1:=Aside0.mk hi38_1
       have HC38_1:=Aside0.mk hl38_1
       clear hi38_1 hl38_1
       replace p38:=eq_true p38
       replace q38:=eq_true q38
       go_wp2_with (first|(go_at_call 76;(with_reducible refine (tollbarref09_One.calls k2 ((rd_T64 l0 x4_2).f0) _ _ ((rd_T64 l0 x4_2).f1) ((rd_T64 l0 x4_2).f2) ((rd_T64 l0 x4_2).f3) ((rd_T64 l0 x4_2).f4) ((rd_T64 l0 x4_2).f5) ((rd_T64 l0 x4_2).f6) ((rd_T64 l0 x4_2).f7) false _ ?side1 ?side2 A9.out).mono ?_);(case side1=>exact zb28);(case side2=>exact HC38_1.out);rintro e w37 ⟨rfl,hb⟩;(try clear A9);replace HO_3:=Aside0.mk (Kd.R_below zb15 hb);replace HB:=Aside0.mk (below_step zb0 hb);(try clear hb)))
       repeat (go_quiet (first|(go_at_call 76;(with_reducible refine (tollbarref09_One.calls k2 ((rd_T64 l0 x4_2).f0) _ _ ((rd_T64 l0 x4_2).f1) ((rd_T64 l0 x4_2).f2) ((rd_T64 l0 x4_2).f3) ((rd_T64 l0 x4_2).f4) ((rd_T64 l0 x4_2).f5) ((rd_T64 l0 x4_2).f6) ((rd_T64 l0 x4_2).f7) false _ ?side1 ?side2 A9.out).mono ?_);(case side1=>exact zb28);(case side2=>exact HC38_1.out);rintro e w37 ⟨rfl,hb⟩;(try clear A9);replace HO_3:=Aside0.mk (Kd.R_below zb15 hb);replace HB:=Aside0.mk (below_step zb0 hb);(try clear hb)));try go_wp2_with (first|(go_at_call 76;(with_reducible refine (tollbarref09_One.calls k2 ((rd_T64 l0 x4_2).f0) _ _ ((rd_T64 l0 x4_2).f1) ((rd_T64 l0 x4_2).f2) ((rd_T64 l0 x4_2).f3) ((rd_T64 l0 x4_2).f4) ((rd_T64 l0 x4_2).f5) ((rd_T64 l0 x4_2).f6) ((rd_T64 l0 x4_2).f7) false _ ?side1 ?side2 A9.out).mono ?_);(case side1=>exact zb28);(case side2=>exact HC38_1.out);rintro e w37 ⟨rfl,hb⟩;(try clear A9);replace HO_3:=Aside0.mk (Kd.R_below zb15 hb);replace HB:=Aside0.mk (below_step zb0 hb);(try clear hb))))
       go_ret
       exact ⟨zb6,zb0⟩
      subst c10
      rw [if_pos rfl] at H
      have H' := Aside0.mk H
      clear H
      have p38:0 ≤ (x4_2:Int):=of_decide_eq_true zb1
      have q38:x4_2 < (l0.length:Int):=of_decide_eq_true zb1
      obtain ⟨ad38,A38_1,c38_1,e38,hx38_0,hx38_1,hx38_2,hx38_3,hx38_4,hx38_5,hx38_6,hx38_7,hl38_1,hi38_1⟩:=at_T64 HR0.out x4_2 p38 q38
      cases e38
      replace hx38_0:=(HB.out.cell (World.block_lt_of_cell? w _ hx38_0)).trans hx38_0
      replace hx38_1:=(HB.out.cell (World.block_lt_of_cell? w _ hx38_1)).trans hx38_1
      replace hx38_2:=(HB.out.cell (World.block_lt_of_cell? w _ hx38_2)).trans hx38_2
      replace hx38_3:=(HB.out.cell (World.block_lt_of_cell? w _ hx38_3)).trans hx38_3
      replace hx38_4:=(HB.out.cell (World.block_lt_of_cell? w _ hx38_4)).trans hx38_4
      replace hx38_5:=(HB.out.cell (World.block_lt_of_cell? w _ hx38_5)).trans hx38_5
      replace hx38_6:=(HB.out.cell (World.block_lt_of_cell? w _ hx38_6)).trans hx38_6
      replace hx38_7:=(HB.out.cell (World.block_lt_of_cell? w _ hx38_7)).trans hx38_7
      have HR38_1:=Aside0.mk hi38_1
      have HC38_1:=Aside0.mk hl38_1
      clear hi38_1 hl38_1
      replace p38:=eq_true p38
      replace q38:=eq_true q38
      go_wp2_with (first|(go_at_call 76;(with_reducible refine (tollbarref09_One.calls k2 ((rd_T64 l0 x4_2).f0) _ _ ((rd_T64 l0 x4_2).f1) ((rd_T64 l0 x4_2).f2) ((rd_T64 l0 x4_2).f3) ((rd_T64 l0 x4_2).f4) ((rd_T64 l0 x4_2).f5) ((rd_T64 l0 x4_2).f6) ((rd_T64 l0 x4_2).f7) true _ ?side1 ?side2 A9.out).mono ?_);(case side1=>exact zb28);(case side2=>exact HC38_1.out);rintro e w11 ⟨rfl,hb⟩;(try clear A9);replace HO_3:=Aside0.mk (Kd.R_below zb15 hb);replace HB:=Aside0.mk (below_step zb0 hb);(try clear hb)))
      repeat (go_quiet (first|(go_at_call 76;(with_reducible refine (tollbarref09_One.calls k2 ((rd_T64 l0 x4_2).f0) _ _ ((rd_T64 l0 x4_2).f1) ((rd_T64 l0 x4_2).f2) ((rd_T64 l0 x4_2).f3) ((rd_T64 l0 x4_2).f4) ((rd_T64 l0 x4_2).f5) ((rd_T64 l0 x4_2).f6) ((rd_T64 l0 x4_2).f7) true _ ?side1 ?side2 A9.out).mono ?_);(case side1=>exact zb28);(case side2=>exact HC38_1.out);rintro e w11 ⟨rfl,hb⟩;(try clear A9);replace HO_3:=Aside0.mk (Kd.R_below zb15 hb);replace HB:=Aside0.mk (below_step zb0 hb);(try clear hb)));try go_wp2_with (first|(go_at_call 76;(with_reducible refine (tollbarref09_One.calls k2 ((rd_T64 l0 x4_2).f0) _ _ ((rd_T64 l0 x4_2).f1) ((rd_T64 l0 x4_2).f2) ((rd_T64 l0 x4_2).f3) ((rd_T64 l0 x4_2).f4) ((rd_T64 l0 x4_2).f5) ((rd_T64 l0 x4_2).f6) ((rd_T64 l0 x4_2).f7) true _ ?side1 ?side2 A9.out).mono ?_);(case side1=>exact zb28);(case side2=>exact HC38_1.out);rintro e w11 ⟨rfl,hb⟩;(try clear A9);replace HO_3:=Aside0.mk (Kd.R_below zb15 hb);replace HB:=Aside0.mk (below_step zb0 hb);(try clear hb))))
      go_loopg [5] k2 (fun kq v5 w' => ∃ (x5_3:Int),v5 = .int .i64 x5_3∧Aside0 (tollbarref09_Right.l1 kq l0 x3_2 x4_2 x5_3=some r)∧Aside0 (kq ≤ k2)∧Aside0 (Kd.R Kd.string 9 w' w.heap.size (fun _=>True) u3 x3_2)∧Aside0 (Below w.heap.size w w'))
      case atStart=>exact ⟨(0),zb5,H',⟨Nat.le_refl _⟩,⟨zb15⟩,⟨zb0⟩⟩
      case round =>
       clear H'
       try clear c1
       try clear p2
       try clear c3
       try clear c3b0
       try clear c3b1
       try clear p3
       try clear q3
       try clear hx3
       try clear c4
       try clear c7
       try clear c7b0
       try clear c8
       try clear c8b0
       try clear c10
       try clear hx38_0
       try clear hx38_1
       try clear hx38_2
       try clear hx38_3
       try clear hx38_4
       try clear hx38_5
       try clear hx38_6
       try clear hx38_7
       try clear p2
       try clear p38
       try clear q38
       obtain ⟨x5_3,rfl,HA,HK3,HO_3,HB⟩:=hrel
       cases gk with
       | zero=>exact absurd HA.out (by simp [tollbarref09_Right.l1])
       | succ k3 =>
        have H:=HA.out
        clear HA
        simp only [tollbarref09_Right.l1] at H
        by_cases c12:x5_3 < x4_2
        ·rw [if_pos c12] at H
         have c12b0:=decide_eq_true c12
         clear c12
         by_cases c13:0 ≤ x5_3;rotate_left
         ·rw [if_neg c13] at H
          exact absurd H zb24
         rw [if_pos c13] at H
         have c13b0:=decide_eq_true c13
         clear c13
         by_cases c14:x5_3 < (l0.length:Int)
         ·rw [if_pos c14] at H
          have c14b0:=decide_eq_true c14
          clear c14
          by_cases c15:0 ≤ x4_2;rotate_left
          ·rw [if_neg c15] at H
           exact absurd H zb24
          rw [if_pos c15] at H
          have c15b0:=decide_eq_true c15
          clear c15
          by_cases c16:x4_2 < (l0.length:Int)
          ·rw [if_pos c16] at H
           have c16b0:=decide_eq_true c16
           clear c16
           by_cases c17:((rd_T64 l0 x5_3).f0).toList=((rd_T64 l0 x4_2).f0).toList
           ·rw [if_pos c17] at H
            have c17b0:=beq_iff_eq.mpr c17
            have c17b1:=bne_eq_false_iff_eq.mpr c17
            clear c17
            obtain rfl:=Option.some.inj H
            have p40:0 ≤ (x5_3:Int):=of_decide_eq_true zb1
            have q40:x5_3 < (l0.length:Int):=of_decide_eq_true zb1
            obtain ⟨ad40,A40_1,c40_1,e40,hx40_0,hx40_1,hx40_2,hx40_3,hx40_4,hx40_5,hx40_6,hx40_7,hl40_1,hi40_1⟩:=at_T64 HR0.out x5_3 p40 q40
            obtain rfl:ad38=ad40:=(by injection e40)
            replace hx40_0:=(HB.out.cell (World.block_lt_of_cell? w _ hx40_0)).trans hx40_0
            replace hx40_1:=(HB.out.cell (World.block_lt_of_cell? w _ hx40_1)).trans hx40_1
            replace hx40_2:=(HB.out.cell (World.block_lt_of_cell? w _ hx40_2)).trans hx40_2
            replace hx40_3:=(HB.out.cell (World.block_lt_of_cell? w _ hx40_3)).trans hx40_3
            replace hx40_4:=(HB.out.cell (World.block_lt_of_cell? w _ hx40_4)).trans hx40_4
            replace hx40_5:=(HB.out.cell (World.block_lt_of_cell? w _ hx40_5)).trans hx40_5
            replace hx40_6:=(HB.out.cell (World.block_lt_of_cell? w _ hx40_6)).trans hx40_6
            replace hx40_7:=(HB.out.cell (World.block_lt_of_cell? w _ hx40_7)).trans hx40_7
            have HR40_1:=Aside0.mk hi40_1
            have HC40_1:=Aside0.mk hl40_1
            clear hi40_1 hl40_1
            replace p40:=eq_true p40
            replace q40:=eq_true q40
            have p41:0 ≤ (x4_2:Int):=of_decide_eq_true zb1
            have q41:x4_2 < (l0.length:Int):=of_decide_eq_true zb1
            obtain ⟨ad41,A41_1,c41_1,e41,hx41_0,hx41_1,hx41_2,hx41_3,hx41_4,hx41_5,hx41_6,hx41_7,hl41_1,hi41_1⟩:=at_T64 HR0.out x4_2 p41 q41
            obtain rfl:ad38=ad41:=(by injection e41)
            replace hx41_0:=(HB.out.cell (World.block_lt_of_cell? w _ hx41_0)).trans hx41_0
            replace hx41_1:=(HB.out.cell (World.block_lt_of_cell? w _ hx41_1)).trans hx41_1
            replace hx41_2:=(HB.out.cell (World.block_lt_of_cell? w _ hx41_2)).trans hx41_2
            replace hx41_3:=(HB.out.cell (World.block_lt_of_cell? w _ hx41_3)).trans hx41_3
            replace hx41_4:=(HB.out.cell (World.block_lt_of_cell? w _ hx41_4)).trans hx41_4
            replace hx41_5:=(HB.out.cell (World.block_lt_of_cell? w _ hx41_5)).trans hx41_5
            replace hx41_6:=(HB.out.cell (World.block_lt_of_cell? w _ hx41_6)).trans hx41_6
            replace hx41_7:=(HB.out.cell (World.block_lt_of_cell? w _ hx41_7)).trans hx41_7
            have HR41_1:=Aside0.mk hi41_1
            have HC41_1:=Aside0.mk hl41_1
            clear hi41_1 hl41_1
            replace p41:=eq_true p41
            replace q41:=eq_true q41
            go_wp2
            repeat (go_quiet (fail);try go_wp2)
            go_ret
            exact ⟨zb6,zb0⟩
           rw [if_neg c17] at H
           have c17b0:=beq_eq_false_iff_ne.mpr c17
           have c17b1:=bne_iff_ne.mpr c17
           have H' := Aside0.mk H
           clear H
           have p40:0 ≤ (x5_3:Int):=of_decide_eq_true zb1
           have q40:x5_3 < (l0.length:Int):=of_decide_eq_true zb1
           obtain ⟨ad40,A40_1,c40_1,e40,hx40_0,hx40_1,hx40_2,hx40_3,hx40_4,hx40_5,hx40_6,hx40_7,hl40_1,hi40_1⟩:=at_T64 HR0.out x5_3 p40 q40
           obtain rfl:ad38=ad40:=(by injection e40)
           replace hx40_0:=(HB.out.cell (World.block_lt_of_cell? w _ hx40_0)).trans hx40_0
           replace hx40_1:=(HB.out.cell (World.block_lt_of_cell? w _ hx40_1)).trans hx40_1
           replace hx40_2:=(HB.out.cell (World.block_lt_of_cell? w _ hx40_2)).trans hx40_2
           replace hx40_3:=(HB.out.cell (World.block_lt_of_cell? w _ hx40_3)).trans hx40_3
           replace hx40_4:=(HB.out.cell (World.block_lt_of_cell? w _ hx40_4)).trans hx40_4
           replace hx40_5:=(HB.out.cell (World.block_lt_of_cell? w _ hx40_5)).trans hx40_5
           replace hx40_6:=(HB.out.cell (World.block_lt_of_cell? w _ hx40_6)).trans hx40_6
           replace hx40_7:=(HB.out.cell (World.block_lt_of_cell? w _ hx40_7)).trans hx40_7
           have HR40_1:=Aside0.mk hi40_1
           have HC40_1:=Aside0.mk hl40_1
           clear hi40_1 hl40_1
           replace p40:=eq_true p40
           replace q40:=eq_true q40
           have p41:0 ≤ (x4_2:Int):=of_decide_eq_true zb1
           have q41:x4_2 < (l0.length:Int):=of_decide_eq_true zb1
           obtain ⟨ad41,A41_1,c41_1,e41,hx41_0,hx41_1,hx41_2,hx41_3,hx41_4,hx41_5,hx41_6,hx41_7,hl41_1,hi41_1⟩:=at_T64 HR0.out x4_2 p41 q41
           obtain rfl:ad38=ad41:=(by injection e41)
           replace hx41_0:=(HB.out.cell (World.block_lt_of_cell? w _ hx41_0)).trans hx41_0
           replace hx41_1:=(HB.out.cell (World.block_lt_of_cell? w _ hx41_1)).trans hx41_1
           replace hx41_2:=(HB.out.cell (World.block_lt_of_cell? w _ hx41_2)).trans hx41_2
           replace hx41_3:=(HB.out.cell (World.block_lt_of_cell? w _ hx41_3)).trans hx41_3
           replace hx41_4:=(HB.out.cell (World.block_lt_of_cell? w _ hx41_4)).trans hx41_4
           replace hx41_5:=(HB.out.cell (World.block_lt_of_cell? w _ hx41_5)).trans hx41_5
           replace hx41_6:=(HB.out.cell (World.block_lt_of_cell? w _ hx41_6)).trans hx41_6
           replace hx41_7:=(HB.out.cell (World.block_lt_of_cell? w _ hx41_7)).trans hx41_7
           have HR41_1:=Aside0.mk hi41_1
           have HC41_1:=Aside0.mk hl41_1
           clear hi41_1 hl41_1
           replace p41:=eq_true p41
           replace q41:=eq_true q41
           go_wp2
           repeat (go_quiet (fail);try go_wp2)
           go_roundg k3
           case measure=>have:=HJ1.out;have:=HK2.out;have:=HK3.out;omega
           case rel=>exact ⟨(wrap64 (x5_3 + 1)),zb5,H',⟨by have:=HJ1.out;have:=HK2.out;have:=HK3.out;omega⟩,⟨zb15⟩,⟨zb0⟩⟩
          ·rw [if_neg c16] at H
           exact absurd H zb24
         ·rw [if_neg c14] at H
          exact absurd H zb24
        rw [if_neg c12] at H
        have c12b0:=decide_eq_false c12
        clear c12
        have H' := Aside0.mk H
        clear H
        go_wp2
        repeat (go_quiet (fail);try go_wp2)
        go_loopg [3,6] k3 (fun kq v3 v6 w' => ∃ (x3_4:List ByteArray) (x6_4:Int),v6 = .int .i64 x6_4∧Aside0 (tollbarref09_Right.l2 kq l0 x3_4 x4_2 x6_4=some r)∧Aside0 (kq ≤ k3)∧Aside0 (Kd.R Kd.string 9 w' w.heap.size (fun _=>True) v3 x3_4)∧Aside0 (Below w.heap.size w w'))
        case atStart=>exact ⟨(x3_2),(0),zb5,H',⟨Nat.le_refl _⟩,⟨zb15⟩,⟨zb0⟩⟩
        case round =>
         clear H'
         try clear c1
         try clear p2
         try clear c3
         try clear c3b0
         try clear c3b1
         try clear p3
         try clear q3
         try clear hx3
         try clear c4
         try clear p6
         try clear c7
         try clear c7b0
         try clear c8
         try clear c8b0
         try clear c10
         try clear c12
         try clear c12b0
         try clear c13
         try clear c13b0
         try clear c14
         try clear c14b0
         try clear c15
         try clear c15b0
         try clear c16
         try clear c16b0
         try clear c17
         try clear c17b0
         try clear c17b1
         try clear hx38_0
         try clear hx38_1
         try clear hx38_2
         try clear hx38_3
         try clear hx38_4
         try clear hx38_5
         try clear hx38_6
         try clear hx38_7
         try clear hx40_0
         try clear hx40_1
         try clear hx40_2
         try clear hx40_3
         try clear hx40_4
         try clear hx40_5
         try clear hx40_6
         try clear hx40_7
         try clear hx41_0
         try clear hx41_1
         try clear hx41_2
         try clear hx41_3
         try clear hx41_4
         try clear hx41_5
         try clear hx41_6
         try clear hx41_7
         try clear p2
         try clear p3
         try clear p38
         try clear p40
         try clear p41
         try clear q3
         try clear q38
         try clear q40
         try clear q41
         obtain ⟨x3_4,x6_4,rfl,HA,HK4,HO_3,HB⟩:=hrel
         cases gk with
         | zero=>exact absurd HA.out (by simp [tollbarref09_Right.l2])
         | succ k4 =>
          have H:=HA.out
          clear HA
          simp only [tollbarref09_Right.l2] at H
          by_cases c18:0 ≤ x4_2
          ·rw [if_pos c18] at H
           have c18b0:=decide_eq_true c18
           clear c18
           by_cases c19:x4_2 < (l0.length:Int)
           ·rw [if_pos c19] at H
            have c19b0:=decide_eq_true c19
            clear c19
            by_cases c20:x6_4 < (((rd_T64 l0 x4_2).f1).length:Int);rotate_left
            ·rw [if_neg c20] at H
             have c20b0:=decide_eq_false c20
             clear c20
             have H' := Aside0.mk H
             clear H
             have p42:0 ≤ (x4_2:Int):=of_decide_eq_true zb1
             have q42:x4_2 < (l0.length:Int):=of_decide_eq_true zb1
             obtain ⟨ad42,A42_1,c42_1,e42,hx42_0,hx42_1,hx42_2,hx42_3,hx42_4,hx42_5,hx42_6,hx42_7,hl42_1,hi42_1⟩:=at_T64 HR0.out x4_2 p42 q42
             obtain rfl:ad38=ad42:=(by injection e42)
             replace hx42_0:=(HB.out.cell (World.block_lt_of_cell? w _ hx42_0)).trans hx42_0
             replace hx42_1:=(HB.out.cell (World.block_lt_of_cell? w _ hx42_1)).trans hx42_1
             replace hx42_2:=(HB.out.cell (World.block_lt_of_cell? w _ hx42_2)).trans hx42_2
             replace hx42_3:=(HB.out.cell (World.block_lt_of_cell? w _ hx42_3)).trans hx42_3
             replace hx42_4:=(HB.out.cell (World.block_lt_of_cell? w _ hx42_4)).trans hx42_4
             replace hx42_5:=(HB.out.cell (World.block_lt_of_cell? w _ hx42_5)).trans hx42_5
             replace hx42_6:=(HB.out.cell (World.block_lt_of_cell? w _ hx42_6)).trans hx42_6
             replace hx42_7:=(HB.out.cell (World.block_lt_of_cell? w _ hx42_7)).trans hx42_7
             have HR42_1:=Aside0.mk hi42_1
             have HC42_1:=Aside0.mk hl42_1
             clear hi42_1 hl42_1
             replace p42:=eq_true p42
             replace q42:=eq_true q42
             go_wp2
             repeat (go_quiet (fail);try go_wp2)
             go_roundg k4
             case measure=>have:=HJ1.out;have:=HK2.out;have:=HK3.out;have:=HK4.out;omega
             case rel=>exact ⟨(x3_4),(wrap64 (x4_2 + 1)),zb5,H',⟨by have:=HJ1.out;have:=HK2.out;have:=HK3.out;have:=HK4.out;omega⟩,⟨zb15⟩,⟨zb0⟩⟩
            rw [if_pos c20] at H
            have c20b0:=decide_eq_true c20
            clear c20
            have H' := Aside0.mk H
            clear H
            have p42:0 ≤ (x4_2:Int):=of_decide_eq_true zb1
            have q42:x4_2 < (l0.length:Int):=of_decide_eq_true zb1
            obtain ⟨ad42,A42_1,c42_1,e42,hx42_0,hx42_1,hx42_2,hx42_3,hx42_4,hx42_5,hx42_6,hx42_7,hl42_1,hi42_1⟩:=at_T64 HR0.out x4_2 p42 q42
            obtain rfl:ad38=ad42:=(by injection e42)
            replace hx42_0:=(HB.out.cell (World.block_lt_of_cell? w _ hx42_0)).trans hx42_0
            replace hx42_1:=(HB.out.cell (World.block_lt_of_cell? w _ hx42_1)).trans hx42_1
            replace hx42_2:=(HB.out.cell (World.block_lt_of_cell? w _ hx42_2)).trans hx42_2
            replace hx42_3:=(HB.out.cell (World.block_lt_of_cell? w _ hx42_3)).trans hx42_3
            replace hx42_4:=(HB.out.cell (World.block_lt_of_cell? w _ hx42_4)).trans hx42_4
            replace hx42_5:=(HB.out.cell (World.block_lt_of_cell? w _ hx42_5)).trans hx42_5
            replace hx42_6:=(HB.out.cell (World.block_lt_of_cell? w _ hx42_6)).trans hx42_6
            replace hx42_7:=(HB.out.cell (World.block_lt_of_cell? w _ hx42_7)).trans hx42_7
            have HR42_1:=Aside0.mk hi42_1
            have HC42_1:=Aside0.mk hl42_1
            clear hi42_1 hl42_1
            replace p42:=eq_true p42
            replace q42:=eq_true q42
            go_wp2
            repeat (go_quiet (fail);try go_wp2)
            go_loopg [7] k4 (fun kq v7 w' => ∃ (x7_5:Int),v7 = .int .i64 x7_5∧Aside0 (tollbarref09_Right.l3 kq l0 x3_4 x4_2 x6_4 x7_5=some r)∧Aside0 (kq ≤ k4)∧Aside0 (Kd.R Kd.string 9 w' w.heap.size (fun _=>True) u3 x3_4)∧Aside0 (Below w.heap.size w w'))
            case atStart=>exact ⟨(0),zb5,H',⟨Nat.le_refl _⟩,⟨zb15⟩,⟨zb0⟩⟩
            case round =>
             clear H'
             try clear c1
             try clear c2
             try clear p2
             try clear c3
             try clear c3b0
             try clear c3b1
             try clear p3
             try clear q3
             try clear hx3
             try clear c4
             try clear p6
             try clear c7
             try clear c7b0
             try clear c8
             try clear c8b0
             try clear c10
             try clear c12
             try clear c12b0
             try clear c13
             try clear c13b0
             try clear c14
             try clear c14b0
             try clear c15
             try clear c15b0
             try clear c16
             try clear c16b0
             try clear c17
             try clear c17b0
             try clear c17b1
             try clear c18
             try clear c18b0
             try clear c19
             try clear c19b0
             try clear c20
             try clear c20b0
             try clear hx38_0
             try clear hx38_1
             try clear hx38_2
             try clear hx38_3
             try clear hx38_4
             try clear hx38_5
             try clear hx38_6
             try clear hx38_7
             try clear hx40_0
             try clear hx40_1
             try clear hx40_2
             try clear hx40_3
             try clear hx40_4
             try clear hx40_5
             try clear hx40_6
             try clear hx40_7
             try clear hx41_0
             try clear hx41_1
             try clear hx41_2
             try clear hx41_3
             try clear hx41_4
             try clear hx41_5
             try clear hx41_6
             try clear hx41_7
             try clear hx42_0
             try clear hx42_1
             try clear hx42_2
             try clear hx42_3
             try clear hx42_4
             try clear hx42_5
             try clear hx42_6
             try clear hx42_7
             try clear p2
             try clear p3
             try clear p38
             try clear p40
             try clear p41
             try clear p42
             try clear p6
             try clear q3
             try clear q38
             try clear q40
             try clear q41
             try clear q42
             obtain ⟨x7_5,rfl,HA,HK5,HO_3,HB⟩:=hrel
             cases gk with
             | zero=>exact absurd HA.out (by simp [tollbarref09_Right.l3])
             | succ k5 =>
              have H:=HA.out
              clear HA
              simp only [tollbarref09_Right.l3] at H
              by_cases c21:x7_5 < (x3_4.length:Int);rotate_left
              ·rw [if_neg c21] at H
               have c21b0:=decide_eq_false c21
               clear c21
               by_cases c30:0 ≤ x4_2;rotate_left
               ·rw [if_neg c30] at H
                exact absurd H zb24
               rw [if_pos c30] at H
               have c30b0:=decide_eq_true c30
               clear c30
               by_cases c31:x4_2 < (l0.length:Int)
               ·rw [if_pos c31] at H
                have c31b0:=decide_eq_true c31
                clear c31
                by_cases c32:0 ≤ x6_4;rotate_left
                ·rw [if_neg c32] at H
                 exact absurd H zb24
                rw [if_pos c32] at H
                have c32b0:=decide_eq_true c32
                clear c32
                by_cases c33:x6_4 < (((rd_T64 l0 x4_2).f1).length:Int)
                ·rw [if_pos c33] at H
                 have c33b0:=decide_eq_true c33
                 clear c33
                 by_cases c34:x3_4.length < 8796093022208;rotate_left
                 ·rw [if_neg c34] at H
                  exact absurd H zb24
                 rw [if_pos c34] at H
                 have LMc34:=Aside0.mk c34
                 clear c34
                 obtain ⟨y49,hy49⟩ : ∃ y_:List ByteArray,y_=(x3_4 ++ [rdOf ByteArray.empty ((rd_T64 l0 x4_2).f1) x6_4]):=⟨_,rfl⟩
                 replace H:(tollbarref09_Right.l2 k5 l0 y49 x4_2 (wrap64 (x6_4 + 1)))=some r:=by first|(rw [hy49];with_reducible exact H)|(have H2_:=(Option.bind_some _ _).symm.trans H;rw [hy49];with_reducible exact H2_)|(have H2_:=(Option.bind_some _ _).symm.trans H;with_reducible exact H2_)|with_reducible exact H|(rw [hy49];exact H)|exact H
                 have Ny49:=Aside0.mk hy49
                 clear hy49
                 have H' := Aside0.mk H
                 clear H
                 obtain ⟨Ao35,co35,eo35⟩:=Kd.R_slice HO_3.out
                 subst eo35
                 have p44:0 ≤ (x4_2:Int):=of_decide_eq_true zb1
                 have q44:x4_2 < (l0.length:Int):=of_decide_eq_true zb1
                 obtain ⟨ad44,A44_1,c44_1,e44,hx44_0,hx44_1,hx44_2,hx44_3,hx44_4,hx44_5,hx44_6,hx44_7,hl44_1,hi44_1⟩:=at_T64 HR0.out x4_2 p44 q44
                 obtain rfl:ad38=ad44:=(by injection e44)
                 replace hx44_0:=(HB.out.cell (World.block_lt_of_cell? w _ hx44_0)).trans hx44_0
                 replace hx44_1:=(HB.out.cell (World.block_lt_of_cell? w _ hx44_1)).trans hx44_1
                 replace hx44_2:=(HB.out.cell (World.block_lt_of_cell? w _ hx44_2)).trans hx44_2
                 replace hx44_3:=(HB.out.cell (World.block_lt_of_cell? w _ hx44_3)).trans hx44_3
                 replace hx44_4:=(HB.out.cell (World.block_lt_of_cell? w _ hx44_4)).trans hx44_4
                 replace hx44_5:=(HB.out.cell (World.block_lt_of_cell? w _ hx44_5)).trans hx44_5
                 replace hx44_6:=(HB.out.cell (World.block_lt_of_cell? w _ hx44_6)).trans hx44_6
                 replace hx44_7:=(HB.out.cell (World.block_lt_of_cell? w _ hx44_7)).trans hx44_7
                 have HR44_1:=Aside0.mk hi44_1
                 have HC44_1:=Aside0.mk hl44_1
                 clear hi44_1 hl44_1
                 replace p44:=eq_true p44
                 replace q44:=eq_true q44
                 have p48:0 ≤ (x6_4:Int):=of_decide_eq_true zb1
                 have q48:x6_4 < (((rd_T64 l0 x4_2).f1).length:Int):=of_decide_eq_true zb1
                 obtain ⟨ad48,e48,hx48_0⟩:=Kd.at_string HR44_1.out x6_4 p48 q48
                 cases e48
                 replace hx48_0:=(HB.out.cell (World.block_lt_of_cell? w _ hx48_0)).trans hx48_0
                 replace p48:=eq_true p48
                 replace q48:=eq_true q48
                 go_wp2_with (first|((with_reducible refine gate_builtin (b:=.append) (xs:=#[.tmp 74,.tmp 83]) rfl ?_);(try (refine gate_guard zb45 ?_;dsimp only));at_builtin;refine Kd.R_append Kd.string (w0:=w) w.heap.size rfl (.tmp 74) (.tmp 83) 34 9 (.string ⟨#[]⟩) 16 rfl Tryz.underlying34 info9 rfl zb22 zb16 (.slice Ao35 x3_4.length co35) x3_4 (rdOf ByteArray.empty ((rd_T64 l0 x4_2).f1) x6_4) [.string (rdOf ByteArray.empty ((rd_T64 l0 x4_2).f1) x6_4)] (fun _=>True) (fun _=>False) rfl rfl ?aP (fun _ hk=>hk.elim) ?aF ?aO ?aB ?aS ?aL ?_;(case aP=>exact rfl);(case aB=>exact zb26);(case aF=>exact (fun _ _=>trivial));(case aO=>exact zb31);(case aS=>exact zb23);(case aL=>have:=LMc34.out;omega);intro v54 w36 ho hb hg hat;rw [← Ny49.out] at ho;replace HB:=Aside0.mk (hb);have HO51:=Aside0.mk (ho);clear ho hb hg hat))
                 repeat (go_quiet (first|((with_reducible refine gate_builtin (b:=.append) (xs:=#[.tmp 74,.tmp 83]) rfl ?_);(try (refine gate_guard zb45 ?_;dsimp only));at_builtin;refine Kd.R_append Kd.string (w0:=w) w.heap.size rfl (.tmp 74) (.tmp 83) 34 9 (.string ⟨#[]⟩) 16 rfl Tryz.underlying34 info9 rfl zb22 zb16 (.slice Ao35 x3_4.length co35) x3_4 (rdOf ByteArray.empty ((rd_T64 l0 x4_2).f1) x6_4) [.string (rdOf ByteArray.empty ((rd_T64 l0 x4_2).f1) x6_4)] (fun _=>True) (fun _=>False) rfl rfl ?aP (fun _ hk=>hk.elim) ?aF ?aO ?aB ?aS ?aL ?_;(case aP=>exact rfl);(case aB=>exact zb26);(case aF=>exact (fun _ _=>trivial));(case aO=>exact zb31);(case aS=>exact zb23);(case aL=>have:=LMc34.out;omega);intro v54 w36 ho hb hg hat;rw [← Ny49.out] at ho;replace HB:=Aside0.mk (hb);have HO51:=Aside0.mk (ho);clear ho hb hg hat));try go_wp2_with (first|((with_reducible refine gate_builtin (b:=.append) (xs:=#[.tmp 74,.tmp 83]) rfl ?_);(try (refine gate_guard zb45 ?_;dsimp only));at_builtin;refine Kd.R_append Kd.string (w0:=w) w.heap.size rfl (.tmp 74) (.tmp 83) 34 9 (.string ⟨#[]⟩) 16 rfl Tryz.underlying34 info9 rfl zb22 zb16 (.slice Ao35 x3_4.length co35) x3_4 (rdOf ByteArray.empty ((rd_T64 l0 x4_2).f1) x6_4) [.string (rdOf ByteArray.empty ((rd_T64 l0 x4_2).f1) x6_4)] (fun _=>True) (fun _=>False) rfl rfl ?aP (fun _ hk=>hk.elim) ?aF ?aO ?aB ?aS ?aL ?_;(case aP=>exact rfl);(case aB=>exact zb26);(case aF=>exact (fun _ _=>trivial));(case aO=>exact zb31);(case aS=>exact zb23);(case aL=>have:=LMc34.out;omega);intro v54 w36 ho hb hg hat;rw [← Ny49.out] at ho;replace HB:=Aside0.mk (hb);have HO51:=Aside0.mk (ho);clear ho hb hg hat)))
                 go_roundg k5
                 case measure=>have:=HJ1.out;have:=HK2.out;have:=HK3.out;have:=HK4.out;have:=HK5.out;omega
                 case rel=>exact ⟨(y49),(wrap64 (x6_4 + 1)),zb5,H',⟨by have:=HJ1.out;have:=HK2.out;have:=HK3.out;have:=HK4.out;have:=HK5.out;omega⟩,⟨by (with_reducible repeat (first|apply Kd.R_alloc|apply Kd.R_drewN|apply Kd.R_drew));exact HO51.out⟩,⟨zb0⟩⟩
                ·rw [if_neg c33] at H
                 exact absurd H zb24
               ·rw [if_neg c31] at H
                exact absurd H zb24
              rw [if_pos c21] at H
              have c21b0:=decide_eq_true c21
              clear c21
              by_cases c22:0 ≤ x7_5
              ·rw [if_pos c22] at H
               have c22b0:=decide_eq_true c22
               clear c22
               by_cases c23:0 ≤ x4_2
               ·rw [if_pos c23] at H
                have c23b0:=decide_eq_true c23
                clear c23
                by_cases c24:x4_2 < (l0.length:Int)
                ·rw [if_pos c24] at H
                 have c24b0:=decide_eq_true c24
                 clear c24
                 by_cases c25:0 ≤ x6_4
                 ·rw [if_pos c25] at H
                  have c25b0:=decide_eq_true c25
                  clear c25
                  by_cases c26:x6_4 < (((rd_T64 l0 x4_2).f1).length:Int)
                  ·rw [if_pos c26] at H
                   have c26b0:=decide_eq_true c26
                   clear c26
                   by_cases c27:(rdOf ByteArray.empty x3_4 x7_5).toList=(rdOf ByteArray.empty ((rd_T64 l0 x4_2).f1) x6_4).toList
                   ·rw [if_pos c27] at H
                    have c27b0:=beq_iff_eq.mpr c27
                    have c27b1:=bne_eq_false_iff_eq.mpr c27
                    clear c27
                    obtain rfl:=Option.some.inj H
                    obtain ⟨Ao28,co28,eo28⟩:=Kd.R_slice HO_3.out
                    subst eo28
                    have p46:0 ≤ (x7_5:Int):=of_decide_eq_true zb1
                    have q46:x7_5 < (x3_4.length:Int):=of_decide_eq_true zb1
                    obtain ⟨ad46,e46,hx46_0⟩:=Kd.at_string (Kd.R_reads' HO_3.out).2.2 x7_5 p46 q46
                    cases e46
                    replace p46:=eq_true p46
                    replace q46:=eq_true q46
                    have p43:0 ≤ (x4_2:Int):=of_decide_eq_true zb1
                    have q43:x4_2 < (l0.length:Int):=of_decide_eq_true zb1
                    obtain ⟨ad43,A43_1,c43_1,e43,hx43_0,hx43_1,hx43_2,hx43_3,hx43_4,hx43_5,hx43_6,hx43_7,hl43_1,hi43_1⟩:=at_T64 HR0.out x4_2 p43 q43
                    obtain rfl:ad38=ad43:=(by injection e43)
                    replace hx43_0:=(HB.out.cell (World.block_lt_of_cell? w _ hx43_0)).trans hx43_0
                    replace hx43_1:=(HB.out.cell (World.block_lt_of_cell? w _ hx43_1)).trans hx43_1
                    replace hx43_2:=(HB.out.cell (World.block_lt_of_cell? w _ hx43_2)).trans hx43_2
                    replace hx43_3:=(HB.out.cell (World.block_lt_of_cell? w _ hx43_3)).trans hx43_3
                    replace hx43_4:=(HB.out.cell (World.block_lt_of_cell? w _ hx43_4)).trans hx43_4
                    replace hx43_5:=(HB.out.cell (World.block_lt_of_cell? w _ hx43_5)).trans hx43_5
                    replace hx43_6:=(HB.out.cell (World.block_lt_of_cell? w _ hx43_6)).trans hx43_6
                    replace hx43_7:=(HB.out.cell (World.block_lt_of_cell? w _ hx43_7)).trans hx43_7
                    have HR43_1:=Aside0.mk hi43_1
                    have HC43_1:=Aside0.mk hl43_1
                    clear hi43_1 hl43_1
                    replace p43:=eq_true p43
                    replace q43:=eq_true q43
                    have p45:0 ≤ (x6_4:Int):=of_decide_eq_true zb1
                    have q45:x6_4 < (((rd_T64 l0 x4_2).f1).length:Int):=of_decide_eq_true zb1
                    obtain ⟨ad45,e45,hx45_0⟩:=Kd.at_string HR43_1.out x6_4 p45 q45
                    cases e45
                    replace hx45_0:=(HB.out.cell (World.block_lt_of_cell? w _ hx45_0)).trans hx45_0
                    replace p45:=eq_true p45
                    replace q45:=eq_true q45
                    go_wp2
                    repeat (go_quiet (fail);try go_wp2)
                    go_ret
                    exact ⟨zb6,zb0⟩
                   ·rw [if_neg c27] at H
                    have c27b0:=beq_eq_false_iff_ne.mpr c27
                    have c27b1:=bne_iff_ne.mpr c27
                    have H' := Aside0.mk H
                    clear H
                    obtain ⟨Ao29,co29,eo29⟩:=Kd.R_slice HO_3.out
                    subst eo29
                    have p46:0 ≤ (x7_5:Int):=of_decide_eq_true zb1
                    have q46:x7_5 < (x3_4.length:Int):=of_decide_eq_true zb1
                    obtain ⟨ad46,e46,hx46_0⟩:=Kd.at_string (Kd.R_reads' HO_3.out).2.2 x7_5 p46 q46
                    cases e46
                    replace p46:=eq_true p46
                    replace q46:=eq_true q46
                    have p43:0 ≤ (x4_2:Int):=of_decide_eq_true zb1
                    have q43:x4_2 < (l0.length:Int):=of_decide_eq_true zb1
                    obtain ⟨ad43,A43_1,c43_1,e43,hx43_0,hx43_1,hx43_2,hx43_3,hx43_4,hx43_5,hx43_6,hx43_7,hl43_1,hi43_1⟩:=at_T64 HR0.out x4_2 p43 q43
                    obtain rfl:ad38=ad43:=(by injection e43)
                    replace hx43_0:=(HB.out.cell (World.block_lt_of_cell? w _ hx43_0)).trans hx43_0
                    replace hx43_1:=(HB.out.cell (World.block_lt_of_cell? w _ hx43_1)).trans hx43_1
                    replace hx43_2:=(HB.out.cell (World.block_lt_of_cell? w _ hx43_2)).trans hx43_2
                    replace hx43_3:=(HB.out.cell (World.block_lt_of_cell? w _ hx43_3)).trans hx43_3
                    replace hx43_4:=(HB.out.cell (World.block_lt_of_cell? w _ hx43_4)).trans hx43_4
                    replace hx43_5:=(HB.out.cell (World.block_lt_of_cell? w _ hx43_5)).trans hx43_5
                    replace hx43_6:=(HB.out.cell (World.block_lt_of_cell? w _ hx43_6)).trans hx43_6
                    replace hx43_7:=(HB.out.cell (World.block_lt_of_cell? w _ hx43_7)).trans hx43_7
                    have HR43_1:=Aside0.mk hi43_1
                    have HC43_1:=Aside0.mk hl43_1
                    clear hi43_1 hl43_1
                    replace p43:=eq_true p43
                    replace q43:=eq_true q43
                    have p45:0 ≤ (x6_4:Int):=of_decide_eq_true zb1
                    have q45:x6_4 < (((rd_T64 l0 x4_2).f1).length:Int):=of_decide_eq_true zb1
                    obtain ⟨ad45,e45,hx45_0⟩:=Kd.at_string HR43_1.out x6_4 p45 q45
                    cases e45
                    replace hx45_0:=(HB.out.cell (World.block_lt_of_cell? w _ hx45_0)).trans hx45_0
                    replace p45:=eq_true p45
                    replace q45:=eq_true q45
                    go_wp2
                    repeat (go_quiet (fail);try go_wp2)
                    go_roundg k5
                    case measure=>have:=HJ1.out;have:=HK2.out;have:=HK3.out;have:=HK4.out;have:=HK5.out;omega
                    case rel=>exact ⟨(wrap64 (x7_5 + 1)),zb5,H',⟨by have:=HJ1.out;have:=HK2.out;have:=HK3.out;have:=HK4.out;have:=HK5.out;omega⟩,⟨zb15⟩,⟨zb0⟩⟩
                  ·rw [if_neg c26] at H
                   exact absurd H zb24
                 ·rw [if_neg c25] at H
                  exact absurd H zb24
                ·rw [if_neg c24] at H
                 exact absurd H zb24
               ·rw [if_neg c23] at H
                exact absurd H zb24
              ·rw [if_neg c22] at H
               exact absurd H zb24
           ·rw [if_neg c19] at H
            exact absurd H zb24
          ·rw [if_neg c18] at H
           exact absurd H zb24
     ·rw [if_neg c8] at H
      exact absurd H zb24
def tollbarref09_Words.l0:Nat → ByteArray → List ByteArray → Int → Int → Option (List ByteArray)
 | 0,_,_,_,_=>none
 | k + 1,x0,x3,x4,x5=>if x5 ≤ (x0.size:Int) then (if x5=(x0.size:Int) then (if 0 ≤ x4 then (if x4 ≤ x5 then (if x3.length < 8796093022208 then (tollbarref09_Words.l0 k x0 (x3 ++ [x0.extract (x4:Int).toNat (x5:Int).toNat]) (wrap64 (x5 + 1)) (wrap64 (x5 + 1))) else (none)) else (none)) else (none)) else (if 0 ≤ x5 then (if x5 < (x0.size:Int) then (if (bt x0 x5)=32 then (if 0 ≤ x4 then (if x4 ≤ x5 then (if x3.length < 8796093022208 then (tollbarref09_Words.l0 k x0 (x3 ++ [x0.extract (x4:Int).toNat (x5:Int).toNat]) (wrap64 (x5 + 1)) (wrap64 (x5 + 1))) else (none)) else (none)) else (none)) else (tollbarref09_Words.l0 k x0 x3 x4 (wrap64 (x5 + 1)))) else (none)) else (none))) else (some x3)
def tollbarref09_Words.f (k:Nat) (a0:ByteArray):Option (List ByteArray):=tollbarref09_Words.l0 k a0 (([]:List ByteArray)) 0 0
set_option maxHeartbeats 8000000 in
set_option maxRecDepth 100000 in
theorem tollbarref09_Words.calls (k:Nat) (a0:ByteArray) (r:List ByteArray) (w:World) (h:tollbarref09_Words.f k a0=some r) :
 Calls Tryz.prog 37 #[.string a0] w fun e w' => ∃ v0_:Value,e = .returned (v0_)∧Kd.R Kd.string 9 w' w.heap.size (fun _=>True) v0_ r∧Below w.heap.size w w' := by
 have HB:=Aside0.mk (Below.refl w.heap.size w)
 unfold tollbarref09_Words.f at h
 have H:=h
 clear h
 obtain ⟨y245,hy245⟩ : ∃ y_:List ByteArray,y_=(([]:List ByteArray)):=⟨_,rfl⟩
 replace H:(tollbarref09_Words.l0 k a0 y245 0 0)=some r:=by first|(rw [hy245];with_reducible exact H)|(have H2_:=(Option.bind_some _ _).symm.trans H;rw [hy245];with_reducible exact H2_)|(have H2_:=(Option.bind_some _ _).symm.trans H;with_reducible exact H2_)|with_reducible exact H|(rw [hy245];exact H)|exact H
 have Ny245:=Aside0.mk hy245
 clear hy245
 have H' := Aside0.mk H
 clear H
 go_enter Tryz.func37,Tryz.ntmps37
 go_wp2_with (first|((with_reducible refine gate_dst (N:=6) rfl ?_);refine Kd.R_lit Kd.string _ 9 ?hg (N:=6) ?hd (xs:=([]:List ByteArray)) (inner:=[]) (ok:=fun _=>True) (okp:=fun _=>True) ?hr ?hp (fun _ hk=>hk) trivial (Below.refl _ _) (Nat.le_refl _) zb24 ?_;(case hd=>rfl);(case hg=>rfl);(case hr=>first|(go_simp;done)|(go_simp;rfl));(case hp=>exact (Reps.none _ _));intro v246 w2 ho3 hb hg_ hnew_;clear hg_ hnew_;(first|rw [← Ny245.out] at ho3|(simp only [Int.reduceToNat] at ho3;rw [← Ny245.out] at ho3));have HO247:=Aside0.mk (Kd.R_lower ho3 (below_size zb0));replace HB:=Aside0.mk (below_step zb0 hb);clear hb ho3))
 go_loopg [3,4,5] k (fun kq v3 v4 v5 w' => ∃ (x3_1:List ByteArray) (x4_1:Int) (x5_1:Int),v4 = .int .i64 x4_1∧v5 = .int .i64 x5_1∧Aside0 (tollbarref09_Words.l0 kq a0 x3_1 x4_1 x5_1=some r)∧Aside0 (kq ≤ k)∧Aside0 (Kd.R Kd.string 9 w' w.heap.size (fun _=>True) v3 x3_1)∧Aside0 (Below w.heap.size w w'))
 case atStart=>exact ⟨(y245),(0),(0),zb5,zb5,H',⟨Nat.le_refl _⟩,⟨by (with_reducible repeat (first|apply Kd.R_alloc|apply Kd.R_drewN|apply Kd.R_drew));exact HO247.out⟩,⟨zb0⟩⟩
 case round =>
  clear H'
  try clear p2
  try clear c3
  obtain ⟨x3_1,x4_1,x5_1,rfl,rfl,HA,HK1,HO_3,HB⟩:=hrel
  cases gk with
  | zero=>exact absurd HA.out (by simp [tollbarref09_Words.l0])
  | succ k1 =>
   have H:=HA.out
   clear HA
   simp only [tollbarref09_Words.l0] at H
   by_cases c4:x5_1 ≤ (a0.size:Int);rotate_left
   ·rw [if_neg c4] at H
    have c4b0:=decide_eq_false c4
    clear c4
    obtain rfl:=Option.some.inj H
    go_wp2
    go_ret
    exact ⟨_,zb6,zb15,zb0⟩
   rw [if_pos c4] at H
   have c4b0:=decide_eq_true c4
   clear c4
   by_cases c5:x5_1=(a0.size:Int)
   ·rw [if_pos c5] at H
    have c5b0:=beq_iff_eq.mpr c5
    have c5b1:=bne_eq_false_iff_eq.mpr c5
    clear c5
    by_cases c6:0 ≤ x4_1;rotate_left
    ·rw [if_neg c6] at H
     exact absurd H zb24
    rw [if_pos c6] at H
    have c6b0:=eq_true c6
    have c6b1:=decide_eq_true c6
    clear c6
    by_cases c7:x4_1 ≤ x5_1
    ·rw [if_pos c7] at H
     have c7b0:=eq_true c7
     have c7b1:=decide_eq_true c7
     clear c7
     have c8b0:=eq_true (of_decide_eq_true zb1:x5_1 ≤ (a0.size:Int))
     by_cases c9:x3_1.length < 8796093022208;rotate_left
     ·rw [if_neg c9] at H
      exact absurd H zb24
     rw [if_pos c9] at H
     have LMc9:=Aside0.mk c9
     clear c9
     obtain ⟨y248,hy248⟩ : ∃ y_:List ByteArray,y_=(x3_1 ++ [a0.extract (x4_1:Int).toNat (x5_1:Int).toNat]):=⟨_,rfl⟩
     replace H:(tollbarref09_Words.l0 k1 a0 y248 (wrap64 (x5_1 + 1)) (wrap64 (x5_1 + 1)))=some r:=by first|(rw [hy248];with_reducible exact H)|(have H2_:=(Option.bind_some _ _).symm.trans H;rw [hy248];with_reducible exact H2_)|(have H2_:=(Option.bind_some _ _).symm.trans H;with_reducible exact H2_)|with_reducible exact H|(rw [hy248];exact H)|exact H
     have Ny248:=Aside0.mk hy248
     clear hy248
     have H' := Aside0.mk H
     clear H
     go_wp2_with (first|((with_reducible refine gate_builtin (b:=.append) (xs:=#[.tmp 23,.tmp 28]) rfl ?_);at_builtin;refine Kd.R_append Kd.string (w0:=w) w.heap.size rfl (.tmp 23) (.tmp 28) 34 9 (.string ⟨#[]⟩) 16 rfl Tryz.underlying34 info9 rfl zb22 zb16 u3 x3_1 (a0.extract (x4_1:Int).toNat (x5_1:Int).toNat) [.string (a0.extract (x4_1:Int).toNat (x5_1:Int).toNat)] (fun _=>True) (fun _=>False) rfl rfl ?aP (fun _ hk=>hk.elim) ?aF ?aO ?aB ?aS ?aL ?_;(case aP=>exact rfl);(case aB=>exact zb26);(case aF=>exact (fun _ _=>trivial));(case aO=>exact zb31);(case aS=>exact zb23);(case aL=>have:=LMc9.out;omega);intro v249 w10 ho hb hg hat;rw [← Ny248.out] at ho;replace HB:=Aside0.mk (hb);have HO250:=Aside0.mk (ho);clear ho hb hg hat))
     go_roundg k1
     case measure=>have:=HK1.out;omega
     case rel=>exact ⟨(y248),(wrap64 (x5_1 + 1)),(wrap64 (x5_1 + 1)),zb5,zb5,H',⟨zb54⟩,⟨by (with_reducible repeat (first|apply Kd.R_alloc|apply Kd.R_drewN|apply Kd.R_drew));exact HO250.out⟩,⟨zb0⟩⟩
    ·rw [if_neg c7] at H
     exact absurd H zb24
   rw [if_neg c5] at H
   have c5b0:=beq_eq_false_iff_ne.mpr c5
   have c5b1:=bne_iff_ne.mpr c5
   by_cases c11:0 ≤ x5_1
   ·rw [if_pos c11] at H
    have c11b0:=decide_eq_true c11
    clear c11
    by_cases c12:x5_1 < (a0.size:Int)
    ·rw [if_pos c12] at H
     have c12b0:=decide_eq_true c12
     clear c12
     by_cases c14:(bt a0 x5_1)=32;rotate_left
     ·rw [if_neg c14] at H
      have c14b0:=beq_eq_false_iff_ne.mpr c14
      have c14b1:=bne_iff_ne.mpr c14
      have H' := Aside0.mk H
      clear H
      have p13:0 ≤ (x5_1:Int):=of_decide_eq_true zb1
      have q13:x5_1 < (a0.size:Int):=of_decide_eq_true zb1
      have hx13:=bt_at a0 x5_1
      replace p13:=eq_true p13
      replace q13:=eq_true q13
      go_wp2
      go_roundg k1
      case measure=>have:=HK1.out;omega
      case rel=>exact ⟨(x3_1),(x4_1),(wrap64 (x5_1 + 1)),zb5,zb5,H',⟨zb54⟩,⟨zb15⟩,⟨zb0⟩⟩
     rw [if_pos c14] at H
     have c14b0:=beq_iff_eq.mpr c14
     have c14b1:=bne_eq_false_iff_eq.mpr c14
     clear c14
     by_cases c15:0 ≤ x4_1
     ·rw [if_pos c15] at H
      have c15b0:=eq_true c15
      have c15b1:=decide_eq_true c15
      clear c15
      by_cases c16:x4_1 ≤ x5_1
      ·rw [if_pos c16] at H
       have c16b0:=eq_true c16
       have c16b1:=decide_eq_true c16
       clear c16
       have c17b0:=eq_true (of_decide_eq_true zb1:x5_1 ≤ (a0.size:Int))
       by_cases c18:x3_1.length < 8796093022208
       ·rw [if_pos c18] at H
        have LMc18:=Aside0.mk c18
        clear c18
        obtain ⟨y251,hy251⟩ : ∃ y_:List ByteArray,y_=(x3_1 ++ [a0.extract (x4_1:Int).toNat (x5_1:Int).toNat]):=⟨_,rfl⟩
        replace H:(tollbarref09_Words.l0 k1 a0 y251 (wrap64 (x5_1 + 1)) (wrap64 (x5_1 + 1)))=some r:=by first|(rw [hy251];with_reducible exact H)|(have H2_:=(Option.bind_some _ _).symm.trans H;rw [hy251];with_reducible exact H2_)|(have H2_:=(Option.bind_some _ _).symm.trans H;with_reducible exact H2_)|with_reducible exact H|(rw [hy251];exact H)|exact H
        have Ny251:=Aside0.mk hy251
        clear hy251
        have H' := Aside0.mk H
        clear H
        have p13:0 ≤ (x5_1:Int):=of_decide_eq_true zb1
        have q13:x5_1 < (a0.size:Int):=of_decide_eq_true zb1
        have hx13:=bt_at a0 x5_1
        replace p13:=eq_true p13
        replace q13:=eq_true q13
        go_wp2_with (first|((with_reducible refine gate_builtin (b:=.append) (xs:=#[.tmp 23,.tmp 28]) rfl ?_);at_builtin;refine Kd.R_append Kd.string (w0:=w) w.heap.size rfl (.tmp 23) (.tmp 28) 34 9 (.string ⟨#[]⟩) 16 rfl Tryz.underlying34 info9 rfl zb22 zb16 u3 x3_1 (a0.extract (x4_1:Int).toNat (x5_1:Int).toNat) [.string (a0.extract (x4_1:Int).toNat (x5_1:Int).toNat)] (fun _=>True) (fun _=>False) rfl rfl ?aP (fun _ hk=>hk.elim) ?aF ?aO ?aB ?aS ?aL ?_;(case aP=>exact rfl);(case aB=>exact zb26);(case aF=>exact (fun _ _=>trivial));(case aO=>exact zb31);(case aS=>exact zb23);(case aL=>have:=LMc18.out;omega);intro v252 w19 ho hb hg hat;rw [← Ny251.out] at ho;replace HB:=Aside0.mk (hb);have HO253:=Aside0.mk (ho);clear ho hb hg hat))
        go_roundg k1
        case measure=>have:=HK1.out;omega
        case rel=>exact ⟨(y251),(wrap64 (x5_1 + 1)),(wrap64 (x5_1 + 1)),zb5,zb5,H',⟨zb54⟩,⟨by (with_reducible repeat (first|apply Kd.R_alloc|apply Kd.R_drewN|apply Kd.R_drew));exact HO253.out⟩,⟨zb0⟩⟩
       ·rw [if_neg c18] at H
        exact absurd H zb24
      ·rw [if_neg c16] at H
       exact absurd H zb24
     ·rw [if_neg c15] at H
      exact absurd H zb24
    ·rw [if_neg c12] at H
     exact absurd H zb24
   ·rw [if_neg c11] at H
    exact absurd H zb24
end Go.Proofs.YtclpanalnbmejaaGreatDoor.P
